/- Proved: the law DiskTells (disks behind calls, and codes, are as the document says) returns true at every input and turns none of its arguments. No condition. -/
import Derived.Test.YthgcpfofdbdkpaaDiskAll
import Derived.Test.YthgcpfofdbdkpaaDiskFew
import Derived.Test.YthgcpfofdbdkpaaDiskBig
import Derived.Test.YthgcpfofdbdkpaaDiskShown
namespace Go.Proofs.Ythgcpfofdbdkpaa
open Go.ChangeShapes Go.WideShapes Go.ChangeAt Go.RowKit

theorem DkK.form {w : World} {v : Value} {R : Int} {n : Nat} {K0 K1 : List Key} (h : DkK w v R n K0 K1) : ∃ (A0 A1 : Option Addr) (c0 c1 : Nat), v = .agg #[.int .u64 R, .slice A0 n c0, .slice A1 n c1] := by
  obtain ⟨l0, l1, ⟨A0, A1, c0, c1, rfl, h0, h1⟩, _, _⟩ := h
  exact ⟨A0, A1, c0, c1, rfl⟩
theorem rightD_true7 {n0 n1 : Nat} {l0 l1 : List St} (h : rightD n0 n1 l0 l1 = true) : 1 ≤ n0 ∧ n0 ≤ 64 ∧ n1 = n0 ∧ (∀ s ∈ l0, rightB s.k s.q = true) ∧ (∀ s ∈ l1, rightB s.k s.q = true) := by
  simp only [rightD, Bool.and_eq_true, decide_eq_true_eq, List.all_eq_true] at h
  exact ⟨h.1.1, h.1.2.1, h.1.2.2, fun s hs => h.2 s (by simp [hs]), fun s hs => h.2 s (by simp [hs])⟩
set_option maxRecDepth 100000 in
set_option maxHeartbeats 16000000 in
theorem dtells_walk (RN : Nat) (A0 A1 : Option Addr) (n0 c0 n1 c1 : Nat) (l0 l1 : List St) (row i : Int) (B : Option Addr) (m cb : Nat) (bs : List UInt8) (M : Option Addr) (nM cM : Nat) (ms : List Int) (w : World) (h0 : RowV w A0 n0 c0 l0) (h1 : RowV w A1 n1 c1 l1) (hRN : RN < 18446744073709551616) (hB : BytesV w B m cb bs) (hM : IntsV w M nM cM ms)
    (hz0 : ∀ s ∈ l0, s.q ≤ 140737488351232) (hz1 : ∀ s ∈ l1, s.q ≤ 140737488351232) :
    Calls Try.prog 10 #[.agg #[.int .u64 (RN : Int), .slice A0 n0 c0, .slice A1 n1 c1, .int .i64 row, .int .i64 i, .slice B m cb, .slice M nM cM]] w fun e w' => e = .returned (.bool true) ∧ Ext w w' := by
  obtain ⟨cz, hcz⟩ : ∃ c, codeB (decide (1 ≤ i ∧ i ≤ 64)) = c := ⟨_, rfl⟩
  obtain ⟨N, hN⟩ : ∃ N, newN i = N := ⟨_, rfl⟩
  have hdn := fun W => dnew_K i W
  have hrn := fun W => rnew_K i W
  rw [hcz, hN] at hdn hrn
  obtain ⟨br, hbr⟩ : ∃ b, rightD n0 n1 l0 l1 = b := ⟨_, rfl⟩
  obtain ⟨rr, hrr, hr2⟩ : ∃ rr, RN % 2 = rr ∧ rr < 2 := ⟨_, rfl, Nat.mod_lt _ (by omega)⟩
  have ht2 : Int.tmod (RN : Int) 2 = (rr : Int) := by rw [Int.tmod_eq_emod_of_nonneg (by omega)]; omega
  have ht3 : IntKind.u64.wrap (rr : Int) = (rr : Int) := by rw [IntKind.wrap_u64]; omega
  have ht4 : IntKind.i64.wrap (rr : Int) = (rr : Int) := by rw [IntKind.wrap_i64]; omega
  have hdr := fun v1 v2 W => drow_any RN v1 v2 W hRN
  rw [hrr] at hdr
  clear hrr hcz hN
  go_enter Try.func10, Try.ntmps10
  go_upto_region 6 with (fail)
  obtain ⟨hW, -, hda⟩ := two_boxes7 w (.cells #[.int .u64 (RN : Int), .slice A0 n0 c0, .slice A1 n1 c1, .int .i64 row, .int .i64 i, .slice B m cb, .slice M nM cM] 71) (.cells #[.int .u64 (RN : Int), .slice A0 n0 c0, .slice A1 n1 c1] 69)
  generalize (w.alloc (.cells #[.int .u64 (RN : Int), .slice A0 n0 c0, .slice A1 n1 c1, .int .i64 row, .int .i64 i, .slice B m cb, .slice M nM cM] 71)).alloc (.cells #[.int .u64 (RN : Int), .slice A0 n0 c0, .slice A1 n1 c1] 69) = W at *
  generalize w.heap.size + 1 = ga at *
  go_wp2_with fail
  refine (shown7_any _).mono ?_
  rintro e w1 ⟨rfl, hx⟩
  replace hW := hW.trans hx
  replace hda := heap_ext hda hx
  clear hx
  have a0 : w1.cell? ⟨ga, 0, none⟩ = some (.int .u64 (RN : Int)) := by simp [World.cell?, hda]
  have a1 : w1.cell? ⟨ga, 1, none⟩ = some (.slice A0 n0 c0) := by simp [World.cell?, hda]
  have a2 : w1.cell? ⟨ga, 2, none⟩ = some (.slice A1 n1 c1) := by simp [World.cell?, hda]
  go_wp2_with fail
  refine (few7_sum (RN : Int) A0 A1 n0 c0 n1 c1 l0 l1 _ (h0.ext hW) (h1.ext hW) hz0 hz1).mono ?_
  rintro e w2 ⟨⟨b1, rfl, hf⟩, hx⟩
  replace hW := hW.trans hx
  replace hda := heap_ext hda hx
  clear hx a0 a1 a2
  cases b1 with
  | false =>
    go_wp2
    go_ret
    exact ⟨rfl, hW⟩
  | true =>
    obtain ⟨hf0, hf1, hf2⟩ := hf rfl
    clear hf
    by_cases hm : (500 : Int) < (m : Int)
    · go_wp2
      go_ret
      exact ⟨rfl, hW⟩
    by_cases hnm : (40 : Int) < (nM : Int)
    · go_wp2
      go_ret
      exact ⟨rfl, hW⟩
    go_wp2_with fail
    refine (hdn _).mono ?_
    rintro e w4 ⟨v', rfl, hkN, hx⟩
    replace hW := hW.trans hx
    replace hda := heap_ext hda hx
    clear hx
    obtain ⟨X0N, X1N, y0N, y1N, rfl⟩ := hkN.form
    go_upto_region 10 with (fail)
    have hx : Ext w4 (w4.alloc (.cells #[.int .u64 0, .slice X0N N y0N, .slice X1N N y1N] 69)) := (Below.refl _ w4).alloc (Nat.le_refl _) _
    have HN := Lib.hid (heap_alloc_new w4 (.cells #[.int .u64 0, .slice X0N N y0N, .slice X1N N y1N] 69))
    replace hkN := hkN.ext hx
    replace hW := hW.trans hx
    replace hda := heap_ext hda hx
    generalize w4.alloc (.cells #[.int .u64 0, .slice X0N N y0N, .slice X1N N y1N] 69) = W4 at *
    generalize w4.heap.size = gN at *
    clear hx
    go_wp2_with fail
    refine (hrn _).mono ?_
    rintro e w5 ⟨v', rfl, hkM, hx⟩
    replace hW := hW.trans hx
    replace hda := heap_ext hda hx
    replace HN := Lib.hid (heap_ext HN.out hx)
    replace hkN := hkN.ext hx
    clear hx
    obtain ⟨X0M, X1M, y0M, y1M, rfl⟩ := hkM.form
    go_upto_region 11 with (fail)
    have hx : Ext w5 (w5.alloc (.cells #[.int .u64 0, .slice X0M N y0M, .slice X1M N y1M] 69)) := (Below.refl _ w5).alloc (Nat.le_refl _) _
    have HM := Lib.hid (heap_alloc_new w5 (.cells #[.int .u64 0, .slice X0M N y0M, .slice X1M N y1M] 69))
    replace hkM := hkM.ext hx
    replace hW := hW.trans hx
    replace hda := heap_ext hda hx
    replace HN := Lib.hid (heap_ext HN.out hx)
    replace hkN := hkN.ext hx
    generalize w5.alloc (.cells #[.int .u64 0, .slice X0M N y0M, .slice X1M N y1M] 69) = W5 at *
    generalize w5.heap.size = gM at *
    clear hx
    have a0 : W5.cell? ⟨ga, 0, none⟩ = some (.int .u64 (RN : Int)) := by simp [World.cell?, hda]
    have a1 : W5.cell? ⟨ga, 1, none⟩ = some (.slice A0 n0 c0) := by simp [World.cell?, hda]
    have a2 : W5.cell? ⟨ga, 2, none⟩ = some (.slice A1 n1 c1) := by simp [World.cell?, hda]
    go_wp2_with fail
    refine (rright7_any (RN : Int) A0 A1 n0 c0 n1 c1 l0 l1 _ (h0.ext hW) (h1.ext hW)).mono ?_
    rw [hbr]
    rintro e w6 ⟨rfl, hx⟩
    replace hW := hW.trans hx
    replace hda := heap_ext hda hx
    replace HN := Lib.hid (heap_ext HN.out hx)
    replace hkN := hkN.ext hx
    replace HM := Lib.hid (heap_ext HM.out hx)
    replace hkM := hkM.ext hx
    clear hx a0 a1 a2
    have hqN := HN.out
    have u0 : w6.cell? ⟨gN, 0, none⟩ = some (.int .u64 0) := by simp [World.cell?, hqN]
    have u1 : w6.cell? ⟨gN, 1, none⟩ = some (.slice X0N N y0N) := by simp [World.cell?, hqN]
    have u2 : w6.cell? ⟨gN, 2, none⟩ = some (.slice X1N N y1N) := by simp [World.cell?, hqN]
    clear hqN
    have hqM := HM.out
    have t0 : w6.cell? ⟨gM, 0, none⟩ = some (.int .u64 0) := by simp [World.cell?, hqM]
    have t1 : w6.cell? ⟨gM, 1, none⟩ = some (.slice X0M N y0M) := by simp [World.cell?, hqM]
    have t2 : w6.cell? ⟨gM, 2, none⟩ = some (.slice X1M N y1M) := by simp [World.cell?, hqM]
    clear hqM
    go_wp2_with fail
    refine (dsame_K hkN hkM).mono ?_
    rintro e w7 ⟨rfl, hx⟩
    replace hW := hW.trans hx
    replace hda := heap_ext hda hx
    replace HN := Lib.hid (heap_ext HN.out hx)
    replace hkN := hkN.ext hx
    replace HM := Lib.hid (heap_ext HM.out hx)
    replace hkM := hkM.ext hx
    clear hx u0 u1 u2 t0 t1 t2
    clear HN HM hkN hkM
    have a0 : w7.cell? ⟨ga, 0, none⟩ = some (.int .u64 (RN : Int)) := by simp [World.cell?, hda]
    have a1 : w7.cell? ⟨ga, 1, none⟩ = some (.slice A0 n0 c0) := by simp [World.cell?, hda]
    have a2 : w7.cell? ⟨ga, 2, none⟩ = some (.slice A1 n1 c1) := by simp [World.cell?, hda]
    go_wp2_with fail
    refine (dright_any (RN : Int) A0 A1 n0 c0 n1 c1 l0 l1 _ (h0.ext hW) (h1.ext hW)).mono ?_
    rw [hbr]
    rintro e w8 ⟨rfl, hx⟩
    replace hW := hW.trans hx
    replace hda := heap_ext hda hx
    clear hx a0 a1 a2
    cases br with
    | false =>
      go_wp2
      go_ret
      exact ⟨rfl, hW⟩
    | true =>
      obtain ⟨g1, g2, rfl, hr0, hr1⟩ := rightD_true7 hbr
      have hd : DkK w8 (.agg #[.int .u64 (RN : Int), .slice A0 n1 c0, .slice A1 n1 c1]) (RN : Int) n1 (l0.map St.key) (l1.map St.key) := ⟨l0, l1, ⟨A0, A1, c0, c1, rfl, h0.ext hW, h1.ext hW⟩, rfl, rfl⟩
      have hR0 : ∀ k ∈ l0.map St.key, rightB k.2 k.1.length = true ∧ k.1.length ≤ 4000 := fun k hk => by
        obtain ⟨s, hs, rfl⟩ := List.mem_map.1 hk
        have := sumQ_mem hs
        rw [key_len (h0.ok s hs)]
        exact ⟨hr0 s hs, by omega⟩
      have hR1 : ∀ k ∈ l1.map St.key, rightB k.2 k.1.length = true ∧ k.1.length ≤ 4000 := fun k hk => by
        obtain ⟨s, hs, rfl⟩ := List.mem_map.1 hk
        have := sumQ_mem hs
        rw [key_len (h1.ok s hs)]
        exact ⟨hr1 s hs, by omega⟩
      clear hr0 hr1 hbr hz0 hz1 hf2 h0 h1 hdn hrn
      generalize l0.map St.key = K0 at *
      generalize l1.map St.key = K1 at *
      have hP0 : ∀ k ∈ K0, k.1.length + m ≤ 65536 := fun k hk => by have := (hR0 k hk).2; omega
      have hP1 : ∀ k ∈ K1, k.1.length + m ≤ 65536 := fun k hk => by have := (hR1 k hk).2; omega
      have hQ0 : ∀ k ∈ K0, k.1.length ≤ 65536 := fun k hk => by have := (hR0 k hk).2; omega
      have hQ1 : ∀ k ∈ K1, k.1.length ≤ 65536 := fun k hk => by have := (hR1 k hk).2; omega
      have hn6 : n1 ≤ 65536 := by omega
      obtain ⟨ci, hci⟩ : ∃ c, codeB (isB row i n1 n1) = c := ⟨_, rfl⟩
      obtain ⟨cl, hcl⟩ : ∃ c, codeB (decide (row = 0 ∨ row = 1)) = c := ⟨_, rfl⟩
      have a0 : w8.cell? ⟨ga, 0, none⟩ = some (.int .u64 (RN : Int)) := by simp [World.cell?, hda]
      have a1 : w8.cell? ⟨ga, 1, none⟩ = some (.slice A0 n1 c0) := by simp [World.cell?, hda]
      have a2 : w8.cell? ⟨ga, 2, none⟩ = some (.slice A1 n1 c1) := by simp [World.cell?, hda]
      go_wp2_with fail
      refine (dappend_K row i hd hn6 (hB.ext hW) hP0 hP1).mono ?_
      rw [hci]
      rintro e w9 ⟨v', rfl, hkP, hx⟩
      replace hW := hW.trans hx
      replace hda := heap_ext hda hx
      replace hd := hd.ext hx
      clear hx a0 a1 a2
      obtain ⟨X0P, X1P, y0P, y1P, rfl⟩ := hkP.form
      go_upto_region 17 with (fail)
      have hx : Ext w9 (w9.alloc (.cells #[.int .u64 (RN : Int), .slice X0P n1 y0P, .slice X1P n1 y1P] 69)) := (Below.refl _ w9).alloc (Nat.le_refl _) _
      have HP := Lib.hid (heap_alloc_new w9 (.cells #[.int .u64 (RN : Int), .slice X0P n1 y0P, .slice X1P n1 y1P] 69))
      replace hkP := hkP.ext hx
      replace hW := hW.trans hx
      replace hda := heap_ext hda hx
      replace hd := hd.ext hx
      generalize w9.alloc (.cells #[.int .u64 (RN : Int), .slice X0P n1 y0P, .slice X1P n1 y1P] 69) = W9 at *
      generalize w9.heap.size = gP at *
      clear hx
      have a0 : W9.cell? ⟨ga, 0, none⟩ = some (.int .u64 (RN : Int)) := by simp [World.cell?, hda]
      have a1 : W9.cell? ⟨ga, 1, none⟩ = some (.slice A0 n1 c0) := by simp [World.cell?, hda]
      have a2 : W9.cell? ⟨ga, 2, none⟩ = some (.slice A1 n1 c1) := by simp [World.cell?, hda]
      go_wp2_with fail
      refine (rappend_K row i hd hn6 (hB.ext hW) hP0 hP1).mono ?_
      rw [hci]
      rintro e w10 ⟨v', rfl, hkQ, hx⟩
      replace hW := hW.trans hx
      replace hda := heap_ext hda hx
      replace HP := Lib.hid (heap_ext HP.out hx)
      replace hkP := hkP.ext hx
      replace hd := hd.ext hx
      clear hx a0 a1 a2
      obtain ⟨X0Q, X1Q, y0Q, y1Q, rfl⟩ := hkQ.form
      go_upto_region 18 with (fail)
      have hx : Ext w10 (w10.alloc (.cells #[.int .u64 (RN : Int), .slice X0Q n1 y0Q, .slice X1Q n1 y1Q] 69)) := (Below.refl _ w10).alloc (Nat.le_refl _) _
      have HQ := Lib.hid (heap_alloc_new w10 (.cells #[.int .u64 (RN : Int), .slice X0Q n1 y0Q, .slice X1Q n1 y1Q] 69))
      replace hkQ := hkQ.ext hx
      replace hW := hW.trans hx
      replace hda := heap_ext hda hx
      replace HP := Lib.hid (heap_ext HP.out hx)
      replace hkP := hkP.ext hx
      replace hd := hd.ext hx
      generalize w10.alloc (.cells #[.int .u64 (RN : Int), .slice X0Q n1 y0Q, .slice X1Q n1 y1Q] 69) = W10 at *
      generalize w10.heap.size = gQ at *
      clear hx
      have a0 : W10.cell? ⟨ga, 0, none⟩ = some (.int .u64 (RN : Int)) := by simp [World.cell?, hda]
      have a1 : W10.cell? ⟨ga, 1, none⟩ = some (.slice A0 n1 c0) := by simp [World.cell?, hda]
      have a2 : W10.cell? ⟨ga, 2, none⟩ = some (.slice A1 n1 c1) := by simp [World.cell?, hda]
      go_wp2_with fail
      refine (dsync_K row i hd hn6 hQ0 hQ1).mono ?_
      rw [hci]
      rintro e w11 ⟨v', rfl, hkR, hx⟩
      replace hW := hW.trans hx
      replace hda := heap_ext hda hx
      replace HP := Lib.hid (heap_ext HP.out hx)
      replace hkP := hkP.ext hx
      replace HQ := Lib.hid (heap_ext HQ.out hx)
      replace hkQ := hkQ.ext hx
      replace hd := hd.ext hx
      clear hx a0 a1 a2
      obtain ⟨X0R, X1R, y0R, y1R, rfl⟩ := hkR.form
      go_upto_region 19 with (fail)
      have hx : Ext w11 (w11.alloc (.cells #[.int .u64 (RN : Int), .slice X0R n1 y0R, .slice X1R n1 y1R] 69)) := (Below.refl _ w11).alloc (Nat.le_refl _) _
      have HR := Lib.hid (heap_alloc_new w11 (.cells #[.int .u64 (RN : Int), .slice X0R n1 y0R, .slice X1R n1 y1R] 69))
      replace hkR := hkR.ext hx
      replace hW := hW.trans hx
      replace hda := heap_ext hda hx
      replace HP := Lib.hid (heap_ext HP.out hx)
      replace hkP := hkP.ext hx
      replace HQ := Lib.hid (heap_ext HQ.out hx)
      replace hkQ := hkQ.ext hx
      replace hd := hd.ext hx
      generalize w11.alloc (.cells #[.int .u64 (RN : Int), .slice X0R n1 y0R, .slice X1R n1 y1R] 69) = W11 at *
      generalize w11.heap.size = gR at *
      clear hx
      have a0 : W11.cell? ⟨ga, 0, none⟩ = some (.int .u64 (RN : Int)) := by simp [World.cell?, hda]
      have a1 : W11.cell? ⟨ga, 1, none⟩ = some (.slice A0 n1 c0) := by simp [World.cell?, hda]
      have a2 : W11.cell? ⟨ga, 2, none⟩ = some (.slice A1 n1 c1) := by simp [World.cell?, hda]
      go_wp2_with fail
      refine (rsync_K row i hd hn6 hQ0 hQ1).mono ?_
      rw [hci]
      rintro e w12 ⟨v', rfl, hkS, hx⟩
      replace hW := hW.trans hx
      replace hda := heap_ext hda hx
      replace HP := Lib.hid (heap_ext HP.out hx)
      replace hkP := hkP.ext hx
      replace HQ := Lib.hid (heap_ext HQ.out hx)
      replace hkQ := hkQ.ext hx
      replace HR := Lib.hid (heap_ext HR.out hx)
      replace hkR := hkR.ext hx
      replace hd := hd.ext hx
      clear hx a0 a1 a2
      obtain ⟨X0S, X1S, y0S, y1S, rfl⟩ := hkS.form
      go_upto_region 20 with (fail)
      have hx : Ext w12 (w12.alloc (.cells #[.int .u64 (RN : Int), .slice X0S n1 y0S, .slice X1S n1 y1S] 69)) := (Below.refl _ w12).alloc (Nat.le_refl _) _
      have HS := Lib.hid (heap_alloc_new w12 (.cells #[.int .u64 (RN : Int), .slice X0S n1 y0S, .slice X1S n1 y1S] 69))
      replace hkS := hkS.ext hx
      replace hW := hW.trans hx
      replace hda := heap_ext hda hx
      replace HP := Lib.hid (heap_ext HP.out hx)
      replace hkP := hkP.ext hx
      replace HQ := Lib.hid (heap_ext HQ.out hx)
      replace hkQ := hkQ.ext hx
      replace HR := Lib.hid (heap_ext HR.out hx)
      replace hkR := hkR.ext hx
      replace hd := hd.ext hx
      generalize w12.alloc (.cells #[.int .u64 (RN : Int), .slice X0S n1 y0S, .slice X1S n1 y1S] 69) = W12 at *
      generalize w12.heap.size = gS at *
      clear hx
      have a0 : W12.cell? ⟨ga, 0, none⟩ = some (.int .u64 (RN : Int)) := by simp [World.cell?, hda]
      have a1 : W12.cell? ⟨ga, 1, none⟩ = some (.slice A0 n1 c0) := by simp [World.cell?, hda]
      have a2 : W12.cell? ⟨ga, 2, none⟩ = some (.slice A1 n1 c1) := by simp [World.cell?, hda]
      go_wp2_with fail
      refine (dread_K row i hd hn6 hQ0 hQ1).mono ?_
      rw [hci]
      rintro e w13 ⟨ET, qT, eT, rfl, hbT, hx⟩
      replace hW := hW.trans hx
      replace hda := heap_ext hda hx
      replace HP := Lib.hid (heap_ext HP.out hx)
      replace hkP := hkP.ext hx
      replace HQ := Lib.hid (heap_ext HQ.out hx)
      replace hkQ := hkQ.ext hx
      replace HR := Lib.hid (heap_ext HR.out hx)
      replace hkR := hkR.ext hx
      replace HS := Lib.hid (heap_ext HS.out hx)
      replace hkS := hkS.ext hx
      replace hd := hd.ext hx
      clear hx a0 a1 a2
      have a0 : w13.cell? ⟨ga, 0, none⟩ = some (.int .u64 (RN : Int)) := by simp [World.cell?, hda]
      have a1 : w13.cell? ⟨ga, 1, none⟩ = some (.slice A0 n1 c0) := by simp [World.cell?, hda]
      have a2 : w13.cell? ⟨ga, 2, none⟩ = some (.slice A1 n1 c1) := by simp [World.cell?, hda]
      go_wp2_with fail
      refine (rread_K row i hd hn6 hQ0 hQ1).mono ?_
      rw [hci]
      rintro e w14 ⟨EU, qU, eU, rfl, hbU, hx⟩
      replace hW := hW.trans hx
      replace hda := heap_ext hda hx
      replace HP := Lib.hid (heap_ext HP.out hx)
      replace hkP := hkP.ext hx
      replace HQ := Lib.hid (heap_ext HQ.out hx)
      replace hkQ := hkQ.ext hx
      replace HR := Lib.hid (heap_ext HR.out hx)
      replace hkR := hkR.ext hx
      replace HS := Lib.hid (heap_ext HS.out hx)
      replace hkS := hkS.ext hx
      replace hd := hd.ext hx
      replace hbT := BytesV.ext hbT hx
      clear hx a0 a1 a2
      have a0 : w14.cell? ⟨ga, 0, none⟩ = some (.int .u64 (RN : Int)) := by simp [World.cell?, hda]
      have a1 : w14.cell? ⟨ga, 1, none⟩ = some (.slice A0 n1 c0) := by simp [World.cell?, hda]
      have a2 : w14.cell? ⟨ga, 2, none⟩ = some (.slice A1 n1 c1) := by simp [World.cell?, hda]
      go_wp2_with fail
      refine (dclear_K row hd hn6 (by omega)).mono ?_
      rw [hcl]
      rintro e w15 ⟨v', rfl, hkV, hx⟩
      replace hW := hW.trans hx
      replace hda := heap_ext hda hx
      replace HP := Lib.hid (heap_ext HP.out hx)
      replace hkP := hkP.ext hx
      replace HQ := Lib.hid (heap_ext HQ.out hx)
      replace hkQ := hkQ.ext hx
      replace HR := Lib.hid (heap_ext HR.out hx)
      replace hkR := hkR.ext hx
      replace HS := Lib.hid (heap_ext HS.out hx)
      replace hkS := hkS.ext hx
      replace hd := hd.ext hx
      replace hbT := BytesV.ext hbT hx
      replace hbU := BytesV.ext hbU hx
      clear hx a0 a1 a2
      obtain ⟨X0V, X1V, y0V, y1V, rfl⟩ := hkV.form
      go_upto_region 23 with (fail)
      have hx : Ext w15 (w15.alloc (.cells #[.int .u64 (RN : Int), .slice X0V n1 y0V, .slice X1V n1 y1V] 69)) := (Below.refl _ w15).alloc (Nat.le_refl _) _
      have HV := Lib.hid (heap_alloc_new w15 (.cells #[.int .u64 (RN : Int), .slice X0V n1 y0V, .slice X1V n1 y1V] 69))
      replace hkV := hkV.ext hx
      replace hW := hW.trans hx
      replace hda := heap_ext hda hx
      replace HP := Lib.hid (heap_ext HP.out hx)
      replace hkP := hkP.ext hx
      replace HQ := Lib.hid (heap_ext HQ.out hx)
      replace hkQ := hkQ.ext hx
      replace HR := Lib.hid (heap_ext HR.out hx)
      replace hkR := hkR.ext hx
      replace HS := Lib.hid (heap_ext HS.out hx)
      replace hkS := hkS.ext hx
      replace hd := hd.ext hx
      replace hbT := BytesV.ext hbT hx
      replace hbU := BytesV.ext hbU hx
      generalize w15.alloc (.cells #[.int .u64 (RN : Int), .slice X0V n1 y0V, .slice X1V n1 y1V] 69) = W15 at *
      generalize w15.heap.size = gV at *
      clear hx
      have a0 : W15.cell? ⟨ga, 0, none⟩ = some (.int .u64 (RN : Int)) := by simp [World.cell?, hda]
      have a1 : W15.cell? ⟨ga, 1, none⟩ = some (.slice A0 n1 c0) := by simp [World.cell?, hda]
      have a2 : W15.cell? ⟨ga, 2, none⟩ = some (.slice A1 n1 c1) := by simp [World.cell?, hda]
      go_wp2_with fail
      refine (rclear_K row hd hn6 (by omega)).mono ?_
      rw [hcl]
      rintro e w16 ⟨v', rfl, hkW, hx⟩
      replace hW := hW.trans hx
      replace hda := heap_ext hda hx
      replace HP := Lib.hid (heap_ext HP.out hx)
      replace hkP := hkP.ext hx
      replace HQ := Lib.hid (heap_ext HQ.out hx)
      replace hkQ := hkQ.ext hx
      replace HR := Lib.hid (heap_ext HR.out hx)
      replace hkR := hkR.ext hx
      replace HS := Lib.hid (heap_ext HS.out hx)
      replace hkS := hkS.ext hx
      replace HV := Lib.hid (heap_ext HV.out hx)
      replace hkV := hkV.ext hx
      replace hd := hd.ext hx
      replace hbT := BytesV.ext hbT hx
      replace hbU := BytesV.ext hbU hx
      clear hx a0 a1 a2
      obtain ⟨X0W, X1W, y0W, y1W, rfl⟩ := hkW.form
      go_upto_region 24 with (fail)
      have hx : Ext w16 (w16.alloc (.cells #[.int .u64 (RN : Int), .slice X0W n1 y0W, .slice X1W n1 y1W] 69)) := (Below.refl _ w16).alloc (Nat.le_refl _) _
      have HW := Lib.hid (heap_alloc_new w16 (.cells #[.int .u64 (RN : Int), .slice X0W n1 y0W, .slice X1W n1 y1W] 69))
      replace hkW := hkW.ext hx
      replace hW := hW.trans hx
      replace hda := heap_ext hda hx
      replace HP := Lib.hid (heap_ext HP.out hx)
      replace hkP := hkP.ext hx
      replace HQ := Lib.hid (heap_ext HQ.out hx)
      replace hkQ := hkQ.ext hx
      replace HR := Lib.hid (heap_ext HR.out hx)
      replace hkR := hkR.ext hx
      replace HS := Lib.hid (heap_ext HS.out hx)
      replace hkS := hkS.ext hx
      replace HV := Lib.hid (heap_ext HV.out hx)
      replace hkV := hkV.ext hx
      replace hd := hd.ext hx
      replace hbT := BytesV.ext hbT hx
      replace hbU := BytesV.ext hbU hx
      generalize w16.alloc (.cells #[.int .u64 (RN : Int), .slice X0W n1 y0W, .slice X1W n1 y1W] 69) = W16 at *
      generalize w16.heap.size = gW at *
      clear hx
      have hC0 : ∀ k ∈ K0, rightB k.2 k.1.length = true ∧ k.1.length ≤ 65536 := fun k hk => ⟨(hR0 k hk).1, hQ0 k hk⟩
      have hC1 : ∀ k ∈ K1, rightB k.2 k.1.length = true ∧ k.1.length ≤ 65536 := fun k hk => ⟨(hR1 k hk).1, hQ1 k hk⟩
      have Hda := Lib.hid hda
      clear hda hci hcl
      have hXd : ∀ wx, Ext W16 wx → wx.cell? ⟨ga, 0, none⟩ = some (.int .u64 (RN : Int)) ∧ wx.cell? ⟨ga, 1, none⟩ = some (.slice A0 n1 c0) ∧ wx.cell? ⟨ga, 2, none⟩ = some (.slice A1 n1 c1) := fun wx hx =>
        ⟨hx.cell (by simp [World.cell?, Hda.out]), hx.cell (by simp [World.cell?, Hda.out]), hx.cell (by simp [World.cell?, Hda.out])⟩
      have hXP : ∀ wx, Ext W16 wx → wx.cell? ⟨gP, 0, none⟩ = some (.int .u64 (RN : Int)) ∧ wx.cell? ⟨gP, 1, none⟩ = some (.slice X0P n1 y0P) ∧ wx.cell? ⟨gP, 2, none⟩ = some (.slice X1P n1 y1P) := fun wx hx =>
        ⟨hx.cell (by simp [World.cell?, HP.out]), hx.cell (by simp [World.cell?, HP.out]), hx.cell (by simp [World.cell?, HP.out])⟩
      have hXQ : ∀ wx, Ext W16 wx → wx.cell? ⟨gQ, 0, none⟩ = some (.int .u64 (RN : Int)) ∧ wx.cell? ⟨gQ, 1, none⟩ = some (.slice X0Q n1 y0Q) ∧ wx.cell? ⟨gQ, 2, none⟩ = some (.slice X1Q n1 y1Q) := fun wx hx =>
        ⟨hx.cell (by simp [World.cell?, HQ.out]), hx.cell (by simp [World.cell?, HQ.out]), hx.cell (by simp [World.cell?, HQ.out])⟩
      have hXR : ∀ wx, Ext W16 wx → wx.cell? ⟨gR, 0, none⟩ = some (.int .u64 (RN : Int)) ∧ wx.cell? ⟨gR, 1, none⟩ = some (.slice X0R n1 y0R) ∧ wx.cell? ⟨gR, 2, none⟩ = some (.slice X1R n1 y1R) := fun wx hx =>
        ⟨hx.cell (by simp [World.cell?, HR.out]), hx.cell (by simp [World.cell?, HR.out]), hx.cell (by simp [World.cell?, HR.out])⟩
      have hXS : ∀ wx, Ext W16 wx → wx.cell? ⟨gS, 0, none⟩ = some (.int .u64 (RN : Int)) ∧ wx.cell? ⟨gS, 1, none⟩ = some (.slice X0S n1 y0S) ∧ wx.cell? ⟨gS, 2, none⟩ = some (.slice X1S n1 y1S) := fun wx hx =>
        ⟨hx.cell (by simp [World.cell?, HS.out]), hx.cell (by simp [World.cell?, HS.out]), hx.cell (by simp [World.cell?, HS.out])⟩
      have hXV : ∀ wx, Ext W16 wx → wx.cell? ⟨gV, 0, none⟩ = some (.int .u64 (RN : Int)) ∧ wx.cell? ⟨gV, 1, none⟩ = some (.slice X0V n1 y0V) ∧ wx.cell? ⟨gV, 2, none⟩ = some (.slice X1V n1 y1V) := fun wx hx =>
        ⟨hx.cell (by simp [World.cell?, HV.out]), hx.cell (by simp [World.cell?, HV.out]), hx.cell (by simp [World.cell?, HV.out])⟩
      have hXW : ∀ wx, Ext W16 wx → wx.cell? ⟨gW, 0, none⟩ = some (.int .u64 (RN : Int)) ∧ wx.cell? ⟨gW, 1, none⟩ = some (.slice X0W n1 y0W) ∧ wx.cell? ⟨gW, 2, none⟩ = some (.slice X1W n1 y1W) := fun wx hx =>
        ⟨hx.cell (by simp [World.cell?, HW.out]), hx.cell (by simp [World.cell?, HW.out]), hx.cell (by simp [World.cell?, HW.out])⟩
      go_upto_region 24 with (fail)
      refine' wp_region_sure_all ⟨((some 141, [], none) :: (some 142, [], none) :: (some 143, [0, 1], none) :: (some 144, [2], none) :: (some 145, [3], some (3, false)) :: (some 146, [3], some (3, false)) :: (some 147, [4, 5, 3], some (3, false)) :: (some 148, [3, 6], none) :: (some 149, [7, 3], none) :: (some 150, [8], some (8, false)) :: (some 151, [8], some (8, false)) :: (some 152, [9, 10, 8], some (8, false)) :: (some 153, [8, 11], none) :: (some 154, [12, 8], none) :: (some 155, [13], some (13, false)) :: (some 156, [13], some (13, false)) :: (some 157, [14, 15, 13], some (13, false)) :: (some 158, [13, 16], none) :: (some 159, [17, 13], none) :: (some 160, [18], some (18, false)) :: (some 161, [19, 18], some (18, false)) :: (some 162, [18], some (18, false)) :: (some 163, [21, 18], some (18, false)) :: (some 164, [20, 22, 18], some (18, false)) :: (some 165, [18, 23], none) :: (some 166, [24, 18], none) :: (some 167, [25], some (25, false)) :: (some 168, [26, 25, 25], some (25, false)) :: (some 169, [25], some (25, false)) :: (some 170, [28, 25], some (25, false)) :: (some 171, [29, 25], some (25, false)) :: (some 172, [30, 25], some (25, false)) :: (some 173, [27, 31, 25], some (25, false)) :: (some 174, [25, 32], none) :: []), (0 :: 0 :: 3 :: 7 :: 15 :: 15 :: 63 :: 127 :: 255 :: 511 :: 511 :: 2047 :: 4095 :: 8191 :: 16383 :: 16383 :: 65535 :: 131071 :: 262143 :: 524287 :: 1048575 :: 524287 :: 2621439 :: 8388607 :: 16777215 :: 33554431 :: 67108863 :: 134217727 :: 67108863 :: 335544319 :: 872415231 :: 1946157055 :: 4294967295 :: 8589934591 :: []), (true :: true :: true :: true :: true :: true :: true :: true :: true :: true :: true :: true :: true :: true :: true :: true :: true :: true :: true :: true :: true :: true :: true :: true :: true :: true :: true :: true :: true :: true :: true :: true :: true :: true :: []), [], 0⟩ 34 200 ((0, 141) :: (1, 142) :: (2, 143) :: (3, 144) :: (4, 145) :: (5, 146) :: (6, 147) :: (7, 148) :: (8, 149) :: (9, 150) :: (10, 151) :: (11, 152) :: (12, 153) :: (13, 154) :: (14, 155) :: (15, 156) :: (16, 157) :: (17, 158) :: (18, 159) :: (19, 160) :: (20, 161) :: (21, 162) :: (22, 163) :: (23, 164) :: (24, 165) :: (25, 166) :: (26, 167) :: (27, 168) :: (28, 169) :: (29, 170) :: (30, 171) :: (31, 172) :: (32, 173) :: (33, 174) :: []) ((0, 141) :: (1, 142) :: (2, 143) :: (3, 144) :: (4, 145) :: (5, 146) :: (6, 147) :: (7, 148) :: (8, 149) :: (9, 150) :: (10, 151) :: (11, 152) :: (12, 153) :: (13, 154) :: (14, 155) :: (15, 156) :: (16, 157) :: (17, 158) :: (18, 159) :: (19, 160) :: (20, 161) :: (21, 162) :: (22, 163) :: (23, 164) :: (24, 165) :: (25, 166) :: (26, 167) :: (27, 168) :: (28, 169) :: (29, 170) :: (30, 171) :: (31, 172) :: (32, 173) :: (33, 174) :: []) (.det _ :: .det _ :: .det _ :: .det _ :: .det _ :: .det _ :: .det _ :: .det _ :: .det _ :: .det _ :: .det _ :: .det _ :: .det _ :: .det _ :: .det _ :: .det _ :: .det _ :: .det _ :: .det _ :: .det _ :: .det _ :: .det _ :: .det _ :: .det _ :: .det _ :: .det _ :: .det _ :: .det _ :: .det _ :: .det _ :: .det _ :: .det _ :: .det _ :: .det _ :: []) (by kernel_rfl) (by kernel_rfl) (by kernel_rfl) rfl (by kernel_rfl) (by kernel_rfl) rfl (by kernel_rfl) ?hone ?hend
      case hone =>
        intro CS frS VS hCS ha hV
        have qs3 := slot_val (t := 3) ha rfl
        simp only [List.getElem_toArray, List.getElem_cons_succ, List.getElem_cons_zero] at qs3
        have qs15 := slot_val (t := 15) ha rfl
        simp only [List.getElem_toArray, List.getElem_cons_succ, List.getElem_cons_zero] at qs15
        have qs17 := slot_val (t := 17) ha rfl
        simp only [List.getElem_toArray, List.getElem_cons_succ, List.getElem_cons_zero] at qs17
        have qs19 := slot_val (t := 19) ha rfl
        simp only [List.getElem_toArray, List.getElem_cons_succ, List.getElem_cons_zero] at qs19
        have qs21 := slot_val (t := 21) ha rfl
        simp only [List.getElem_toArray, List.getElem_cons_succ, List.getElem_cons_zero] at qs21
        have qs22 := slot_val (t := 22) ha rfl
        simp only [List.getElem_toArray, List.getElem_cons_succ, List.getElem_cons_zero] at qs22
        have qs23 := slot_val (t := 23) ha rfl
        simp only [List.getElem_toArray, List.getElem_cons_succ, List.getElem_cons_zero] at qs23
        have qs24 := slot_val (t := 24) ha rfl
        simp only [List.getElem_toArray, List.getElem_cons_succ, List.getElem_cons_zero] at qs24
        have qs25 := slot_val (t := 25) ha rfl
        simp only [List.getElem_toArray, List.getElem_cons_succ, List.getElem_cons_zero] at qs25
        have qs27 := slot_val (t := 27) ha rfl
        simp only [List.getElem_toArray, List.getElem_cons_succ, List.getElem_cons_zero] at qs27
        have qs29 := slot_val (t := 29) ha rfl
        simp only [List.getElem_toArray, List.getElem_cons_succ, List.getElem_cons_zero] at qs29
        have HCS := Lib.hid hCS
        have HVS := Lib.hid hV
        clear ha hCS hV
        -- 0: slot 141 := Op.move t15
        refine sure_det (js := []) (ts := [15]) (gd := none) (place_at HVS.out (k := 0) rfl) (by rw [HCS.out]; kernel_rfl) ?_ ?_
        · intro wx hx ρ hρ hs hf
          have hρc := hρ.const
          have hρf := hρ.func
          obtain ⟨fx15, -⟩ := hf
          rw [qs15] at fx15
          clear hs
          clear HCS HVS qs3 qs15 qs17 qs19 qs21 qs22 qs23 qs24 qs25 qs27 qs29
          refine run_plain ?_
          refine op_move rfl fx15 ?_
          exact detK.mk
        -- 1: slot 142 := Op.move t17
        refine sure_det (js := []) (ts := [17]) (gd := none) (place_at HVS.out (k := 1) rfl) (by rw [HCS.out]; kernel_rfl) ?_ ?_
        · intro wx hx ρ hρ hs hf
          have hρc := hρ.const
          have hρf := hρ.func
          obtain ⟨fx17, -⟩ := hf
          rw [qs17] at fx17
          clear hs
          clear HCS HVS qs3 qs15 qs17 qs19 qs21 qs22 qs23 qs24 qs25 qs27 qs29
          refine run_plain ?_
          refine op_move rfl fx17 ?_
          exact detK.mk
        -- 2: slot 143 := Op.binOp BinOp.neq 3 t141 t142 3
        refine sure_det (js := [(0, 141), (1, 142)]) (ts := []) (gd := none) (place_at HVS.out (k := 2) rfl) (by rw [HCS.out]; kernel_rfl) ?_ ?_
        · intro wx hx ρ hρ hs hf
          have hρc := hρ.const
          have hρf := hρ.func
          obtain ⟨sn0, sn1, -⟩ := hs
          rw [place_at HVS.out (k := 0) rfl] at sn0
          replace sn0 : ρ (.tmp 141) = _ := sn0
          rw [place_at HVS.out (k := 1) rfl] at sn1
          replace sn1 : ρ (.tmp 142) = _ := sn1
          clear hf
          clear HCS HVS qs3 qs15 qs17 qs19 qs21 qs22 qs23 qs24 qs25 qs27 qs29
          refine run_plain ?_
          unfold runs
          go_simp
          exact detK.mk
        -- 3: slot 144 := Op.move t143
        refine sure_det (js := [(2, 143)]) (ts := []) (gd := none) (place_at HVS.out (k := 3) rfl) (by rw [HCS.out]; kernel_rfl) ?_ ?_
        · intro wx hx ρ hρ hs hf
          have hρc := hρ.const
          have hρf := hρ.func
          obtain ⟨sn2, -⟩ := hs
          rw [place_at HVS.out (k := 2) rfl] at sn2
          replace sn2 : ρ (.tmp 143) = _ := sn2
          clear hf
          clear HCS HVS qs3 qs15 qs17 qs19 qs21 qs22 qs23 qs24 qs25 qs27 qs29
          refine run_plain ?_
          refine op_move rfl sn2 ?_
          exact detK.mk
        -- 4: slot 145 := Op.move t19
        refine sure_det (js := [(3, 144)]) (ts := [19]) (gd := (some (144, false))) (place_at HVS.out (k := 4) rfl) (by rw [HCS.out]; kernel_rfl) ?_ ?_
        · intro wx hx ρ hρ hs hf
          have hρc := hρ.const
          have hρf := hρ.func
          obtain ⟨sn3, -⟩ := hs
          obtain ⟨fx19, -⟩ := hf
          rw [qs19] at fx19
          rw [place_at HVS.out (k := 3) rfl] at sn3
          replace sn3 : ρ (.tmp 144) = _ := sn3
          clear HCS HVS qs3 qs15 qs17 qs19 qs21 qs22 qs23 qs24 qs25 qs27 qs29
          first
            | (refine run_passed sn3 ?_
               exact detK.mk)
            | (refine run_guarded sn3 ?_
               refine op_move rfl fx19 ?_
               exact detK.mk)
        -- 5: slot 146 := Op.move t21
        refine sure_det (js := [(3, 144)]) (ts := [21]) (gd := (some (144, false))) (place_at HVS.out (k := 5) rfl) (by rw [HCS.out]; kernel_rfl) ?_ ?_
        · intro wx hx ρ hρ hs hf
          have hρc := hρ.const
          have hρf := hρ.func
          obtain ⟨sn3, -⟩ := hs
          obtain ⟨fx21, -⟩ := hf
          rw [qs21] at fx21
          rw [place_at HVS.out (k := 3) rfl] at sn3
          replace sn3 : ρ (.tmp 144) = _ := sn3
          clear HCS HVS qs3 qs15 qs17 qs19 qs21 qs22 qs23 qs24 qs25 qs27 qs29
          first
            | (refine run_passed sn3 ?_
               exact detK.mk)
            | (refine run_guarded sn3 ?_
               refine op_move rfl fx21 ?_
               exact detK.mk)
        -- 6: slot 147 := Op.binOp BinOp.neq 3 t145 t146 3
        refine sure_det (js := [(4, 145), (5, 146), (3, 144)]) (ts := []) (gd := (some (144, false))) (place_at HVS.out (k := 6) rfl) (by rw [HCS.out]; kernel_rfl) ?_ ?_
        · intro wx hx ρ hρ hs hf
          have hρc := hρ.const
          have hρf := hρ.func
          obtain ⟨sn4, sn5, sn3, -⟩ := hs
          rw [place_at HVS.out (k := 4) rfl] at sn4
          replace sn4 : ρ (.tmp 145) = _ := sn4
          rw [place_at HVS.out (k := 5) rfl] at sn5
          replace sn5 : ρ (.tmp 146) = _ := sn5
          rw [place_at HVS.out (k := 3) rfl] at sn3
          replace sn3 : ρ (.tmp 144) = _ := sn3
          clear hf
          clear HCS HVS qs3 qs15 qs17 qs19 qs21 qs22 qs23 qs24 qs25 qs27 qs29
          first
            | (refine run_passed sn3 ?_
               exact detK.mk)
            | (refine run_guarded sn3 ?_
               unfold runs
               go_simp
               exact detK.mk)
        -- 7: slot 148 := Op.pick t144 ((Value.bool true)) t147
        refine sure_det (js := [(3, 144), (6, 147)]) (ts := []) (gd := none) (place_at HVS.out (k := 7) rfl) (by rw [HCS.out]; kernel_rfl) ?_ ?_
        · intro wx hx ρ hρ hs hf
          have hρc := hρ.const
          have hρf := hρ.func
          obtain ⟨sn3, sn6, -⟩ := hs
          rw [place_at HVS.out (k := 3) rfl] at sn3
          replace sn3 : ρ (.tmp 144) = _ := sn3
          rw [place_at HVS.out (k := 6) rfl] at sn6
          replace sn6 : ρ (.tmp 147) = _ := sn6
          clear hf
          clear HCS HVS qs3 qs15 qs17 qs19 qs21 qs22 qs23 qs24 qs25 qs27 qs29
          refine run_plain ?_
          first | refine op_pick_t rfl sn3 (hρ.const _) ?_ | refine op_pick_f rfl sn3 sn6 ?_
          exact detK.mk
        -- 8: slot 149 := Op.move t148
        refine sure_det (js := [(7, 148)]) (ts := []) (gd := none) (place_at HVS.out (k := 8) rfl) (by rw [HCS.out]; kernel_rfl) ?_ ?_
        · intro wx hx ρ hρ hs hf
          have hρc := hρ.const
          have hρf := hρ.func
          obtain ⟨sn7, -⟩ := hs
          rw [place_at HVS.out (k := 7) rfl] at sn7
          replace sn7 : ρ (.tmp 148) = _ := sn7
          clear hf
          clear HCS HVS qs3 qs15 qs17 qs19 qs21 qs22 qs23 qs24 qs25 qs27 qs29
          refine run_plain ?_
          refine op_move rfl sn7 ?_
          exact detK.mk
        -- 9: slot 150 := Op.move t23
        refine sure_det (js := [(8, 149)]) (ts := [23]) (gd := (some (149, false))) (place_at HVS.out (k := 9) rfl) (by rw [HCS.out]; kernel_rfl) ?_ ?_
        · intro wx hx ρ hρ hs hf
          have hρc := hρ.const
          have hρf := hρ.func
          obtain ⟨sn8, -⟩ := hs
          obtain ⟨fx23, -⟩ := hf
          rw [qs23] at fx23
          rw [place_at HVS.out (k := 8) rfl] at sn8
          replace sn8 : ρ (.tmp 149) = _ := sn8
          clear HCS HVS qs3 qs15 qs17 qs19 qs21 qs22 qs23 qs24 qs25 qs27 qs29
          first
            | (refine run_passed sn8 ?_
               exact detK.mk)
            | (refine run_guarded sn8 ?_
               refine op_move rfl fx23 ?_
               exact detK.mk)
        -- 10: slot 151 := Op.move t25
        refine sure_det (js := [(8, 149)]) (ts := [25]) (gd := (some (149, false))) (place_at HVS.out (k := 10) rfl) (by rw [HCS.out]; kernel_rfl) ?_ ?_
        · intro wx hx ρ hρ hs hf
          have hρc := hρ.const
          have hρf := hρ.func
          obtain ⟨sn8, -⟩ := hs
          obtain ⟨fx25, -⟩ := hf
          rw [qs25] at fx25
          rw [place_at HVS.out (k := 8) rfl] at sn8
          replace sn8 : ρ (.tmp 149) = _ := sn8
          clear HCS HVS qs3 qs15 qs17 qs19 qs21 qs22 qs23 qs24 qs25 qs27 qs29
          first
            | (refine run_passed sn8 ?_
               exact detK.mk)
            | (refine run_guarded sn8 ?_
               refine op_move rfl fx25 ?_
               exact detK.mk)
        -- 11: slot 152 := Op.binOp BinOp.neq 3 t150 t151 3
        refine sure_det (js := [(9, 150), (10, 151), (8, 149)]) (ts := []) (gd := (some (149, false))) (place_at HVS.out (k := 11) rfl) (by rw [HCS.out]; kernel_rfl) ?_ ?_
        · intro wx hx ρ hρ hs hf
          have hρc := hρ.const
          have hρf := hρ.func
          obtain ⟨sn9, sn10, sn8, -⟩ := hs
          rw [place_at HVS.out (k := 9) rfl] at sn9
          replace sn9 : ρ (.tmp 150) = _ := sn9
          rw [place_at HVS.out (k := 10) rfl] at sn10
          replace sn10 : ρ (.tmp 151) = _ := sn10
          rw [place_at HVS.out (k := 8) rfl] at sn8
          replace sn8 : ρ (.tmp 149) = _ := sn8
          clear hf
          clear HCS HVS qs3 qs15 qs17 qs19 qs21 qs22 qs23 qs24 qs25 qs27 qs29
          first
            | (refine run_passed sn8 ?_
               exact detK.mk)
            | (refine run_guarded sn8 ?_
               unfold runs
               go_simp
               exact detK.mk)
        -- 12: slot 153 := Op.pick t149 ((Value.bool true)) t152
        refine sure_det (js := [(8, 149), (11, 152)]) (ts := []) (gd := none) (place_at HVS.out (k := 12) rfl) (by rw [HCS.out]; kernel_rfl) ?_ ?_
        · intro wx hx ρ hρ hs hf
          have hρc := hρ.const
          have hρf := hρ.func
          obtain ⟨sn8, sn11, -⟩ := hs
          rw [place_at HVS.out (k := 8) rfl] at sn8
          replace sn8 : ρ (.tmp 149) = _ := sn8
          rw [place_at HVS.out (k := 11) rfl] at sn11
          replace sn11 : ρ (.tmp 152) = _ := sn11
          clear hf
          clear HCS HVS qs3 qs15 qs17 qs19 qs21 qs22 qs23 qs24 qs25 qs27 qs29
          refine run_plain ?_
          first | refine op_pick_t rfl sn8 (hρ.const _) ?_ | refine op_pick_f rfl sn8 sn11 ?_
          exact detK.mk
        -- 13: slot 154 := Op.move t153
        refine sure_det (js := [(12, 153)]) (ts := []) (gd := none) (place_at HVS.out (k := 13) rfl) (by rw [HCS.out]; kernel_rfl) ?_ ?_
        · intro wx hx ρ hρ hs hf
          have hρc := hρ.const
          have hρf := hρ.func
          obtain ⟨sn12, -⟩ := hs
          rw [place_at HVS.out (k := 12) rfl] at sn12
          replace sn12 : ρ (.tmp 153) = _ := sn12
          clear hf
          clear HCS HVS qs3 qs15 qs17 qs19 qs21 qs22 qs23 qs24 qs25 qs27 qs29
          refine run_plain ?_
          refine op_move rfl sn12 ?_
          exact detK.mk
        -- 14: slot 155 := Op.move t27
        refine sure_det (js := [(13, 154)]) (ts := [27]) (gd := (some (154, false))) (place_at HVS.out (k := 14) rfl) (by rw [HCS.out]; kernel_rfl) ?_ ?_
        · intro wx hx ρ hρ hs hf
          have hρc := hρ.const
          have hρf := hρ.func
          obtain ⟨sn13, -⟩ := hs
          obtain ⟨fx27, -⟩ := hf
          rw [qs27] at fx27
          rw [place_at HVS.out (k := 13) rfl] at sn13
          replace sn13 : ρ (.tmp 154) = _ := sn13
          clear HCS HVS qs3 qs15 qs17 qs19 qs21 qs22 qs23 qs24 qs25 qs27 qs29
          first
            | (refine run_passed sn13 ?_
               exact detK.mk)
            | (refine run_guarded sn13 ?_
               refine op_move rfl fx27 ?_
               exact detK.mk)
        -- 15: slot 156 := Op.move t29
        refine sure_det (js := [(13, 154)]) (ts := [29]) (gd := (some (154, false))) (place_at HVS.out (k := 15) rfl) (by rw [HCS.out]; kernel_rfl) ?_ ?_
        · intro wx hx ρ hρ hs hf
          have hρc := hρ.const
          have hρf := hρ.func
          obtain ⟨sn13, -⟩ := hs
          obtain ⟨fx29, -⟩ := hf
          rw [qs29] at fx29
          rw [place_at HVS.out (k := 13) rfl] at sn13
          replace sn13 : ρ (.tmp 154) = _ := sn13
          clear HCS HVS qs3 qs15 qs17 qs19 qs21 qs22 qs23 qs24 qs25 qs27 qs29
          first
            | (refine run_passed sn13 ?_
               exact detK.mk)
            | (refine run_guarded sn13 ?_
               refine op_move rfl fx29 ?_
               exact detK.mk)
        -- 16: slot 157 := Op.binOp BinOp.neq 3 t155 t156 3
        refine sure_det (js := [(14, 155), (15, 156), (13, 154)]) (ts := []) (gd := (some (154, false))) (place_at HVS.out (k := 16) rfl) (by rw [HCS.out]; kernel_rfl) ?_ ?_
        · intro wx hx ρ hρ hs hf
          have hρc := hρ.const
          have hρf := hρ.func
          obtain ⟨sn14, sn15, sn13, -⟩ := hs
          rw [place_at HVS.out (k := 14) rfl] at sn14
          replace sn14 : ρ (.tmp 155) = _ := sn14
          rw [place_at HVS.out (k := 15) rfl] at sn15
          replace sn15 : ρ (.tmp 156) = _ := sn15
          rw [place_at HVS.out (k := 13) rfl] at sn13
          replace sn13 : ρ (.tmp 154) = _ := sn13
          clear hf
          clear HCS HVS qs3 qs15 qs17 qs19 qs21 qs22 qs23 qs24 qs25 qs27 qs29
          first
            | (refine run_passed sn13 ?_
               exact detK.mk)
            | (refine run_guarded sn13 ?_
               unfold runs
               go_simp
               exact detK.mk)
        -- 17: slot 158 := Op.pick t154 ((Value.bool true)) t157
        refine sure_det (js := [(13, 154), (16, 157)]) (ts := []) (gd := none) (place_at HVS.out (k := 17) rfl) (by rw [HCS.out]; kernel_rfl) ?_ ?_
        · intro wx hx ρ hρ hs hf
          have hρc := hρ.const
          have hρf := hρ.func
          obtain ⟨sn13, sn16, -⟩ := hs
          rw [place_at HVS.out (k := 13) rfl] at sn13
          replace sn13 : ρ (.tmp 154) = _ := sn13
          rw [place_at HVS.out (k := 16) rfl] at sn16
          replace sn16 : ρ (.tmp 157) = _ := sn16
          clear hf
          clear HCS HVS qs3 qs15 qs17 qs19 qs21 qs22 qs23 qs24 qs25 qs27 qs29
          refine run_plain ?_
          first | refine op_pick_t rfl sn13 (hρ.const _) ?_ | refine op_pick_f rfl sn13 sn16 ?_
          exact detK.mk
        -- 18: slot 159 := Op.move t158
        refine sure_det (js := [(17, 158)]) (ts := []) (gd := none) (place_at HVS.out (k := 18) rfl) (by rw [HCS.out]; kernel_rfl) ?_ ?_
        · intro wx hx ρ hρ hs hf
          have hρc := hρ.const
          have hρf := hρ.func
          obtain ⟨sn17, -⟩ := hs
          rw [place_at HVS.out (k := 17) rfl] at sn17
          replace sn17 : ρ (.tmp 158) = _ := sn17
          clear hf
          clear HCS HVS qs3 qs15 qs17 qs19 qs21 qs22 qs23 qs24 qs25 qs27 qs29
          refine run_plain ?_
          refine op_move rfl sn17 ?_
          exact detK.mk
        -- 19: slot 160 := Op.move t22
        refine sure_det (js := [(18, 159)]) (ts := [22]) (gd := (some (159, false))) (place_at HVS.out (k := 19) rfl) (by rw [HCS.out]; kernel_rfl) ?_ ?_
        · intro wx hx ρ hρ hs hf
          have hρc := hρ.const
          have hρf := hρ.func
          obtain ⟨sn18, -⟩ := hs
          obtain ⟨fx22, -⟩ := hf
          rw [qs22] at fx22
          rw [place_at HVS.out (k := 18) rfl] at sn18
          replace sn18 : ρ (.tmp 159) = _ := sn18
          clear HCS HVS qs3 qs15 qs17 qs19 qs21 qs22 qs23 qs24 qs25 qs27 qs29
          first
            | (refine run_passed sn18 ?_
               exact detK.mk)
            | (refine run_guarded sn18 ?_
               refine op_move rfl fx22 ?_
               exact detK.mk)
        -- 20: slot 161 := Op.convert 27 9 t160
        refine sure_det (js := [(19, 160), (18, 159)]) (ts := []) (gd := (some (159, false))) (place_at HVS.out (k := 20) rfl) (by rw [HCS.out]; kernel_rfl) ?_ ?_
        · intro wx hx ρ hρ hs hf
          have hρc := hρ.const
          have hρf := hρ.func
          obtain ⟨sn19, sn18, -⟩ := hs
          rw [place_at HVS.out (k := 19) rfl] at sn19
          replace sn19 : ρ (.tmp 160) = _ := sn19
          rw [place_at HVS.out (k := 18) rfl] at sn18
          replace sn18 : ρ (.tmp 159) = _ := sn18
          clear hf
          clear HCS HVS qs3 qs15 qs17 qs19 qs21 qs22 qs23 qs24 qs25 qs27 qs29
          first
            | (refine run_passed sn18 ?_
               exact detK.mk)
            | (refine run_guarded sn18 ?_
               have q1 := run_convert_bytesV (P := Try.prog) (BytesV.ext hbT hx.drawn) Try.underlying27 Try.underlying5 Try.underlying9
               unfold runs
               go_simp
               exact detK.mk)
        -- 21: slot 162 := Op.move t24
        refine sure_det (js := [(18, 159)]) (ts := [24]) (gd := (some (159, false))) (place_at HVS.out (k := 21) rfl) (by rw [HCS.out]; kernel_rfl) ?_ ?_
        · intro wx hx ρ hρ hs hf
          have hρc := hρ.const
          have hρf := hρ.func
          obtain ⟨sn18, -⟩ := hs
          obtain ⟨fx24, -⟩ := hf
          rw [qs24] at fx24
          rw [place_at HVS.out (k := 18) rfl] at sn18
          replace sn18 : ρ (.tmp 159) = _ := sn18
          clear HCS HVS qs3 qs15 qs17 qs19 qs21 qs22 qs23 qs24 qs25 qs27 qs29
          first
            | (refine run_passed sn18 ?_
               exact detK.mk)
            | (refine run_guarded sn18 ?_
               refine op_move rfl fx24 ?_
               exact detK.mk)
        -- 22: slot 163 := Op.convert 27 9 t162
        refine sure_det (js := [(21, 162), (18, 159)]) (ts := []) (gd := (some (159, false))) (place_at HVS.out (k := 22) rfl) (by rw [HCS.out]; kernel_rfl) ?_ ?_
        · intro wx hx ρ hρ hs hf
          have hρc := hρ.const
          have hρf := hρ.func
          obtain ⟨sn21, sn18, -⟩ := hs
          rw [place_at HVS.out (k := 21) rfl] at sn21
          replace sn21 : ρ (.tmp 162) = _ := sn21
          rw [place_at HVS.out (k := 18) rfl] at sn18
          replace sn18 : ρ (.tmp 159) = _ := sn18
          clear hf
          clear HCS HVS qs3 qs15 qs17 qs19 qs21 qs22 qs23 qs24 qs25 qs27 qs29
          first
            | (refine run_passed sn18 ?_
               exact detK.mk)
            | (refine run_guarded sn18 ?_
               have q1 := run_convert_bytesV (P := Try.prog) (BytesV.ext hbU hx.drawn) Try.underlying27 Try.underlying5 Try.underlying9
               unfold runs
               go_simp
               exact detK.mk)
        -- 23: slot 164 := Op.binOp BinOp.neq 9 t161 t163 9
        refine sure_det (js := [(20, 161), (22, 163), (18, 159)]) (ts := []) (gd := (some (159, false))) (place_at HVS.out (k := 23) rfl) (by rw [HCS.out]; kernel_rfl) ?_ ?_
        · intro wx hx ρ hρ hs hf
          have hρc := hρ.const
          have hρf := hρ.func
          obtain ⟨sn20, sn22, sn18, -⟩ := hs
          rw [place_at HVS.out (k := 20) rfl] at sn20
          replace sn20 : ρ (.tmp 161) = _ := sn20
          rw [place_at HVS.out (k := 22) rfl] at sn22
          replace sn22 : ρ (.tmp 163) = _ := sn22
          rw [place_at HVS.out (k := 18) rfl] at sn18
          replace sn18 : ρ (.tmp 159) = _ := sn18
          clear hf
          clear HCS HVS qs3 qs15 qs17 qs19 qs21 qs22 qs23 qs24 qs25 qs27 qs29
          first
            | (refine run_passed sn18 ?_
               exact detK.mk)
            | (refine run_guarded sn18 ?_
               unfold runs
               go_simp
               exact detK.mk)
        -- 24: slot 165 := Op.pick t159 ((Value.bool true)) t164
        refine sure_det (js := [(18, 159), (23, 164)]) (ts := []) (gd := none) (place_at HVS.out (k := 24) rfl) (by rw [HCS.out]; kernel_rfl) ?_ ?_
        · intro wx hx ρ hρ hs hf
          have hρc := hρ.const
          have hρf := hρ.func
          obtain ⟨sn18, sn23, -⟩ := hs
          rw [place_at HVS.out (k := 18) rfl] at sn18
          replace sn18 : ρ (.tmp 159) = _ := sn18
          rw [place_at HVS.out (k := 23) rfl] at sn23
          replace sn23 : ρ (.tmp 164) = _ := sn23
          clear hf
          clear HCS HVS qs3 qs15 qs17 qs19 qs21 qs22 qs23 qs24 qs25 qs27 qs29
          refine run_plain ?_
          first | refine op_pick_t rfl sn18 (hρ.const _) ?_ | refine op_pick_f rfl sn18 sn23 ?_
          exact detK.mk
        -- 25: slot 166 := Op.move t165
        refine sure_det (js := [(24, 165)]) (ts := []) (gd := none) (place_at HVS.out (k := 25) rfl) (by rw [HCS.out]; kernel_rfl) ?_ ?_
        · intro wx hx ρ hρ hs hf
          have hρc := hρ.const
          have hρf := hρ.func
          obtain ⟨sn24, -⟩ := hs
          rw [place_at HVS.out (k := 24) rfl] at sn24
          replace sn24 : ρ (.tmp 165) = _ := sn24
          clear hf
          clear HCS HVS qs3 qs15 qs17 qs19 qs21 qs22 qs23 qs24 qs25 qs27 qs29
          refine run_plain ?_
          refine op_move rfl sn24 ?_
          exact detK.mk
        -- 26: slot 167 := Op.load 69 t3
        refine sure_det (js := [(25, 166)]) (ts := [3]) (gd := (some (166, false))) (place_at HVS.out (k := 26) rfl) (by rw [HCS.out]; kernel_rfl) ?_ ?_
        · intro wx hx ρ hρ hs hf
          have hρc := hρ.const
          have hρf := hρ.func
          obtain ⟨sn25, -⟩ := hs
          obtain ⟨fx3, -⟩ := hf
          rw [qs3] at fx3
          rw [place_at HVS.out (k := 25) rfl] at sn25
          replace sn25 : ρ (.tmp 166) = _ := sn25
          clear HCS HVS qs3 qs15 qs17 qs19 qs21 qs22 qs23 qs24 qs25 qs27 qs29
          first
            | (refine run_passed sn25 ?_
               exact detK.mk)
            | (refine run_guarded sn25 ?_
               obtain ⟨q0, q1, q2⟩ := hXd wx hx.drawn
               unfold runs
               go_simp
               exact detK.mk)
        -- 27: slot 168 := Op.call { call ( 48), args := #[t167], argTypes := #[69] }
        refine sure_det (js := [(26, 167), (25, 166)]) (ts := []) (gd := (some (166, false))) (place_at HVS.out (k := 27) rfl) (by rw [HCS.out]; kernel_rfl) ?_ ?_
        · intro wx hx ρ hρ hs hf
          have hρc := hρ.const
          have hρf := hρ.func
          obtain ⟨sn26, sn25, -⟩ := hs
          rw [place_at HVS.out (k := 26) rfl] at sn26
          replace sn26 : ρ (.tmp 167) = _ := sn26
          rw [place_at HVS.out (k := 25) rfl] at sn25
          replace sn25 : ρ (.tmp 166) = _ := sn25
          clear hf
          clear HCS HVS qs3 qs15 qs17 qs19 qs21 qs22 qs23 qs24 qs25 qs27 qs29
          first
            | (refine run_passed sn25 ?_
               exact detK.mk)
            | (refine run_guarded sn25 ?_
               refine op_call rfl hρ Try.call48 (map_one sn26) ?_
               refine Calls.mono (hdr _ _ _) ?_
               rintro e w' ⟨rfl, hx5⟩
               refine ⟨_, rfl, ?_⟩
               exact detK.ext hx5)
        -- 28: slot 169 := Op.fieldAddr 69 t3 0
        refine sure_det (js := [(25, 166)]) (ts := [3]) (gd := (some (166, false))) (place_at HVS.out (k := 28) rfl) (by rw [HCS.out]; kernel_rfl) ?_ ?_
        · intro wx hx ρ hρ hs hf
          have hρc := hρ.const
          have hρf := hρ.func
          obtain ⟨sn25, -⟩ := hs
          obtain ⟨fx3, -⟩ := hf
          rw [qs3] at fx3
          rw [place_at HVS.out (k := 25) rfl] at sn25
          replace sn25 : ρ (.tmp 166) = _ := sn25
          clear HCS HVS qs3 qs15 qs17 qs19 qs21 qs22 qs23 qs24 qs25 qs27 qs29
          first
            | (refine run_passed sn25 ?_
               exact detK.mk)
            | (refine run_guarded sn25 ?_
               unfold runs
               go_simp
               exact detK.mk)
        -- 29: slot 170 := Op.load 26 t169
        refine sure_det (js := [(28, 169), (25, 166)]) (ts := []) (gd := (some (166, false))) (place_at HVS.out (k := 29) rfl) (by rw [HCS.out]; kernel_rfl) ?_ ?_
        · intro wx hx ρ hρ hs hf
          have hρc := hρ.const
          have hρf := hρ.func
          obtain ⟨sn28, sn25, -⟩ := hs
          rw [place_at HVS.out (k := 28) rfl] at sn28
          replace sn28 : ρ (.tmp 169) = _ := sn28
          rw [place_at HVS.out (k := 25) rfl] at sn25
          replace sn25 : ρ (.tmp 166) = _ := sn25
          clear hf
          clear HCS HVS qs3 qs15 qs17 qs19 qs21 qs22 qs23 qs24 qs25 qs27 qs29
          first
            | (refine run_passed sn25 ?_
               exact detK.mk)
            | (refine run_guarded sn25 ?_
               obtain ⟨q0, -, -⟩ := hXd wx hx.drawn
               unfold runs
               go_simp
               exact detK.mk)
        -- 30: slot 171 := Op.binOp BinOp.rem 26 t170 ((u64 2)) 26
        refine sure_det (js := [(29, 170), (25, 166)]) (ts := []) (gd := (some (166, false))) (place_at HVS.out (k := 30) rfl) (by rw [HCS.out]; kernel_rfl) ?_ ?_
        · intro wx hx ρ hρ hs hf
          have hρc := hρ.const
          have hρf := hρ.func
          obtain ⟨sn29, sn25, -⟩ := hs
          rw [place_at HVS.out (k := 29) rfl] at sn29
          replace sn29 : ρ (.tmp 170) = _ := sn29
          rw [place_at HVS.out (k := 25) rfl] at sn25
          replace sn25 : ρ (.tmp 166) = _ := sn25
          clear hf
          clear HCS HVS qs3 qs15 qs17 qs19 qs21 qs22 qs23 qs24 qs25 qs27 qs29
          first
            | (refine run_passed sn25 ?_
               exact detK.mk)
            | (refine run_guarded sn25 ?_
               unfold runs
               go_simp
               exact detK.mk)
        -- 31: slot 172 := Op.convert 26 3 t171
        refine sure_det (js := [(30, 171), (25, 166)]) (ts := []) (gd := (some (166, false))) (place_at HVS.out (k := 31) rfl) (by rw [HCS.out]; kernel_rfl) ?_ ?_
        · intro wx hx ρ hρ hs hf
          have hρc := hρ.const
          have hρf := hρ.func
          obtain ⟨sn30, sn25, -⟩ := hs
          rw [place_at HVS.out (k := 30) rfl] at sn30
          replace sn30 : ρ (.tmp 171) = _ := sn30
          rw [place_at HVS.out (k := 25) rfl] at sn25
          replace sn25 : ρ (.tmp 166) = _ := sn25
          clear hf
          clear HCS HVS qs3 qs15 qs17 qs19 qs21 qs22 qs23 qs24 qs25 qs27 qs29
          first
            | (refine run_passed sn25 ?_
               exact detK.mk)
            | (refine run_guarded sn25 ?_
               unfold runs
               go_simp
               exact detK.mk)
        -- 32: slot 173 := Op.binOp BinOp.neq 3 t168 t172 3
        refine sure_det (js := [(27, 168), (31, 172), (25, 166)]) (ts := []) (gd := (some (166, false))) (place_at HVS.out (k := 32) rfl) (by rw [HCS.out]; kernel_rfl) ?_ ?_
        · intro wx hx ρ hρ hs hf
          have hρc := hρ.const
          have hρf := hρ.func
          obtain ⟨sn27, sn31, sn25, -⟩ := hs
          rw [place_at HVS.out (k := 27) rfl] at sn27
          replace sn27 : ρ (.tmp 168) = _ := sn27
          rw [place_at HVS.out (k := 31) rfl] at sn31
          replace sn31 : ρ (.tmp 172) = _ := sn31
          rw [place_at HVS.out (k := 25) rfl] at sn25
          replace sn25 : ρ (.tmp 166) = _ := sn25
          clear hf
          clear HCS HVS qs3 qs15 qs17 qs19 qs21 qs22 qs23 qs24 qs25 qs27 qs29
          first
            | (refine run_passed sn25 ?_
               exact detK.mk)
            | (refine run_guarded sn25 ?_
               unfold runs
               go_simp
               exact detK.mk)
        -- 33: slot 174 := Op.pick t166 ((Value.bool true)) t173
        refine sure_det (js := [(25, 166), (32, 173)]) (ts := []) (gd := none) (place_at HVS.out (k := 33) rfl) (by rw [HCS.out]; kernel_rfl) ?_ ?_
        · intro wx hx ρ hρ hs hf
          have hρc := hρ.const
          have hρf := hρ.func
          obtain ⟨sn25, sn32, -⟩ := hs
          rw [place_at HVS.out (k := 25) rfl] at sn25
          replace sn25 : ρ (.tmp 166) = _ := sn25
          rw [place_at HVS.out (k := 32) rfl] at sn32
          replace sn32 : ρ (.tmp 173) = _ := sn32
          clear hf
          clear HCS HVS qs3 qs15 qs17 qs19 qs21 qs22 qs23 qs24 qs25 qs27 qs29
          refine run_plain ?_
          first | refine op_pick_t rfl sn25 (hρ.const _) ?_ | refine op_pick_f rfl sn25 sn32 ?_
          exact detK.mk
        exact trivial
      case hend =>
        intro xs wx hx hg
        have gk0 : xs 0 = _ := goods_get hg (i := 0) (j := 0) (d := 141) rfl
        have gk1 : xs 1 = _ := goods_get hg (i := 1) (j := 1) (d := 142) rfl
        have gk2 : xs 2 = _ := goods_get hg (i := 2) (j := 2) (d := 143) rfl
        have gk3 : xs 3 = _ := goods_get hg (i := 3) (j := 3) (d := 144) rfl
        have gk4 : xs 4 = _ := goods_get hg (i := 4) (j := 4) (d := 145) rfl
        have gk5 : xs 5 = _ := goods_get hg (i := 5) (j := 5) (d := 146) rfl
        have gk6 : xs 6 = _ := goods_get hg (i := 6) (j := 6) (d := 147) rfl
        have gk7 : xs 7 = _ := goods_get hg (i := 7) (j := 7) (d := 148) rfl
        have gk8 : xs 8 = _ := goods_get hg (i := 8) (j := 8) (d := 149) rfl
        have gk9 : xs 9 = _ := goods_get hg (i := 9) (j := 9) (d := 150) rfl
        have gk10 : xs 10 = _ := goods_get hg (i := 10) (j := 10) (d := 151) rfl
        have gk11 : xs 11 = _ := goods_get hg (i := 11) (j := 11) (d := 152) rfl
        have gk12 : xs 12 = _ := goods_get hg (i := 12) (j := 12) (d := 153) rfl
        have gk13 : xs 13 = _ := goods_get hg (i := 13) (j := 13) (d := 154) rfl
        have gk14 : xs 14 = _ := goods_get hg (i := 14) (j := 14) (d := 155) rfl
        have gk15 : xs 15 = _ := goods_get hg (i := 15) (j := 15) (d := 156) rfl
        have gk16 : xs 16 = _ := goods_get hg (i := 16) (j := 16) (d := 157) rfl
        have gk17 : xs 17 = _ := goods_get hg (i := 17) (j := 17) (d := 158) rfl
        have gk18 : xs 18 = _ := goods_get hg (i := 18) (j := 18) (d := 159) rfl
        have gk19 : xs 19 = _ := goods_get hg (i := 19) (j := 19) (d := 160) rfl
        have gk20 : xs 20 = _ := goods_get hg (i := 20) (j := 20) (d := 161) rfl
        have gk21 : xs 21 = _ := goods_get hg (i := 21) (j := 21) (d := 162) rfl
        have gk22 : xs 22 = _ := goods_get hg (i := 22) (j := 22) (d := 163) rfl
        have gk23 : xs 23 = _ := goods_get hg (i := 23) (j := 23) (d := 164) rfl
        have gk24 : xs 24 = _ := goods_get hg (i := 24) (j := 24) (d := 165) rfl
        have gk25 : xs 25 = _ := goods_get hg (i := 25) (j := 25) (d := 166) rfl
        have gk26 : xs 26 = _ := goods_get hg (i := 26) (j := 26) (d := 167) rfl
        have gk27 : xs 27 = _ := goods_get hg (i := 27) (j := 27) (d := 168) rfl
        have gk28 : xs 28 = _ := goods_get hg (i := 28) (j := 28) (d := 169) rfl
        have gk29 : xs 29 = _ := goods_get hg (i := 29) (j := 29) (d := 170) rfl
        have gk30 : xs 30 = _ := goods_get hg (i := 30) (j := 30) (d := 171) rfl
        have gk31 : xs 31 = _ := goods_get hg (i := 31) (j := 31) (d := 172) rfl
        have gk32 : xs 32 = _ := goods_get hg (i := 32) (j := 32) (d := 173) rfl
        have gk33 : xs 33 = _ := goods_get hg (i := 33) (j := 33) (d := 174) rfl
        clear hg
        simp only [putAll, gk0, gk1, gk2, gk3, gk4, gk5, gk6, gk7, gk8, gk9, gk10, gk11, gk12, gk13, gk14, gk15, gk16, gk17, gk18, gk19, gk20, gk21, gk22, gk23, gk24, gk25, gk26, gk27, gk28, gk29, gk30, gk31, gk32, gk33]
        clear gk0 gk1 gk2 gk3 gk4 gk5 gk6 gk7 gk8 gk9 gk10 gk11 gk12 gk13 gk14 gk15 gk16 gk17 gk18 gk19 gk20 gk21 gk22 gk23 gk24 gk25 gk26 gk27 gk28 gk29 gk30 gk31 gk32 gk33
        clear xs
        simp only [Act.put, List.setIfInBounds_toArray, List.set_cons_zero, List.set_cons_succ]
        have hx24 : Ext W16 wx := hx.drawn
        clear hx
        go_wp2
        go_upto_region 26 with (fail)
        generalize hw24 : wx = w24 at *
        clear hw24
        refine' wp_region_sure ⟨((some 175, [], none) :: (some 176, [0], none) :: (some 177, [1], some (1, true)) :: (some 178, [1], some (1, true)) :: (some 179, [2, 3, 1, 1], some (1, true)) :: (some 180, [1, 4], none) :: (some 181, [5, 4], none) :: (some 182, [6], some (6, true)) :: (some 183, [6], some (6, true)) :: (some 184, [7, 8, 6, 6], some (6, true)) :: (some 185, [6, 9], none) :: (some 186, [10, 9], none) :: (some 187, [11], some (11, true)) :: (some 188, [11], some (11, true)) :: (some 189, [12, 13, 11, 11], some (11, true)) :: (some 190, [11, 14], none) :: (some 191, [15, 14], none) :: (some 192, [16], some (16, true)) :: (some 193, [16], some (16, true)) :: (some 194, [17, 18, 16, 16], some (16, true)) :: (some 195, [16], some (16, true)) :: (some 196, [16], some (16, true)) :: (some 197, [20, 21, 19, 16], some (16, true)) :: (some 198, [19, 22, 22, 16], some (16, true)) :: (some 199, [16, 23], none) :: (some 2, [24, 23, 0, 1, 2, 3, 4, 5, 6, 7, 8, 9, 10, 11, 12, 13, 14, 15, 16, 17, 18, 19, 20, 21, 22, 23, 24], none) :: []), (0 :: 1 :: 3 :: 3 :: 15 :: 31 :: 63 :: 127 :: 127 :: 511 :: 1023 :: 2047 :: 4095 :: 4095 :: 16383 :: 32767 :: 65535 :: 131071 :: 131071 :: 524287 :: 131071 :: 131071 :: 4194303 :: 8388607 :: 16777215 :: 33554431 :: []), (true :: true :: true :: true :: true :: true :: true :: true :: true :: true :: true :: true :: true :: true :: true :: true :: true :: true :: true :: false :: true :: true :: false :: true :: true :: []), [], 0⟩ 25 200 ((0, 175) :: (1, 176) :: (2, 177) :: (3, 178) :: (4, 179) :: (5, 180) :: (6, 181) :: (7, 182) :: (8, 183) :: (9, 184) :: (10, 185) :: (11, 186) :: (12, 187) :: (13, 188) :: (14, 189) :: (15, 190) :: (16, 191) :: (17, 192) :: (18, 193) :: (19, 194) :: (20, 195) :: (21, 196) :: (22, 197) :: (23, 198) :: (24, 199) :: []) ((0, 175) :: (1, 176) :: (2, 177) :: (3, 178) :: (4, 179) :: (5, 180) :: (6, 181) :: (7, 182) :: (8, 183) :: (9, 184) :: (10, 185) :: (11, 186) :: (12, 187) :: (13, 188) :: (14, 189) :: (15, 190) :: (16, 191) :: (17, 192) :: (18, 193) :: (19, 194) :: (20, 195) :: (21, 196) :: (22, 197) :: (23, 198) :: (24, 199) :: []) (.det _ :: .det _ :: .det _ :: .det _ :: .det _ :: .det _ :: .det _ :: .det _ :: .det _ :: .det _ :: .det _ :: .det _ :: .det _ :: .det _ :: .det _ :: .det _ :: .det _ :: .det _ :: .det _ :: Good.of (fun v w => DkK w v (RN : Int) n1 (cutK ms K0) (cutK (ms.drop n1) K1)) (fun v w w' h hx => h.ext hx) :: .det _ :: .det _ :: Good.of (fun v w => DkK w v (RN : Int) n1 (cutK ms K0) (cutK (ms.drop n1) K1)) (fun v w w' h hx => h.ext hx) :: .det _ :: .det _ :: []) (by kernel_rfl) (by kernel_rfl) (by kernel_rfl) rfl (by kernel_rfl) (by kernel_rfl) rfl ?hone ?hend
        case hone =>
          intro CS frS VS hCS ha hV
          have qs3 := slot_val (t := 3) ha rfl
          simp only [List.getElem_toArray, List.getElem_cons_succ, List.getElem_cons_zero] at qs3
          have qs7 := slot_val (t := 7) ha rfl
          simp only [List.getElem_toArray, List.getElem_cons_succ, List.getElem_cons_zero] at qs7
          have qs8 := slot_val (t := 8) ha rfl
          simp only [List.getElem_toArray, List.getElem_cons_succ, List.getElem_cons_zero] at qs8
          have qs14 := slot_val (t := 14) ha rfl
          simp only [List.getElem_toArray, List.getElem_cons_succ, List.getElem_cons_zero] at qs14
          have qs16 := slot_val (t := 16) ha rfl
          simp only [List.getElem_toArray, List.getElem_cons_succ, List.getElem_cons_zero] at qs16
          have qs18 := slot_val (t := 18) ha rfl
          simp only [List.getElem_toArray, List.getElem_cons_succ, List.getElem_cons_zero] at qs18
          have qs20 := slot_val (t := 20) ha rfl
          simp only [List.getElem_toArray, List.getElem_cons_succ, List.getElem_cons_zero] at qs20
          have qs26 := slot_val (t := 26) ha rfl
          simp only [List.getElem_toArray, List.getElem_cons_succ, List.getElem_cons_zero] at qs26
          have qs28 := slot_val (t := 28) ha rfl
          simp only [List.getElem_toArray, List.getElem_cons_succ, List.getElem_cons_zero] at qs28
          have HCS := Lib.hid hCS
          have HVS := Lib.hid hV
          clear ha hCS hV
          -- 0: slot 175 := Op.move t8
          refine sure_det (js := []) (ts := [8]) (gd := none) (place_at HVS.out (k := 0) rfl) (by rw [HCS.out]; kernel_rfl) ?_ ?_
          · intro wx hx ρ hρ hs hf
            have hρc := hρ.const
            have hρf := hρ.func
            obtain ⟨fx8, -⟩ := hf
            rw [qs8] at fx8
            clear hs
            clear HCS HVS qs3 qs7 qs8 qs14 qs16 qs18 qs20 qs26 qs28
            refine run_plain ?_
            refine op_move rfl fx8 ?_
            exact detK.mk
          -- 1: slot 176 := Op.move t175
          refine sure_det (js := [(0, 175)]) (ts := []) (gd := none) (place_at HVS.out (k := 1) rfl) (by rw [HCS.out]; kernel_rfl) ?_ ?_
          · intro wx hx ρ hρ hs hf
            have hρc := hρ.const
            have hρf := hρ.func
            obtain ⟨sn0, -⟩ := hs
            rw [place_at HVS.out (k := 0) rfl] at sn0
            replace sn0 : ρ (.tmp 175) = _ := sn0
            clear hf
            clear HCS HVS qs3 qs7 qs8 qs14 qs16 qs18 qs20 qs26 qs28
            refine run_plain ?_
            refine op_move rfl sn0 ?_
            exact detK.mk
          -- 2: slot 177 := Op.load 69 t14
          refine sure_det (js := [(1, 176)]) (ts := [14]) (gd := (some (176, true))) (place_at HVS.out (k := 2) rfl) (by rw [HCS.out]; kernel_rfl) ?_ ?_
          · intro wx hx ρ hρ hs hf
            have hρc := hρ.const
            have hρf := hρ.func
            obtain ⟨sn1, -⟩ := hs
            obtain ⟨fx14, -⟩ := hf
            rw [qs14] at fx14
            rw [place_at HVS.out (k := 1) rfl] at sn1
            replace sn1 : ρ (.tmp 176) = _ := sn1
            clear HCS HVS qs3 qs7 qs8 qs14 qs16 qs18 qs20 qs26 qs28
            first
              | (refine run_passed sn1 ?_
                 exact detK.mk)
              | (refine run_guarded sn1 ?_
                 obtain ⟨q0, q1, q2⟩ := hXP wx (hx24.trans hx.drawn)
                 unfold runs
                 go_simp
                 exact detK.mk)
          -- 3: slot 178 := Op.load 69 t16
          refine sure_det (js := [(1, 176)]) (ts := [16]) (gd := (some (176, true))) (place_at HVS.out (k := 3) rfl) (by rw [HCS.out]; kernel_rfl) ?_ ?_
          · intro wx hx ρ hρ hs hf
            have hρc := hρ.const
            have hρf := hρ.func
            obtain ⟨sn1, -⟩ := hs
            obtain ⟨fx16, -⟩ := hf
            rw [qs16] at fx16
            rw [place_at HVS.out (k := 1) rfl] at sn1
            replace sn1 : ρ (.tmp 176) = _ := sn1
            clear HCS HVS qs3 qs7 qs8 qs14 qs16 qs18 qs20 qs26 qs28
            first
              | (refine run_passed sn1 ?_
                 exact detK.mk)
              | (refine run_guarded sn1 ?_
                 obtain ⟨q0, q1, q2⟩ := hXQ wx (hx24.trans hx.drawn)
                 unfold runs
                 go_simp
                 exact detK.mk)
          -- 4: slot 179 := Op.call { call ( 38), args := #[t177, t178], argTypes := #[69, 69] }
          refine sure_det (js := [(2, 177), (3, 178), (1, 176)]) (ts := []) (gd := (some (176, true))) (place_at HVS.out (k := 4) rfl) (by rw [HCS.out]; kernel_rfl) ?_ ?_
          · intro wx hx ρ hρ hs hf
            have hρc := hρ.const
            have hρf := hρ.func
            obtain ⟨sn2, sn3, sn1, -⟩ := hs
            rw [place_at HVS.out (k := 2) rfl] at sn2
            replace sn2 : ρ (.tmp 177) = _ := sn2
            rw [place_at HVS.out (k := 3) rfl] at sn3
            replace sn3 : ρ (.tmp 178) = _ := sn3
            rw [place_at HVS.out (k := 1) rfl] at sn1
            replace sn1 : ρ (.tmp 176) = _ := sn1
            clear hf
            clear HCS HVS qs3 qs7 qs8 qs14 qs16 qs18 qs20 qs26 qs28
            first
              | (refine run_passed sn1 ?_
                 exact detK.mk)
              | (refine run_guarded sn1 ?_
                 refine op_call rfl hρ Try.call38 (map_two sn2 sn3) ?_
                 refine Calls.mono (dsame_K (hkP.ext (hx24.trans hx.drawn)) (hkQ.ext (hx24.trans hx.drawn))) ?_
                 rintro e w' ⟨rfl, hx5⟩
                 refine ⟨_, rfl, ?_⟩
                 exact detK.ext hx5)
          -- 5: slot 180 := Op.pick t176 t179 ((Value.bool false))
          refine sure_det (js := [(1, 176), (4, 179)]) (ts := []) (gd := none) (place_at HVS.out (k := 5) rfl) (by rw [HCS.out]; kernel_rfl) ?_ ?_
          · intro wx hx ρ hρ hs hf
            have hρc := hρ.const
            have hρf := hρ.func
            obtain ⟨sn1, sn4, -⟩ := hs
            rw [place_at HVS.out (k := 1) rfl] at sn1
            replace sn1 : ρ (.tmp 176) = _ := sn1
            rw [place_at HVS.out (k := 4) rfl] at sn4
            replace sn4 : ρ (.tmp 179) = _ := sn4
            clear hf
            clear HCS HVS qs3 qs7 qs8 qs14 qs16 qs18 qs20 qs26 qs28
            refine run_plain ?_
            first | refine op_pick_t rfl sn1 sn4 ?_ | refine op_pick_f rfl sn1 (hρ.const _) ?_
            exact detK.mk
          -- 6: slot 181 := Op.move t180
          refine sure_det (js := [(5, 180)]) (ts := []) (gd := none) (place_at HVS.out (k := 6) rfl) (by rw [HCS.out]; kernel_rfl) ?_ ?_
          · intro wx hx ρ hρ hs hf
            have hρc := hρ.const
            have hρf := hρ.func
            obtain ⟨sn5, -⟩ := hs
            rw [place_at HVS.out (k := 5) rfl] at sn5
            replace sn5 : ρ (.tmp 180) = _ := sn5
            clear hf
            clear HCS HVS qs3 qs7 qs8 qs14 qs16 qs18 qs20 qs26 qs28
            refine run_plain ?_
            refine op_move rfl sn5 ?_
            exact detK.mk
          -- 7: slot 182 := Op.load 69 t18
          refine sure_det (js := [(6, 181)]) (ts := [18]) (gd := (some (181, true))) (place_at HVS.out (k := 7) rfl) (by rw [HCS.out]; kernel_rfl) ?_ ?_
          · intro wx hx ρ hρ hs hf
            have hρc := hρ.const
            have hρf := hρ.func
            obtain ⟨sn6, -⟩ := hs
            obtain ⟨fx18, -⟩ := hf
            rw [qs18] at fx18
            rw [place_at HVS.out (k := 6) rfl] at sn6
            replace sn6 : ρ (.tmp 181) = _ := sn6
            clear HCS HVS qs3 qs7 qs8 qs14 qs16 qs18 qs20 qs26 qs28
            first
              | (refine run_passed sn6 ?_
                 exact detK.mk)
              | (refine run_guarded sn6 ?_
                 obtain ⟨q0, q1, q2⟩ := hXR wx (hx24.trans hx.drawn)
                 unfold runs
                 go_simp
                 exact detK.mk)
          -- 8: slot 183 := Op.load 69 t20
          refine sure_det (js := [(6, 181)]) (ts := [20]) (gd := (some (181, true))) (place_at HVS.out (k := 8) rfl) (by rw [HCS.out]; kernel_rfl) ?_ ?_
          · intro wx hx ρ hρ hs hf
            have hρc := hρ.const
            have hρf := hρ.func
            obtain ⟨sn6, -⟩ := hs
            obtain ⟨fx20, -⟩ := hf
            rw [qs20] at fx20
            rw [place_at HVS.out (k := 6) rfl] at sn6
            replace sn6 : ρ (.tmp 181) = _ := sn6
            clear HCS HVS qs3 qs7 qs8 qs14 qs16 qs18 qs20 qs26 qs28
            first
              | (refine run_passed sn6 ?_
                 exact detK.mk)
              | (refine run_guarded sn6 ?_
                 obtain ⟨q0, q1, q2⟩ := hXS wx (hx24.trans hx.drawn)
                 unfold runs
                 go_simp
                 exact detK.mk)
          -- 9: slot 184 := Op.call { call ( 38), args := #[t182, t183], argTypes := #[69, 69] }
          refine sure_det (js := [(7, 182), (8, 183), (6, 181)]) (ts := []) (gd := (some (181, true))) (place_at HVS.out (k := 9) rfl) (by rw [HCS.out]; kernel_rfl) ?_ ?_
          · intro wx hx ρ hρ hs hf
            have hρc := hρ.const
            have hρf := hρ.func
            obtain ⟨sn7, sn8, sn6, -⟩ := hs
            rw [place_at HVS.out (k := 7) rfl] at sn7
            replace sn7 : ρ (.tmp 182) = _ := sn7
            rw [place_at HVS.out (k := 8) rfl] at sn8
            replace sn8 : ρ (.tmp 183) = _ := sn8
            rw [place_at HVS.out (k := 6) rfl] at sn6
            replace sn6 : ρ (.tmp 181) = _ := sn6
            clear hf
            clear HCS HVS qs3 qs7 qs8 qs14 qs16 qs18 qs20 qs26 qs28
            first
              | (refine run_passed sn6 ?_
                 exact detK.mk)
              | (refine run_guarded sn6 ?_
                 refine op_call rfl hρ Try.call38 (map_two sn7 sn8) ?_
                 refine Calls.mono (dsame_K (hkR.ext (hx24.trans hx.drawn)) (hkS.ext (hx24.trans hx.drawn))) ?_
                 rintro e w' ⟨rfl, hx5⟩
                 refine ⟨_, rfl, ?_⟩
                 exact detK.ext hx5)
          -- 10: slot 185 := Op.pick t181 t184 ((Value.bool false))
          refine sure_det (js := [(6, 181), (9, 184)]) (ts := []) (gd := none) (place_at HVS.out (k := 10) rfl) (by rw [HCS.out]; kernel_rfl) ?_ ?_
          · intro wx hx ρ hρ hs hf
            have hρc := hρ.const
            have hρf := hρ.func
            obtain ⟨sn6, sn9, -⟩ := hs
            rw [place_at HVS.out (k := 6) rfl] at sn6
            replace sn6 : ρ (.tmp 181) = _ := sn6
            rw [place_at HVS.out (k := 9) rfl] at sn9
            replace sn9 : ρ (.tmp 184) = _ := sn9
            clear hf
            clear HCS HVS qs3 qs7 qs8 qs14 qs16 qs18 qs20 qs26 qs28
            refine run_plain ?_
            first | refine op_pick_t rfl sn6 sn9 ?_ | refine op_pick_f rfl sn6 (hρ.const _) ?_
            exact detK.mk
          -- 11: slot 186 := Op.move t185
          refine sure_det (js := [(10, 185)]) (ts := []) (gd := none) (place_at HVS.out (k := 11) rfl) (by rw [HCS.out]; kernel_rfl) ?_ ?_
          · intro wx hx ρ hρ hs hf
            have hρc := hρ.const
            have hρf := hρ.func
            obtain ⟨sn10, -⟩ := hs
            rw [place_at HVS.out (k := 10) rfl] at sn10
            replace sn10 : ρ (.tmp 185) = _ := sn10
            clear hf
            clear HCS HVS qs3 qs7 qs8 qs14 qs16 qs18 qs20 qs26 qs28
            refine run_plain ?_
            refine op_move rfl sn10 ?_
            exact detK.mk
          -- 12: slot 187 := Op.load 69 t26
          refine sure_det (js := [(11, 186)]) (ts := [26]) (gd := (some (186, true))) (place_at HVS.out (k := 12) rfl) (by rw [HCS.out]; kernel_rfl) ?_ ?_
          · intro wx hx ρ hρ hs hf
            have hρc := hρ.const
            have hρf := hρ.func
            obtain ⟨sn11, -⟩ := hs
            obtain ⟨fx26, -⟩ := hf
            rw [qs26] at fx26
            rw [place_at HVS.out (k := 11) rfl] at sn11
            replace sn11 : ρ (.tmp 186) = _ := sn11
            clear HCS HVS qs3 qs7 qs8 qs14 qs16 qs18 qs20 qs26 qs28
            first
              | (refine run_passed sn11 ?_
                 exact detK.mk)
              | (refine run_guarded sn11 ?_
                 obtain ⟨q0, q1, q2⟩ := hXV wx (hx24.trans hx.drawn)
                 unfold runs
                 go_simp
                 exact detK.mk)
          -- 13: slot 188 := Op.load 69 t28
          refine sure_det (js := [(11, 186)]) (ts := [28]) (gd := (some (186, true))) (place_at HVS.out (k := 13) rfl) (by rw [HCS.out]; kernel_rfl) ?_ ?_
          · intro wx hx ρ hρ hs hf
            have hρc := hρ.const
            have hρf := hρ.func
            obtain ⟨sn11, -⟩ := hs
            obtain ⟨fx28, -⟩ := hf
            rw [qs28] at fx28
            rw [place_at HVS.out (k := 11) rfl] at sn11
            replace sn11 : ρ (.tmp 186) = _ := sn11
            clear HCS HVS qs3 qs7 qs8 qs14 qs16 qs18 qs20 qs26 qs28
            first
              | (refine run_passed sn11 ?_
                 exact detK.mk)
              | (refine run_guarded sn11 ?_
                 obtain ⟨q0, q1, q2⟩ := hXW wx (hx24.trans hx.drawn)
                 unfold runs
                 go_simp
                 exact detK.mk)
          -- 14: slot 189 := Op.call { call ( 38), args := #[t187, t188], argTypes := #[69, 69] }
          refine sure_det (js := [(12, 187), (13, 188), (11, 186)]) (ts := []) (gd := (some (186, true))) (place_at HVS.out (k := 14) rfl) (by rw [HCS.out]; kernel_rfl) ?_ ?_
          · intro wx hx ρ hρ hs hf
            have hρc := hρ.const
            have hρf := hρ.func
            obtain ⟨sn12, sn13, sn11, -⟩ := hs
            rw [place_at HVS.out (k := 12) rfl] at sn12
            replace sn12 : ρ (.tmp 187) = _ := sn12
            rw [place_at HVS.out (k := 13) rfl] at sn13
            replace sn13 : ρ (.tmp 188) = _ := sn13
            rw [place_at HVS.out (k := 11) rfl] at sn11
            replace sn11 : ρ (.tmp 186) = _ := sn11
            clear hf
            clear HCS HVS qs3 qs7 qs8 qs14 qs16 qs18 qs20 qs26 qs28
            first
              | (refine run_passed sn11 ?_
                 exact detK.mk)
              | (refine run_guarded sn11 ?_
                 refine op_call rfl hρ Try.call38 (map_two sn12 sn13) ?_
                 refine Calls.mono (dsame_K (hkV.ext (hx24.trans hx.drawn)) (hkW.ext (hx24.trans hx.drawn))) ?_
                 rintro e w' ⟨rfl, hx5⟩
                 refine ⟨_, rfl, ?_⟩
                 exact detK.ext hx5)
          -- 15: slot 190 := Op.pick t186 t189 ((Value.bool false))
          refine sure_det (js := [(11, 186), (14, 189)]) (ts := []) (gd := none) (place_at HVS.out (k := 15) rfl) (by rw [HCS.out]; kernel_rfl) ?_ ?_
          · intro wx hx ρ hρ hs hf
            have hρc := hρ.const
            have hρf := hρ.func
            obtain ⟨sn11, sn14, -⟩ := hs
            rw [place_at HVS.out (k := 11) rfl] at sn11
            replace sn11 : ρ (.tmp 186) = _ := sn11
            rw [place_at HVS.out (k := 14) rfl] at sn14
            replace sn14 : ρ (.tmp 189) = _ := sn14
            clear hf
            clear HCS HVS qs3 qs7 qs8 qs14 qs16 qs18 qs20 qs26 qs28
            refine run_plain ?_
            first | refine op_pick_t rfl sn11 sn14 ?_ | refine op_pick_f rfl sn11 (hρ.const _) ?_
            exact detK.mk
          -- 16: slot 191 := Op.move t190
          refine sure_det (js := [(15, 190)]) (ts := []) (gd := none) (place_at HVS.out (k := 16) rfl) (by rw [HCS.out]; kernel_rfl) ?_ ?_
          · intro wx hx ρ hρ hs hf
            have hρc := hρ.const
            have hρf := hρ.func
            obtain ⟨sn15, -⟩ := hs
            rw [place_at HVS.out (k := 15) rfl] at sn15
            replace sn15 : ρ (.tmp 190) = _ := sn15
            clear hf
            clear HCS HVS qs3 qs7 qs8 qs14 qs16 qs18 qs20 qs26 qs28
            refine run_plain ?_
            refine op_move rfl sn15 ?_
            exact detK.mk
          -- 17: slot 192 := Op.load 69 t3
          refine sure_det (js := [(16, 191)]) (ts := [3]) (gd := (some (191, true))) (place_at HVS.out (k := 17) rfl) (by rw [HCS.out]; kernel_rfl) ?_ ?_
          · intro wx hx ρ hρ hs hf
            have hρc := hρ.const
            have hρf := hρ.func
            obtain ⟨sn16, -⟩ := hs
            obtain ⟨fx3, -⟩ := hf
            rw [qs3] at fx3
            rw [place_at HVS.out (k := 16) rfl] at sn16
            replace sn16 : ρ (.tmp 191) = _ := sn16
            clear HCS HVS qs3 qs7 qs8 qs14 qs16 qs18 qs20 qs26 qs28
            first
              | (refine run_passed sn16 ?_
                 exact detK.mk)
              | (refine run_guarded sn16 ?_
                 obtain ⟨q0, q1, q2⟩ := hXd wx (hx24.trans hx.drawn)
                 unfold runs
                 go_simp
                 exact detK.mk)
          -- 18: slot 193 := Op.move t7
          refine sure_det (js := [(16, 191)]) (ts := [7]) (gd := (some (191, true))) (place_at HVS.out (k := 18) rfl) (by rw [HCS.out]; kernel_rfl) ?_ ?_
          · intro wx hx ρ hρ hs hf
            have hρc := hρ.const
            have hρf := hρ.func
            obtain ⟨sn16, -⟩ := hs
            obtain ⟨fx7, -⟩ := hf
            rw [qs7] at fx7
            rw [place_at HVS.out (k := 16) rfl] at sn16
            replace sn16 : ρ (.tmp 191) = _ := sn16
            clear HCS HVS qs3 qs7 qs8 qs14 qs16 qs18 qs20 qs26 qs28
            first
              | (refine run_passed sn16 ?_
                 exact detK.mk)
              | (refine run_guarded sn16 ?_
                 refine op_move rfl fx7 ?_
                 exact detK.mk)
          -- 19: slot 194 := Op.call { call ( 49), args := #[t192, t193], argTypes := #[69, 32] }
          refine sure_op (js := [(17, 192), (18, 193), (16, 191)]) (ts := []) (gd := (some (191, true))) (place_at HVS.out (k := 19) rfl) (by rw [HCS.out]; kernel_rfl) ?_ ?_
          · intro wx hx ρ hρ hs hf
            have hρc := hρ.const
            have hρf := hρ.func
            obtain ⟨sn17, sn18, sn16, -⟩ := hs
            rw [place_at HVS.out (k := 17) rfl] at sn17
            replace sn17 : ρ (.tmp 192) = _ := sn17
            rw [place_at HVS.out (k := 18) rfl] at sn18
            replace sn18 : ρ (.tmp 193) = _ := sn18
            rw [place_at HVS.out (k := 16) rfl] at sn16
            replace sn16 : ρ (.tmp 191) = _ := sn16
            clear hf
            clear HCS HVS qs3 qs7 qs8 qs14 qs16 qs18 qs20 qs26 qs28
            refine run_guarded sn16 ?_
            refine op_call rfl hρ Try.call49 (map_two sn17 sn18) ?_
            refine Calls.mono (dcrash_K (hd.ext (hx24.trans hx.drawn)) (by omega) (hM.ext (hW.trans (hx24.trans hx.drawn))) hC0 hC1) ?_
            rintro e w' ⟨v', rfl, hk5, hx5⟩
            exact ⟨_, rfl, hx5, hk5⟩
          -- 20: slot 195 := Op.load 69 t3
          refine sure_det (js := [(16, 191)]) (ts := [3]) (gd := (some (191, true))) (place_at HVS.out (k := 20) rfl) (by rw [HCS.out]; kernel_rfl) ?_ ?_
          · intro wx hx ρ hρ hs hf
            have hρc := hρ.const
            have hρf := hρ.func
            obtain ⟨sn16, -⟩ := hs
            obtain ⟨fx3, -⟩ := hf
            rw [qs3] at fx3
            rw [place_at HVS.out (k := 16) rfl] at sn16
            replace sn16 : ρ (.tmp 191) = _ := sn16
            clear HCS HVS qs3 qs7 qs8 qs14 qs16 qs18 qs20 qs26 qs28
            first
              | (refine run_passed sn16 ?_
                 exact detK.mk)
              | (refine run_guarded sn16 ?_
                 obtain ⟨q0, q1, q2⟩ := hXd wx (hx24.trans hx.drawn)
                 unfold runs
                 go_simp
                 exact detK.mk)
          -- 21: slot 196 := Op.move t7
          refine sure_det (js := [(16, 191)]) (ts := [7]) (gd := (some (191, true))) (place_at HVS.out (k := 21) rfl) (by rw [HCS.out]; kernel_rfl) ?_ ?_
          · intro wx hx ρ hρ hs hf
            have hρc := hρ.const
            have hρf := hρ.func
            obtain ⟨sn16, -⟩ := hs
            obtain ⟨fx7, -⟩ := hf
            rw [qs7] at fx7
            rw [place_at HVS.out (k := 16) rfl] at sn16
            replace sn16 : ρ (.tmp 191) = _ := sn16
            clear HCS HVS qs3 qs7 qs8 qs14 qs16 qs18 qs20 qs26 qs28
            first
              | (refine run_passed sn16 ?_
                 exact detK.mk)
              | (refine run_guarded sn16 ?_
                 refine op_move rfl fx7 ?_
                 exact detK.mk)
          -- 22: slot 197 := Op.call { call ( 50), args := #[t195, t196], argTypes := #[69, 32] }
          refine sure_op (js := [(20, 195), (21, 196), (16, 191)]) (ts := []) (gd := (some (191, true))) (place_at HVS.out (k := 22) rfl) (by rw [HCS.out]; kernel_rfl) ?_ ?_
          · intro wx hx ρ hρ hs hf
            have hρc := hρ.const
            have hρf := hρ.func
            obtain ⟨sn20, sn21, sn16, -⟩ := hs
            rw [place_at HVS.out (k := 20) rfl] at sn20
            replace sn20 : ρ (.tmp 195) = _ := sn20
            rw [place_at HVS.out (k := 21) rfl] at sn21
            replace sn21 : ρ (.tmp 196) = _ := sn21
            rw [place_at HVS.out (k := 16) rfl] at sn16
            replace sn16 : ρ (.tmp 191) = _ := sn16
            clear hf
            clear HCS HVS qs3 qs7 qs8 qs14 qs16 qs18 qs20 qs26 qs28
            refine run_guarded sn16 ?_
            refine op_call rfl hρ Try.call50 (map_two sn20 sn21) ?_
            refine Calls.mono (rcrash_K (hd.ext (hx24.trans hx.drawn)) (by omega) (hM.ext (hW.trans (hx24.trans hx.drawn))) (by omega) hC0 hC1) ?_
            rintro e w' ⟨v', rfl, hk5, hx5⟩
            exact ⟨_, rfl, hx5, hk5⟩
          -- 23: slot 198 := Op.call { call ( 38), args := #[t194, t197], argTypes := #[69, 69] }
          refine sure_det (js := [(19, 194), (22, 197), (16, 191)]) (ts := []) (gd := (some (191, true))) (place_at HVS.out (k := 23) rfl) (by rw [HCS.out]; kernel_rfl) ?_ ?_
          · intro wx hx ρ hρ hs hf
            have hρc := hρ.const
            have hρf := hρ.func
            obtain ⟨sn19, sn22, sn16, -⟩ := hs
            rw [place_at HVS.out (k := 19) rfl] at sn19
            replace sn19 : DkK wx (ρ (.tmp 194)) (RN : Int) n1 (cutK ms K0) (cutK (ms.drop n1) K1) := sn19
            rw [place_at HVS.out (k := 22) rfl] at sn22
            replace sn22 : DkK wx (ρ (.tmp 197)) (RN : Int) n1 (cutK ms K0) (cutK (ms.drop n1) K1) := sn22
            rw [place_at HVS.out (k := 16) rfl] at sn16
            replace sn16 : ρ (.tmp 191) = _ := sn16
            clear hf
            clear HCS HVS qs3 qs7 qs8 qs14 qs16 qs18 qs20 qs26 qs28
            first
              | (refine run_passed sn16 ?_
                 exact detK.mk)
              | (refine run_guarded sn16 ?_
                 refine op_call rfl hρ Try.call38 (map_two rfl rfl) ?_
                 refine Calls.mono (dsame_K sn19 sn22) ?_
                 rintro e w' ⟨rfl, hx5⟩
                 refine ⟨_, rfl, ?_⟩
                 exact detK.ext hx5)
          -- 24: slot 199 := Op.pick t191 t198 ((Value.bool false))
          refine sure_det (js := [(16, 191), (23, 198)]) (ts := []) (gd := none) (place_at HVS.out (k := 24) rfl) (by rw [HCS.out]; kernel_rfl) ?_ ?_
          · intro wx hx ρ hρ hs hf
            have hρc := hρ.const
            have hρf := hρ.func
            obtain ⟨sn16, sn23, -⟩ := hs
            rw [place_at HVS.out (k := 16) rfl] at sn16
            replace sn16 : ρ (.tmp 191) = _ := sn16
            rw [place_at HVS.out (k := 23) rfl] at sn23
            replace sn23 : ρ (.tmp 198) = _ := sn23
            clear hf
            clear HCS HVS qs3 qs7 qs8 qs14 qs16 qs18 qs20 qs26 qs28
            refine run_plain ?_
            first | refine op_pick_t rfl sn16 sn23 ?_ | refine op_pick_f rfl sn16 (hρ.const _) ?_
            exact detK.mk
          exact trivial
        case hend =>
          intro xs wx hx hg
          have gk0 : xs 0 = _ := goods_get hg (i := 0) (j := 0) (d := 175) rfl
          have gk1 : xs 1 = _ := goods_get hg (i := 1) (j := 1) (d := 176) rfl
          have gk2 : xs 2 = _ := goods_get hg (i := 2) (j := 2) (d := 177) rfl
          have gk3 : xs 3 = _ := goods_get hg (i := 3) (j := 3) (d := 178) rfl
          have gk4 : xs 4 = _ := goods_get hg (i := 4) (j := 4) (d := 179) rfl
          have gk5 : xs 5 = _ := goods_get hg (i := 5) (j := 5) (d := 180) rfl
          have gk6 : xs 6 = _ := goods_get hg (i := 6) (j := 6) (d := 181) rfl
          have gk7 : xs 7 = _ := goods_get hg (i := 7) (j := 7) (d := 182) rfl
          have gk8 : xs 8 = _ := goods_get hg (i := 8) (j := 8) (d := 183) rfl
          have gk9 : xs 9 = _ := goods_get hg (i := 9) (j := 9) (d := 184) rfl
          have gk10 : xs 10 = _ := goods_get hg (i := 10) (j := 10) (d := 185) rfl
          have gk11 : xs 11 = _ := goods_get hg (i := 11) (j := 11) (d := 186) rfl
          have gk12 : xs 12 = _ := goods_get hg (i := 12) (j := 12) (d := 187) rfl
          have gk13 : xs 13 = _ := goods_get hg (i := 13) (j := 13) (d := 188) rfl
          have gk14 : xs 14 = _ := goods_get hg (i := 14) (j := 14) (d := 189) rfl
          have gk15 : xs 15 = _ := goods_get hg (i := 15) (j := 15) (d := 190) rfl
          have gk16 : xs 16 = _ := goods_get hg (i := 16) (j := 16) (d := 191) rfl
          have gk17 : xs 17 = _ := goods_get hg (i := 17) (j := 17) (d := 192) rfl
          have gk18 : xs 18 = _ := goods_get hg (i := 18) (j := 18) (d := 193) rfl
          have gk19 : DkK wx (xs 19) (RN : Int) n1 (cutK ms K0) (cutK (ms.drop n1) K1) := goods_get hg (i := 19) (j := 19) (d := 194) rfl
          have gk20 : xs 20 = _ := goods_get hg (i := 20) (j := 20) (d := 195) rfl
          have gk21 : xs 21 = _ := goods_get hg (i := 21) (j := 21) (d := 196) rfl
          have gk22 : DkK wx (xs 22) (RN : Int) n1 (cutK ms K0) (cutK (ms.drop n1) K1) := goods_get hg (i := 22) (j := 22) (d := 197) rfl
          have gk23 : xs 23 = _ := goods_get hg (i := 23) (j := 23) (d := 198) rfl
          have gk24 : xs 24 = _ := goods_get hg (i := 24) (j := 24) (d := 199) rfl
          clear hg
          simp only [putAll, gk0, gk1, gk2, gk3, gk4, gk5, gk6, gk7, gk8, gk9, gk10, gk11, gk12, gk13, gk14, gk15, gk16, gk17, gk18, gk20, gk21, gk23, gk24]
          clear gk0 gk1 gk2 gk3 gk4 gk5 gk6 gk7 gk8 gk9 gk10 gk11 gk12 gk13 gk14 gk15 gk16 gk17 gk18 gk20 gk21 gk23 gk24
          generalize xs 19 = vx19 at gk19 ⊢
          generalize xs 22 = vx22 at gk22 ⊢
          clear xs
          simp only [Act.put, List.setIfInBounds_toArray, List.set_cons_zero, List.set_cons_succ, List.drop_succ_cons, List.drop_zero]
          clear gk19 gk22
          go_wp2
          go_ret
          exact ⟨rfl, hW.trans (hx24.trans hx.drawn)⟩
set_option maxRecDepth 100000 in
theorem open_dtells {H : Type} {enc : TypeId × Value → H} {w : World} {base : Nat} {b0 : Nat} {v : Value} {d : DataW H} {p : List MemPlace} (hv : Value.okWide Try.prog w .any b0 71 v) (h : DataW.Trod enc Try.prog w base (fun _ => true) true 71 v d p) (hL : Light Try.prog 71 d) :
    ∃ (RN : Nat) (A0 A1 : Option Addr) (n0 c0 n1 c1 : Nat) (l0 l1 : List St) (row i : Int) (B : Option Addr) (m cb : Nat) (bs : List UInt8) (M : Option Addr) (nM cM : Nat) (ms : List Int),
      v = .agg #[.int .u64 (RN : Int), .slice A0 n0 c0, .slice A1 n1 c1, .int .i64 row, .int .i64 i, .slice B m cb, .slice M nM cM] ∧ RowV w A0 n0 c0 l0 ∧ RowV w A1 n1 c1 l1 ∧ RN < 18446744073709551616 ∧ BytesV w B m cb bs ∧ IntsV w M nM cM ms ∧
      (∀ s ∈ l0, s.q ≤ 140737488351232) ∧ (∀ s ∈ l1, s.q ≤ 140737488351232) := by
  obtain ⟨cs, rfl, hsz⟩ := okWide_struct Try.underlying71 hv
  obtain ⟨fuel, hf⟩ := h
  obtain ⟨k, hg⟩ := open_inner_w Try.underlying71 hf hL
  have hl : cs.toList.length = 7 := by simpa [show Try.prog.cellsOf 71 = 7 by kernel_rfl] using hsz
  have hcs : (Value.agg cs).cells.toList = cs.toList := rfl
  rw [hcs] at hg
  have hcs2 : cs = cs.toList.toArray := by simp
  rw [hcs2]
  generalize cs.toList = l at *
  match l, hl with
  | [x0, x1, x2, x3, x4, x5, x6], _ =>
  obtain ⟨_, t0, y0⟩ := hg 0 _ rfl
  obtain ⟨_, t1, -⟩ := hg 1 _ rfl
  obtain ⟨_, t2, -⟩ := hg 2 _ rfl
  obtain ⟨_, t3, -⟩ := hg 3 _ rfl
  obtain ⟨_, t4, -⟩ := hg 4 _ rfl
  obtain ⟨R, A0, A1, n0, c0, n1, c1, l0, l1, e0, h0, h1, hR, z0, z1⟩ := open_disk_w (by simp [cellsDiskE]) t0 y0
  obtain ⟨row, e1, _, w1⟩ := DataW.trod_int Try.underlying3 t1
  obtain ⟨i, e2, _, w2⟩ := DataW.trod_int Try.underlying3 t2
  obtain ⟨B, m, cb, bs, e3, hB⟩ := open_bytes t3
  obtain ⟨M, nM, cM, ms, e4, hM⟩ := open_intsv7 t4
  simp [show Try.prog.cellsOf 3 = 1 by kernel_rfl, cellsDiskE, cellsBytes, show Try.prog.cellsOf 32 = 1 by kernel_rfl] at e0 e1 e2 e3 e4
  obtain ⟨rfl, rfl, rfl⟩ := e0
  subst e1 e2 e3 e4
  obtain ⟨RN, rfl⟩ := Int.eq_ofNat_of_zero_le hR.1
  exact ⟨RN, A0, A1, n0, c0, n1, c1, l0, l1, row, i, B, m, cb, bs, M, nM, cM, ms, rfl, h0, h1, by omega, hB, hM, z0, z1⟩
set_option maxRecDepth 100000 in
theorem DiskTells_lifted (os : Os) (started : os.Started) (H : Type) (enc : TypeId × Value → H) :
    ReturnsInHanded {} Try.checked os 10 .any (Rows.diskTellsSpec.pre6 enc Try.prog Try.f10 Rows.diskTellsRow.domain false) (Rows.diskTellsSpec.post enc Try.prog Try.f10 false true false false) := by
  refine law_row_w os started H enc Rows.diskTellsSpec rfl (fun ds h => by
    match ds, h with
    | [_], _ => rfl) (by kernel_rfl) Try.func10 rfl
    (by rw [Try.params10]; intro t ht; simp at ht; subst ht; exact ⟨by kernel_rfl, of_decide_eq_true (by kernel_rfl)⟩)
    (ChangeSpec.witness6 (enc := enc) (C := Try.checked) false ⟨#[], #[.agg #[.int .u64 0, .slice none 0 0, .slice none 0 0, .int .i64 0, .int .i64 0, .slice none 0 0, .slice none 0 0]], []⟩ 8 (by kernel_rfl) (by kernel_rfl) (by kernel_rfl) (by kernel_rfl)) ?_
  intro W base args ds ps hval hA hlt hlight
  rw [Try.params10] at hA hval
  obtain ⟨v0, d0, rfl, rfl, h0⟩ := trodAll_one hA
  obtain ⟨RN, A0, A1, n0, c0, n1, c1, l0, l1, row, i, B, m, cb, bs, M, nM, cM, ms, rfl, hr0, hr1, hRN, hB, hM, z0, z1⟩ := open_dtells (hval 0 _ v0 rfl rfl) h0 (hlight 0 _ _ rfl rfl)
  exact dtells_walk RN A0 A1 n0 c0 n1 c1 l0 l1 row i B m cb bs M nM cM ms W hr0 hr1 hRN hB hM z0 z1
theorem DiskTells_holds : Rows.DiskTellsSaid :=
  OpenClaim.holds_of_wide 10 Try.f10 rfl rfl rfl rfl rfl rfl rfl ⟨rfl, rfl, rfl, rfl, rfl⟩ rfl rfl rfl rfl rfl (by kernel_rfl) Try.func10 (by kernel_rfl)
    (of_decide_eq_true (by kernel_rfl)) (by unfold Func.isWrapper; rw [if_neg (of_decide_eq_false (by kernel_rfl))]; exact ⟨rfl, rfl⟩)
    (fun os started H enc _ => DiskTells_lifted os started H enc)
#print axioms DiskTells_holds
end Go.Proofs.Ythgcpfofdbdkpaa
