import Derived.Test.YtennnhfaghdeoaaAccRefA
import Derived.Test.YtennnhfaghdeoaaAccRefB
import Derived.Test.YtennnhfaghdeoaaAccDo
namespace Go.Proofs.Ytennnhfaghdeoaa
open Go.RowKit

set_option maxHeartbeats 2000000 in
theorem rdo_all (v av : Value) (X : WldK) (me : Int) (A : AccK) (fail : Bool) (w : World) (hX : WldV w v X) (hA : AccV w av A) (hF : Fit X (useM A fail)) :
    Calls Try.prog 19 #[v, .int .i64 me, av, .bool fail] w (DoPost (doK X me A fail) (doR X A fail) w) := by
  obtain ⟨T, C, ws, R, n, K0, K1⟩ := X
  obtain ⟨k, ce, a, b, dat, wd⟩ := A
  obtain ⟨RN, rfl⟩ : ∃ RN : Nat, R = (RN : Int) := ⟨R.toNat, by have := hF.root.1; simp only at this; omega⟩
  obtain ⟨AA, q, c, A0, A1, c0, c1, rfl, hw, hd⟩ := hX
  obtain ⟨D, m, cd, B, q2, cb, rfl, hB, hwd, ha, hb⟩ := hA
  simp only at *
  by_cases hk : diskKind k = true
  · have hk2 : 5 ≤ k ∧ k ≤ 12 := by simpa [diskKind] using hk
    cases fail with
    | true =>
      rw [show doK ⟨T, C, ws, RN, n, K0, K1⟩ me ⟨k, ce, a, b, dat, wd⟩ true = ⟨T, C, ws, RN, n, K0, K1⟩ by simp [doK, hk], show doR ⟨T, C, ws, RN, n, K0, K1⟩ ⟨k, ce, a, b, dat, wd⟩ true = ⟨0, [], true⟩ by simp [doR, hk]]
      exact rdo_fail T C AA q c ws RN n A0 A1 c0 c1 K0 K1 me k ce a b D m cd B q2 cb dat wd w hw hd hB hwd ha hb hF hk2.1 hk2.2
    | false =>
      have hmF : m = useM ⟨k, ce, a, b, dat, wd⟩ false := by simp [useM, hk, hB.len]
      have h8 : k = 5 ∨ k = 6 ∨ k = 7 ∨ k = 8 ∨ k = 9 ∨ k = 10 ∨ k = 11 ∨ k = 12 := by omega
      clear hk hk2
      rcases h8 with rfl | rfl | rfl | rfl | rfl | rfl | rfl | rfl
      · rw [show doK ⟨T, C, ws, RN, n, K0, K1⟩ me ⟨5, ce, a, b, dat, wd⟩ false = ⟨T, C, ws, (RN : Int), n, act0 ((RN : Int) % 2) me (appK dat) K0, act1 ((RN : Int) % 2) me (appK dat) K1⟩ by simp [doK, diskKind, strRoot, strK0, strK1], show doR ⟨T, C, ws, RN, n, K0, K1⟩ ⟨5, ce, a, b, dat, wd⟩ false = ResK.zero by simp [doR, diskKind, strR]]
        exact rdo_5 T C AA q c ws RN n A0 A1 c0 c1 K0 K1 me ce a b D m cd B q2 cb dat wd w hw hd hB hwd ha hb hF hmF
      · rw [show doK ⟨T, C, ws, RN, n, K0, K1⟩ me ⟨6, ce, a, b, dat, wd⟩ false = ⟨T, C, ws, (RN : Int), n, act0 ((RN : Int) % 2) me synK K0, act1 ((RN : Int) % 2) me synK K1⟩ by simp [doK, diskKind, strRoot, strK0, strK1], show doR ⟨T, C, ws, RN, n, K0, K1⟩ ⟨6, ce, a, b, dat, wd⟩ false = ResK.zero by simp [doR, diskKind, strR]]
        exact rdo_6 T C AA q c ws RN n A0 A1 c0 c1 K0 K1 me ce a b D m cd B q2 cb dat wd w hw hd hB hwd ha hb hF hmF
      · rw [show doK ⟨T, C, ws, RN, n, K0, K1⟩ me ⟨7, ce, a, b, dat, wd⟩ false = ⟨T, C, ws, (RN : Int), n, K0, K1⟩ by simp [doK, diskKind, strRoot, strK0, strK1], show doR ⟨T, C, ws, RN, n, K0, K1⟩ ⟨7, ce, a, b, dat, wd⟩ false = ⟨(RN : Int), [], false⟩ by simp [doR, diskKind, strR]]
        exact rdo_7 T C AA q c ws RN n A0 A1 c0 c1 K0 K1 me ce a b D m cd B q2 cb dat wd w hw hd hB hwd ha hb hF
      · rw [show doK ⟨T, C, ws, RN, n, K0, K1⟩ me ⟨8, ce, a, b, dat, wd⟩ false = ⟨T, C, ws, (RN : Int), n, K0, K1⟩ by simp [doK, diskKind, strRoot, strK0, strK1], show doR ⟨T, C, ws, RN, n, K0, K1⟩ ⟨8, ce, a, b, dat, wd⟩ false = ⟨0, readK ((RN : Int) % 2) ce K0 K1, false⟩ by simp [doR, diskKind, strR]]
        exact rdo_8 T C AA q c ws RN n A0 A1 c0 c1 K0 K1 me ce a b D m cd B q2 cb dat wd w hw hd hB hwd ha hb hF
      · rw [show doK ⟨T, C, ws, RN, n, K0, K1⟩ me ⟨9, ce, a, b, dat, wd⟩ false = ⟨T, C, ws, (RN : Int), n, clr0 (1 - (RN : Int) % 2) n K0, clr1 (1 - (RN : Int) % 2) n K1⟩ by simp [doK, diskKind, strRoot, strK0, strK1], show doR ⟨T, C, ws, RN, n, K0, K1⟩ ⟨9, ce, a, b, dat, wd⟩ false = ResK.zero by simp [doR, diskKind, strR]]
        exact rdo_9 T C AA q c ws RN n A0 A1 c0 c1 K0 K1 me ce a b D m cd B q2 cb dat wd w hw hd hB hwd ha hb hF hmF
      · rw [show doK ⟨T, C, ws, RN, n, K0, K1⟩ me ⟨10, ce, a, b, dat, wd⟩ false = ⟨T, C, ws, (RN : Int), n, act0 (1 - (RN : Int) % 2) 0 (appK dat) K0, act1 (1 - (RN : Int) % 2) 0 (appK dat) K1⟩ by simp [doK, diskKind, strRoot, strK0, strK1], show doR ⟨T, C, ws, RN, n, K0, K1⟩ ⟨10, ce, a, b, dat, wd⟩ false = ResK.zero by simp [doR, diskKind, strR]]
        exact rdo_10 T C AA q c ws RN n A0 A1 c0 c1 K0 K1 me ce a b D m cd B q2 cb dat wd w hw hd hB hwd ha hb hF hmF
      · rw [show doK ⟨T, C, ws, RN, n, K0, K1⟩ me ⟨11, ce, a, b, dat, wd⟩ false = ⟨T, C, ws, (RN : Int), n, act0 (1 - (RN : Int) % 2) 0 synK K0, act1 (1 - (RN : Int) % 2) 0 synK K1⟩ by simp [doK, diskKind, strRoot, strK0, strK1], show doR ⟨T, C, ws, RN, n, K0, K1⟩ ⟨11, ce, a, b, dat, wd⟩ false = ResK.zero by simp [doR, diskKind, strR]]
        exact rdo_11 T C AA q c ws RN n A0 A1 c0 c1 K0 K1 me ce a b D m cd B q2 cb dat wd w hw hd hB hwd ha hb hF hmF
      · rw [show doK ⟨T, C, ws, RN, n, K0, K1⟩ me ⟨12, ce, a, b, dat, wd⟩ false = ⟨T, C, ws, ((RN : Int) + 1) % 18446744073709551616, n, K0, K1⟩ by simp [doK, diskKind, strRoot, strK0, strK1], show doR ⟨T, C, ws, RN, n, K0, K1⟩ ⟨12, ce, a, b, dat, wd⟩ false = ResK.zero by simp [doR, diskKind, strR]]
        exact rdo_12 T C AA q c ws RN n A0 A1 c0 c1 K0 K1 me ce a b D m cd B q2 cb dat wd w hw hd hB hwd ha hb hF
  · have hk' : diskKind k = false := by simpa using hk
    by_cases h13 : k = 13
    · subst h13
      by_cases hne : wd.length = ws.length
      · rw [show doK ⟨T, C, ws, RN, n, K0, K1⟩ me ⟨13, ce, a, b, dat, wd⟩ fail = ⟨T, C, wd, RN, n, K0, K1⟩ by simp [doK, hne, diskKind], show doR ⟨T, C, ws, RN, n, K0, K1⟩ ⟨13, ce, a, b, dat, wd⟩ fail = ResK.zero by simp [doR, diskKind]]
        exact rdo_inst_yes T C AA q c ws RN n A0 A1 c0 c1 K0 K1 me ce a b D m cd B q2 cb dat wd w hw hd hB hwd ha hb hF fail hne
      · rw [show doK ⟨T, C, ws, RN, n, K0, K1⟩ me ⟨13, ce, a, b, dat, wd⟩ fail = ⟨T, C, ws, RN, n, K0, K1⟩ by simp [doK, hne, diskKind], show doR ⟨T, C, ws, RN, n, K0, K1⟩ ⟨13, ce, a, b, dat, wd⟩ fail = ResK.zero by simp [doR, diskKind]]
        exact rdo_inst_no T C AA q c ws RN n A0 A1 c0 c1 K0 K1 me ce a b D m cd B q2 cb dat wd w hw hd hB hwd ha hb hF fail hne
    · have eK : doK ⟨T, C, ws, RN, n, K0, K1⟩ me ⟨k, ce, a, b, dat, wd⟩ fail = ⟨T, C, wordsK ws ⟨k, ce, a, b, dat, wd⟩, RN, n, K0, K1⟩ := by simp [doK, hk', h13]
      have eR : doR ⟨T, C, ws, RN, n, K0, K1⟩ ⟨k, ce, a, b, dat, wd⟩ fail = wordsR ws ⟨k, ce, a, b, dat, wd⟩ := by simp [doR, hk', h13]
      rw [eK, eR]
      clear eK eR
      cases hin : inW ws.length ⟨k, ce, a, b, dat, wd⟩ with
      | false =>
        rw [show wordsK ws ⟨k, ce, a, b, dat, wd⟩ = ws by simp [wordsK, hin], show wordsR ws ⟨k, ce, a, b, dat, wd⟩ = ResK.zero by simp [wordsR, hin]]
        exact rdo_word_no T C AA q c ws RN n A0 A1 c0 c1 K0 K1 me k ce a b D m cd B q2 cb dat wd w hw hd hB hwd ha hb hF fail hk' h13 hin
      | true =>
        obtain ⟨i1, i2, i3, i4⟩ := inW_iff.1 hin
        simp only at i1 i2 i3 i4
        have hc1 : ce < (q : Int) := by rw [← hw.len]; exact i4
        rw [show wordsK ws ⟨k, ce, a, b, dat, wd⟩ = ws.set ce.toNat (turnX k (ws.getD ce.toNat 0) a b) by simp [wordsK, hin], show wordsR ws ⟨k, ce, a, b, dat, wd⟩ = ⟨turnN k (ws.getD ce.toNat 0) a, [], false⟩ by simp [wordsR, hin]]
        have h5 : k = 0 ∨ k = 1 ∨ k = 2 ∨ k = 3 ∨ k = 4 := by omega
        clear hk hk' h13 i1 i2
        rcases h5 with rfl | rfl | rfl | rfl | rfl
        · have hs : ws.set ce.toNat (turnX 0 (ws.getD ce.toNat 0) a b) = ws := by
            simp only [turnX]
            refine List.ext_getElem? fun x => ?_
            by_cases hxi : x = ce.toNat
            · subst hxi
              rw [show (if (0 : Int) = 1 then a else if (0 : Int) = 2 then (if ws.getD ce.toNat 0 = a then b else ws.getD ce.toNat 0) else if (0 : Int) = 3 then (ws.getD ce.toNat 0 + a) % 18446744073709551616 else if (0 : Int) = 4 then a else ws.getD ce.toNat 0) = ws.getD ce.toNat 0 by simp]
              have hil : ce.toNat < ws.length := by omega
              rw [List.getElem?_set_self hil, List.getElem?_eq_getElem hil]; simp [List.getD_eq_getElem?_getD, hil]
            · rw [List.getElem?_set_ne (fun e => hxi e.symm)]
          rw [hs, show turnN 0 (ws.getD ce.toNat 0) a = ws.getD ce.toNat 0 by simp [turnN]]
          exact rdo_w0 T C AA q c ws RN n A0 A1 c0 c1 K0 K1 me ce a b D m cd B q2 cb dat wd w hw hd hB hwd ha hb hF fail i3 hc1
        · rw [show turnX 1 (ws.getD ce.toNat 0) a b = a by simp [turnX], show turnN 1 (ws.getD ce.toNat 0) a = 0 by simp [turnN]]
          exact rdo_w1 T C AA q c ws RN n A0 A1 c0 c1 K0 K1 me ce a b D m cd B q2 cb dat wd w hw hd hB hwd ha hb hF fail i3 hc1
        · by_cases hne : ws.getD ce.toNat 0 = a
          · rw [show turnX 2 (ws.getD ce.toNat 0) a b = b by simp only [turnX, hne]; simp, show turnN 2 (ws.getD ce.toNat 0) a = 1 by simp only [turnN, hne]; simp]
            exact rdo_w2y T C AA q c ws RN n A0 A1 c0 c1 K0 K1 me ce a b D m cd B q2 cb dat wd w hw hd hB hwd ha hb hF fail i3 hc1 hne
          · have hs : ws.set ce.toNat (turnX 2 (ws.getD ce.toNat 0) a b) = ws := by
              rw [show turnX 2 (ws.getD ce.toNat 0) a b = ws.getD ce.toNat 0 by simp only [turnX, if_neg hne]; simp]
              refine List.ext_getElem? fun x => ?_
              by_cases hxi : x = ce.toNat
              · subst hxi
                have hil : ce.toNat < ws.length := by omega
                rw [List.getElem?_set_self hil, List.getElem?_eq_getElem hil]; simp [List.getD_eq_getElem?_getD, hil]
              · rw [List.getElem?_set_ne (fun e => hxi e.symm)]
            rw [hs, show turnN 2 (ws.getD ce.toNat 0) a = 0 by simp only [turnN, if_neg hne]; simp]
            exact rdo_w2n T C AA q c ws RN n A0 A1 c0 c1 K0 K1 me ce a b D m cd B q2 cb dat wd w hw hd hB hwd ha hb hF fail i3 hc1 hne
        · rw [show turnX 3 (ws.getD ce.toNat 0) a b = (ws.getD ce.toNat 0 + a) % 18446744073709551616 by simp [turnX], show turnN 3 (ws.getD ce.toNat 0) a = ws.getD ce.toNat 0 by simp [turnN]]
          exact rdo_w3 T C AA q c ws RN n A0 A1 c0 c1 K0 K1 me ce a b D m cd B q2 cb dat wd w hw hd hB hwd ha hb hF fail i3 hc1
        · rw [show turnX 4 (ws.getD ce.toNat 0) a b = a by simp [turnX], show turnN 4 (ws.getD ce.toNat 0) a = ws.getD ce.toNat 0 by simp [turnN]]
          exact rdo_w4 T C AA q c ws RN n A0 A1 c0 c1 K0 K1 me ce a b D m cd B q2 cb dat wd w hw hd hB hwd ha hb hF fail i3 hc1
end Go.Proofs.Ytennnhfaghdeoaa
