/- Proved: the law StreamStays (what is synced stays, whatever is appended, and cut) returns true at every input and turns none of its arguments. No condition. -/
import Derived.Test.YthncdpopacdekaaShown6
import Derived.Test.YthncdpopacdekaaLift
import Derived.Test.YthncdpopacdekaaStreamOpen
import Derived.Test.YthncdpopacdekaaSlices
import Derived.Deep.CutRange
namespace Go.Proofs.Ythncdpopacdekaa
open Go.ChangeShapes Go.WideShapes Go.ChangeAt Go.RowKit

/-- a row of texts, and a row of yes and no -/
structure RowsV (w : World) (A : Option Addr) (n c : Nat) (ls : List (List UInt8)) : Prop where
  len : ls.length = n
  at_ : ∀ i l, ls[i]? = some l → ∃ a A' m c', A = some a ∧ w.cell? (a.add i) = some (.slice A' m c') ∧ BytesV w A' m c' l
structure BoolsV (w : World) (A : Option Addr) (n c : Nat) (bs : List Bool) : Prop where
  len : bs.length = n
  at_ : ∀ i b, bs[i]? = some b → ∃ a, A = some a ∧ w.cell? (a.add i) = some (.bool b)
theorem take_flat {ls : List (List UInt8)} {j : Nat} {l : List UInt8} (h : ls[j]? = some l) : (ls.take (j + 1)).flatten = (ls.take j).flatten ++ l := by
  obtain ⟨h1, h2⟩ := List.getElem?_eq_some_iff.1 h
  rw [List.take_succ_eq_append_getElem h1, List.flatten_append, h2]
  simp
theorem str_cat (d a : List UInt8) : ((⟨d.toArray⟩ : ByteArray) ++ ⟨a.toArray⟩) = ⟨(d ++ a).toArray⟩ := by
  ext1
  simp
theorem str_cat_list (d a : List UInt8) : ((⟨d.toArray⟩ : ByteArray) ++ ⟨a.toArray⟩).toList = d ++ a := by rw [str_cat]; simp
set_option maxRecDepth 100000 in
set_option maxHeartbeats 4000000 in
theorem stays_walk (A B : Option Addr) (n c m c2 : Nat) (more : Int) (ls : List (List UInt8)) (bs : List Bool) (w : World) (hA : RowsV w A n c ls) (hB : BoolsV w B m c2 bs) (hn : n ≤ 20) (hm : n ≤ m) :
    Calls Try.prog 4 #[.slice A n c, .slice B m c2, .int .i64 more] w fun e w' => e = .returned (.bool true) ∧ Ext w w' := by
  have hb0 : ∀ W : World, (Instr.build 24 #[]).run Try.prog W = .ok (.agg #[.slice none 0 0, .int .i64 0]) W := fun _ => by kernel_rfl
  have hm' : ¬ m < n := by omega
  go_enter Try.func4, Try.ntmps4
  go_wp2_with (first
    | (go_at_call 13; refine (shown6_any _).mono ?_; rintro e w1 ⟨rfl, hx1⟩))
  have hsz := hx1.size
  have hE : Ext w (w1.alloc (.cells #[.slice none 0 0, .int .i64 0] 24)) := hx1.trans ((Below.refl _ w1).alloc (Nat.le_refl _) _)
  have hg0 : (w1.alloc (.cells #[.slice none 0 0, .int .i64 0] 24)).heap[w1.heap.size]? = some (.cells #[.slice none 0 0, .int .i64 0] 24 (0, 0)) := heap_alloc_new w1 _
  generalize w1.alloc (.cells #[.slice none 0 0, .int .i64 0] 24) = W at *
  generalize w1.heap.size = g at *
  go_loopw [9, 10, 11] (fun s k i wr => ∃ (j kp : Nat) (D : Option Addr) (q cd : Nat), j ≤ n ∧ i = .int .i64 j ∧ s = .string ⟨((ls.take j).flatten).toArray⟩ ∧ k = .int .i64 kp ∧ kp ≤ q ∧ q ≤ 60 * j ∧ BytesV wr D q cd ((ls.take j).flatten) ∧ wr.heap[g]? = some (.cells #[.slice D q cd, .int .i64 kp] 24 (0, 0)) ∧ Ext w wr) (fun _ _ i _ => n - (intOf i).toNat)
  case atStart => exact ⟨0, 0, none, 0, 0, Nat.zero_le _, rfl, rfl, rfl, Nat.le_refl _, Nat.le_refl _, bytes_nil _, hg0, hE⟩
  case round =>
    obtain ⟨j, kp, D, q, cd, hj, rfl, rfl, rfl, hkq, hq, hV, hg, hE'⟩ := hrel
    rcases Nat.lt_or_ge j n with hjn | hjn
    · have hlj : j < ls.length := by rw [hA.len]; exact hjn
      have hbj : j < bs.length := by rw [hB.len]; omega
      obtain ⟨a, A', m1, c1, rfl, hca, hVa⟩ := hA.at_ j ls[j] (List.getElem?_eq_getElem hlj)
      obtain ⟨b, rfl, hcb⟩ := hB.at_ j bs[j] (List.getElem?_eq_getElem hbj)
      have hfl := take_flat (ls := ls) (j := j) (List.getElem?_eq_getElem hlj)
      have HF := Lib.hid hfl
      clear hfl hg0
      have hca' := hE'.cell hca
      have hcb' := hE'.cell hcb
      by_cases h60 : 60 < m1
      · go_wp2
        go_ret
        exact ⟨rfl, hE'⟩
      · have hb0 : wr.cell? ⟨g, 0, none⟩ = some (.slice D q cd) := by simp [World.cell?, hg]
        have hb1 : wr.cell? ⟨g, 1, none⟩ = some (.int .i64 kp) := by simp [World.cell?, hg]
        have hVa' := hVa.ext hE'
        generalize hd : (ls.take j).flatten = d at *
        generalize hl : ls[j] = l at *
        have hqm : q + m1 ≤ 1260 := by omega
        have hX : ∀ wx, Ext wr.drew wx → wx.cell? ⟨g, 0, none⟩ = some (.slice D q cd) ∧ wx.cell? ⟨g, 1, none⟩ = some (.int .i64 kp) ∧ wx.cell? (a.add j) = some (.slice A' m1 c1) ∧ BytesV wx D q cd d ∧ BytesV wx A' m1 c1 l ∧ wx.heap[g]? = some (.cells #[.slice D q cd, .int .i64 kp] 24 (0, 0)) ∧ Ext w wx := fun wx hx =>
          ⟨hx.drawn.cell hb0, hx.drawn.cell hb1, hx.drawn.cell hca', hV.ext hx.drawn, hVa'.ext hx.drawn, heap_ext hg hx.drawn, hE'.trans hx.drawn⟩
        go_wp2_with fail
        clear hb0 hb1 hca' hcb' hVa' hg
        refine' wp_region_sure ⟨((some 40, [], none) :: (some 41, [], none) :: (some 42, [], none) :: (some 43, [1, 2], none) :: (some 44, [3], none) :: (some 45, [0, 4], none) :: (none, [5, 5, 0, 1, 2, 3, 4, 5], none) :: []), (0 :: 0 :: 0 :: 6 :: 14 :: 31 :: 63 :: []), (true :: true :: true :: true :: true :: false :: []), [], 0⟩ 6 145 ((0, 40) :: (1, 41) :: (2, 42) :: (3, 43) :: (4, 44) :: (5, 45) :: []) ((0, 40) :: (1, 41) :: (2, 42) :: (3, 43) :: (4, 44) :: (5, 45) :: []) (.det _ :: .det _ :: .det _ :: .det _ :: .det _ :: Good.of (fun v w => ∃ D2 cd2, v = .agg #[.slice D2 (q + m1) cd2, .int .i64 kp] ∧ BytesV w D2 (q + m1) cd2 (d ++ l)) (fun v w w' h hx => let ⟨D2, cd2, e, hb⟩ := h; ⟨D2, cd2, e, hb.ext hx⟩) :: []) (by kernel_rfl) (by kernel_rfl) (by kernel_rfl) rfl (by kernel_rfl) (by kernel_rfl) rfl ?hone ?hend
        case hone =>
          intro CS frS VS hCS ha hV
          have qs0 := slot_val (t := 0) ha rfl
          simp only [List.getElem_toArray, List.getElem_cons_succ, List.getElem_cons_zero] at qs0
          have qs8 := slot_val (t := 8) ha rfl
          simp only [List.getElem_toArray, List.getElem_cons_succ, List.getElem_cons_zero] at qs8
          have qs11 := slot_val (t := 11) ha rfl
          simp only [List.getElem_toArray, List.getElem_cons_succ, List.getElem_cons_zero] at qs11
          have HCS := Lib.hid hCS
          have HVS := Lib.hid hV
          clear ha hCS hV
          -- 0: slot 40 := Op.load 24 t8
          refine sure_det (js := []) (ts := [8]) (gd := none) (place_at HVS.out (k := 0) rfl) (by rw [HCS.out]; kernel_rfl) ?_ ?_
          · intro wx hx ρ hρ hs hf
            have hρc := hρ.const
            have hρf := hρ.func
            obtain ⟨fx8, -⟩ := hf
            rw [qs8] at fx8
            clear hs
            clear HCS HVS qs0 qs8 qs11
            refine run_plain ?_
            obtain ⟨b0, b1, b2, hVx, hVy, -⟩ := hX wx hx
            unfold runs
            go_simp
            exact detK.mk
          -- 1: slot 41 := Op.move t0
          refine sure_det (js := []) (ts := [0]) (gd := none) (place_at HVS.out (k := 1) rfl) (by rw [HCS.out]; kernel_rfl) ?_ ?_
          · intro wx hx ρ hρ hs hf
            have hρc := hρ.const
            have hρf := hρ.func
            obtain ⟨fx0, -⟩ := hf
            rw [qs0] at fx0
            clear hs
            clear HCS HVS qs0 qs8 qs11
            refine run_plain ?_
            refine op_move rfl fx0 ?_
            exact detK.mk
          -- 2: slot 42 := Op.move t11
          refine sure_det (js := []) (ts := [11]) (gd := none) (place_at HVS.out (k := 2) rfl) (by rw [HCS.out]; kernel_rfl) ?_ ?_
          · intro wx hx ρ hρ hs hf
            have hρc := hρ.const
            have hρf := hρ.func
            obtain ⟨fx11, -⟩ := hf
            rw [qs11] at fx11
            clear hs
            clear HCS HVS qs0 qs8 qs11
            refine run_plain ?_
            refine op_move rfl fx11 ?_
            exact detK.mk
          -- 3: slot 43 := Op.indexAddr 32 t41 t42
          refine sure_det (js := [(1, 41), (2, 42)]) (ts := []) (gd := none) (place_at HVS.out (k := 3) rfl) (by rw [HCS.out]; kernel_rfl) ?_ ?_
          · intro wx hx ρ hρ hs hf
            have hρc := hρ.const
            have hρf := hρ.func
            obtain ⟨sn1, sn2, -⟩ := hs
            rw [place_at HVS.out (k := 1) rfl] at sn1
            replace sn1 : ρ (.tmp 41) = _ := sn1
            rw [place_at HVS.out (k := 2) rfl] at sn2
            replace sn2 : ρ (.tmp 42) = _ := sn2
            clear hf
            clear HCS HVS qs0 qs8 qs11
            refine run_plain ?_
            unfold runs
            go_simp
            exact detK.mk
          -- 4: slot 44 := Op.load 22 t43
          refine sure_det (js := [(3, 43)]) (ts := []) (gd := none) (place_at HVS.out (k := 4) rfl) (by rw [HCS.out]; kernel_rfl) ?_ ?_
          · intro wx hx ρ hρ hs hf
            have hρc := hρ.const
            have hρf := hρ.func
            obtain ⟨sn3, -⟩ := hs
            rw [place_at HVS.out (k := 3) rfl] at sn3
            replace sn3 : ρ (.tmp 43) = _ := sn3
            clear hf
            clear HCS HVS qs0 qs8 qs11
            refine run_plain ?_
            obtain ⟨b0, b1, b2, hVx, hVy, -⟩ := hX wx hx
            unfold runs
            go_simp
            exact detK.mk
          -- 5: slot 45 := Op.call { call ( 17), args := #[t40, t44], argTypes := #[24, 22] }
          refine sure_op (js := [(0, 40), (4, 44)]) (ts := []) (gd := none) (place_at HVS.out (k := 5) rfl) (by rw [HCS.out]; kernel_rfl) ?_ ?_
          · intro wx hx ρ hρ hs hf
            have hρc := hρ.const
            have hρf := hρ.func
            obtain ⟨sn0, sn4, -⟩ := hs
            rw [place_at HVS.out (k := 0) rfl] at sn0
            replace sn0 : ρ (.tmp 40) = _ := sn0
            rw [place_at HVS.out (k := 4) rfl] at sn4
            replace sn4 : ρ (.tmp 44) = _ := sn4
            clear hf
            clear HCS HVS qs0 qs8 qs11
            refine run_plain ?_
            obtain ⟨b0, b1, b2, hVx, hVy, -⟩ := hX wx hx
            refine op_call rfl hρ Try.call17 (map_two sn0 sn4) ?_
            refine Calls.mono (append_any D A' q cd m1 c1 kp d l _ hVx hVy (by omega)) ?_
            rintro e w' ⟨D2, cd2, rfl, hV, hx5⟩
            exact ⟨_, rfl, hx5, D2, cd2, rfl, hV⟩
          exact trivial
        case hend =>
          intro xs wx hx hg
          have gk0 : xs 0 = _ := goods_get hg (i := 0) (j := 0) (d := 40) rfl
          have gk1 : xs 1 = _ := goods_get hg (i := 1) (j := 1) (d := 41) rfl
          have gk2 : xs 2 = _ := goods_get hg (i := 2) (j := 2) (d := 42) rfl
          have gk3 : xs 3 = _ := goods_get hg (i := 3) (j := 3) (d := 43) rfl
          have gk4 : xs 4 = _ := goods_get hg (i := 4) (j := 4) (d := 44) rfl
          have gk5 : ∃ D2 cd2, (xs 5) = .agg #[.slice D2 (q + m1) cd2, .int .i64 kp] ∧ BytesV wx D2 (q + m1) cd2 (d ++ l) := goods_get hg (i := 5) (j := 5) (d := 45) rfl
          clear hg
          simp only [putAll, gk0, gk1, gk2, gk3, gk4]
          clear gk0 gk1 gk2 gk3 gk4
          generalize xs 5 = vx5 at gk5 ⊢
          clear xs
          simp only [Act.put, List.setIfInBounds_toArray, List.set_cons_zero, List.set_cons_succ, List.drop_succ_cons, List.drop_zero]
          obtain ⟨D2, cd2, e5, hV3⟩ := gk5
          subst e5
          obtain ⟨b0, b1, -, -, -, hg3, hE3⟩ := hX wx hx
          have b2 : wx.frozen? ⟨g, 0, none⟩ = false := by simp [World.frozen?, hg3]
          have b3 : wx.frozen? ⟨g, 1, none⟩ = false := by simp [World.frozen?, hg3]
          clear hX
          go_upto_region 13 with (fail)
          have hV4 := hV3.box hg3 (.slice D2 (q + m1) cd2) (.int .i64 kp) 0 1
          have hg4 := heap_setCell_at (i := 1) (u := .int .i64 kp) (heap_setCell_at (i := 0) (u := .slice D2 (q + m1) cd2) hg3)
          have hE4 : Ext w ((wx.setCell ⟨g, 0, none⟩ (.slice D2 (q + m1) cd2)).setCell ⟨g, 1, none⟩ (.int .i64 kp)) := Below.setCell (Below.setCell hE3 hsz _) hsz _
          simp only [List.setIfInBounds_toArray, List.set_cons_zero, List.set_cons_succ] at hg4
          generalize (wx.setCell ⟨g, 0, none⟩ (.slice D2 (q + m1) cd2)).setCell ⟨g, 1, none⟩ (.int .i64 kp) = W4 at *
          have ca4 := hE4.cell hca
          have cb4 := hE4.cell hcb
          have e0 : W4.cell? ⟨g, 0, none⟩ = some (.slice D2 (q + m1) cd2) := by simp [World.cell?, hg4]
          have e1 : W4.cell? ⟨g, 1, none⟩ = some (.int .i64 kp) := by simp [World.cell?, hg4]
          have e2 : W4.frozen? ⟨g, 0, none⟩ = false := by simp [World.frozen?, hg4]
          have e3 : W4.frozen? ⟨g, 1, none⟩ = false := by simp [World.frozen?, hg4]
          have q1 := run_convert_bytesV (P := Try.prog) (hVa.ext hE4) Try.underlying22 Try.underlying5 Try.underlying9
          have t1 := str_cat_list d l
          have dl : d.length = q := hV.len
          have ll : l.length = m1 := hVa.len
          have l1 : ¬ 9223372036854775807 < d.length + l.length := by omega
          have DL := Lib.hid dl
          have LL := Lib.hid ll
          clear dl ll hV3 hg3 hE3 b0 b1 b2 b3 hx hV hE' hE hx1
          cases hbb : bs[j]
          · rw [hbb] at cb4
            go_wp2
            go_roundw
            case rel => exact ⟨j + 1, kp, D2, q + m1, cd2, by omega, by go_num, by rw [HF.out, str_cat], rfl, by omega, by omega, by rw [HF.out]; exact hV4, hg4, hE4⟩
            case measure => simp [intOf]; omega
          · rw [hbb] at cb4
            go_wp2_with fail
            refine (sync_any D2 (q + m1) cd2 kp (by omega) _).mono ?_
            rintro e w5 ⟨rfl, hx5⟩
            have hg5 := heap_ext hg4 hx5
            have hE5 := hE4.trans hx5
            have hV5 := (hV4.ext hx5).box hg5 (.slice D2 (q + m1) cd2) (.int .i64 ((q + m1 : Nat) : Int)) 0 1
            have b0 := hx5.cell e0
            have b1 := hx5.cell e1
            have b2 : w5.frozen? ⟨g, 0, none⟩ = false := by simp [World.frozen?, hg5]
            have b3 : w5.frozen? ⟨g, 1, none⟩ = false := by simp [World.frozen?, hg5]
            have hg6 := heap_setCell_at (i := 1) (u := .int .i64 ((q + m1 : Nat) : Int)) (heap_setCell_at (i := 0) (u := .slice D2 (q + m1) cd2) hg5)
            simp only [List.setIfInBounds_toArray, List.set_cons_zero, List.set_cons_succ] at hg6
            have hE6 : Ext w ((w5.setCell ⟨g, 0, none⟩ (.slice D2 (q + m1) cd2)).setCell ⟨g, 1, none⟩ (.int .i64 ((q + m1 : Nat) : Int))) := Below.setCell (Below.setCell hE5 hsz _) hsz _
            clear e0 e1 e2 e3 hg4 hE4 hV4 ca4 cb4 q1 hx5 hg5 hE5
            go_upto_region 16 with (fail)
            clear b0 b1 b2 b3
            go_wp2
            go_roundw
            case rel =>
              refine ⟨j + 1, q + m1, D2, q + m1, cd2, by omega, by go_num, by rw [HF.out, str_cat], ?_, Nat.le_refl _, by omega, by rw [HF.out]; exact hV5, hg6, hE6⟩
              exact congrArg (Value.int .i64) (by have h1 := DL.out; have h2 := LL.out; omega)
            case measure => simp [intOf]; omega
    · obtain rfl : j = n := by omega
      have hall : (ls.take j).flatten = ls.flatten := by rw [List.take_of_length_le (by rw [hA.len]; exact Nat.le_refl _)]
      rw [hall] at hV ⊢
      have b0 : wr.cell? ⟨g, 0, none⟩ = some (.slice D q cd) := by simp [World.cell?, hg]
      have b1 : wr.cell? ⟨g, 1, none⟩ = some (.int .i64 kp) := by simp [World.cell?, hg]
      have hN := cutN_le (n := q) (k := kp) (more := more) (by omega) (by omega)
      generalize ls.flatten = d at *
      have hqn : q ≤ 1200 := by omega
      go_upto_region 17 with (fail)
      clear hA hB hb0 hE hg0 hall
      go_wp2_with fail
      refine (cut_any D q cd kp more (by omega) hV.le (by omega) (by omega) _).mono ?_
      rintro e w3 ⟨rfl, hx3⟩
      go_upto_region 18 with (fail)
      have hx4 : Ext wr (w3.alloc (.cells #[.slice D (cutN q kp more) (cutN q kp more), .int .i64 (cutN q kp more)] 24)) := hx3.trans ((Below.refl _ w3).alloc (Nat.le_refl _) _)
      have e0 : (w3.alloc (.cells #[.slice D (cutN q kp more) (cutN q kp more), .int .i64 (cutN q kp more)] 24)).cell? ⟨w3.heap.size, 0, none⟩ = some (.slice D (cutN q kp more) (cutN q kp more)) := by simp [go_sem]
      have e1 : (w3.alloc (.cells #[.slice D (cutN q kp more) (cutN q kp more), .int .i64 (cutN q kp more)] 24)).cell? ⟨w3.heap.size, 1, none⟩ = some (.int .i64 (cutN q kp more)) := by simp [go_sem]
      have hkN : kp ≤ cutN q kp more := by unfold cutN; omega
      have hcase : (¬ 0 ≤ more ∧ ((cutN q kp more : Int) == (kp : Int)) = true ∧ more < (q : Int) - (kp : Int)) ∨ (0 ≤ more ∧ True ∧ more < (q : Int) - (kp : Int)) ∨ (0 ≤ more ∧ ((cutN q kp more : Int) == (q : Int)) = true ∧ ¬ more < (q : Int) - (kp : Int)) := by
        rcases Int.lt_or_le more 0 with h | h
        · exact .inl ⟨by omega, by simp; unfold cutN; omega, by omega⟩
        · rcases Int.lt_or_le more ((q : Int) - kp) with h2 | h2
          · exact .inr (.inl ⟨h, trivial, h2⟩)
          · exact .inr (.inr ⟨h, by simp; unfold cutN; omega, by omega⟩)
      have hdl : d.length = q := hV.len
      have hwq : IntKind.i64.wrap ((q : Int) - (kp : Int)) = (q : Int) - (kp : Int) := by rw [IntKind.wrap_i64]; omega
      have hr1 : rightB (cutN q kp more : Int) (cutN q kp more) = true := by simp [rightB]
      have hr2 : rightB (kp : Int) q = true := by simp [rightB]; omega
      generalize cutN q kp more = N at *
      have hNk : ¬ N < kp := by omega
      have hNq : ¬ q < N := by omega
      have hext : (⟨d.toArray⟩ : ByteArray).extract 0 N = ⟨(d.take N).toArray⟩ := by
        ext1
        rw [ByteArray.data_extract]
        simp
      have hX : ∀ wx, Ext (w3.alloc (.cells #[.slice D N N, .int .i64 N] 24)) wx → wx.cell? ⟨g, 0, none⟩ = some (.slice D q cd) ∧ wx.cell? ⟨g, 1, none⟩ = some (.int .i64 kp) ∧ wx.cell? ⟨w3.heap.size, 0, none⟩ = some (.slice D N N) ∧ wx.cell? ⟨w3.heap.size, 1, none⟩ = some (.int .i64 N) ∧ BytesV wx D q cd d ∧ Ext w wx := fun wx hx =>
        ⟨hx.cell (hx4.cell b0), hx.cell (hx4.cell b1), hx.cell e0, hx.cell e1, hV.ext (hx4.trans hx), (hE'.trans hx4).trans hx⟩
      generalize w3.alloc (.cells #[.slice D N N, .int .i64 N] 24) = W5 at *
      generalize w3.heap.size = gc at *
      obtain ⟨x0, x1, x2, x3, -, -⟩ := hX W5 (Ext.refl _)
      clear e0 e1 hx4 hx3 b0 b1 hg hE' hV hx1
      go_upto_region 19 with (fail)
      clear x0 x1 x2 x3
      refine' wp_region_sure_all ⟨((some 67, [], none) :: (some 68, [], none) :: (some 69, [0, 1], none) :: (some 70, [2], none) :: (some 71, [3], some (3, false)) :: (some 72, [3], some (3, false)) :: (some 73, [5, 3], some (3, false)) :: (some 74, [4, 6, 3], some (3, false)) :: (some 75, [3, 7], none) :: (some 76, [8, 3], none) :: (some 77, [9], some (9, false)) :: (some 78, [10, 9], some (9, false)) :: (some 79, [11, 9], some (9, false)) :: (some 80, [9], some (9, false)) :: (some 81, [9], some (9, false)) :: (some 82, [13, 14, 9], some (9, false)) :: (some 83, [12, 15, 9], some (9, false)) :: (some 84, [9, 16], none) :: (some 85, [17, 9], none) :: (some 86, [18], some (18, false)) :: (some 87, [19, 18], some (18, false)) :: (some 88, [18], some (18, false)) :: (some 89, [20, 21, 18], some (18, false)) :: (some 90, [18, 22], none) :: (some 91, [23, 18], none) :: (some 92, [24], some (24, false)) :: (some 93, [25, 24, 24], some (24, false)) :: (some 94, [26, 24], some (24, false)) :: (some 95, [24, 27], none) :: (some 96, [28, 26], none) :: (some 97, [29], some (29, false)) :: (some 98, [30, 29, 29], some (29, false)) :: (some 99, [31, 29], some (29, false)) :: (some 100, [29, 32], none) :: (some 101, [33, 31], none) :: (some 102, [34], some (34, false)) :: (some 103, [35, 34], some (34, false)) :: (some 104, [34], some (34, false)) :: (some 105, [36, 37, 34], some (34, false)) :: (some 106, [34, 38], none) :: []), (0 :: 0 :: 3 :: 7 :: 15 :: 15 :: 47 :: 127 :: 255 :: 511 :: 1023 :: 2047 :: 4095 :: 1023 :: 1023 :: 25599 :: 65535 :: 131071 :: 262143 :: 524287 :: 1048575 :: 524287 :: 4194303 :: 8388607 :: 16777215 :: 33554431 :: 67108863 :: 134217727 :: 268435455 :: 536870911 :: 1073741823 :: 2147483647 :: 4294967295 :: 8589934591 :: 17179869183 :: 34359738367 :: 68719476735 :: 34359738367 :: 274877906943 :: 549755813887 :: []), (true :: true :: true :: true :: true :: true :: true :: true :: true :: true :: true :: true :: true :: true :: true :: true :: true :: true :: true :: true :: true :: true :: true :: true :: true :: true :: true :: true :: true :: true :: true :: true :: true :: true :: true :: true :: true :: true :: true :: true :: []), [], 0⟩ 40 145 ((0, 67) :: (1, 68) :: (2, 69) :: (3, 70) :: (4, 71) :: (5, 72) :: (6, 73) :: (7, 74) :: (8, 75) :: (9, 76) :: (10, 77) :: (11, 78) :: (12, 79) :: (13, 80) :: (14, 81) :: (15, 82) :: (16, 83) :: (17, 84) :: (18, 85) :: (19, 86) :: (20, 87) :: (21, 88) :: (22, 89) :: (23, 90) :: (24, 91) :: (25, 92) :: (26, 93) :: (27, 94) :: (28, 95) :: (29, 96) :: (30, 97) :: (31, 98) :: (32, 99) :: (33, 100) :: (34, 101) :: (35, 102) :: (36, 103) :: (37, 104) :: (38, 105) :: (39, 106) :: []) ((0, 67) :: (1, 68) :: (2, 69) :: (3, 70) :: (4, 71) :: (5, 72) :: (6, 73) :: (7, 74) :: (8, 75) :: (9, 76) :: (10, 77) :: (11, 78) :: (12, 79) :: (13, 80) :: (14, 81) :: (15, 82) :: (16, 83) :: (17, 84) :: (18, 85) :: (19, 86) :: (20, 87) :: (21, 88) :: (22, 89) :: (23, 90) :: (24, 91) :: (25, 92) :: (26, 93) :: (27, 94) :: (28, 95) :: (29, 96) :: (30, 97) :: (31, 98) :: (32, 99) :: (33, 100) :: (34, 101) :: (35, 102) :: (36, 103) :: (37, 104) :: (38, 105) :: (39, 106) :: []) (.det _ :: .det _ :: .det _ :: .det _ :: .det _ :: .det _ :: .det _ :: .det _ :: .det _ :: .det _ :: .det _ :: .det _ :: .det _ :: .det _ :: .det _ :: .det _ :: .det _ :: .det _ :: .det _ :: .det _ :: .det _ :: .det _ :: .det _ :: .det _ :: .det _ :: .det _ :: .det _ :: .det _ :: .det _ :: .det _ :: .det _ :: .det _ :: .det _ :: .det _ :: .det _ :: .det _ :: .det _ :: .det _ :: .det _ :: .det _ :: []) (by kernel_rfl) (by kernel_rfl) (by kernel_rfl) rfl (by kernel_rfl) (by kernel_rfl) rfl (by kernel_rfl) ?hone ?hend
      case hone =>
        intro CS frS VS hCS ha hV
        have qs8 := slot_val (t := 8) ha rfl
        simp only [List.getElem_toArray, List.getElem_cons_succ, List.getElem_cons_zero] at qs8
        have qs9 := slot_val (t := 9) ha rfl
        simp only [List.getElem_toArray, List.getElem_cons_succ, List.getElem_cons_zero] at qs9
        have qs10 := slot_val (t := 10) ha rfl
        simp only [List.getElem_toArray, List.getElem_cons_succ, List.getElem_cons_zero] at qs10
        have qs12 := slot_val (t := 12) ha rfl
        simp only [List.getElem_toArray, List.getElem_cons_succ, List.getElem_cons_zero] at qs12
        have qs13 := slot_val (t := 13) ha rfl
        simp only [List.getElem_toArray, List.getElem_cons_succ, List.getElem_cons_zero] at qs13
        have HCS := Lib.hid hCS
        have HVS := Lib.hid hV
        clear ha hCS hV
        -- 0: slot 67 := Op.move t13
        refine sure_det (js := []) (ts := [13]) (gd := none) (place_at HVS.out (k := 0) rfl) (by rw [HCS.out]; kernel_rfl) ?_ ?_
        · intro wx hx ρ hρ hs hf
          have hρc := hρ.const
          have hρf := hρ.func
          obtain ⟨fx13, -⟩ := hf
          rw [qs13] at fx13
          clear hs
          clear HCS HVS qs8 qs9 qs10 qs12 qs13
          refine run_plain ?_
          refine op_move rfl fx13 ?_
          exact detK.mk
        -- 1: slot 68 := Op.move t10
        refine sure_det (js := []) (ts := [10]) (gd := none) (place_at HVS.out (k := 1) rfl) (by rw [HCS.out]; kernel_rfl) ?_ ?_
        · intro wx hx ρ hρ hs hf
          have hρc := hρ.const
          have hρf := hρ.func
          obtain ⟨fx10, -⟩ := hf
          rw [qs10] at fx10
          clear hs
          clear HCS HVS qs8 qs9 qs10 qs12 qs13
          refine run_plain ?_
          refine op_move rfl fx10 ?_
          exact detK.mk
        -- 2: slot 69 := Op.binOp BinOp.lss 3 t67 t68 3
        refine sure_det (js := [(0, 67), (1, 68)]) (ts := []) (gd := none) (place_at HVS.out (k := 2) rfl) (by rw [HCS.out]; kernel_rfl) ?_ ?_
        · intro wx hx ρ hρ hs hf
          have hρc := hρ.const
          have hρf := hρ.func
          obtain ⟨sn0, sn1, -⟩ := hs
          rw [place_at HVS.out (k := 0) rfl] at sn0
          replace sn0 : ρ (.tmp 67) = _ := sn0
          rw [place_at HVS.out (k := 1) rfl] at sn1
          replace sn1 : ρ (.tmp 68) = _ := sn1
          clear hf
          clear HCS HVS qs8 qs9 qs10 qs12 qs13
          refine run_plain ?_
          unfold runs
          go_simp
          exact detK.mk
        -- 3: slot 70 := Op.move t69
        refine sure_det (js := [(2, 69)]) (ts := []) (gd := none) (place_at HVS.out (k := 3) rfl) (by rw [HCS.out]; kernel_rfl) ?_ ?_
        · intro wx hx ρ hρ hs hf
          have hρc := hρ.const
          have hρf := hρ.func
          obtain ⟨sn2, -⟩ := hs
          rw [place_at HVS.out (k := 2) rfl] at sn2
          replace sn2 : ρ (.tmp 69) = _ := sn2
          clear hf
          clear HCS HVS qs8 qs9 qs10 qs12 qs13
          refine run_plain ?_
          refine op_move rfl sn2 ?_
          exact detK.mk
        -- 4: slot 71 := Op.move t13
        refine sure_det (js := [(3, 70)]) (ts := [13]) (gd := (some (70, false))) (place_at HVS.out (k := 4) rfl) (by rw [HCS.out]; kernel_rfl) ?_ ?_
        · intro wx hx ρ hρ hs hf
          have hρc := hρ.const
          have hρf := hρ.func
          obtain ⟨sn3, -⟩ := hs
          obtain ⟨fx13, -⟩ := hf
          rw [qs13] at fx13
          rw [place_at HVS.out (k := 3) rfl] at sn3
          replace sn3 : ρ (.tmp 70) = _ := sn3
          clear HCS HVS qs8 qs9 qs10 qs12 qs13
          first
            | (refine run_passed sn3 ?_
               exact detK.mk)
            | (refine run_guarded sn3 ?_
               refine op_move rfl fx13 ?_
               exact detK.mk)
        -- 5: slot 72 := Op.move t9
        refine sure_det (js := [(3, 70)]) (ts := [9]) (gd := (some (70, false))) (place_at HVS.out (k := 5) rfl) (by rw [HCS.out]; kernel_rfl) ?_ ?_
        · intro wx hx ρ hρ hs hf
          have hρc := hρ.const
          have hρf := hρ.func
          obtain ⟨sn3, -⟩ := hs
          obtain ⟨fx9, -⟩ := hf
          rw [qs9] at fx9
          rw [place_at HVS.out (k := 3) rfl] at sn3
          replace sn3 : ρ (.tmp 70) = _ := sn3
          clear HCS HVS qs8 qs9 qs10 qs12 qs13
          first
            | (refine run_passed sn3 ?_
               exact detK.mk)
            | (refine run_guarded sn3 ?_
               refine op_move rfl fx9 ?_
               exact detK.mk)
        -- 6: slot 73 := Op.call { len, args := #[t72], argTypes := #[9] }
        refine sure_det (js := [(5, 72), (3, 70)]) (ts := []) (gd := (some (70, false))) (place_at HVS.out (k := 6) rfl) (by rw [HCS.out]; kernel_rfl) ?_ ?_
        · intro wx hx ρ hρ hs hf
          have hρc := hρ.const
          have hρf := hρ.func
          obtain ⟨sn5, sn3, -⟩ := hs
          rw [place_at HVS.out (k := 5) rfl] at sn5
          replace sn5 : ρ (.tmp 72) = _ := sn5
          rw [place_at HVS.out (k := 3) rfl] at sn3
          replace sn3 : ρ (.tmp 70) = _ := sn3
          clear hf
          clear HCS HVS qs8 qs9 qs10 qs12 qs13
          first
            | (refine run_passed sn3 ?_
               exact detK.mk)
            | (refine run_guarded sn3 ?_
               unfold runs
               go_simp
               exact detK.mk)
        -- 7: slot 74 := Op.binOp BinOp.gtr 3 t71 t73 3
        refine sure_det (js := [(4, 71), (6, 73), (3, 70)]) (ts := []) (gd := (some (70, false))) (place_at HVS.out (k := 7) rfl) (by rw [HCS.out]; kernel_rfl) ?_ ?_
        · intro wx hx ρ hρ hs hf
          have hρc := hρ.const
          have hρf := hρ.func
          obtain ⟨sn4, sn6, sn3, -⟩ := hs
          rw [place_at HVS.out (k := 4) rfl] at sn4
          replace sn4 : ρ (.tmp 71) = _ := sn4
          rw [place_at HVS.out (k := 6) rfl] at sn6
          replace sn6 : ρ (.tmp 73) = _ := sn6
          rw [place_at HVS.out (k := 3) rfl] at sn3
          replace sn3 : ρ (.tmp 70) = _ := sn3
          clear hf
          clear HCS HVS qs8 qs9 qs10 qs12 qs13
          first
            | (refine run_passed sn3 ?_
               exact detK.mk)
            | (refine run_guarded sn3 ?_
               unfold runs
               go_simp
               exact detK.mk)
        -- 8: slot 75 := Op.pick t70 ((Value.bool true)) t74
        refine sure_det (js := [(3, 70), (7, 74)]) (ts := []) (gd := none) (place_at HVS.out (k := 8) rfl) (by rw [HCS.out]; kernel_rfl) ?_ ?_
        · intro wx hx ρ hρ hs hf
          have hρc := hρ.const
          have hρf := hρ.func
          obtain ⟨sn3, sn7, -⟩ := hs
          rw [place_at HVS.out (k := 3) rfl] at sn3
          replace sn3 : ρ (.tmp 70) = _ := sn3
          rw [place_at HVS.out (k := 7) rfl] at sn7
          replace sn7 : ρ (.tmp 74) = _ := sn7
          clear hf
          clear HCS HVS qs8 qs9 qs10 qs12 qs13
          refine run_plain ?_
          first | refine op_pick_t rfl sn3 (hρ.const _) ?_ | refine op_pick_f rfl sn3 sn7 ?_
          exact detK.mk
        -- 9: slot 76 := Op.move t75
        refine sure_det (js := [(8, 75)]) (ts := []) (gd := none) (place_at HVS.out (k := 9) rfl) (by rw [HCS.out]; kernel_rfl) ?_ ?_
        · intro wx hx ρ hρ hs hf
          have hρc := hρ.const
          have hρf := hρ.func
          obtain ⟨sn8, -⟩ := hs
          rw [place_at HVS.out (k := 8) rfl] at sn8
          replace sn8 : ρ (.tmp 75) = _ := sn8
          clear hf
          clear HCS HVS qs8 qs9 qs10 qs12 qs13
          refine run_plain ?_
          refine op_move rfl sn8 ?_
          exact detK.mk
        -- 10: slot 77 := Op.fieldAddr 24 t12 0
        refine sure_det (js := [(9, 76)]) (ts := [12]) (gd := (some (76, false))) (place_at HVS.out (k := 10) rfl) (by rw [HCS.out]; kernel_rfl) ?_ ?_
        · intro wx hx ρ hρ hs hf
          have hρc := hρ.const
          have hρf := hρ.func
          obtain ⟨sn9, -⟩ := hs
          obtain ⟨fx12, -⟩ := hf
          rw [qs12] at fx12
          rw [place_at HVS.out (k := 9) rfl] at sn9
          replace sn9 : ρ (.tmp 76) = _ := sn9
          clear HCS HVS qs8 qs9 qs10 qs12 qs13
          first
            | (refine run_passed sn9 ?_
               exact detK.mk)
            | (refine run_guarded sn9 ?_
               unfold runs
               go_simp
               exact detK.mk)
        -- 11: slot 78 := Op.load 22 t77
        refine sure_det (js := [(10, 77), (9, 76)]) (ts := []) (gd := (some (76, false))) (place_at HVS.out (k := 11) rfl) (by rw [HCS.out]; kernel_rfl) ?_ ?_
        · intro wx hx ρ hρ hs hf
          have hρc := hρ.const
          have hρf := hρ.func
          obtain ⟨sn10, sn9, -⟩ := hs
          rw [place_at HVS.out (k := 10) rfl] at sn10
          replace sn10 : ρ (.tmp 77) = _ := sn10
          rw [place_at HVS.out (k := 9) rfl] at sn9
          replace sn9 : ρ (.tmp 76) = _ := sn9
          clear hf
          clear HCS HVS qs8 qs9 qs10 qs12 qs13
          first
            | (refine run_passed sn9 ?_
               exact detK.mk)
            | (refine run_guarded sn9 ?_
               obtain ⟨b0, b1, b2, b3, hVx, -⟩ := hX wx hx.drawn
               unfold runs
               go_simp
               exact detK.mk)
        -- 12: slot 79 := Op.convert 22 9 t78
        refine sure_det (js := [(11, 78), (9, 76)]) (ts := []) (gd := (some (76, false))) (place_at HVS.out (k := 12) rfl) (by rw [HCS.out]; kernel_rfl) ?_ ?_
        · intro wx hx ρ hρ hs hf
          have hρc := hρ.const
          have hρf := hρ.func
          obtain ⟨sn11, sn9, -⟩ := hs
          rw [place_at HVS.out (k := 11) rfl] at sn11
          replace sn11 : ρ (.tmp 78) = _ := sn11
          rw [place_at HVS.out (k := 9) rfl] at sn9
          replace sn9 : ρ (.tmp 76) = _ := sn9
          clear hf
          clear HCS HVS qs8 qs9 qs10 qs12 qs13
          first
            | (refine run_passed sn9 ?_
               exact detK.mk)
            | (refine run_guarded sn9 ?_
               have q1 := run_convert_bytesV (P := Try.prog) ((hX wx hx.drawn).2.2.2.2.1.cut hN) Try.underlying22 Try.underlying5 Try.underlying9
               unfold runs
               go_simp
               exact detK.mk)
        -- 13: slot 80 := Op.move t9
        refine sure_det (js := [(9, 76)]) (ts := [9]) (gd := (some (76, false))) (place_at HVS.out (k := 13) rfl) (by rw [HCS.out]; kernel_rfl) ?_ ?_
        · intro wx hx ρ hρ hs hf
          have hρc := hρ.const
          have hρf := hρ.func
          obtain ⟨sn9, -⟩ := hs
          obtain ⟨fx9, -⟩ := hf
          rw [qs9] at fx9
          rw [place_at HVS.out (k := 9) rfl] at sn9
          replace sn9 : ρ (.tmp 76) = _ := sn9
          clear HCS HVS qs8 qs9 qs10 qs12 qs13
          first
            | (refine run_passed sn9 ?_
               exact detK.mk)
            | (refine run_guarded sn9 ?_
               refine op_move rfl fx9 ?_
               exact detK.mk)
        -- 14: slot 81 := Op.move t13
        refine sure_det (js := [(9, 76)]) (ts := [13]) (gd := (some (76, false))) (place_at HVS.out (k := 14) rfl) (by rw [HCS.out]; kernel_rfl) ?_ ?_
        · intro wx hx ρ hρ hs hf
          have hρc := hρ.const
          have hρf := hρ.func
          obtain ⟨sn9, -⟩ := hs
          obtain ⟨fx13, -⟩ := hf
          rw [qs13] at fx13
          rw [place_at HVS.out (k := 9) rfl] at sn9
          replace sn9 : ρ (.tmp 76) = _ := sn9
          clear HCS HVS qs8 qs9 qs10 qs12 qs13
          first
            | (refine run_passed sn9 ?_
               exact detK.mk)
            | (refine run_guarded sn9 ?_
               refine op_move rfl fx13 ?_
               exact detK.mk)
        -- 15: slot 82 := Op.slice 9 t80 none (some t81) none
        refine sure_det (js := [(13, 80), (14, 81), (9, 76)]) (ts := []) (gd := (some (76, false))) (place_at HVS.out (k := 15) rfl) (by rw [HCS.out]; kernel_rfl) ?_ ?_
        · intro wx hx ρ hρ hs hf
          have hρc := hρ.const
          have hρf := hρ.func
          obtain ⟨sn13, sn14, sn9, -⟩ := hs
          rw [place_at HVS.out (k := 13) rfl] at sn13
          replace sn13 : ρ (.tmp 80) = _ := sn13
          rw [place_at HVS.out (k := 14) rfl] at sn14
          replace sn14 : ρ (.tmp 81) = _ := sn14
          rw [place_at HVS.out (k := 9) rfl] at sn9
          replace sn9 : ρ (.tmp 76) = _ := sn9
          clear hf
          clear HCS HVS qs8 qs9 qs10 qs12 qs13
          first
            | (refine run_passed sn9 ?_
               exact detK.mk)
            | (refine run_guarded sn9 ?_
               unfold runs
               go_simp
               exact detK.mk)
        -- 16: slot 83 := Op.binOp BinOp.neq 9 t79 t82 9
        refine sure_det (js := [(12, 79), (15, 82), (9, 76)]) (ts := []) (gd := (some (76, false))) (place_at HVS.out (k := 16) rfl) (by rw [HCS.out]; kernel_rfl) ?_ ?_
        · intro wx hx ρ hρ hs hf
          have hρc := hρ.const
          have hρf := hρ.func
          obtain ⟨sn12, sn15, sn9, -⟩ := hs
          rw [place_at HVS.out (k := 12) rfl] at sn12
          replace sn12 : ρ (.tmp 79) = _ := sn12
          rw [place_at HVS.out (k := 15) rfl] at sn15
          replace sn15 : ρ (.tmp 82) = _ := sn15
          rw [place_at HVS.out (k := 9) rfl] at sn9
          replace sn9 : ρ (.tmp 76) = _ := sn9
          clear hf
          clear HCS HVS qs8 qs9 qs10 qs12 qs13
          first
            | (refine run_passed sn9 ?_
               exact detK.mk)
            | (refine run_guarded sn9 ?_
               unfold runs
               go_simp
               exact detK.mk)
        -- 17: slot 84 := Op.pick t76 ((Value.bool true)) t83
        refine sure_det (js := [(9, 76), (16, 83)]) (ts := []) (gd := none) (place_at HVS.out (k := 17) rfl) (by rw [HCS.out]; kernel_rfl) ?_ ?_
        · intro wx hx ρ hρ hs hf
          have hρc := hρ.const
          have hρf := hρ.func
          obtain ⟨sn9, sn16, -⟩ := hs
          rw [place_at HVS.out (k := 9) rfl] at sn9
          replace sn9 : ρ (.tmp 76) = _ := sn9
          rw [place_at HVS.out (k := 16) rfl] at sn16
          replace sn16 : ρ (.tmp 83) = _ := sn16
          clear hf
          clear HCS HVS qs8 qs9 qs10 qs12 qs13
          refine run_plain ?_
          first | refine op_pick_t rfl sn9 (hρ.const _) ?_ | refine op_pick_f rfl sn9 sn16 ?_
          exact detK.mk
        -- 18: slot 85 := Op.move t84
        refine sure_det (js := [(17, 84)]) (ts := []) (gd := none) (place_at HVS.out (k := 18) rfl) (by rw [HCS.out]; kernel_rfl) ?_ ?_
        · intro wx hx ρ hρ hs hf
          have hρc := hρ.const
          have hρf := hρ.func
          obtain ⟨sn17, -⟩ := hs
          rw [place_at HVS.out (k := 17) rfl] at sn17
          replace sn17 : ρ (.tmp 84) = _ := sn17
          clear hf
          clear HCS HVS qs8 qs9 qs10 qs12 qs13
          refine run_plain ?_
          refine op_move rfl sn17 ?_
          exact detK.mk
        -- 19: slot 86 := Op.fieldAddr 24 t12 1
        refine sure_det (js := [(18, 85)]) (ts := [12]) (gd := (some (85, false))) (place_at HVS.out (k := 19) rfl) (by rw [HCS.out]; kernel_rfl) ?_ ?_
        · intro wx hx ρ hρ hs hf
          have hρc := hρ.const
          have hρf := hρ.func
          obtain ⟨sn18, -⟩ := hs
          obtain ⟨fx12, -⟩ := hf
          rw [qs12] at fx12
          rw [place_at HVS.out (k := 18) rfl] at sn18
          replace sn18 : ρ (.tmp 85) = _ := sn18
          clear HCS HVS qs8 qs9 qs10 qs12 qs13
          first
            | (refine run_passed sn18 ?_
               exact detK.mk)
            | (refine run_guarded sn18 ?_
               unfold runs
               go_simp
               exact detK.mk)
        -- 20: slot 87 := Op.load 3 t86
        refine sure_det (js := [(19, 86), (18, 85)]) (ts := []) (gd := (some (85, false))) (place_at HVS.out (k := 20) rfl) (by rw [HCS.out]; kernel_rfl) ?_ ?_
        · intro wx hx ρ hρ hs hf
          have hρc := hρ.const
          have hρf := hρ.func
          obtain ⟨sn19, sn18, -⟩ := hs
          rw [place_at HVS.out (k := 19) rfl] at sn19
          replace sn19 : ρ (.tmp 86) = _ := sn19
          rw [place_at HVS.out (k := 18) rfl] at sn18
          replace sn18 : ρ (.tmp 85) = _ := sn18
          clear hf
          clear HCS HVS qs8 qs9 qs10 qs12 qs13
          first
            | (refine run_passed sn18 ?_
               exact detK.mk)
            | (refine run_guarded sn18 ?_
               obtain ⟨b0, b1, b2, b3, hVx, -⟩ := hX wx hx.drawn
               unfold runs
               go_simp
               exact detK.mk)
        -- 21: slot 88 := Op.move t13
        refine sure_det (js := [(18, 85)]) (ts := [13]) (gd := (some (85, false))) (place_at HVS.out (k := 21) rfl) (by rw [HCS.out]; kernel_rfl) ?_ ?_
        · intro wx hx ρ hρ hs hf
          have hρc := hρ.const
          have hρf := hρ.func
          obtain ⟨sn18, -⟩ := hs
          obtain ⟨fx13, -⟩ := hf
          rw [qs13] at fx13
          rw [place_at HVS.out (k := 18) rfl] at sn18
          replace sn18 : ρ (.tmp 85) = _ := sn18
          clear HCS HVS qs8 qs9 qs10 qs12 qs13
          first
            | (refine run_passed sn18 ?_
               exact detK.mk)
            | (refine run_guarded sn18 ?_
               refine op_move rfl fx13 ?_
               exact detK.mk)
        -- 22: slot 89 := Op.binOp BinOp.neq 3 t87 t88 3
        refine sure_det (js := [(20, 87), (21, 88), (18, 85)]) (ts := []) (gd := (some (85, false))) (place_at HVS.out (k := 22) rfl) (by rw [HCS.out]; kernel_rfl) ?_ ?_
        · intro wx hx ρ hρ hs hf
          have hρc := hρ.const
          have hρf := hρ.func
          obtain ⟨sn20, sn21, sn18, -⟩ := hs
          rw [place_at HVS.out (k := 20) rfl] at sn20
          replace sn20 : ρ (.tmp 87) = _ := sn20
          rw [place_at HVS.out (k := 21) rfl] at sn21
          replace sn21 : ρ (.tmp 88) = _ := sn21
          rw [place_at HVS.out (k := 18) rfl] at sn18
          replace sn18 : ρ (.tmp 85) = _ := sn18
          clear hf
          clear HCS HVS qs8 qs9 qs10 qs12 qs13
          first
            | (refine run_passed sn18 ?_
               exact detK.mk)
            | (refine run_guarded sn18 ?_
               unfold runs
               go_simp
               exact detK.mk)
        -- 23: slot 90 := Op.pick t85 ((Value.bool true)) t89
        refine sure_det (js := [(18, 85), (22, 89)]) (ts := []) (gd := none) (place_at HVS.out (k := 23) rfl) (by rw [HCS.out]; kernel_rfl) ?_ ?_
        · intro wx hx ρ hρ hs hf
          have hρc := hρ.const
          have hρf := hρ.func
          obtain ⟨sn18, sn22, -⟩ := hs
          rw [place_at HVS.out (k := 18) rfl] at sn18
          replace sn18 : ρ (.tmp 85) = _ := sn18
          rw [place_at HVS.out (k := 22) rfl] at sn22
          replace sn22 : ρ (.tmp 89) = _ := sn22
          clear hf
          clear HCS HVS qs8 qs9 qs10 qs12 qs13
          refine run_plain ?_
          first | refine op_pick_t rfl sn18 (hρ.const _) ?_ | refine op_pick_f rfl sn18 sn22 ?_
          exact detK.mk
        -- 24: slot 91 := Op.move t90
        refine sure_det (js := [(23, 90)]) (ts := []) (gd := none) (place_at HVS.out (k := 24) rfl) (by rw [HCS.out]; kernel_rfl) ?_ ?_
        · intro wx hx ρ hρ hs hf
          have hρc := hρ.const
          have hρf := hρ.func
          obtain ⟨sn23, -⟩ := hs
          rw [place_at HVS.out (k := 23) rfl] at sn23
          replace sn23 : ρ (.tmp 90) = _ := sn23
          clear hf
          clear HCS HVS qs8 qs9 qs10 qs12 qs13
          refine run_plain ?_
          refine op_move rfl sn23 ?_
          exact detK.mk
        -- 25: slot 92 := Op.load 24 t12
        refine sure_det (js := [(24, 91)]) (ts := [12]) (gd := (some (91, false))) (place_at HVS.out (k := 25) rfl) (by rw [HCS.out]; kernel_rfl) ?_ ?_
        · intro wx hx ρ hρ hs hf
          have hρc := hρ.const
          have hρf := hρ.func
          obtain ⟨sn24, -⟩ := hs
          obtain ⟨fx12, -⟩ := hf
          rw [qs12] at fx12
          rw [place_at HVS.out (k := 24) rfl] at sn24
          replace sn24 : ρ (.tmp 91) = _ := sn24
          clear HCS HVS qs8 qs9 qs10 qs12 qs13
          first
            | (refine run_passed sn24 ?_
               exact detK.mk)
            | (refine run_guarded sn24 ?_
               obtain ⟨b0, b1, b2, b3, hVx, -⟩ := hX wx hx.drawn
               unfold runs
               go_simp
               exact detK.mk)
        -- 26: slot 93 := Op.call { call ( 15), args := #[t92], argTypes := #[24] }
        refine sure_det (js := [(25, 92), (24, 91)]) (ts := []) (gd := (some (91, false))) (place_at HVS.out (k := 26) rfl) (by rw [HCS.out]; kernel_rfl) ?_ ?_
        · intro wx hx ρ hρ hs hf
          have hρc := hρ.const
          have hρf := hρ.func
          obtain ⟨sn25, sn24, -⟩ := hs
          rw [place_at HVS.out (k := 25) rfl] at sn25
          replace sn25 : ρ (.tmp 92) = _ := sn25
          rw [place_at HVS.out (k := 24) rfl] at sn24
          replace sn24 : ρ (.tmp 91) = _ := sn24
          clear hf
          clear HCS HVS qs8 qs9 qs10 qs12 qs13
          first
            | (refine run_passed sn24 ?_
               exact detK.mk)
            | (refine run_guarded sn24 ?_
               refine op_call rfl hρ Try.call15 (map_one sn25) ?_
               first | ((with_reducible refine Calls.mono (right_any D N N (N : Int) _) ?_); rw [hr1]; rintro e w' ⟨rfl, hx5⟩; refine ⟨_, rfl, ?_⟩; exact detK.ext hx5) | ((with_reducible refine Calls.mono (right_any D q cd (kp : Int) _) ?_); rw [hr2]; rintro e w' ⟨rfl, hx5⟩; refine ⟨_, rfl, ?_⟩; exact detK.ext hx5))
        -- 27: slot 94 := Op.unOp UnOp.not 4 t93
        refine sure_det (js := [(26, 93), (24, 91)]) (ts := []) (gd := (some (91, false))) (place_at HVS.out (k := 27) rfl) (by rw [HCS.out]; kernel_rfl) ?_ ?_
        · intro wx hx ρ hρ hs hf
          have hρc := hρ.const
          have hρf := hρ.func
          obtain ⟨sn26, sn24, -⟩ := hs
          rw [place_at HVS.out (k := 26) rfl] at sn26
          replace sn26 : ρ (.tmp 93) = _ := sn26
          rw [place_at HVS.out (k := 24) rfl] at sn24
          replace sn24 : ρ (.tmp 91) = _ := sn24
          clear hf
          clear HCS HVS qs8 qs9 qs10 qs12 qs13
          first
            | (refine run_passed sn24 ?_
               exact detK.mk)
            | (refine run_guarded sn24 ?_
               unfold runs
               go_simp
               exact detK.mk)
        -- 28: slot 95 := Op.pick t91 ((Value.bool true)) t94
        refine sure_det (js := [(24, 91), (27, 94)]) (ts := []) (gd := none) (place_at HVS.out (k := 28) rfl) (by rw [HCS.out]; kernel_rfl) ?_ ?_
        · intro wx hx ρ hρ hs hf
          have hρc := hρ.const
          have hρf := hρ.func
          obtain ⟨sn24, sn27, -⟩ := hs
          rw [place_at HVS.out (k := 24) rfl] at sn24
          replace sn24 : ρ (.tmp 91) = _ := sn24
          rw [place_at HVS.out (k := 27) rfl] at sn27
          replace sn27 : ρ (.tmp 94) = _ := sn27
          clear hf
          clear HCS HVS qs8 qs9 qs10 qs12 qs13
          refine run_plain ?_
          first | refine op_pick_t rfl sn24 (hρ.const _) ?_ | refine op_pick_f rfl sn24 sn27 ?_
          exact detK.mk
        -- 29: slot 96 := Op.move t95
        refine sure_det (js := [(28, 95)]) (ts := []) (gd := none) (place_at HVS.out (k := 29) rfl) (by rw [HCS.out]; kernel_rfl) ?_ ?_
        · intro wx hx ρ hρ hs hf
          have hρc := hρ.const
          have hρf := hρ.func
          obtain ⟨sn28, -⟩ := hs
          rw [place_at HVS.out (k := 28) rfl] at sn28
          replace sn28 : ρ (.tmp 95) = _ := sn28
          clear hf
          clear HCS HVS qs8 qs9 qs10 qs12 qs13
          refine run_plain ?_
          refine op_move rfl sn28 ?_
          exact detK.mk
        -- 30: slot 97 := Op.load 24 t8
        refine sure_det (js := [(29, 96)]) (ts := [8]) (gd := (some (96, false))) (place_at HVS.out (k := 30) rfl) (by rw [HCS.out]; kernel_rfl) ?_ ?_
        · intro wx hx ρ hρ hs hf
          have hρc := hρ.const
          have hρf := hρ.func
          obtain ⟨sn29, -⟩ := hs
          obtain ⟨fx8, -⟩ := hf
          rw [qs8] at fx8
          rw [place_at HVS.out (k := 29) rfl] at sn29
          replace sn29 : ρ (.tmp 96) = _ := sn29
          clear HCS HVS qs8 qs9 qs10 qs12 qs13
          first
            | (refine run_passed sn29 ?_
               exact detK.mk)
            | (refine run_guarded sn29 ?_
               obtain ⟨b0, b1, b2, b3, hVx, -⟩ := hX wx hx.drawn
               unfold runs
               go_simp
               exact detK.mk)
        -- 31: slot 98 := Op.call { call ( 15), args := #[t97], argTypes := #[24] }
        refine sure_det (js := [(30, 97), (29, 96)]) (ts := []) (gd := (some (96, false))) (place_at HVS.out (k := 31) rfl) (by rw [HCS.out]; kernel_rfl) ?_ ?_
        · intro wx hx ρ hρ hs hf
          have hρc := hρ.const
          have hρf := hρ.func
          obtain ⟨sn30, sn29, -⟩ := hs
          rw [place_at HVS.out (k := 30) rfl] at sn30
          replace sn30 : ρ (.tmp 97) = _ := sn30
          rw [place_at HVS.out (k := 29) rfl] at sn29
          replace sn29 : ρ (.tmp 96) = _ := sn29
          clear hf
          clear HCS HVS qs8 qs9 qs10 qs12 qs13
          first
            | (refine run_passed sn29 ?_
               exact detK.mk)
            | (refine run_guarded sn29 ?_
               refine op_call rfl hρ Try.call15 (map_one sn30) ?_
               first | ((with_reducible refine Calls.mono (right_any D N N (N : Int) _) ?_); rw [hr1]; rintro e w' ⟨rfl, hx5⟩; refine ⟨_, rfl, ?_⟩; exact detK.ext hx5) | ((with_reducible refine Calls.mono (right_any D q cd (kp : Int) _) ?_); rw [hr2]; rintro e w' ⟨rfl, hx5⟩; refine ⟨_, rfl, ?_⟩; exact detK.ext hx5))
        -- 32: slot 99 := Op.unOp UnOp.not 4 t98
        refine sure_det (js := [(31, 98), (29, 96)]) (ts := []) (gd := (some (96, false))) (place_at HVS.out (k := 32) rfl) (by rw [HCS.out]; kernel_rfl) ?_ ?_
        · intro wx hx ρ hρ hs hf
          have hρc := hρ.const
          have hρf := hρ.func
          obtain ⟨sn31, sn29, -⟩ := hs
          rw [place_at HVS.out (k := 31) rfl] at sn31
          replace sn31 : ρ (.tmp 98) = _ := sn31
          rw [place_at HVS.out (k := 29) rfl] at sn29
          replace sn29 : ρ (.tmp 96) = _ := sn29
          clear hf
          clear HCS HVS qs8 qs9 qs10 qs12 qs13
          first
            | (refine run_passed sn29 ?_
               exact detK.mk)
            | (refine run_guarded sn29 ?_
               unfold runs
               go_simp
               exact detK.mk)
        -- 33: slot 100 := Op.pick t96 ((Value.bool true)) t99
        refine sure_det (js := [(29, 96), (32, 99)]) (ts := []) (gd := none) (place_at HVS.out (k := 33) rfl) (by rw [HCS.out]; kernel_rfl) ?_ ?_
        · intro wx hx ρ hρ hs hf
          have hρc := hρ.const
          have hρf := hρ.func
          obtain ⟨sn29, sn32, -⟩ := hs
          rw [place_at HVS.out (k := 29) rfl] at sn29
          replace sn29 : ρ (.tmp 96) = _ := sn29
          rw [place_at HVS.out (k := 32) rfl] at sn32
          replace sn32 : ρ (.tmp 99) = _ := sn32
          clear hf
          clear HCS HVS qs8 qs9 qs10 qs12 qs13
          refine run_plain ?_
          first | refine op_pick_t rfl sn29 (hρ.const _) ?_ | refine op_pick_f rfl sn29 sn32 ?_
          exact detK.mk
        -- 34: slot 101 := Op.move t100
        refine sure_det (js := [(33, 100)]) (ts := []) (gd := none) (place_at HVS.out (k := 34) rfl) (by rw [HCS.out]; kernel_rfl) ?_ ?_
        · intro wx hx ρ hρ hs hf
          have hρc := hρ.const
          have hρf := hρ.func
          obtain ⟨sn33, -⟩ := hs
          rw [place_at HVS.out (k := 33) rfl] at sn33
          replace sn33 : ρ (.tmp 100) = _ := sn33
          clear hf
          clear HCS HVS qs8 qs9 qs10 qs12 qs13
          refine run_plain ?_
          refine op_move rfl sn33 ?_
          exact detK.mk
        -- 35: slot 102 := Op.fieldAddr 24 t8 1
        refine sure_det (js := [(34, 101)]) (ts := [8]) (gd := (some (101, false))) (place_at HVS.out (k := 35) rfl) (by rw [HCS.out]; kernel_rfl) ?_ ?_
        · intro wx hx ρ hρ hs hf
          have hρc := hρ.const
          have hρf := hρ.func
          obtain ⟨sn34, -⟩ := hs
          obtain ⟨fx8, -⟩ := hf
          rw [qs8] at fx8
          rw [place_at HVS.out (k := 34) rfl] at sn34
          replace sn34 : ρ (.tmp 101) = _ := sn34
          clear HCS HVS qs8 qs9 qs10 qs12 qs13
          first
            | (refine run_passed sn34 ?_
               exact detK.mk)
            | (refine run_guarded sn34 ?_
               unfold runs
               go_simp
               exact detK.mk)
        -- 36: slot 103 := Op.load 3 t102
        refine sure_det (js := [(35, 102), (34, 101)]) (ts := []) (gd := (some (101, false))) (place_at HVS.out (k := 36) rfl) (by rw [HCS.out]; kernel_rfl) ?_ ?_
        · intro wx hx ρ hρ hs hf
          have hρc := hρ.const
          have hρf := hρ.func
          obtain ⟨sn35, sn34, -⟩ := hs
          rw [place_at HVS.out (k := 35) rfl] at sn35
          replace sn35 : ρ (.tmp 102) = _ := sn35
          rw [place_at HVS.out (k := 34) rfl] at sn34
          replace sn34 : ρ (.tmp 101) = _ := sn34
          clear hf
          clear HCS HVS qs8 qs9 qs10 qs12 qs13
          first
            | (refine run_passed sn34 ?_
               exact detK.mk)
            | (refine run_guarded sn34 ?_
               obtain ⟨b0, b1, b2, b3, hVx, -⟩ := hX wx hx.drawn
               unfold runs
               go_simp
               exact detK.mk)
        -- 37: slot 104 := Op.move t10
        refine sure_det (js := [(34, 101)]) (ts := [10]) (gd := (some (101, false))) (place_at HVS.out (k := 37) rfl) (by rw [HCS.out]; kernel_rfl) ?_ ?_
        · intro wx hx ρ hρ hs hf
          have hρc := hρ.const
          have hρf := hρ.func
          obtain ⟨sn34, -⟩ := hs
          obtain ⟨fx10, -⟩ := hf
          rw [qs10] at fx10
          rw [place_at HVS.out (k := 34) rfl] at sn34
          replace sn34 : ρ (.tmp 101) = _ := sn34
          clear HCS HVS qs8 qs9 qs10 qs12 qs13
          first
            | (refine run_passed sn34 ?_
               exact detK.mk)
            | (refine run_guarded sn34 ?_
               refine op_move rfl fx10 ?_
               exact detK.mk)
        -- 38: slot 105 := Op.binOp BinOp.neq 3 t103 t104 3
        refine sure_det (js := [(36, 103), (37, 104), (34, 101)]) (ts := []) (gd := (some (101, false))) (place_at HVS.out (k := 38) rfl) (by rw [HCS.out]; kernel_rfl) ?_ ?_
        · intro wx hx ρ hρ hs hf
          have hρc := hρ.const
          have hρf := hρ.func
          obtain ⟨sn36, sn37, sn34, -⟩ := hs
          rw [place_at HVS.out (k := 36) rfl] at sn36
          replace sn36 : ρ (.tmp 103) = _ := sn36
          rw [place_at HVS.out (k := 37) rfl] at sn37
          replace sn37 : ρ (.tmp 104) = _ := sn37
          rw [place_at HVS.out (k := 34) rfl] at sn34
          replace sn34 : ρ (.tmp 101) = _ := sn34
          clear hf
          clear HCS HVS qs8 qs9 qs10 qs12 qs13
          first
            | (refine run_passed sn34 ?_
               exact detK.mk)
            | (refine run_guarded sn34 ?_
               unfold runs
               go_simp
               exact detK.mk)
        -- 39: slot 106 := Op.pick t101 ((Value.bool true)) t105
        refine sure_det (js := [(34, 101), (38, 105)]) (ts := []) (gd := none) (place_at HVS.out (k := 39) rfl) (by rw [HCS.out]; kernel_rfl) ?_ ?_
        · intro wx hx ρ hρ hs hf
          have hρc := hρ.const
          have hρf := hρ.func
          obtain ⟨sn34, sn38, -⟩ := hs
          rw [place_at HVS.out (k := 34) rfl] at sn34
          replace sn34 : ρ (.tmp 101) = _ := sn34
          rw [place_at HVS.out (k := 38) rfl] at sn38
          replace sn38 : ρ (.tmp 105) = _ := sn38
          clear hf
          clear HCS HVS qs8 qs9 qs10 qs12 qs13
          refine run_plain ?_
          first | refine op_pick_t rfl sn34 (hρ.const _) ?_ | refine op_pick_f rfl sn34 sn38 ?_
          exact detK.mk
        exact trivial
      case hend =>
        intro xs wx hx hg
        have gk0 : xs 0 = _ := goods_get hg (i := 0) (j := 0) (d := 67) rfl
        have gk1 : xs 1 = _ := goods_get hg (i := 1) (j := 1) (d := 68) rfl
        have gk2 : xs 2 = _ := goods_get hg (i := 2) (j := 2) (d := 69) rfl
        have gk3 : xs 3 = _ := goods_get hg (i := 3) (j := 3) (d := 70) rfl
        have gk4 : xs 4 = _ := goods_get hg (i := 4) (j := 4) (d := 71) rfl
        have gk5 : xs 5 = _ := goods_get hg (i := 5) (j := 5) (d := 72) rfl
        have gk6 : xs 6 = _ := goods_get hg (i := 6) (j := 6) (d := 73) rfl
        have gk7 : xs 7 = _ := goods_get hg (i := 7) (j := 7) (d := 74) rfl
        have gk8 : xs 8 = _ := goods_get hg (i := 8) (j := 8) (d := 75) rfl
        have gk9 : xs 9 = _ := goods_get hg (i := 9) (j := 9) (d := 76) rfl
        have gk10 : xs 10 = _ := goods_get hg (i := 10) (j := 10) (d := 77) rfl
        have gk11 : xs 11 = _ := goods_get hg (i := 11) (j := 11) (d := 78) rfl
        have gk12 : xs 12 = _ := goods_get hg (i := 12) (j := 12) (d := 79) rfl
        have gk13 : xs 13 = _ := goods_get hg (i := 13) (j := 13) (d := 80) rfl
        have gk14 : xs 14 = _ := goods_get hg (i := 14) (j := 14) (d := 81) rfl
        have gk15 : xs 15 = _ := goods_get hg (i := 15) (j := 15) (d := 82) rfl
        have gk16 : xs 16 = _ := goods_get hg (i := 16) (j := 16) (d := 83) rfl
        have gk17 : xs 17 = _ := goods_get hg (i := 17) (j := 17) (d := 84) rfl
        have gk18 : xs 18 = _ := goods_get hg (i := 18) (j := 18) (d := 85) rfl
        have gk19 : xs 19 = _ := goods_get hg (i := 19) (j := 19) (d := 86) rfl
        have gk20 : xs 20 = _ := goods_get hg (i := 20) (j := 20) (d := 87) rfl
        have gk21 : xs 21 = _ := goods_get hg (i := 21) (j := 21) (d := 88) rfl
        have gk22 : xs 22 = _ := goods_get hg (i := 22) (j := 22) (d := 89) rfl
        have gk23 : xs 23 = _ := goods_get hg (i := 23) (j := 23) (d := 90) rfl
        have gk24 : xs 24 = _ := goods_get hg (i := 24) (j := 24) (d := 91) rfl
        have gk25 : xs 25 = _ := goods_get hg (i := 25) (j := 25) (d := 92) rfl
        have gk26 : xs 26 = _ := goods_get hg (i := 26) (j := 26) (d := 93) rfl
        have gk27 : xs 27 = _ := goods_get hg (i := 27) (j := 27) (d := 94) rfl
        have gk28 : xs 28 = _ := goods_get hg (i := 28) (j := 28) (d := 95) rfl
        have gk29 : xs 29 = _ := goods_get hg (i := 29) (j := 29) (d := 96) rfl
        have gk30 : xs 30 = _ := goods_get hg (i := 30) (j := 30) (d := 97) rfl
        have gk31 : xs 31 = _ := goods_get hg (i := 31) (j := 31) (d := 98) rfl
        have gk32 : xs 32 = _ := goods_get hg (i := 32) (j := 32) (d := 99) rfl
        have gk33 : xs 33 = _ := goods_get hg (i := 33) (j := 33) (d := 100) rfl
        have gk34 : xs 34 = _ := goods_get hg (i := 34) (j := 34) (d := 101) rfl
        have gk35 : xs 35 = _ := goods_get hg (i := 35) (j := 35) (d := 102) rfl
        have gk36 : xs 36 = _ := goods_get hg (i := 36) (j := 36) (d := 103) rfl
        have gk37 : xs 37 = _ := goods_get hg (i := 37) (j := 37) (d := 104) rfl
        have gk38 : xs 38 = _ := goods_get hg (i := 38) (j := 38) (d := 105) rfl
        have gk39 : xs 39 = _ := goods_get hg (i := 39) (j := 39) (d := 106) rfl
        clear hg
        simp only [putAll, gk0, gk1, gk2, gk3, gk4, gk5, gk6, gk7, gk8, gk9, gk10, gk11, gk12, gk13, gk14, gk15, gk16, gk17, gk18, gk19, gk20, gk21, gk22, gk23, gk24, gk25, gk26, gk27, gk28, gk29, gk30, gk31, gk32, gk33, gk34, gk35, gk36, gk37, gk38, gk39]
        clear gk0 gk1 gk2 gk3 gk4 gk5 gk6 gk7 gk8 gk9 gk10 gk11 gk12 gk13 gk14 gk15 gk16 gk17 gk18 gk19 gk20 gk21 gk22 gk23 gk24 gk25 gk26 gk27 gk28 gk29 gk30 gk31 gk32 gk33 gk34 gk35 gk36 gk37 gk38 gk39
        clear xs
        simp only [Act.put, List.setIfInBounds_toArray, List.set_cons_zero, List.set_cons_succ]
        have hX2 : ∀ wy, Ext wx wy → wy.cell? ⟨g, 0, none⟩ = some (.slice D q cd) ∧ wy.cell? ⟨g, 1, none⟩ = some (.int .i64 kp) ∧ wy.cell? ⟨gc, 0, none⟩ = some (.slice D N N) ∧ wy.cell? ⟨gc, 1, none⟩ = some (.int .i64 N) ∧ BytesV wy D q cd d ∧ Ext w wy := fun wy hy => hX wy (hx.drawn.trans hy)
        clear hX hx
        go_upto_region 21 with (fail)
        rcases hcase with ⟨hm1, hm2, hm3⟩ | ⟨hm1, -, hm3⟩ | ⟨hm1, hm2, hm3⟩
        all_goals
          refine' wp_region_sure_all ⟨((some 107, [], none) :: (some 108, [0], none) :: (some 109, [1], some (1, true)) :: (some 110, [2, 1], some (1, true)) :: (some 111, [3, 1], some (1, true)) :: (some 112, [1], some (1, true)) :: (some 113, [4, 5, 1], some (1, true)) :: (some 114, [1, 6], none) :: (some 115, [7, 1], none) :: (some 116, [8], some (8, true)) :: (some 117, [9, 8], some (8, true)) :: (some 118, [10, 8, 8], some (8, true)) :: (some 119, [11], some (11, false)) :: (some 120, [11], some (11, false)) :: (some 121, [12, 13, 11], some (11, false)) :: (some 122, [11, 14, 8], some (8, true)) :: (some 123, [8, 15], none) :: (some 124, [16, 11], none) :: (some 125, [17], some (17, true)) :: (some 126, [17], some (17, true)) :: (some 127, [19, 17], some (17, true)) :: (some 128, [17], some (17, true)) :: (some 129, [20, 21, 17], some (17, true)) :: (some 130, [18, 22, 17], some (17, true)) :: (some 131, [23, 17, 17], some (17, true)) :: (some 132, [24], some (24, false)) :: (some 133, [24], some (24, false)) :: (some 134, [26, 24], some (24, false)) :: (some 135, [25, 27, 24], some (24, false)) :: (some 136, [24, 28, 17], some (17, true)) :: (some 137, [17, 29], none) :: (some 138, [30, 24], none) :: (some 139, [31], some (31, true)) :: (some 140, [31], some (31, true)) :: (some 141, [32, 33, 31, 31], some (31, true)) :: (some 142, [31], some (31, true)) :: (some 143, [34, 35, 34, 31], some (31, true)) :: (some 144, [31, 36], none) :: (some 6, [37, 36, 0, 1, 2, 3, 4, 5, 6, 7, 8, 9, 10, 11, 12, 13, 14, 15, 16, 17, 18, 19, 20, 21, 22, 23, 24, 25, 26, 27, 28, 29, 30, 31, 32, 33, 34, 35, 36, 37], none) :: []), (0 :: 1 :: 3 :: 7 :: 15 :: 3 :: 63 :: 127 :: 255 :: 511 :: 1023 :: 2047 :: 4095 :: 4095 :: 16383 :: 32767 :: 65535 :: 131071 :: 262143 :: 262143 :: 786431 :: 262143 :: 3932159 :: 8388607 :: 16777215 :: 33554431 :: 33554431 :: 100663295 :: 268435455 :: 536870911 :: 1073741823 :: 2147483647 :: 4294967295 :: 4294967295 :: 17179869183 :: 4294967295 :: 68719476735 :: 137438953471 :: 274877906943 :: []), (true :: true :: true :: true :: true :: true :: true :: true :: true :: true :: true :: true :: true :: true :: true :: true :: true :: true :: true :: true :: true :: true :: true :: true :: true :: true :: true :: true :: true :: true :: true :: true :: true :: true :: true :: true :: true :: true :: true :: []), [], 0⟩ 39 145 ((0, 107) :: (1, 108) :: (2, 109) :: (3, 110) :: (4, 111) :: (5, 112) :: (6, 113) :: (7, 114) :: (8, 115) :: (9, 116) :: (10, 117) :: (11, 118) :: (12, 119) :: (13, 120) :: (14, 121) :: (15, 122) :: (16, 123) :: (17, 124) :: (18, 125) :: (19, 126) :: (20, 127) :: (21, 128) :: (22, 129) :: (23, 130) :: (24, 131) :: (25, 132) :: (26, 133) :: (27, 134) :: (28, 135) :: (29, 136) :: (30, 137) :: (31, 138) :: (32, 139) :: (33, 140) :: (34, 141) :: (35, 142) :: (36, 143) :: (37, 144) :: (38, 6) :: []) ((0, 107) :: (1, 108) :: (2, 109) :: (3, 110) :: (4, 111) :: (5, 112) :: (6, 113) :: (7, 114) :: (8, 115) :: (9, 116) :: (10, 117) :: (11, 118) :: (12, 119) :: (13, 120) :: (14, 121) :: (15, 122) :: (16, 123) :: (17, 124) :: (18, 125) :: (19, 126) :: (20, 127) :: (21, 128) :: (22, 129) :: (23, 130) :: (24, 131) :: (25, 132) :: (26, 133) :: (27, 134) :: (28, 135) :: (29, 136) :: (30, 137) :: (31, 138) :: (32, 139) :: (33, 140) :: (34, 141) :: (35, 142) :: (36, 143) :: (37, 144) :: (38, 6) :: []) (.det _ :: .det _ :: .det _ :: .det _ :: .det _ :: .det _ :: .det _ :: .det _ :: .det _ :: .det _ :: .det _ :: .det _ :: .det _ :: .det _ :: .det _ :: .det _ :: .det _ :: .det _ :: .det _ :: .det _ :: .det _ :: .det _ :: .det _ :: .det _ :: .det _ :: .det _ :: .det _ :: .det _ :: .det _ :: .det _ :: .det _ :: .det _ :: .det _ :: .det _ :: .det _ :: .det _ :: .det _ :: .det _ :: .det _ :: []) (by kernel_rfl) (by kernel_rfl) (by kernel_rfl) rfl (by kernel_rfl) (by kernel_rfl) rfl (by kernel_rfl) ?hone ?hend
          case hone =>
            intro CS frS VS hCS ha hV
            have qs2 := slot_val (t := 2) ha rfl
            simp only [List.getElem_toArray, List.getElem_cons_succ, List.getElem_cons_zero] at qs2
            have qs7 := slot_val (t := 7) ha rfl
            simp only [List.getElem_toArray, List.getElem_cons_succ, List.getElem_cons_zero] at qs7
            have qs8 := slot_val (t := 8) ha rfl
            simp only [List.getElem_toArray, List.getElem_cons_succ, List.getElem_cons_zero] at qs8
            have qs9 := slot_val (t := 9) ha rfl
            simp only [List.getElem_toArray, List.getElem_cons_succ, List.getElem_cons_zero] at qs9
            have qs10 := slot_val (t := 10) ha rfl
            simp only [List.getElem_toArray, List.getElem_cons_succ, List.getElem_cons_zero] at qs10
            have qs12 := slot_val (t := 12) ha rfl
            simp only [List.getElem_toArray, List.getElem_cons_succ, List.getElem_cons_zero] at qs12
            have qs13 := slot_val (t := 13) ha rfl
            simp only [List.getElem_toArray, List.getElem_cons_succ, List.getElem_cons_zero] at qs13
            have HCS := Lib.hid hCS
            have HVS := Lib.hid hV
            clear ha hCS hV
            -- 0: slot 107 := Op.move t7
            refine sure_det (js := []) (ts := [7]) (gd := none) (place_at HVS.out (k := 0) rfl) (by rw [HCS.out]; kernel_rfl) ?_ ?_
            · intro wx hx ρ hρ hs hf
              have hρc := hρ.const
              have hρf := hρ.func
              obtain ⟨fx7, -⟩ := hf
              rw [qs7] at fx7
              clear hs
              clear HCS HVS qs2 qs7 qs8 qs9 qs10 qs12 qs13
              refine run_plain ?_
              refine op_move rfl fx7 ?_
              exact detK.mk
            -- 1: slot 108 := Op.move t107
            refine sure_det (js := [(0, 107)]) (ts := []) (gd := none) (place_at HVS.out (k := 1) rfl) (by rw [HCS.out]; kernel_rfl) ?_ ?_
            · intro wx hx ρ hρ hs hf
              have hρc := hρ.const
              have hρf := hρ.func
              obtain ⟨sn0, -⟩ := hs
              rw [place_at HVS.out (k := 0) rfl] at sn0
              replace sn0 : ρ (.tmp 107) = _ := sn0
              clear hf
              clear HCS HVS qs2 qs7 qs8 qs9 qs10 qs12 qs13
              refine run_plain ?_
              refine op_move rfl sn0 ?_
              exact detK.mk
            -- 2: slot 109 := Op.fieldAddr 24 t8 0
            refine sure_det (js := [(1, 108)]) (ts := [8]) (gd := (some (108, true))) (place_at HVS.out (k := 2) rfl) (by rw [HCS.out]; kernel_rfl) ?_ ?_
            · intro wx hx ρ hρ hs hf
              have hρc := hρ.const
              have hρf := hρ.func
              obtain ⟨sn1, -⟩ := hs
              obtain ⟨fx8, -⟩ := hf
              rw [qs8] at fx8
              rw [place_at HVS.out (k := 1) rfl] at sn1
              replace sn1 : ρ (.tmp 108) = _ := sn1
              clear HCS HVS qs2 qs7 qs8 qs9 qs10 qs12 qs13
              first
                | (refine run_passed sn1 ?_
                   exact detK.mk)
                | (refine run_guarded sn1 ?_
                   unfold runs
                   go_simp
                   exact detK.mk)
            -- 3: slot 110 := Op.load 22 t109
            refine sure_det (js := [(2, 109), (1, 108)]) (ts := []) (gd := (some (108, true))) (place_at HVS.out (k := 3) rfl) (by rw [HCS.out]; kernel_rfl) ?_ ?_
            · intro wx hx ρ hρ hs hf
              have hρc := hρ.const
              have hρf := hρ.func
              obtain ⟨sn2, sn1, -⟩ := hs
              rw [place_at HVS.out (k := 2) rfl] at sn2
              replace sn2 : ρ (.tmp 109) = _ := sn2
              rw [place_at HVS.out (k := 1) rfl] at sn1
              replace sn1 : ρ (.tmp 108) = _ := sn1
              clear hf
              clear HCS HVS qs2 qs7 qs8 qs9 qs10 qs12 qs13
              first
                | (refine run_passed sn1 ?_
                   exact detK.mk)
                | (refine run_guarded sn1 ?_
                   obtain ⟨b0, b1, b2, b3, hVx, -⟩ := hX2 wx hx.drawn
                   unfold runs
                   go_simp
                   exact detK.mk)
            -- 4: slot 111 := Op.convert 22 9 t110
            refine sure_det (js := [(3, 110), (1, 108)]) (ts := []) (gd := (some (108, true))) (place_at HVS.out (k := 4) rfl) (by rw [HCS.out]; kernel_rfl) ?_ ?_
            · intro wx hx ρ hρ hs hf
              have hρc := hρ.const
              have hρf := hρ.func
              obtain ⟨sn3, sn1, -⟩ := hs
              rw [place_at HVS.out (k := 3) rfl] at sn3
              replace sn3 : ρ (.tmp 110) = _ := sn3
              rw [place_at HVS.out (k := 1) rfl] at sn1
              replace sn1 : ρ (.tmp 108) = _ := sn1
              clear hf
              clear HCS HVS qs2 qs7 qs8 qs9 qs10 qs12 qs13
              first
                | (refine run_passed sn1 ?_
                   exact detK.mk)
                | (refine run_guarded sn1 ?_
                   have q1 := run_convert_bytesV (P := Try.prog) (hX2 wx hx.drawn).2.2.2.2.1 Try.underlying22 Try.underlying5 Try.underlying9
                   unfold runs
                   go_simp
                   exact detK.mk)
            -- 5: slot 112 := Op.move t9
            refine sure_det (js := [(1, 108)]) (ts := [9]) (gd := (some (108, true))) (place_at HVS.out (k := 5) rfl) (by rw [HCS.out]; kernel_rfl) ?_ ?_
            · intro wx hx ρ hρ hs hf
              have hρc := hρ.const
              have hρf := hρ.func
              obtain ⟨sn1, -⟩ := hs
              obtain ⟨fx9, -⟩ := hf
              rw [qs9] at fx9
              rw [place_at HVS.out (k := 1) rfl] at sn1
              replace sn1 : ρ (.tmp 108) = _ := sn1
              clear HCS HVS qs2 qs7 qs8 qs9 qs10 qs12 qs13
              first
                | (refine run_passed sn1 ?_
                   exact detK.mk)
                | (refine run_guarded sn1 ?_
                   refine op_move rfl fx9 ?_
                   exact detK.mk)
            -- 6: slot 113 := Op.binOp BinOp.eql 9 t111 t112 9
            refine sure_det (js := [(4, 111), (5, 112), (1, 108)]) (ts := []) (gd := (some (108, true))) (place_at HVS.out (k := 6) rfl) (by rw [HCS.out]; kernel_rfl) ?_ ?_
            · intro wx hx ρ hρ hs hf
              have hρc := hρ.const
              have hρf := hρ.func
              obtain ⟨sn4, sn5, sn1, -⟩ := hs
              rw [place_at HVS.out (k := 4) rfl] at sn4
              replace sn4 : ρ (.tmp 111) = _ := sn4
              rw [place_at HVS.out (k := 5) rfl] at sn5
              replace sn5 : ρ (.tmp 112) = _ := sn5
              rw [place_at HVS.out (k := 1) rfl] at sn1
              replace sn1 : ρ (.tmp 108) = _ := sn1
              clear hf
              clear HCS HVS qs2 qs7 qs8 qs9 qs10 qs12 qs13
              first
                | (refine run_passed sn1 ?_
                   exact detK.mk)
                | (refine run_guarded sn1 ?_
                   unfold runs
                   go_simp
                   exact detK.mk)
            -- 7: slot 114 := Op.pick t108 t113 ((Value.bool false))
            refine sure_det (js := [(1, 108), (6, 113)]) (ts := []) (gd := none) (place_at HVS.out (k := 7) rfl) (by rw [HCS.out]; kernel_rfl) ?_ ?_
            · intro wx hx ρ hρ hs hf
              have hρc := hρ.const
              have hρf := hρ.func
              obtain ⟨sn1, sn6, -⟩ := hs
              rw [place_at HVS.out (k := 1) rfl] at sn1
              replace sn1 : ρ (.tmp 108) = _ := sn1
              rw [place_at HVS.out (k := 6) rfl] at sn6
              replace sn6 : ρ (.tmp 113) = _ := sn6
              clear hf
              clear HCS HVS qs2 qs7 qs8 qs9 qs10 qs12 qs13
              refine run_plain ?_
              first | refine op_pick_t rfl sn1 sn6 ?_ | refine op_pick_f rfl sn1 (hρ.const _) ?_
              exact detK.mk
            -- 8: slot 115 := Op.move t114
            refine sure_det (js := [(7, 114)]) (ts := []) (gd := none) (place_at HVS.out (k := 8) rfl) (by rw [HCS.out]; kernel_rfl) ?_ ?_
            · intro wx hx ρ hρ hs hf
              have hρc := hρ.const
              have hρf := hρ.func
              obtain ⟨sn7, -⟩ := hs
              rw [place_at HVS.out (k := 7) rfl] at sn7
              replace sn7 : ρ (.tmp 114) = _ := sn7
              clear hf
              clear HCS HVS qs2 qs7 qs8 qs9 qs10 qs12 qs13
              refine run_plain ?_
              refine op_move rfl sn7 ?_
              exact detK.mk
            -- 9: slot 116 := Op.move t2
            refine sure_det (js := [(8, 115)]) (ts := [2]) (gd := (some (115, true))) (place_at HVS.out (k := 9) rfl) (by rw [HCS.out]; kernel_rfl) ?_ ?_
            · intro wx hx ρ hρ hs hf
              have hρc := hρ.const
              have hρf := hρ.func
              obtain ⟨sn8, -⟩ := hs
              obtain ⟨fx2, -⟩ := hf
              rw [qs2] at fx2
              rw [place_at HVS.out (k := 8) rfl] at sn8
              replace sn8 : ρ (.tmp 115) = _ := sn8
              clear HCS HVS qs2 qs7 qs8 qs9 qs10 qs12 qs13
              first
                | (refine run_passed sn8 ?_
                   exact detK.mk)
                | (refine run_guarded sn8 ?_
                   refine op_move rfl fx2 ?_
                   exact detK.mk)
            -- 10: slot 117 := Op.binOp BinOp.geq 3 t116 ((i64 0)) 3
            refine sure_det (js := [(9, 116), (8, 115)]) (ts := []) (gd := (some (115, true))) (place_at HVS.out (k := 10) rfl) (by rw [HCS.out]; kernel_rfl) ?_ ?_
            · intro wx hx ρ hρ hs hf
              have hρc := hρ.const
              have hρf := hρ.func
              obtain ⟨sn9, sn8, -⟩ := hs
              rw [place_at HVS.out (k := 9) rfl] at sn9
              replace sn9 : ρ (.tmp 116) = _ := sn9
              rw [place_at HVS.out (k := 8) rfl] at sn8
              replace sn8 : ρ (.tmp 115) = _ := sn8
              clear hf
              clear HCS HVS qs2 qs7 qs8 qs9 qs10 qs12 qs13
              first
                | (refine run_passed sn8 ?_
                   exact detK.mk)
                | (refine run_guarded sn8 ?_
                   unfold runs
                   go_simp
                   exact detK.mk)
            -- 11: slot 118 := Op.move t117
            refine sure_det (js := [(10, 117), (8, 115)]) (ts := []) (gd := (some (115, true))) (place_at HVS.out (k := 11) rfl) (by rw [HCS.out]; kernel_rfl) ?_ ?_
            · intro wx hx ρ hρ hs hf
              have hρc := hρ.const
              have hρf := hρ.func
              obtain ⟨sn10, sn8, -⟩ := hs
              rw [place_at HVS.out (k := 10) rfl] at sn10
              replace sn10 : ρ (.tmp 117) = _ := sn10
              rw [place_at HVS.out (k := 8) rfl] at sn8
              replace sn8 : ρ (.tmp 115) = _ := sn8
              clear hf
              clear HCS HVS qs2 qs7 qs8 qs9 qs10 qs12 qs13
              first
                | (refine run_passed sn8 ?_
                   exact detK.mk)
                | (refine run_guarded sn8 ?_
                   refine op_move rfl sn10 ?_
                   exact detK.mk)
            -- 12: slot 119 := Op.move t13
            refine sure_det (js := [(11, 118)]) (ts := [13]) (gd := (some (118, false))) (place_at HVS.out (k := 12) rfl) (by rw [HCS.out]; kernel_rfl) ?_ ?_
            · intro wx hx ρ hρ hs hf
              have hρc := hρ.const
              have hρf := hρ.func
              obtain ⟨sn11, -⟩ := hs
              obtain ⟨fx13, -⟩ := hf
              rw [qs13] at fx13
              rw [place_at HVS.out (k := 11) rfl] at sn11
              replace sn11 : ρ (.tmp 118) = _ := sn11
              clear HCS HVS qs2 qs7 qs8 qs9 qs10 qs12 qs13
              first
                | (refine run_passed sn11 ?_
                   exact detK.mk)
                | (refine run_guarded sn11 ?_
                   refine op_move rfl fx13 ?_
                   exact detK.mk)
            -- 13: slot 120 := Op.move t10
            refine sure_det (js := [(11, 118)]) (ts := [10]) (gd := (some (118, false))) (place_at HVS.out (k := 13) rfl) (by rw [HCS.out]; kernel_rfl) ?_ ?_
            · intro wx hx ρ hρ hs hf
              have hρc := hρ.const
              have hρf := hρ.func
              obtain ⟨sn11, -⟩ := hs
              obtain ⟨fx10, -⟩ := hf
              rw [qs10] at fx10
              rw [place_at HVS.out (k := 11) rfl] at sn11
              replace sn11 : ρ (.tmp 118) = _ := sn11
              clear HCS HVS qs2 qs7 qs8 qs9 qs10 qs12 qs13
              first
                | (refine run_passed sn11 ?_
                   exact detK.mk)
                | (refine run_guarded sn11 ?_
                   refine op_move rfl fx10 ?_
                   exact detK.mk)
            -- 14: slot 121 := Op.binOp BinOp.eql 3 t119 t120 3
            refine sure_det (js := [(12, 119), (13, 120), (11, 118)]) (ts := []) (gd := (some (118, false))) (place_at HVS.out (k := 14) rfl) (by rw [HCS.out]; kernel_rfl) ?_ ?_
            · intro wx hx ρ hρ hs hf
              have hρc := hρ.const
              have hρf := hρ.func
              obtain ⟨sn12, sn13, sn11, -⟩ := hs
              rw [place_at HVS.out (k := 12) rfl] at sn12
              replace sn12 : ρ (.tmp 119) = _ := sn12
              rw [place_at HVS.out (k := 13) rfl] at sn13
              replace sn13 : ρ (.tmp 120) = _ := sn13
              rw [place_at HVS.out (k := 11) rfl] at sn11
              replace sn11 : ρ (.tmp 118) = _ := sn11
              clear hf
              clear HCS HVS qs2 qs7 qs8 qs9 qs10 qs12 qs13
              first
                | (refine run_passed sn11 ?_
                   exact detK.mk)
                | (refine run_guarded sn11 ?_
                   unfold runs
                   go_simp
                   exact detK.mk)
            -- 15: slot 122 := Op.pick t118 ((Value.bool true)) t121
            refine sure_det (js := [(11, 118), (14, 121), (8, 115)]) (ts := []) (gd := (some (115, true))) (place_at HVS.out (k := 15) rfl) (by rw [HCS.out]; kernel_rfl) ?_ ?_
            · intro wx hx ρ hρ hs hf
              have hρc := hρ.const
              have hρf := hρ.func
              obtain ⟨sn11, sn14, sn8, -⟩ := hs
              rw [place_at HVS.out (k := 11) rfl] at sn11
              replace sn11 : ρ (.tmp 118) = _ := sn11
              rw [place_at HVS.out (k := 14) rfl] at sn14
              replace sn14 : ρ (.tmp 121) = _ := sn14
              rw [place_at HVS.out (k := 8) rfl] at sn8
              replace sn8 : ρ (.tmp 115) = _ := sn8
              clear hf
              clear HCS HVS qs2 qs7 qs8 qs9 qs10 qs12 qs13
              first
                | (refine run_passed sn8 ?_
                   exact detK.mk)
                | (refine run_guarded sn8 ?_
                   first | refine op_pick_t rfl sn11 (hρ.const _) ?_ | refine op_pick_f rfl sn11 sn14 ?_
                   exact detK.mk)
            -- 16: slot 123 := Op.pick t115 t122 ((Value.bool false))
            refine sure_det (js := [(8, 115), (15, 122)]) (ts := []) (gd := none) (place_at HVS.out (k := 16) rfl) (by rw [HCS.out]; kernel_rfl) ?_ ?_
            · intro wx hx ρ hρ hs hf
              have hρc := hρ.const
              have hρf := hρ.func
              obtain ⟨sn8, sn15, -⟩ := hs
              rw [place_at HVS.out (k := 8) rfl] at sn8
              replace sn8 : ρ (.tmp 115) = _ := sn8
              rw [place_at HVS.out (k := 15) rfl] at sn15
              replace sn15 : ρ (.tmp 122) = _ := sn15
              clear hf
              clear HCS HVS qs2 qs7 qs8 qs9 qs10 qs12 qs13
              refine run_plain ?_
              first | refine op_pick_t rfl sn8 sn15 ?_ | refine op_pick_f rfl sn8 (hρ.const _) ?_
              exact detK.mk
            -- 17: slot 124 := Op.move t123
            refine sure_det (js := [(16, 123)]) (ts := []) (gd := none) (place_at HVS.out (k := 17) rfl) (by rw [HCS.out]; kernel_rfl) ?_ ?_
            · intro wx hx ρ hρ hs hf
              have hρc := hρ.const
              have hρf := hρ.func
              obtain ⟨sn16, -⟩ := hs
              rw [place_at HVS.out (k := 16) rfl] at sn16
              replace sn16 : ρ (.tmp 123) = _ := sn16
              clear hf
              clear HCS HVS qs2 qs7 qs8 qs9 qs10 qs12 qs13
              refine run_plain ?_
              refine op_move rfl sn16 ?_
              exact detK.mk
            -- 18: slot 125 := Op.move t2
            refine sure_det (js := [(17, 124)]) (ts := [2]) (gd := (some (124, true))) (place_at HVS.out (k := 18) rfl) (by rw [HCS.out]; kernel_rfl) ?_ ?_
            · intro wx hx ρ hρ hs hf
              have hρc := hρ.const
              have hρf := hρ.func
              obtain ⟨sn17, -⟩ := hs
              obtain ⟨fx2, -⟩ := hf
              rw [qs2] at fx2
              rw [place_at HVS.out (k := 17) rfl] at sn17
              replace sn17 : ρ (.tmp 124) = _ := sn17
              clear HCS HVS qs2 qs7 qs8 qs9 qs10 qs12 qs13
              first
                | (refine run_passed sn17 ?_
                   exact detK.mk)
                | (refine run_guarded sn17 ?_
                   refine op_move rfl fx2 ?_
                   exact detK.mk)
            -- 19: slot 126 := Op.move t9
            refine sure_det (js := [(17, 124)]) (ts := [9]) (gd := (some (124, true))) (place_at HVS.out (k := 19) rfl) (by rw [HCS.out]; kernel_rfl) ?_ ?_
            · intro wx hx ρ hρ hs hf
              have hρc := hρ.const
              have hρf := hρ.func
              obtain ⟨sn17, -⟩ := hs
              obtain ⟨fx9, -⟩ := hf
              rw [qs9] at fx9
              rw [place_at HVS.out (k := 17) rfl] at sn17
              replace sn17 : ρ (.tmp 124) = _ := sn17
              clear HCS HVS qs2 qs7 qs8 qs9 qs10 qs12 qs13
              first
                | (refine run_passed sn17 ?_
                   exact detK.mk)
                | (refine run_guarded sn17 ?_
                   refine op_move rfl fx9 ?_
                   exact detK.mk)
            -- 20: slot 127 := Op.call { len, args := #[t126], argTypes := #[9] }
            refine sure_det (js := [(19, 126), (17, 124)]) (ts := []) (gd := (some (124, true))) (place_at HVS.out (k := 20) rfl) (by rw [HCS.out]; kernel_rfl) ?_ ?_
            · intro wx hx ρ hρ hs hf
              have hρc := hρ.const
              have hρf := hρ.func
              obtain ⟨sn19, sn17, -⟩ := hs
              rw [place_at HVS.out (k := 19) rfl] at sn19
              replace sn19 : ρ (.tmp 126) = _ := sn19
              rw [place_at HVS.out (k := 17) rfl] at sn17
              replace sn17 : ρ (.tmp 124) = _ := sn17
              clear hf
              clear HCS HVS qs2 qs7 qs8 qs9 qs10 qs12 qs13
              first
                | (refine run_passed sn17 ?_
                   exact detK.mk)
                | (refine run_guarded sn17 ?_
                   unfold runs
                   go_simp
                   exact detK.mk)
            -- 21: slot 128 := Op.move t10
            refine sure_det (js := [(17, 124)]) (ts := [10]) (gd := (some (124, true))) (place_at HVS.out (k := 21) rfl) (by rw [HCS.out]; kernel_rfl) ?_ ?_
            · intro wx hx ρ hρ hs hf
              have hρc := hρ.const
              have hρf := hρ.func
              obtain ⟨sn17, -⟩ := hs
              obtain ⟨fx10, -⟩ := hf
              rw [qs10] at fx10
              rw [place_at HVS.out (k := 17) rfl] at sn17
              replace sn17 : ρ (.tmp 124) = _ := sn17
              clear HCS HVS qs2 qs7 qs8 qs9 qs10 qs12 qs13
              first
                | (refine run_passed sn17 ?_
                   exact detK.mk)
                | (refine run_guarded sn17 ?_
                   refine op_move rfl fx10 ?_
                   exact detK.mk)
            -- 22: slot 129 := Op.binOp BinOp.sub 3 t127 t128 3
            refine sure_det (js := [(20, 127), (21, 128), (17, 124)]) (ts := []) (gd := (some (124, true))) (place_at HVS.out (k := 22) rfl) (by rw [HCS.out]; kernel_rfl) ?_ ?_
            · intro wx hx ρ hρ hs hf
              have hρc := hρ.const
              have hρf := hρ.func
              obtain ⟨sn20, sn21, sn17, -⟩ := hs
              rw [place_at HVS.out (k := 20) rfl] at sn20
              replace sn20 : ρ (.tmp 127) = _ := sn20
              rw [place_at HVS.out (k := 21) rfl] at sn21
              replace sn21 : ρ (.tmp 128) = _ := sn21
              rw [place_at HVS.out (k := 17) rfl] at sn17
              replace sn17 : ρ (.tmp 124) = _ := sn17
              clear hf
              clear HCS HVS qs2 qs7 qs8 qs9 qs10 qs12 qs13
              first
                | (refine run_passed sn17 ?_
                   exact detK.mk)
                | (refine run_guarded sn17 ?_
                   unfold runs
                   go_simp
                   exact detK.mk)
            -- 23: slot 130 := Op.binOp BinOp.lss 3 t125 t129 3
            refine sure_det (js := [(18, 125), (22, 129), (17, 124)]) (ts := []) (gd := (some (124, true))) (place_at HVS.out (k := 23) rfl) (by rw [HCS.out]; kernel_rfl) ?_ ?_
            · intro wx hx ρ hρ hs hf
              have hρc := hρ.const
              have hρf := hρ.func
              obtain ⟨sn18, sn22, sn17, -⟩ := hs
              rw [place_at HVS.out (k := 18) rfl] at sn18
              replace sn18 : ρ (.tmp 125) = _ := sn18
              rw [place_at HVS.out (k := 22) rfl] at sn22
              replace sn22 : ρ (.tmp 129) = _ := sn22
              rw [place_at HVS.out (k := 17) rfl] at sn17
              replace sn17 : ρ (.tmp 124) = _ := sn17
              clear hf
              clear HCS HVS qs2 qs7 qs8 qs9 qs10 qs12 qs13
              first
                | (refine run_passed sn17 ?_
                   exact detK.mk)
                | (refine run_guarded sn17 ?_
                   unfold runs
                   go_simp
                   exact detK.mk)
            -- 24: slot 131 := Op.move t130
            refine sure_det (js := [(23, 130), (17, 124)]) (ts := []) (gd := (some (124, true))) (place_at HVS.out (k := 24) rfl) (by rw [HCS.out]; kernel_rfl) ?_ ?_
            · intro wx hx ρ hρ hs hf
              have hρc := hρ.const
              have hρf := hρ.func
              obtain ⟨sn23, sn17, -⟩ := hs
              rw [place_at HVS.out (k := 23) rfl] at sn23
              replace sn23 : ρ (.tmp 130) = _ := sn23
              rw [place_at HVS.out (k := 17) rfl] at sn17
              replace sn17 : ρ (.tmp 124) = _ := sn17
              clear hf
              clear HCS HVS qs2 qs7 qs8 qs9 qs10 qs12 qs13
              first
                | (refine run_passed sn17 ?_
                   exact detK.mk)
                | (refine run_guarded sn17 ?_
                   refine op_move rfl sn23 ?_
                   exact detK.mk)
            -- 25: slot 132 := Op.move t13
            refine sure_det (js := [(24, 131)]) (ts := [13]) (gd := (some (131, false))) (place_at HVS.out (k := 25) rfl) (by rw [HCS.out]; kernel_rfl) ?_ ?_
            · intro wx hx ρ hρ hs hf
              have hρc := hρ.const
              have hρf := hρ.func
              obtain ⟨sn24, -⟩ := hs
              obtain ⟨fx13, -⟩ := hf
              rw [qs13] at fx13
              rw [place_at HVS.out (k := 24) rfl] at sn24
              replace sn24 : ρ (.tmp 131) = _ := sn24
              clear HCS HVS qs2 qs7 qs8 qs9 qs10 qs12 qs13
              first
                | (refine run_passed sn24 ?_
                   exact detK.mk)
                | (refine run_guarded sn24 ?_
                   refine op_move rfl fx13 ?_
                   exact detK.mk)
            -- 26: slot 133 := Op.move t9
            refine sure_det (js := [(24, 131)]) (ts := [9]) (gd := (some (131, false))) (place_at HVS.out (k := 26) rfl) (by rw [HCS.out]; kernel_rfl) ?_ ?_
            · intro wx hx ρ hρ hs hf
              have hρc := hρ.const
              have hρf := hρ.func
              obtain ⟨sn24, -⟩ := hs
              obtain ⟨fx9, -⟩ := hf
              rw [qs9] at fx9
              rw [place_at HVS.out (k := 24) rfl] at sn24
              replace sn24 : ρ (.tmp 131) = _ := sn24
              clear HCS HVS qs2 qs7 qs8 qs9 qs10 qs12 qs13
              first
                | (refine run_passed sn24 ?_
                   exact detK.mk)
                | (refine run_guarded sn24 ?_
                   refine op_move rfl fx9 ?_
                   exact detK.mk)
            -- 27: slot 134 := Op.call { len, args := #[t133], argTypes := #[9] }
            refine sure_det (js := [(26, 133), (24, 131)]) (ts := []) (gd := (some (131, false))) (place_at HVS.out (k := 27) rfl) (by rw [HCS.out]; kernel_rfl) ?_ ?_
            · intro wx hx ρ hρ hs hf
              have hρc := hρ.const
              have hρf := hρ.func
              obtain ⟨sn26, sn24, -⟩ := hs
              rw [place_at HVS.out (k := 26) rfl] at sn26
              replace sn26 : ρ (.tmp 133) = _ := sn26
              rw [place_at HVS.out (k := 24) rfl] at sn24
              replace sn24 : ρ (.tmp 131) = _ := sn24
              clear hf
              clear HCS HVS qs2 qs7 qs8 qs9 qs10 qs12 qs13
              first
                | (refine run_passed sn24 ?_
                   exact detK.mk)
                | (refine run_guarded sn24 ?_
                   unfold runs
                   go_simp
                   exact detK.mk)
            -- 28: slot 135 := Op.binOp BinOp.eql 3 t132 t134 3
            refine sure_det (js := [(25, 132), (27, 134), (24, 131)]) (ts := []) (gd := (some (131, false))) (place_at HVS.out (k := 28) rfl) (by rw [HCS.out]; kernel_rfl) ?_ ?_
            · intro wx hx ρ hρ hs hf
              have hρc := hρ.const
              have hρf := hρ.func
              obtain ⟨sn25, sn27, sn24, -⟩ := hs
              rw [place_at HVS.out (k := 25) rfl] at sn25
              replace sn25 : ρ (.tmp 132) = _ := sn25
              rw [place_at HVS.out (k := 27) rfl] at sn27
              replace sn27 : ρ (.tmp 134) = _ := sn27
              rw [place_at HVS.out (k := 24) rfl] at sn24
              replace sn24 : ρ (.tmp 131) = _ := sn24
              clear hf
              clear HCS HVS qs2 qs7 qs8 qs9 qs10 qs12 qs13
              first
                | (refine run_passed sn24 ?_
                   exact detK.mk)
                | (refine run_guarded sn24 ?_
                   unfold runs
                   go_simp
                   exact detK.mk)
            -- 29: slot 136 := Op.pick t131 ((Value.bool true)) t135
            refine sure_det (js := [(24, 131), (28, 135), (17, 124)]) (ts := []) (gd := (some (124, true))) (place_at HVS.out (k := 29) rfl) (by rw [HCS.out]; kernel_rfl) ?_ ?_
            · intro wx hx ρ hρ hs hf
              have hρc := hρ.const
              have hρf := hρ.func
              obtain ⟨sn24, sn28, sn17, -⟩ := hs
              rw [place_at HVS.out (k := 24) rfl] at sn24
              replace sn24 : ρ (.tmp 131) = _ := sn24
              rw [place_at HVS.out (k := 28) rfl] at sn28
              replace sn28 : ρ (.tmp 135) = _ := sn28
              rw [place_at HVS.out (k := 17) rfl] at sn17
              replace sn17 : ρ (.tmp 124) = _ := sn17
              clear hf
              clear HCS HVS qs2 qs7 qs8 qs9 qs10 qs12 qs13
              first
                | (refine run_passed sn17 ?_
                   exact detK.mk)
                | (refine run_guarded sn17 ?_
                   first | refine op_pick_t rfl sn24 (hρ.const _) ?_ | refine op_pick_f rfl sn24 sn28 ?_
                   exact detK.mk)
            -- 30: slot 137 := Op.pick t124 t136 ((Value.bool false))
            refine sure_det (js := [(17, 124), (29, 136)]) (ts := []) (gd := none) (place_at HVS.out (k := 30) rfl) (by rw [HCS.out]; kernel_rfl) ?_ ?_
            · intro wx hx ρ hρ hs hf
              have hρc := hρ.const
              have hρf := hρ.func
              obtain ⟨sn17, sn29, -⟩ := hs
              rw [place_at HVS.out (k := 17) rfl] at sn17
              replace sn17 : ρ (.tmp 124) = _ := sn17
              rw [place_at HVS.out (k := 29) rfl] at sn29
              replace sn29 : ρ (.tmp 136) = _ := sn29
              clear hf
              clear HCS HVS qs2 qs7 qs8 qs9 qs10 qs12 qs13
              refine run_plain ?_
              first | refine op_pick_t rfl sn17 sn29 ?_ | refine op_pick_f rfl sn17 (hρ.const _) ?_
              exact detK.mk
            -- 31: slot 138 := Op.move t137
            refine sure_det (js := [(30, 137)]) (ts := []) (gd := none) (place_at HVS.out (k := 31) rfl) (by rw [HCS.out]; kernel_rfl) ?_ ?_
            · intro wx hx ρ hρ hs hf
              have hρc := hρ.const
              have hρf := hρ.func
              obtain ⟨sn30, -⟩ := hs
              rw [place_at HVS.out (k := 30) rfl] at sn30
              replace sn30 : ρ (.tmp 137) = _ := sn30
              clear hf
              clear HCS HVS qs2 qs7 qs8 qs9 qs10 qs12 qs13
              refine run_plain ?_
              refine op_move rfl sn30 ?_
              exact detK.mk
            -- 32: slot 139 := Op.load 24 t12
            refine sure_det (js := [(31, 138)]) (ts := [12]) (gd := (some (138, true))) (place_at HVS.out (k := 32) rfl) (by rw [HCS.out]; kernel_rfl) ?_ ?_
            · intro wx hx ρ hρ hs hf
              have hρc := hρ.const
              have hρf := hρ.func
              obtain ⟨sn31, -⟩ := hs
              obtain ⟨fx12, -⟩ := hf
              rw [qs12] at fx12
              rw [place_at HVS.out (k := 31) rfl] at sn31
              replace sn31 : ρ (.tmp 138) = _ := sn31
              clear HCS HVS qs2 qs7 qs8 qs9 qs10 qs12 qs13
              first
                | (refine run_passed sn31 ?_
                   exact detK.mk)
                | (refine run_guarded sn31 ?_
                   obtain ⟨b0, b1, b2, b3, hVx, -⟩ := hX2 wx hx.drawn
                   unfold runs
                   go_simp
                   exact detK.mk)
            -- 33: slot 140 := Op.move t2
            refine sure_det (js := [(31, 138)]) (ts := [2]) (gd := (some (138, true))) (place_at HVS.out (k := 33) rfl) (by rw [HCS.out]; kernel_rfl) ?_ ?_
            · intro wx hx ρ hρ hs hf
              have hρc := hρ.const
              have hρf := hρ.func
              obtain ⟨sn31, -⟩ := hs
              obtain ⟨fx2, -⟩ := hf
              rw [qs2] at fx2
              rw [place_at HVS.out (k := 31) rfl] at sn31
              replace sn31 : ρ (.tmp 138) = _ := sn31
              clear HCS HVS qs2 qs7 qs8 qs9 qs10 qs12 qs13
              first
                | (refine run_passed sn31 ?_
                   exact detK.mk)
                | (refine run_guarded sn31 ?_
                   refine op_move rfl fx2 ?_
                   exact detK.mk)
            -- 34: slot 141 := Op.call { call ( 21), args := #[t139, t140], argTypes := #[24, 3] }
            refine sure_det (js := [(32, 139), (33, 140), (31, 138)]) (ts := []) (gd := (some (138, true))) (place_at HVS.out (k := 34) rfl) (by rw [HCS.out]; kernel_rfl) ?_ ?_
            · intro wx hx ρ hρ hs hf
              have hρc := hρ.const
              have hρf := hρ.func
              obtain ⟨sn32, sn33, sn31, -⟩ := hs
              rw [place_at HVS.out (k := 32) rfl] at sn32
              replace sn32 : ρ (.tmp 139) = _ := sn32
              rw [place_at HVS.out (k := 33) rfl] at sn33
              replace sn33 : ρ (.tmp 140) = _ := sn33
              rw [place_at HVS.out (k := 31) rfl] at sn31
              replace sn31 : ρ (.tmp 138) = _ := sn31
              clear hf
              clear HCS HVS qs2 qs7 qs8 qs9 qs10 qs12 qs13
              first
                | (refine run_passed sn31 ?_
                   exact detK.mk)
                | (refine run_guarded sn31 ?_
                   refine op_call rfl hρ Try.call21 (map_two sn32 sn33) ?_
                   first | ((with_reducible refine Calls.mono (cut_self D N N more (by omega) (Nat.le_refl _) _) ?_); rintro e w' ⟨rfl, hx5⟩; refine ⟨_, rfl, ?_⟩; exact detK.ext hx5) | ((with_reducible refine Calls.mono (same_yes D D N N N N (d.take N) _ ((hX2 wx hx.drawn).2.2.2.2.1.cut hN) ((hX2 wx hx.drawn).2.2.2.2.1.cut hN)) ?_); rintro e w' ⟨rfl, hx5⟩; refine ⟨_, rfl, ?_⟩; exact detK.ext hx5))
            -- 35: slot 142 := Op.load 24 t12
            refine sure_det (js := [(31, 138)]) (ts := [12]) (gd := (some (138, true))) (place_at HVS.out (k := 35) rfl) (by rw [HCS.out]; kernel_rfl) ?_ ?_
            · intro wx hx ρ hρ hs hf
              have hρc := hρ.const
              have hρf := hρ.func
              obtain ⟨sn31, -⟩ := hs
              obtain ⟨fx12, -⟩ := hf
              rw [qs12] at fx12
              rw [place_at HVS.out (k := 31) rfl] at sn31
              replace sn31 : ρ (.tmp 138) = _ := sn31
              clear HCS HVS qs2 qs7 qs8 qs9 qs10 qs12 qs13
              first
                | (refine run_passed sn31 ?_
                   exact detK.mk)
                | (refine run_guarded sn31 ?_
                   obtain ⟨b0, b1, b2, b3, hVx, -⟩ := hX2 wx hx.drawn
                   unfold runs
                   go_simp
                   exact detK.mk)
            -- 36: slot 143 := Op.call { call ( 16), args := #[t141, t142], argTypes := #[24, 24] }
            refine sure_det (js := [(34, 141), (35, 142), (31, 138)]) (ts := []) (gd := (some (138, true))) (place_at HVS.out (k := 36) rfl) (by rw [HCS.out]; kernel_rfl) ?_ ?_
            · intro wx hx ρ hρ hs hf
              have hρc := hρ.const
              have hρf := hρ.func
              obtain ⟨sn34, sn35, sn31, -⟩ := hs
              rw [place_at HVS.out (k := 34) rfl] at sn34
              replace sn34 : ρ (.tmp 141) = _ := sn34
              rw [place_at HVS.out (k := 35) rfl] at sn35
              replace sn35 : ρ (.tmp 142) = _ := sn35
              rw [place_at HVS.out (k := 31) rfl] at sn31
              replace sn31 : ρ (.tmp 138) = _ := sn31
              clear hf
              clear HCS HVS qs2 qs7 qs8 qs9 qs10 qs12 qs13
              first
                | (refine run_passed sn31 ?_
                   exact detK.mk)
                | (refine run_guarded sn31 ?_
                   refine op_call rfl hρ Try.call16 (map_two sn34 sn35) ?_
                   first | ((with_reducible refine Calls.mono (cut_self D N N more (by omega) (Nat.le_refl _) _) ?_); rintro e w' ⟨rfl, hx5⟩; refine ⟨_, rfl, ?_⟩; exact detK.ext hx5) | ((with_reducible refine Calls.mono (same_yes D D N N N N (d.take N) _ ((hX2 wx hx.drawn).2.2.2.2.1.cut hN) ((hX2 wx hx.drawn).2.2.2.2.1.cut hN)) ?_); rintro e w' ⟨rfl, hx5⟩; refine ⟨_, rfl, ?_⟩; exact detK.ext hx5))
            -- 37: slot 144 := Op.pick t138 t143 ((Value.bool false))
            refine sure_det (js := [(31, 138), (36, 143)]) (ts := []) (gd := none) (place_at HVS.out (k := 37) rfl) (by rw [HCS.out]; kernel_rfl) ?_ ?_
            · intro wx hx ρ hρ hs hf
              have hρc := hρ.const
              have hρf := hρ.func
              obtain ⟨sn31, sn36, -⟩ := hs
              rw [place_at HVS.out (k := 31) rfl] at sn31
              replace sn31 : ρ (.tmp 138) = _ := sn31
              rw [place_at HVS.out (k := 36) rfl] at sn36
              replace sn36 : ρ (.tmp 143) = _ := sn36
              clear hf
              clear HCS HVS qs2 qs7 qs8 qs9 qs10 qs12 qs13
              refine run_plain ?_
              first | refine op_pick_t rfl sn31 sn36 ?_ | refine op_pick_f rfl sn31 (hρ.const _) ?_
              exact detK.mk
            -- 38: slot 6 := Op.assign t144
            refine sure_det (js := [(37, 144)]) (ts := []) (gd := none) (place_at HVS.out (k := 38) rfl) (by rw [HCS.out]; kernel_rfl) ?_ ?_
            · intro wx hx ρ hρ hs hf
              have hρc := hρ.const
              have hρf := hρ.func
              obtain ⟨sn37, -⟩ := hs
              rw [place_at HVS.out (k := 37) rfl] at sn37
              replace sn37 : ρ (.tmp 144) = _ := sn37
              clear hf
              clear HCS HVS qs2 qs7 qs8 qs9 qs10 qs12 qs13
              refine run_plain ?_
              refine op_assign rfl sn37 ?_
              exact detK.mk
            exact trivial
          case hend =>
            intro xs wx hx hg
            have gk0 : xs 0 = _ := goods_get hg (i := 0) (j := 0) (d := 107) rfl
            have gk1 : xs 1 = _ := goods_get hg (i := 1) (j := 1) (d := 108) rfl
            have gk2 : xs 2 = _ := goods_get hg (i := 2) (j := 2) (d := 109) rfl
            have gk3 : xs 3 = _ := goods_get hg (i := 3) (j := 3) (d := 110) rfl
            have gk4 : xs 4 = _ := goods_get hg (i := 4) (j := 4) (d := 111) rfl
            have gk5 : xs 5 = _ := goods_get hg (i := 5) (j := 5) (d := 112) rfl
            have gk6 : xs 6 = _ := goods_get hg (i := 6) (j := 6) (d := 113) rfl
            have gk7 : xs 7 = _ := goods_get hg (i := 7) (j := 7) (d := 114) rfl
            have gk8 : xs 8 = _ := goods_get hg (i := 8) (j := 8) (d := 115) rfl
            have gk9 : xs 9 = _ := goods_get hg (i := 9) (j := 9) (d := 116) rfl
            have gk10 : xs 10 = _ := goods_get hg (i := 10) (j := 10) (d := 117) rfl
            have gk11 : xs 11 = _ := goods_get hg (i := 11) (j := 11) (d := 118) rfl
            have gk12 : xs 12 = _ := goods_get hg (i := 12) (j := 12) (d := 119) rfl
            have gk13 : xs 13 = _ := goods_get hg (i := 13) (j := 13) (d := 120) rfl
            have gk14 : xs 14 = _ := goods_get hg (i := 14) (j := 14) (d := 121) rfl
            have gk15 : xs 15 = _ := goods_get hg (i := 15) (j := 15) (d := 122) rfl
            have gk16 : xs 16 = _ := goods_get hg (i := 16) (j := 16) (d := 123) rfl
            have gk17 : xs 17 = _ := goods_get hg (i := 17) (j := 17) (d := 124) rfl
            have gk18 : xs 18 = _ := goods_get hg (i := 18) (j := 18) (d := 125) rfl
            have gk19 : xs 19 = _ := goods_get hg (i := 19) (j := 19) (d := 126) rfl
            have gk20 : xs 20 = _ := goods_get hg (i := 20) (j := 20) (d := 127) rfl
            have gk21 : xs 21 = _ := goods_get hg (i := 21) (j := 21) (d := 128) rfl
            have gk22 : xs 22 = _ := goods_get hg (i := 22) (j := 22) (d := 129) rfl
            have gk23 : xs 23 = _ := goods_get hg (i := 23) (j := 23) (d := 130) rfl
            have gk24 : xs 24 = _ := goods_get hg (i := 24) (j := 24) (d := 131) rfl
            have gk25 : xs 25 = _ := goods_get hg (i := 25) (j := 25) (d := 132) rfl
            have gk26 : xs 26 = _ := goods_get hg (i := 26) (j := 26) (d := 133) rfl
            have gk27 : xs 27 = _ := goods_get hg (i := 27) (j := 27) (d := 134) rfl
            have gk28 : xs 28 = _ := goods_get hg (i := 28) (j := 28) (d := 135) rfl
            have gk29 : xs 29 = _ := goods_get hg (i := 29) (j := 29) (d := 136) rfl
            have gk30 : xs 30 = _ := goods_get hg (i := 30) (j := 30) (d := 137) rfl
            have gk31 : xs 31 = _ := goods_get hg (i := 31) (j := 31) (d := 138) rfl
            have gk32 : xs 32 = _ := goods_get hg (i := 32) (j := 32) (d := 139) rfl
            have gk33 : xs 33 = _ := goods_get hg (i := 33) (j := 33) (d := 140) rfl
            have gk34 : xs 34 = _ := goods_get hg (i := 34) (j := 34) (d := 141) rfl
            have gk35 : xs 35 = _ := goods_get hg (i := 35) (j := 35) (d := 142) rfl
            have gk36 : xs 36 = _ := goods_get hg (i := 36) (j := 36) (d := 143) rfl
            have gk37 : xs 37 = _ := goods_get hg (i := 37) (j := 37) (d := 144) rfl
            have gk38 : xs 38 = _ := goods_get hg (i := 38) (j := 38) (d := 6) rfl
            clear hg
            simp only [putAll, gk0, gk1, gk2, gk3, gk4, gk5, gk6, gk7, gk8, gk9, gk10, gk11, gk12, gk13, gk14, gk15, gk16, gk17, gk18, gk19, gk20, gk21, gk22, gk23, gk24, gk25, gk26, gk27, gk28, gk29, gk30, gk31, gk32, gk33, gk34, gk35, gk36, gk37, gk38]
            clear gk0 gk1 gk2 gk3 gk4 gk5 gk6 gk7 gk8 gk9 gk10 gk11 gk12 gk13 gk14 gk15 gk16 gk17 gk18 gk19 gk20 gk21 gk22 gk23 gk24 gk25 gk26 gk27 gk28 gk29 gk30 gk31 gk32 gk33 gk34 gk35 gk36 gk37 gk38
            clear xs
            simp only [Act.put, List.setIfInBounds_toArray, List.set_cons_zero, List.set_cons_succ]
            go_wp2
            go_ret
            exact ⟨rfl, (hX2 _ hx.drawn).2.2.2.2.2⟩
theorem stays_big (A B : Option Addr) (n c m c2 : Nat) (more : Int) (w : World) (h : 20 < n ∨ (¬ 20 < n ∧ m < n)) :
    Calls Try.prog 4 #[.slice A n c, .slice B m c2, .int .i64 more] w fun e w' => e = .returned (.bool true) ∧ Ext w w' := by
  rcases h with h | ⟨h, h2⟩
  all_goals
    go_enter Try.func4, Try.ntmps4
    go_wp2_with (first
      | (go_at_call 13; refine (shown6_any _).mono ?_; rintro e w1 ⟨rfl, hx1⟩))
    go_ret
    exact ⟨rfl, hx1⟩
section
variable {H : Type} {enc : TypeId × Value → H} {w : World} {base : Nat}
set_option maxRecDepth 100000 in
theorem open_texts {b0 : Nat} {v : Value} {d : DataW H} {p : List MemPlace} (hv : Value.okWide Try.prog w .any b0 32 v) (h : DataW.Trod enc Try.prog w base (fun _ => true) true 32 v d p) :
    ∃ A n c ls, v = .slice A n c ∧ RowsV w A n c ls := by
  obtain ⟨A0, n0, c0, rfl⟩ := okWide_slice Try.underlying32 hv
  obtain ⟨fuel, hf⟩ := h
  obtain ⟨A, n, c, m, e, hn, hc, hA, hi⟩ := open_slice Try.underlying32 hf
  simp [Value.cells] at e
  obtain ⟨rfl, rfl, rfl⟩ := e
  rw [cellsBytes] at hi
  obtain ⟨ls, hl, hp⟩ := list_choose (n := n0) (p := fun i l => ∃ a A' m c', A0 = some a ∧ w.cell? (a.add i) = some (.slice A' m c') ∧ BytesV w A' m c' l) (fun i hlt => by
    obtain ⟨a, l, y, ha, hlen, hcell, ht⟩ := hi i hlt
    obtain ⟨A', m', c', l', e, hV⟩ := open_bytes ht
    subst e
    exact ⟨l', a, A', m', c', ha, by simpa using hcell 0 _ rfl, hV⟩)
  exact ⟨A0, n0, c0, ls, rfl, hl, hp⟩
set_option maxRecDepth 100000 in
theorem open_bools {b0 : Nat} {v : Value} {d : DataW H} {p : List MemPlace} (hv : Value.okWide Try.prog w .any b0 33 v) (h : DataW.Trod enc Try.prog w base (fun _ => true) true 33 v d p) :
    ∃ A n c bs, v = .slice A n c ∧ BoolsV w A n c bs := by
  obtain ⟨A0, n0, c0, rfl⟩ := okWide_slice Try.underlying33 hv
  obtain ⟨fuel, hf⟩ := h
  obtain ⟨A, n, c, m, e, hn, hc, hA, hi⟩ := open_slice Try.underlying33 hf
  simp [Value.cells] at e
  obtain ⟨rfl, rfl, rfl⟩ := e
  rw [show Try.prog.cellsOf 4 = 1 by kernel_rfl] at hi
  obtain ⟨bs, hl, hp⟩ := list_choose (n := n0) (p := fun i b => ∃ a, A0 = some a ∧ w.cell? (a.add i) = some (.bool b)) (fun i hlt => by
    obtain ⟨a, l, y, ha, hlen, hcell, ht⟩ := hi i hlt
    obtain ⟨b, e, _⟩ := DataW.trod_bool Try.underlying4 ht
    subst e
    exact ⟨b, a, ha, by simpa using hcell 0 _ rfl⟩)
  exact ⟨A0, n0, c0, bs, rfl, hl, hp⟩
end
set_option maxRecDepth 100000 in
theorem StreamStays_lifted (os : Os) (started : os.Started) (H : Type) (enc : TypeId × Value → H) :
    ReturnsInHanded {} Try.checked os 4 .any (Rows.streamStaysSpec.pre6 enc Try.prog Try.f4 Rows.streamStaysRow.domain false) (Rows.streamStaysSpec.post enc Try.prog Try.f4 false true false false) := by
  refine law_row os started H enc Rows.streamStaysSpec rfl (fun ds h => by
    match ds, h with
    | [_, _, _], _ => rfl) (by kernel_rfl) Try.func4 rfl
    (by rw [Try.params4]; intro t ht; simp at ht; rcases ht with rfl | rfl | rfl <;> exact ⟨by kernel_rfl, of_decide_eq_true (by kernel_rfl)⟩)
    (ChangeSpec.witness6 (enc := enc) (C := Try.checked) false ⟨#[], #[.slice none 0 0, .slice none 0 0, .int .i64 0], []⟩ 8 (by kernel_rfl) (by kernel_rfl) (by kernel_rfl) (by kernel_rfl)) ?_
  intro W base args ds ps hval hA hlt
  rw [Try.params4] at hA hval
  obtain ⟨v0, v1, v2, d0, d1, d2, p0, p1, p2, rfl, rfl, rfl, h0, h1, h2⟩ := trodAll_three hA
  obtain ⟨A, n, c, ls, rfl, hR⟩ := open_texts (hval 0 _ v0 rfl rfl) h0
  obtain ⟨B, m, c2, bs, rfl, hS⟩ := open_bools (hval 1 _ v1 rfl rfl) h1
  obtain ⟨more, rfl, rfl, rfl, w2⟩ := open_int Try.underlying3 (hval 2 _ v2 rfl rfl) h2
  by_cases h : 20 < n ∨ (¬ 20 < n ∧ m < n)
  · exact stays_big A B n c m c2 more W h
  · exact stays_walk A B n c m c2 more ls bs W hR hS (by omega) (by omega)
theorem StreamStays_holds : Rows.StreamStaysSaid :=
  OpenClaim.holds_of_wide 4 Try.f4 rfl rfl rfl rfl rfl rfl rfl ⟨rfl, rfl, rfl, rfl, rfl⟩ rfl rfl rfl rfl rfl (by kernel_rfl) Try.func4 (by kernel_rfl)
    (of_decide_eq_true (by kernel_rfl)) (by unfold Func.isWrapper; rw [if_neg (of_decide_eq_false (by kernel_rfl))]; exact ⟨rfl, rfl⟩)
    (fun os started H enc _ => StreamStays_lifted os started H enc)
#print axioms StreamStays_holds
end Go.Proofs.Ythncdpopacdekaa
