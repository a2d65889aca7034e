/- Proved: the law WordApart (two words of the same kind are the same just if they were put together of the same) returns true at every input and turns none of its arguments. No condition. -/
import Derived.Test.YthncdpopacdekaaWordRef
import Derived.Test.YthncdpopacdekaaLift
import Derived.Test.YthncdpopacdekaaAggs
import Derived.LoopTactic
import Derived.Test.YthncdpopacdekaaSure
namespace Go.Proofs.Ythncdpopacdekaa
open Go.ChangeShapes Go.WideShapes Go.ChangeAt Go.RowKit

section
variable {P : Program} (w : World)
theorem run_equalIn_int (d : Nat) {t : TypeId} {k : IntKind} (ht : P.underlying t = some (.int k)) (a b : Int) :
    (Op.equalIn (d + 1) t (.int k a) (.int k b)).run P w = .ok (a == b) w := by
  simp [Op.equalIn, run_underlying ht]
theorem run_isAgg_int {t : TypeId} {k : IntKind} (ht : P.underlying t = some (.int k)) (w : World) : (isAgg t).run P w = .ok false w := by
  simp [isAgg, run_underlying ht]
theorem run_equalIn_arr2 (d : Nat) {t e : TypeId} {i : TypeInfo} {k : IntKind} (ht : P.underlying t = some (.array 2 e)) (he : P.underlying e = some (.int k)) (hi : P.info? e = some i) (hs : i.size = 1) (a b a' b' : Int) :
    (Op.equalIn (d + 2) t (.agg #[.int k a, .int k b]) (.agg #[.int k a', .int k b'])).run P w = .ok (a == a' && b == b') w := by
  rw [Op.equalIn]
  simp [run_underlying ht, sizeOf, typeInfo, hi, hs, part, List.range', run_isAgg_int he, run_equalIn_int _ _ he]
  by_cases h : a = a' <;> by_cases h' : b = b' <;> simp [h, h']
theorem run_eql_arr2 {t e : TypeId} {k : IntKind} (ht : P.underlying t = some (.array 2 e)) (he : P.underlying e = some (.int k)) (hs : (P.info? e).map (fun i => i.size) = some 1) (a b a' b' : Int) (w : World) :
    (binOp .eql t (.agg #[.int k a, .int k b]) (.agg #[.int k a', .int k b'])).run P w = .ok (.bool (a == a' && b == b')) w := by
  rcases hi : P.info? e with _ | i
  · rw [hi] at hs; cases hs
  · rw [hi] at hs
    have hs' : i.size = 1 := by simpa using hs
    simp only [binOp]
    simp [Op.equal, Op.maxDepth, run_equalIn_arr2 w 9998 ht he hi hs' a b a' b']
end
theorem quiet_me {P : Program} {f : FuncId} {args : Array Value} {w : World} {n : Nat} {v : Value}
    (h : Calls P f args (w.drewN n) fun e w' => e = .returned v ∧ w.drewN n = w') : Calls P f args (w.drewN n) fun e w'' => e = .returned v ∧ ∃ m, w'' = w.drewN m :=
  h.mono fun _ _ ⟨he, hm⟩ => ⟨he, n, hm.symm⟩
theorem apart_ends {a0 a1 b0 b1 : Int} (h1 : isRef a0) (h2 : isRef a1) (h3 : isRef b0) (h4 : isRef b1) : (endsF a0 a1 == endsF b0 b1) = (a0 == b0 && a1 == b1) := by
  rw [ends_ref h1 h2, ends_ref h3 h4, Bool.eq_iff_iff]
  obtain ⟨_, _⟩ := h1; obtain ⟨_, _⟩ := h2; obtain ⟨_, _⟩ := h3; obtain ⟨_, _⟩ := h4
  simp; omega
theorem apart_top {a0 b0 x y : Int} (h1 : isRef a0) (h3 : isRef b0) (hx : U64 x) (hy : U64 y) (hx' : x < 17592186044416) (hy' : y < 17592186044416) : (topF a0 x == topF b0 y) = (a0 == b0 && x == y) := by
  rw [top_ref h1 hx, top_ref h3 hy, Bool.eq_iff_iff]
  obtain ⟨_, _⟩ := h1; obtain ⟨_, _⟩ := h3
  have := hx.1
  have := hy.1
  simp; omega
theorem apart_flag {x y a b : Int} (ha : 0 ≤ a) (hb : 0 ≤ b) (hx : U64 x) (hy : U64 y) (hx' : x < 17592186044416) (hy' : y < 17592186044416) : (flagF x (a.tmod 4) == flagF y (b.tmod 4)) = (x == y && a.tmod 4 == b.tmod 4) := by
  rw [Int.tmod_eq_emod_of_nonneg ha, Int.tmod_eq_emod_of_nonneg hb]
  rw [flag_eq x _ hx, flag_eq y _ hy, Bool.eq_iff_iff]
  have := hx.1
  have := hy.1
  simp; omega
theorem apart_link {a0 b0 a b : Int} (h1 : isRef a0) (h3 : isRef b0) (ha : 0 ≤ a) (hb : 0 ≤ b) : (linkF a0 (a.tmod 2 == 1) == linkF b0 (b.tmod 2 == 1)) = (a0 == b0 && a.tmod 2 == b.tmod 2) := by
  rw [Int.tmod_eq_emod_of_nonneg ha, Int.tmod_eq_emod_of_nonneg hb]
  rw [link_ref h1, link_ref h3, Bool.eq_iff_iff]
  have ha : a % 2 = 0 ∨ a % 2 = 1 := by omega
  have hb : b % 2 = 0 ∨ b % 2 = 1 := by omega
  rcases ha with ha | ha <;> rcases hb with hb | hb <;> simp [ha, hb] <;> omega
set_option maxRecDepth 100000 in
set_option maxHeartbeats 8000000 in
theorem apart_walk (a0 a1 b0 b1 s0 s1 : Int) (ws0 : U64 s0) (ws1 : U64 s1) (w : World) :
    Calls Try.prog 10 #[.agg #[.int .i64 a0, .int .i64 a1], .agg #[.int .i64 b0, .int .i64 b1], .agg #[.int .u64 s0, .int .u64 s1]] w fun e w' => e = .returned (.bool true) ∧ Below w.heap.size w w' := by
  have heq : ∀ (W : World), (binOp .eql 56 (.agg #[.int .i64 a0, .int .i64 a1]) (.agg #[.int .i64 b0, .int .i64 b1])).run Try.prog W = .ok (.bool (a0 == b0 && a1 == b1)) W := fun W =>
    run_eql_arr2 Try.underlying56 Try.underlying3 (by kernel_rfl) a0 a1 b0 b1 W
  by_cases ha0 : isRefB a0 = true
  · by_cases hb0 : isRefB b0 = true
    · by_cases ha1 : isRefB a1 = true
      · by_cases hb1 : isRefB b1 = true
        · have pa0 := isRefB_true ha0
          have pb0 := isRefB_true hb0
          have pa1 := isRefB_true ha1
          have pb1 := isRefB_true hb1
          have n0 := ws0.1
          have n1 := ws0.2
          have n2 := ws1.1
          have n3 := ws1.2
          have m0 := pa1.1
          have m1 := pb1.1
          have F1 := apart_ends pa0 pa1 pb0 pb1
          have F2 := apart_top (x := s0 / 1048576) (y := s1 / 1048576) pa0 pb0 ⟨by omega, by omega⟩ ⟨by omega, by omega⟩ (by omega) (by omega)
          have F3 := apart_flag (x := s0 / 1048576) (y := s1 / 1048576) (a := a1) (b := b1) m0 m1 ⟨by omega, by omega⟩ ⟨by omega, by omega⟩ (by omega) (by omega)
          have F4 := apart_link (a := a1) (b := b1) pa0 pb0 m0 m1
          clear pa0 pb0 pa1 pb1
          cases hp : (a0 == b0) <;> cases hq : (s0 / 1048576 == s1 / 1048576) <;> simp only [hp, hq, Bool.true_and, Bool.false_and] at F1 F2 F3 F4
          all_goals
            go_enter Try.func10, Try.ntmps10
            go_wp2_with (first
              | (go_at_call 23; refine (shown8_any _).mono ?_; rintro e w' ⟨rfl, rfl⟩)
              | (go_at_call 24; refine (is_any _ _).mono ?_; rintro e w' ⟨rfl, rfl⟩))
            refine wp_loop_rounds 3 ?_
            rw [rounds_succ]
            go_wp2_with (first
              | (go_at_call 24; refine (is_any _ _).mono ?_; rintro e w' ⟨rfl, rfl⟩))
            rw [rounds_succ]
            go_wp2_with (first
              | (go_at_call 24; refine (is_any _ _).mono ?_; rintro e w' ⟨rfl, rfl⟩))
            rw [rounds_succ]
            go_wp2
            have hbox : ∀ wx, Ext ((((w.alloc (.cells #[.int .i64 a0, .int .i64 a1] 56)).alloc (.cells #[.int .i64 b0, .int .i64 b1] 56)).alloc (.cells #[.int .u64 s0, .int .u64 s1] 57))).drew wx →
                wx.cell? ⟨w.heap.size, 0, none⟩ = some (.int .i64 a0) ∧ wx.cell? ⟨w.heap.size, 1, none⟩ = some (.int .i64 a1) ∧
                wx.cell? ⟨w.heap.size + 1, 0, none⟩ = some (.int .i64 b0) ∧ wx.cell? ⟨w.heap.size + 1, 1, none⟩ = some (.int .i64 b1) := fun wx hx =>
              ⟨hx.cell (by simp [go_sem]), hx.cell (by simp [go_sem]), hx.cell (by simp [go_sem]), hx.cell (by simp [go_sem])⟩
            refine' wp_region_sure_all ((some 35, [], none) :: (some 36, [0], none) :: (some 37, [1], some (1, true)) :: (some 38, [2, 1], some (1, true)) :: (some 39, [1], some (1, true)) :: (some 40, [4, 1], some (1, true)) :: (some 41, [3, 5, 1, 1], some (1, true)) :: (some 42, [1], some (1, true)) :: (some 43, [7, 1], some (1, true)) :: (some 44, [1], some (1, true)) :: (some 45, [9, 1], some (1, true)) :: (some 46, [8, 10, 6, 1], some (1, true)) :: (some 47, [6, 11, 1], some (1, true)) :: (some 48, [1], some (1, true)) :: (some 49, [1], some (1, true)) :: (some 50, [13, 14, 1], some (1, true)) :: (some 51, [12, 15, 1], some (1, true)) :: (some 52, [1, 16], none) :: (some 53, [17, 11], none) :: (some 54, [18], some (18, true)) :: (some 55, [19, 18], some (18, true)) :: (some 56, [18], some (18, true)) :: (some 57, [20, 21, 18, 18], some (18, true)) :: (some 58, [18], some (18, true)) :: (some 59, [23, 18], some (18, true)) :: (some 60, [18], some (18, true)) :: (some 61, [24, 25, 22, 18], some (18, true)) :: (some 62, [22, 26, 18], some (18, true)) :: (some 63, [18], some (18, true)) :: (some 64, [28, 18], some (18, true)) :: (some 65, [18], some (18, true)) :: (some 66, [30, 18], some (18, true)) :: (some 67, [29, 31, 18], some (18, true)) :: (some 68, [32, 26, 18], some (18, true)) :: (some 69, [33], some (33, true)) :: (some 70, [33], some (33, true)) :: (some 71, [34, 35, 33], some (33, true)) :: (some 72, [33, 36, 18], some (18, true)) :: (some 73, [27, 37, 18], some (18, true)) :: (some 74, [18, 38], none) :: (some 75, [39, 33], none) :: (some 76, [40], some (40, true)) :: (some 77, [40], some (40, true)) :: (some 78, [42, 40], some (40, true)) :: (some 79, [43, 40], some (40, true)) :: (some 80, [41, 44, 40, 40], some (40, true)) :: (some 81, [40], some (40, true)) :: (some 82, [40], some (40, true)) :: (some 83, [47, 40], some (40, true)) :: (some 84, [48, 40], some (40, true)) :: (some 85, [46, 49, 45, 40], some (40, true)) :: (some 86, [45, 50, 40], some (40, true)) :: (some 87, [40], some (40, true)) :: (some 88, [40], some (40, true)) :: (some 89, [52, 53, 40], some (40, true)) :: (some 90, [54, 50, 40], some (40, true)) :: (some 91, [55], some (55, true)) :: (some 92, [56, 55], some (55, true)) :: (some 93, [57, 55], some (55, true)) :: (some 94, [55], some (55, true)) :: (some 95, [59, 55], some (55, true)) :: (some 96, [60, 55], some (55, true)) :: (some 97, [58, 61, 55], some (55, true)) :: (some 98, [55, 62, 40], some (40, true)) :: (some 99, [51, 63, 40], some (40, true)) :: (some 100, [40, 64], none) :: (some 101, [65, 55], none) :: (some 102, [66], some (66, true)) :: (some 103, [67, 66], some (66, true)) :: (some 104, [66], some (66, true)) :: (some 105, [69, 66], some (66, true)) :: (some 106, [70, 66], some (66, true)) :: (some 107, [71, 66], some (66, true)) :: (some 108, [68, 72, 66, 66], some (66, true)) :: (some 109, [66], some (66, true)) :: (some 110, [74, 66], some (66, true)) :: (some 111, [66], some (66, true)) :: (some 112, [76, 66], some (66, true)) :: (some 113, [77, 66], some (66, true)) :: (some 114, [78, 66], some (66, true)) :: (some 115, [75, 79, 73, 66], some (66, true)) :: (some 116, [73, 80, 66], some (66, true)) :: (some 117, [66], some (66, true)) :: (some 118, [82, 66], some (66, true)) :: (some 119, [66], some (66, true)) :: (some 120, [84, 66], some (66, true)) :: (some 121, [83, 85, 66], some (66, true)) :: (some 122, [86, 80, 66], some (66, true)) :: (some 123, [87], some (87, true)) :: (some 124, [88, 87], some (87, true)) :: (some 125, [89, 87], some (87, true)) :: (some 126, [87], some (87, true)) :: (some 127, [91, 87], some (87, true)) :: (some 128, [92, 87], some (87, true)) :: (some 129, [90, 93, 87], some (87, true)) :: (some 130, [87, 94, 66], some (66, true)) :: (some 131, [81, 95, 66], some (66, true)) :: (some 132, [66, 96], none) :: (some 6, [97, 87, 0, 1, 2, 3, 4, 5, 6, 7, 8, 9, 10, 11, 12, 13, 14, 15, 16, 17, 18, 19, 20, 21, 22, 23, 24, 25, 26, 27, 28, 29, 30, 31, 32, 33, 34, 35, 36, 37, 38, 39, 40, 41, 42, 43, 44, 45, 46, 47, 48, 49, 50, 51, 52, 53, 54, 55, 56, 57, 58, 59, 60, 61, 62, 63, 64, 65, 66, 67, 68, 69, 70, 71, 72, 73, 74, 75, 76, 77, 78, 79, 80, 81, 82, 83, 84, 85, 86, 87, 88, 89, 90, 91, 92, 93, 94, 95, 96, 97], none) :: []) (0 :: 1 :: 3 :: 7 :: 3 :: 19 :: 63 :: 3 :: 131 :: 3 :: 515 :: 2047 :: 4095 :: 3 :: 3 :: 24579 :: 65535 :: 131071 :: 262143 :: 524287 :: 1048575 :: 524287 :: 4194303 :: 524287 :: 8912895 :: 524287 :: 67108863 :: 134217727 :: 524287 :: 268959743 :: 524287 :: 1074266111 :: 4027056127 :: 8455716863 :: 17045651455 :: 17045651455 :: 68585259007 :: 137304735743 :: 274877906943 :: 549755813887 :: 1099511627775 :: 2199023255551 :: 2199023255551 :: 6597069766655 :: 15393162788863 :: 35184372088831 :: 2199023255551 :: 2199023255551 :: 142936511610879 :: 424411488321535 :: 1125899906842623 :: 2251799813685247 :: 2199023255551 :: 2199023255551 :: 13512997905367039 :: 33776997205278719 :: 69805794224242687 :: 141863388262170623 :: 285978576338026495 :: 69805794224242687 :: 646266546527666175 :: 1799188051134513151 :: 4609434218613702655 :: 9221120237041090559 :: 18446744073709551615 :: 36893488147419103231 :: 73786976294838206463 :: 147573952589676412927 :: 295147905179352825855 :: 147573952589676412927 :: 737869762948382064639 :: 1918461383665793368063 :: 4279644625100615974911 :: 9444732965739290427391 :: 147573952589676412927 :: 19037039884068257267711 :: 147573952589676412927 :: 75705437678503999832063 :: 226821165130332646670335 :: 529052620033989940346879 :: 1208925819614629174706175 :: 2417851639229258349412351 :: 147573952589676412927 :: 4835850852411106375237631 :: 147573952589676412927 :: 19342960687786656471711743 :: 72535696750830340158783487 :: 152324653271443276012978175 :: 307067158182115810375368703 :: 616552168003460879100149759 :: 1235522187646151016549711871 :: 307067158182115810375368703 :: 2782947236752876360173617151 :: 7734707393894397459770114047 :: 19804622776926855140036575231 :: 39611663405492939538422562815 :: 79228162514264337593543950335 :: 158456325028528675187087900671 :: 316912650057057350374175801343 :: []) 99 133 ((0, 35) :: (1, 36) :: (2, 37) :: (3, 38) :: (4, 39) :: (5, 40) :: (6, 41) :: (7, 42) :: (8, 43) :: (9, 44) :: (10, 45) :: (11, 46) :: (12, 47) :: (13, 48) :: (14, 49) :: (15, 50) :: (16, 51) :: (17, 52) :: (18, 53) :: (19, 54) :: (20, 55) :: (21, 56) :: (22, 57) :: (23, 58) :: (24, 59) :: (25, 60) :: (26, 61) :: (27, 62) :: (28, 63) :: (29, 64) :: (30, 65) :: (31, 66) :: (32, 67) :: (33, 68) :: (34, 69) :: (35, 70) :: (36, 71) :: (37, 72) :: (38, 73) :: (39, 74) :: (40, 75) :: (41, 76) :: (42, 77) :: (43, 78) :: (44, 79) :: (45, 80) :: (46, 81) :: (47, 82) :: (48, 83) :: (49, 84) :: (50, 85) :: (51, 86) :: (52, 87) :: (53, 88) :: (54, 89) :: (55, 90) :: (56, 91) :: (57, 92) :: (58, 93) :: (59, 94) :: (60, 95) :: (61, 96) :: (62, 97) :: (63, 98) :: (64, 99) :: (65, 100) :: (66, 101) :: (67, 102) :: (68, 103) :: (69, 104) :: (70, 105) :: (71, 106) :: (72, 107) :: (73, 108) :: (74, 109) :: (75, 110) :: (76, 111) :: (77, 112) :: (78, 113) :: (79, 114) :: (80, 115) :: (81, 116) :: (82, 117) :: (83, 118) :: (84, 119) :: (85, 120) :: (86, 121) :: (87, 122) :: (88, 123) :: (89, 124) :: (90, 125) :: (91, 126) :: (92, 127) :: (93, 128) :: (94, 129) :: (95, 130) :: (96, 131) :: (97, 132) :: (98, 6) :: []) (.det _ :: .det _ :: .det _ :: .det _ :: .det _ :: .det _ :: .det _ :: .det _ :: .det _ :: .det _ :: .det _ :: .det _ :: .det _ :: .det _ :: .det _ :: .det _ :: .det _ :: .det _ :: .det _ :: .det _ :: .det _ :: .det _ :: .det _ :: .det _ :: .det _ :: .det _ :: .det _ :: .det _ :: .det _ :: .det _ :: .det _ :: .det _ :: .det _ :: .det _ :: .det _ :: .det _ :: .det _ :: .det _ :: .det _ :: .det _ :: .det _ :: .det _ :: .det _ :: .det _ :: .det _ :: .det _ :: .det _ :: .det _ :: .det _ :: .det _ :: .det _ :: .det _ :: .det _ :: .det _ :: .det _ :: .det _ :: .det _ :: .det _ :: .det _ :: .det _ :: .det _ :: .det _ :: .det _ :: .det _ :: .det _ :: .det _ :: .det _ :: .det _ :: .det _ :: .det _ :: .det _ :: .det _ :: .det _ :: .det _ :: .det _ :: .det _ :: .det _ :: .det _ :: .det _ :: .det _ :: .det _ :: .det _ :: .det _ :: .det _ :: .det _ :: .det _ :: .det _ :: .det _ :: .det _ :: .det _ :: .det _ :: .det _ :: .det _ :: .det _ :: .det _ :: .det _ :: .det _ :: .det _ :: .det _ :: []) (by kernel_rfl) (by kernel_rfl) (by kernel_rfl) rfl (by kernel_rfl) (by kernel_rfl) ?hone ?hend
            case hone =>
              intro SS MS frS VS hSS hMS ha hV
              have qs3 := slot_val (t := 3) ha rfl
              simp only [List.getElem_toArray, List.getElem_cons_succ, List.getElem_cons_zero] at qs3
              have qs4 := slot_val (t := 4) ha rfl
              simp only [List.getElem_toArray, List.getElem_cons_succ, List.getElem_cons_zero] at qs4
              have qs7 := slot_val (t := 7) ha rfl
              simp only [List.getElem_toArray, List.getElem_cons_succ, List.getElem_cons_zero] at qs7
              have qs9 := slot_val (t := 9) ha rfl
              simp only [List.getElem_toArray, List.getElem_cons_succ, List.getElem_cons_zero] at qs9
              have qs10 := slot_val (t := 10) ha rfl
              simp only [List.getElem_toArray, List.getElem_cons_succ, List.getElem_cons_zero] at qs10
              have HSS := Lib.hid hSS
              have HMS := Lib.hid hMS
              have HVS := Lib.hid hV
              clear ha hSS hMS hV
              -- 0: slot 35 := Op.move t7
              refine sure_det (js := []) (ts := [7]) (gd := none) (place_at HVS.out (k := 0) rfl) (by rw [HSS.out, HMS.out]; kernel_rfl) ?_ ?_
              · intro wx hx ρ hρ hs hf
                have k1 := hρ.const
                have k2 := hρ.func
                obtain ⟨fx7, -⟩ := hf
                rw [qs7] at fx7
                clear hs
                clear HSS HMS HVS qs3 qs4 qs7 qs9 qs10
                refine run_plain ?_
                refine op_move rfl fx7 ?_
                exact detK.mk
              -- 1: slot 36 := Op.move t35
              refine sure_det (js := [(0, 35)]) (ts := []) (gd := none) (place_at HVS.out (k := 1) rfl) (by rw [HSS.out, HMS.out]; kernel_rfl) ?_ ?_
              · intro wx hx ρ hρ hs hf
                have k1 := hρ.const
                have k2 := hρ.func
                obtain ⟨sn0, -⟩ := hs
                rw [place_at HVS.out (k := 0) rfl] at sn0
                replace sn0 : ρ (.tmp 35) = _ := sn0
                clear hf
                clear HSS HMS HVS qs3 qs4 qs7 qs9 qs10
                refine run_plain ?_
                refine op_move rfl sn0 ?_
                exact detK.mk
              -- 2: slot 37 := Op.indexAddr 56 t3 ((i64 0))
              refine sure_det (js := [(1, 36)]) (ts := [3]) (gd := (some (36, true))) (place_at HVS.out (k := 2) rfl) (by rw [HSS.out, HMS.out]; kernel_rfl) ?_ ?_
              · intro wx hx ρ hρ hs hf
                have k1 := hρ.const
                have k2 := hρ.func
                obtain ⟨sn1, -⟩ := hs
                obtain ⟨fx3, -⟩ := hf
                rw [qs3] at fx3
                rw [place_at HVS.out (k := 1) rfl] at sn1
                replace sn1 : ρ (.tmp 36) = _ := sn1
                clear HSS HMS HVS qs3 qs4 qs7 qs9 qs10
                first
                  | (refine run_passed sn1 ?_
                     exact detK.mk)
                  | (refine run_guarded sn1 ?_
                     unfold runs
                     go_simp
                     exact detK.mk)
              -- 3: slot 38 := Op.load 3 t37
              refine sure_det (js := [(2, 37), (1, 36)]) (ts := []) (gd := (some (36, true))) (place_at HVS.out (k := 3) rfl) (by rw [HSS.out, HMS.out]; kernel_rfl) ?_ ?_
              · intro wx hx ρ hρ hs hf
                have k1 := hρ.const
                have k2 := hρ.func
                obtain ⟨sn2, sn1, -⟩ := hs
                rw [place_at HVS.out (k := 2) rfl] at sn2
                replace sn2 : ρ (.tmp 37) = _ := sn2
                rw [place_at HVS.out (k := 1) rfl] at sn1
                replace sn1 : ρ (.tmp 36) = _ := sn1
                clear hf
                clear HSS HMS HVS qs3 qs4 qs7 qs9 qs10
                first
                  | (refine run_passed sn1 ?_
                     exact detK.mk)
                  | (refine run_guarded sn1 ?_
                     obtain ⟨c0, c1, c2, c3⟩ := hbox wx hx
                     unfold runs
                     go_simp
                     exact detK.mk)
              -- 4: slot 39 := Op.indexAddr 56 t3 ((i64 1))
              refine sure_det (js := [(1, 36)]) (ts := [3]) (gd := (some (36, true))) (place_at HVS.out (k := 4) rfl) (by rw [HSS.out, HMS.out]; kernel_rfl) ?_ ?_
              · intro wx hx ρ hρ hs hf
                have k1 := hρ.const
                have k2 := hρ.func
                obtain ⟨sn1, -⟩ := hs
                obtain ⟨fx3, -⟩ := hf
                rw [qs3] at fx3
                rw [place_at HVS.out (k := 1) rfl] at sn1
                replace sn1 : ρ (.tmp 36) = _ := sn1
                clear HSS HMS HVS qs3 qs4 qs7 qs9 qs10
                first
                  | (refine run_passed sn1 ?_
                     exact detK.mk)
                  | (refine run_guarded sn1 ?_
                     unfold runs
                     go_simp
                     exact detK.mk)
              -- 5: slot 40 := Op.load 3 t39
              refine sure_det (js := [(4, 39), (1, 36)]) (ts := []) (gd := (some (36, true))) (place_at HVS.out (k := 5) rfl) (by rw [HSS.out, HMS.out]; kernel_rfl) ?_ ?_
              · intro wx hx ρ hρ hs hf
                have k1 := hρ.const
                have k2 := hρ.func
                obtain ⟨sn4, sn1, -⟩ := hs
                rw [place_at HVS.out (k := 4) rfl] at sn4
                replace sn4 : ρ (.tmp 39) = _ := sn4
                rw [place_at HVS.out (k := 1) rfl] at sn1
                replace sn1 : ρ (.tmp 36) = _ := sn1
                clear hf
                clear HSS HMS HVS qs3 qs4 qs7 qs9 qs10
                first
                  | (refine run_passed sn1 ?_
                     exact detK.mk)
                  | (refine run_guarded sn1 ?_
                     obtain ⟨c0, c1, c2, c3⟩ := hbox wx hx
                     unfold runs
                     go_simp
                     exact detK.mk)
              -- 6: slot 41 := Op.call { call ( 45), args := #[t38, t40], argTypes := #[3, 3] }
              refine sure_det (js := [(3, 38), (5, 40), (1, 36)]) (ts := []) (gd := (some (36, true))) (place_at HVS.out (k := 6) rfl) (by rw [HSS.out, HMS.out]; kernel_rfl) ?_ ?_
              · intro wx hx ρ hρ hs hf
                have k1 := hρ.const
                have k2 := hρ.func
                obtain ⟨sn3, sn5, sn1, -⟩ := hs
                rw [place_at HVS.out (k := 3) rfl] at sn3
                replace sn3 : ρ (.tmp 38) = _ := sn3
                rw [place_at HVS.out (k := 5) rfl] at sn5
                replace sn5 : ρ (.tmp 40) = _ := sn5
                rw [place_at HVS.out (k := 1) rfl] at sn1
                replace sn1 : ρ (.tmp 36) = _ := sn1
                clear hf
                clear HSS HMS HVS qs3 qs4 qs7 qs9 qs10
                first
                  | (refine run_passed sn1 ?_
                     exact detK.mk)
                  | (refine run_guarded sn1 ?_
                     refine op_call rfl hρ Try.call45 (map_two sn3 sn5) ?_
                     first | (refine Calls.mono (ends_any _ _ _) ?_; rintro e w' ⟨rfl, rfl⟩; refine ⟨_, rfl, ?_⟩; exact detK.mk) | (refine Calls.mono (top_any _ _ _) ?_; rintro e w' ⟨rfl, rfl⟩; refine ⟨_, rfl, ?_⟩; exact detK.mk) | (refine Calls.mono (flag_any _ _ _) ?_; rintro e w' ⟨rfl, rfl⟩; refine ⟨_, rfl, ?_⟩; exact detK.mk) | (refine Calls.mono (link_any _ _ _) ?_; rintro e w' ⟨rfl, rfl⟩; refine ⟨_, rfl, ?_⟩; exact detK.mk))
              -- 7: slot 42 := Op.indexAddr 56 t4 ((i64 0))
              refine sure_det (js := [(1, 36)]) (ts := [4]) (gd := (some (36, true))) (place_at HVS.out (k := 7) rfl) (by rw [HSS.out, HMS.out]; kernel_rfl) ?_ ?_
              · intro wx hx ρ hρ hs hf
                have k1 := hρ.const
                have k2 := hρ.func
                obtain ⟨sn1, -⟩ := hs
                obtain ⟨fx4, -⟩ := hf
                rw [qs4] at fx4
                rw [place_at HVS.out (k := 1) rfl] at sn1
                replace sn1 : ρ (.tmp 36) = _ := sn1
                clear HSS HMS HVS qs3 qs4 qs7 qs9 qs10
                first
                  | (refine run_passed sn1 ?_
                     exact detK.mk)
                  | (refine run_guarded sn1 ?_
                     unfold runs
                     go_simp
                     exact detK.mk)
              -- 8: slot 43 := Op.load 3 t42
              refine sure_det (js := [(7, 42), (1, 36)]) (ts := []) (gd := (some (36, true))) (place_at HVS.out (k := 8) rfl) (by rw [HSS.out, HMS.out]; kernel_rfl) ?_ ?_
              · intro wx hx ρ hρ hs hf
                have k1 := hρ.const
                have k2 := hρ.func
                obtain ⟨sn7, sn1, -⟩ := hs
                rw [place_at HVS.out (k := 7) rfl] at sn7
                replace sn7 : ρ (.tmp 42) = _ := sn7
                rw [place_at HVS.out (k := 1) rfl] at sn1
                replace sn1 : ρ (.tmp 36) = _ := sn1
                clear hf
                clear HSS HMS HVS qs3 qs4 qs7 qs9 qs10
                first
                  | (refine run_passed sn1 ?_
                     exact detK.mk)
                  | (refine run_guarded sn1 ?_
                     obtain ⟨c0, c1, c2, c3⟩ := hbox wx hx
                     unfold runs
                     go_simp
                     exact detK.mk)
              -- 9: slot 44 := Op.indexAddr 56 t4 ((i64 1))
              refine sure_det (js := [(1, 36)]) (ts := [4]) (gd := (some (36, true))) (place_at HVS.out (k := 9) rfl) (by rw [HSS.out, HMS.out]; kernel_rfl) ?_ ?_
              · intro wx hx ρ hρ hs hf
                have k1 := hρ.const
                have k2 := hρ.func
                obtain ⟨sn1, -⟩ := hs
                obtain ⟨fx4, -⟩ := hf
                rw [qs4] at fx4
                rw [place_at HVS.out (k := 1) rfl] at sn1
                replace sn1 : ρ (.tmp 36) = _ := sn1
                clear HSS HMS HVS qs3 qs4 qs7 qs9 qs10
                first
                  | (refine run_passed sn1 ?_
                     exact detK.mk)
                  | (refine run_guarded sn1 ?_
                     unfold runs
                     go_simp
                     exact detK.mk)
              -- 10: slot 45 := Op.load 3 t44
              refine sure_det (js := [(9, 44), (1, 36)]) (ts := []) (gd := (some (36, true))) (place_at HVS.out (k := 10) rfl) (by rw [HSS.out, HMS.out]; kernel_rfl) ?_ ?_
              · intro wx hx ρ hρ hs hf
                have k1 := hρ.const
                have k2 := hρ.func
                obtain ⟨sn9, sn1, -⟩ := hs
                rw [place_at HVS.out (k := 9) rfl] at sn9
                replace sn9 : ρ (.tmp 44) = _ := sn9
                rw [place_at HVS.out (k := 1) rfl] at sn1
                replace sn1 : ρ (.tmp 36) = _ := sn1
                clear hf
                clear HSS HMS HVS qs3 qs4 qs7 qs9 qs10
                first
                  | (refine run_passed sn1 ?_
                     exact detK.mk)
                  | (refine run_guarded sn1 ?_
                     obtain ⟨c0, c1, c2, c3⟩ := hbox wx hx
                     unfold runs
                     go_simp
                     exact detK.mk)
              -- 11: slot 46 := Op.call { call ( 45), args := #[t43, t45], argTypes := #[3, 3] }
              refine sure_det (js := [(8, 43), (10, 45), (1, 36)]) (ts := []) (gd := (some (36, true))) (place_at HVS.out (k := 11) rfl) (by rw [HSS.out, HMS.out]; kernel_rfl) ?_ ?_
              · intro wx hx ρ hρ hs hf
                have k1 := hρ.const
                have k2 := hρ.func
                obtain ⟨sn8, sn10, sn1, -⟩ := hs
                rw [place_at HVS.out (k := 8) rfl] at sn8
                replace sn8 : ρ (.tmp 43) = _ := sn8
                rw [place_at HVS.out (k := 10) rfl] at sn10
                replace sn10 : ρ (.tmp 45) = _ := sn10
                rw [place_at HVS.out (k := 1) rfl] at sn1
                replace sn1 : ρ (.tmp 36) = _ := sn1
                clear hf
                clear HSS HMS HVS qs3 qs4 qs7 qs9 qs10
                first
                  | (refine run_passed sn1 ?_
                     exact detK.mk)
                  | (refine run_guarded sn1 ?_
                     refine op_call rfl hρ Try.call45 (map_two sn8 sn10) ?_
                     first | (refine Calls.mono (ends_any _ _ _) ?_; rintro e w' ⟨rfl, rfl⟩; refine ⟨_, rfl, ?_⟩; exact detK.mk) | (refine Calls.mono (top_any _ _ _) ?_; rintro e w' ⟨rfl, rfl⟩; refine ⟨_, rfl, ?_⟩; exact detK.mk) | (refine Calls.mono (flag_any _ _ _) ?_; rintro e w' ⟨rfl, rfl⟩; refine ⟨_, rfl, ?_⟩; exact detK.mk) | (refine Calls.mono (link_any _ _ _) ?_; rintro e w' ⟨rfl, rfl⟩; refine ⟨_, rfl, ?_⟩; exact detK.mk))
              -- 12: slot 47 := Op.binOp BinOp.eql 37 t41 t46 37
              refine sure_det (js := [(6, 41), (11, 46), (1, 36)]) (ts := []) (gd := (some (36, true))) (place_at HVS.out (k := 12) rfl) (by rw [HSS.out, HMS.out]; kernel_rfl) ?_ ?_
              · intro wx hx ρ hρ hs hf
                have k1 := hρ.const
                have k2 := hρ.func
                obtain ⟨sn6, sn11, sn1, -⟩ := hs
                rw [place_at HVS.out (k := 6) rfl] at sn6
                replace sn6 : ρ (.tmp 41) = _ := sn6
                rw [place_at HVS.out (k := 11) rfl] at sn11
                replace sn11 : ρ (.tmp 46) = _ := sn11
                rw [place_at HVS.out (k := 1) rfl] at sn1
                replace sn1 : ρ (.tmp 36) = _ := sn1
                clear hf
                clear HSS HMS HVS qs3 qs4 qs7 qs9 qs10
                first
                  | (refine run_passed sn1 ?_
                     exact detK.mk)
                  | (refine run_guarded sn1 ?_
                     unfold runs
                     go_simp
                     exact detK.mk)
              -- 13: slot 48 := Op.load 56 t3
              refine sure_det (js := [(1, 36)]) (ts := [3]) (gd := (some (36, true))) (place_at HVS.out (k := 13) rfl) (by rw [HSS.out, HMS.out]; kernel_rfl) ?_ ?_
              · intro wx hx ρ hρ hs hf
                have k1 := hρ.const
                have k2 := hρ.func
                obtain ⟨sn1, -⟩ := hs
                obtain ⟨fx3, -⟩ := hf
                rw [qs3] at fx3
                rw [place_at HVS.out (k := 1) rfl] at sn1
                replace sn1 : ρ (.tmp 36) = _ := sn1
                clear HSS HMS HVS qs3 qs4 qs7 qs9 qs10
                first
                  | (refine run_passed sn1 ?_
                     exact detK.mk)
                  | (refine run_guarded sn1 ?_
                     obtain ⟨c0, c1, c2, c3⟩ := hbox wx hx
                     unfold runs
                     go_simp
                     exact detK.mk)
              -- 14: slot 49 := Op.load 56 t4
              refine sure_det (js := [(1, 36)]) (ts := [4]) (gd := (some (36, true))) (place_at HVS.out (k := 14) rfl) (by rw [HSS.out, HMS.out]; kernel_rfl) ?_ ?_
              · intro wx hx ρ hρ hs hf
                have k1 := hρ.const
                have k2 := hρ.func
                obtain ⟨sn1, -⟩ := hs
                obtain ⟨fx4, -⟩ := hf
                rw [qs4] at fx4
                rw [place_at HVS.out (k := 1) rfl] at sn1
                replace sn1 : ρ (.tmp 36) = _ := sn1
                clear HSS HMS HVS qs3 qs4 qs7 qs9 qs10
                first
                  | (refine run_passed sn1 ?_
                     exact detK.mk)
                  | (refine run_guarded sn1 ?_
                     obtain ⟨c0, c1, c2, c3⟩ := hbox wx hx
                     unfold runs
                     go_simp
                     exact detK.mk)
              -- 15: slot 50 := Op.binOp BinOp.eql 56 t48 t49 56
              refine sure_det (js := [(13, 48), (14, 49), (1, 36)]) (ts := []) (gd := (some (36, true))) (place_at HVS.out (k := 15) rfl) (by rw [HSS.out, HMS.out]; kernel_rfl) ?_ ?_
              · intro wx hx ρ hρ hs hf
                have k1 := hρ.const
                have k2 := hρ.func
                obtain ⟨sn13, sn14, sn1, -⟩ := hs
                rw [place_at HVS.out (k := 13) rfl] at sn13
                replace sn13 : ρ (.tmp 48) = _ := sn13
                rw [place_at HVS.out (k := 14) rfl] at sn14
                replace sn14 : ρ (.tmp 49) = _ := sn14
                rw [place_at HVS.out (k := 1) rfl] at sn1
                replace sn1 : ρ (.tmp 36) = _ := sn1
                clear hf
                clear HSS HMS HVS qs3 qs4 qs7 qs9 qs10
                first
                  | (refine run_passed sn1 ?_
                     exact detK.mk)
                  | (refine run_guarded sn1 ?_
                     unfold runs
                     go_simp
                     exact detK.mk)
              -- 16: slot 51 := Op.binOp BinOp.eql 4 t47 t50 4
              refine sure_det (js := [(12, 47), (15, 50), (1, 36)]) (ts := []) (gd := (some (36, true))) (place_at HVS.out (k := 16) rfl) (by rw [HSS.out, HMS.out]; kernel_rfl) ?_ ?_
              · intro wx hx ρ hρ hs hf
                have k1 := hρ.const
                have k2 := hρ.func
                obtain ⟨sn12, sn15, sn1, -⟩ := hs
                rw [place_at HVS.out (k := 12) rfl] at sn12
                replace sn12 : ρ (.tmp 47) = _ := sn12
                rw [place_at HVS.out (k := 15) rfl] at sn15
                replace sn15 : ρ (.tmp 50) = _ := sn15
                rw [place_at HVS.out (k := 1) rfl] at sn1
                replace sn1 : ρ (.tmp 36) = _ := sn1
                clear hf
                clear HSS HMS HVS qs3 qs4 qs7 qs9 qs10
                first
                  | (refine run_passed sn1 ?_
                     exact detK.mk)
                  | (refine run_guarded sn1 ?_
                     unfold runs
                     go_simp
                     exact detK.mk)
              -- 17: slot 52 := Op.pick t36 t51 ((Value.bool false))
              refine sure_det (js := [(1, 36), (16, 51)]) (ts := []) (gd := none) (place_at HVS.out (k := 17) rfl) (by rw [HSS.out, HMS.out]; kernel_rfl) ?_ ?_
              · intro wx hx ρ hρ hs hf
                have k1 := hρ.const
                have k2 := hρ.func
                obtain ⟨sn1, sn16, -⟩ := hs
                rw [place_at HVS.out (k := 1) rfl] at sn1
                replace sn1 : ρ (.tmp 36) = _ := sn1
                rw [place_at HVS.out (k := 16) rfl] at sn16
                replace sn16 : ρ (.tmp 51) = _ := sn16
                clear hf
                clear HSS HMS HVS qs3 qs4 qs7 qs9 qs10
                refine run_plain ?_
                first | refine op_pick_t rfl sn1 sn16 ?_ | refine op_pick_f rfl sn1 (hρ.const _) ?_
                exact detK.mk
              -- 18: slot 53 := Op.move t52
              refine sure_det (js := [(17, 52)]) (ts := []) (gd := none) (place_at HVS.out (k := 18) rfl) (by rw [HSS.out, HMS.out]; kernel_rfl) ?_ ?_
              · intro wx hx ρ hρ hs hf
                have k1 := hρ.const
                have k2 := hρ.func
                obtain ⟨sn17, -⟩ := hs
                rw [place_at HVS.out (k := 17) rfl] at sn17
                replace sn17 : ρ (.tmp 52) = _ := sn17
                clear hf
                clear HSS HMS HVS qs3 qs4 qs7 qs9 qs10
                refine run_plain ?_
                refine op_move rfl sn17 ?_
                exact detK.mk
              -- 19: slot 54 := Op.indexAddr 56 t3 ((i64 0))
              refine sure_det (js := [(18, 53)]) (ts := [3]) (gd := (some (53, true))) (place_at HVS.out (k := 19) rfl) (by rw [HSS.out, HMS.out]; kernel_rfl) ?_ ?_
              · intro wx hx ρ hρ hs hf
                have k1 := hρ.const
                have k2 := hρ.func
                obtain ⟨sn18, -⟩ := hs
                obtain ⟨fx3, -⟩ := hf
                rw [qs3] at fx3
                rw [place_at HVS.out (k := 18) rfl] at sn18
                replace sn18 : ρ (.tmp 53) = _ := sn18
                clear HSS HMS HVS qs3 qs4 qs7 qs9 qs10
                first
                  | (refine run_passed sn18 ?_
                     exact detK.mk)
                  | (refine run_guarded sn18 ?_
                     unfold runs
                     go_simp
                     exact detK.mk)
              -- 20: slot 55 := Op.load 3 t54
              refine sure_det (js := [(19, 54), (18, 53)]) (ts := []) (gd := (some (53, true))) (place_at HVS.out (k := 20) rfl) (by rw [HSS.out, HMS.out]; kernel_rfl) ?_ ?_
              · intro wx hx ρ hρ hs hf
                have k1 := hρ.const
                have k2 := hρ.func
                obtain ⟨sn19, sn18, -⟩ := hs
                rw [place_at HVS.out (k := 19) rfl] at sn19
                replace sn19 : ρ (.tmp 54) = _ := sn19
                rw [place_at HVS.out (k := 18) rfl] at sn18
                replace sn18 : ρ (.tmp 53) = _ := sn18
                clear hf
                clear HSS HMS HVS qs3 qs4 qs7 qs9 qs10
                first
                  | (refine run_passed sn18 ?_
                     exact detK.mk)
                  | (refine run_guarded sn18 ?_
                     obtain ⟨c0, c1, c2, c3⟩ := hbox wx hx
                     unfold runs
                     go_simp
                     exact detK.mk)
              -- 21: slot 56 := Op.move t9
              refine sure_det (js := [(18, 53)]) (ts := [9]) (gd := (some (53, true))) (place_at HVS.out (k := 21) rfl) (by rw [HSS.out, HMS.out]; kernel_rfl) ?_ ?_
              · intro wx hx ρ hρ hs hf
                have k1 := hρ.const
                have k2 := hρ.func
                obtain ⟨sn18, -⟩ := hs
                obtain ⟨fx9, -⟩ := hf
                rw [qs9] at fx9
                rw [place_at HVS.out (k := 18) rfl] at sn18
                replace sn18 : ρ (.tmp 53) = _ := sn18
                clear HSS HMS HVS qs3 qs4 qs7 qs9 qs10
                first
                  | (refine run_passed sn18 ?_
                     exact detK.mk)
                  | (refine run_guarded sn18 ?_
                     refine op_move rfl fx9 ?_
                     exact detK.mk)
              -- 22: slot 57 := Op.call { call ( 39), args := #[t55, t56], argTypes := #[3, 37] }
              refine sure_det (js := [(20, 55), (21, 56), (18, 53)]) (ts := []) (gd := (some (53, true))) (place_at HVS.out (k := 22) rfl) (by rw [HSS.out, HMS.out]; kernel_rfl) ?_ ?_
              · intro wx hx ρ hρ hs hf
                have k1 := hρ.const
                have k2 := hρ.func
                obtain ⟨sn20, sn21, sn18, -⟩ := hs
                rw [place_at HVS.out (k := 20) rfl] at sn20
                replace sn20 : ρ (.tmp 55) = _ := sn20
                rw [place_at HVS.out (k := 21) rfl] at sn21
                replace sn21 : ρ (.tmp 56) = _ := sn21
                rw [place_at HVS.out (k := 18) rfl] at sn18
                replace sn18 : ρ (.tmp 53) = _ := sn18
                clear hf
                clear HSS HMS HVS qs3 qs4 qs7 qs9 qs10
                first
                  | (refine run_passed sn18 ?_
                     exact detK.mk)
                  | (refine run_guarded sn18 ?_
                     refine op_call rfl hρ Try.call39 (map_two sn20 sn21) ?_
                     first | (refine Calls.mono (ends_any _ _ _) ?_; rintro e w' ⟨rfl, rfl⟩; refine ⟨_, rfl, ?_⟩; exact detK.mk) | (refine Calls.mono (top_any _ _ _) ?_; rintro e w' ⟨rfl, rfl⟩; refine ⟨_, rfl, ?_⟩; exact detK.mk) | (refine Calls.mono (flag_any _ _ _) ?_; rintro e w' ⟨rfl, rfl⟩; refine ⟨_, rfl, ?_⟩; exact detK.mk) | (refine Calls.mono (link_any _ _ _) ?_; rintro e w' ⟨rfl, rfl⟩; refine ⟨_, rfl, ?_⟩; exact detK.mk))
              -- 23: slot 58 := Op.indexAddr 56 t4 ((i64 0))
              refine sure_det (js := [(18, 53)]) (ts := [4]) (gd := (some (53, true))) (place_at HVS.out (k := 23) rfl) (by rw [HSS.out, HMS.out]; kernel_rfl) ?_ ?_
              · intro wx hx ρ hρ hs hf
                have k1 := hρ.const
                have k2 := hρ.func
                obtain ⟨sn18, -⟩ := hs
                obtain ⟨fx4, -⟩ := hf
                rw [qs4] at fx4
                rw [place_at HVS.out (k := 18) rfl] at sn18
                replace sn18 : ρ (.tmp 53) = _ := sn18
                clear HSS HMS HVS qs3 qs4 qs7 qs9 qs10
                first
                  | (refine run_passed sn18 ?_
                     exact detK.mk)
                  | (refine run_guarded sn18 ?_
                     unfold runs
                     go_simp
                     exact detK.mk)
              -- 24: slot 59 := Op.load 3 t58
              refine sure_det (js := [(23, 58), (18, 53)]) (ts := []) (gd := (some (53, true))) (place_at HVS.out (k := 24) rfl) (by rw [HSS.out, HMS.out]; kernel_rfl) ?_ ?_
              · intro wx hx ρ hρ hs hf
                have k1 := hρ.const
                have k2 := hρ.func
                obtain ⟨sn23, sn18, -⟩ := hs
                rw [place_at HVS.out (k := 23) rfl] at sn23
                replace sn23 : ρ (.tmp 58) = _ := sn23
                rw [place_at HVS.out (k := 18) rfl] at sn18
                replace sn18 : ρ (.tmp 53) = _ := sn18
                clear hf
                clear HSS HMS HVS qs3 qs4 qs7 qs9 qs10
                first
                  | (refine run_passed sn18 ?_
                     exact detK.mk)
                  | (refine run_guarded sn18 ?_
                     obtain ⟨c0, c1, c2, c3⟩ := hbox wx hx
                     unfold runs
                     go_simp
                     exact detK.mk)
              -- 25: slot 60 := Op.move t10
              refine sure_det (js := [(18, 53)]) (ts := [10]) (gd := (some (53, true))) (place_at HVS.out (k := 25) rfl) (by rw [HSS.out, HMS.out]; kernel_rfl) ?_ ?_
              · intro wx hx ρ hρ hs hf
                have k1 := hρ.const
                have k2 := hρ.func
                obtain ⟨sn18, -⟩ := hs
                obtain ⟨fx10, -⟩ := hf
                rw [qs10] at fx10
                rw [place_at HVS.out (k := 18) rfl] at sn18
                replace sn18 : ρ (.tmp 53) = _ := sn18
                clear HSS HMS HVS qs3 qs4 qs7 qs9 qs10
                first
                  | (refine run_passed sn18 ?_
                     exact detK.mk)
                  | (refine run_guarded sn18 ?_
                     refine op_move rfl fx10 ?_
                     exact detK.mk)
              -- 26: slot 61 := Op.call { call ( 39), args := #[t59, t60], argTypes := #[3, 37] }
              refine sure_det (js := [(24, 59), (25, 60), (18, 53)]) (ts := []) (gd := (some (53, true))) (place_at HVS.out (k := 26) rfl) (by rw [HSS.out, HMS.out]; kernel_rfl) ?_ ?_
              · intro wx hx ρ hρ hs hf
                have k1 := hρ.const
                have k2 := hρ.func
                obtain ⟨sn24, sn25, sn18, -⟩ := hs
                rw [place_at HVS.out (k := 24) rfl] at sn24
                replace sn24 : ρ (.tmp 59) = _ := sn24
                rw [place_at HVS.out (k := 25) rfl] at sn25
                replace sn25 : ρ (.tmp 60) = _ := sn25
                rw [place_at HVS.out (k := 18) rfl] at sn18
                replace sn18 : ρ (.tmp 53) = _ := sn18
                clear hf
                clear HSS HMS HVS qs3 qs4 qs7 qs9 qs10
                first
                  | (refine run_passed sn18 ?_
                     exact detK.mk)
                  | (refine run_guarded sn18 ?_
                     refine op_call rfl hρ Try.call39 (map_two sn24 sn25) ?_
                     first | (refine Calls.mono (ends_any _ _ _) ?_; rintro e w' ⟨rfl, rfl⟩; refine ⟨_, rfl, ?_⟩; exact detK.mk) | (refine Calls.mono (top_any _ _ _) ?_; rintro e w' ⟨rfl, rfl⟩; refine ⟨_, rfl, ?_⟩; exact detK.mk) | (refine Calls.mono (flag_any _ _ _) ?_; rintro e w' ⟨rfl, rfl⟩; refine ⟨_, rfl, ?_⟩; exact detK.mk) | (refine Calls.mono (link_any _ _ _) ?_; rintro e w' ⟨rfl, rfl⟩; refine ⟨_, rfl, ?_⟩; exact detK.mk))
              -- 27: slot 62 := Op.binOp BinOp.eql 37 t57 t61 37
              refine sure_det (js := [(22, 57), (26, 61), (18, 53)]) (ts := []) (gd := (some (53, true))) (place_at HVS.out (k := 27) rfl) (by rw [HSS.out, HMS.out]; kernel_rfl) ?_ ?_
              · intro wx hx ρ hρ hs hf
                have k1 := hρ.const
                have k2 := hρ.func
                obtain ⟨sn22, sn26, sn18, -⟩ := hs
                rw [place_at HVS.out (k := 22) rfl] at sn22
                replace sn22 : ρ (.tmp 57) = _ := sn22
                rw [place_at HVS.out (k := 26) rfl] at sn26
                replace sn26 : ρ (.tmp 61) = _ := sn26
                rw [place_at HVS.out (k := 18) rfl] at sn18
                replace sn18 : ρ (.tmp 53) = _ := sn18
                clear hf
                clear HSS HMS HVS qs3 qs4 qs7 qs9 qs10
                first
                  | (refine run_passed sn18 ?_
                     exact detK.mk)
                  | (refine run_guarded sn18 ?_
                     unfold runs
                     go_simp
                     exact detK.mk)
              -- 28: slot 63 := Op.indexAddr 56 t3 ((i64 0))
              refine sure_det (js := [(18, 53)]) (ts := [3]) (gd := (some (53, true))) (place_at HVS.out (k := 28) rfl) (by rw [HSS.out, HMS.out]; kernel_rfl) ?_ ?_
              · intro wx hx ρ hρ hs hf
                have k1 := hρ.const
                have k2 := hρ.func
                obtain ⟨sn18, -⟩ := hs
                obtain ⟨fx3, -⟩ := hf
                rw [qs3] at fx3
                rw [place_at HVS.out (k := 18) rfl] at sn18
                replace sn18 : ρ (.tmp 53) = _ := sn18
                clear HSS HMS HVS qs3 qs4 qs7 qs9 qs10
                first
                  | (refine run_passed sn18 ?_
                     exact detK.mk)
                  | (refine run_guarded sn18 ?_
                     unfold runs
                     go_simp
                     exact detK.mk)
              -- 29: slot 64 := Op.load 3 t63
              refine sure_det (js := [(28, 63), (18, 53)]) (ts := []) (gd := (some (53, true))) (place_at HVS.out (k := 29) rfl) (by rw [HSS.out, HMS.out]; kernel_rfl) ?_ ?_
              · intro wx hx ρ hρ hs hf
                have k1 := hρ.const
                have k2 := hρ.func
                obtain ⟨sn28, sn18, -⟩ := hs
                rw [place_at HVS.out (k := 28) rfl] at sn28
                replace sn28 : ρ (.tmp 63) = _ := sn28
                rw [place_at HVS.out (k := 18) rfl] at sn18
                replace sn18 : ρ (.tmp 53) = _ := sn18
                clear hf
                clear HSS HMS HVS qs3 qs4 qs7 qs9 qs10
                first
                  | (refine run_passed sn18 ?_
                     exact detK.mk)
                  | (refine run_guarded sn18 ?_
                     obtain ⟨c0, c1, c2, c3⟩ := hbox wx hx
                     unfold runs
                     go_simp
                     exact detK.mk)
              -- 30: slot 65 := Op.indexAddr 56 t4 ((i64 0))
              refine sure_det (js := [(18, 53)]) (ts := [4]) (gd := (some (53, true))) (place_at HVS.out (k := 30) rfl) (by rw [HSS.out, HMS.out]; kernel_rfl) ?_ ?_
              · intro wx hx ρ hρ hs hf
                have k1 := hρ.const
                have k2 := hρ.func
                obtain ⟨sn18, -⟩ := hs
                obtain ⟨fx4, -⟩ := hf
                rw [qs4] at fx4
                rw [place_at HVS.out (k := 18) rfl] at sn18
                replace sn18 : ρ (.tmp 53) = _ := sn18
                clear HSS HMS HVS qs3 qs4 qs7 qs9 qs10
                first
                  | (refine run_passed sn18 ?_
                     exact detK.mk)
                  | (refine run_guarded sn18 ?_
                     unfold runs
                     go_simp
                     exact detK.mk)
              -- 31: slot 66 := Op.load 3 t65
              refine sure_det (js := [(30, 65), (18, 53)]) (ts := []) (gd := (some (53, true))) (place_at HVS.out (k := 31) rfl) (by rw [HSS.out, HMS.out]; kernel_rfl) ?_ ?_
              · intro wx hx ρ hρ hs hf
                have k1 := hρ.const
                have k2 := hρ.func
                obtain ⟨sn30, sn18, -⟩ := hs
                rw [place_at HVS.out (k := 30) rfl] at sn30
                replace sn30 : ρ (.tmp 65) = _ := sn30
                rw [place_at HVS.out (k := 18) rfl] at sn18
                replace sn18 : ρ (.tmp 53) = _ := sn18
                clear hf
                clear HSS HMS HVS qs3 qs4 qs7 qs9 qs10
                first
                  | (refine run_passed sn18 ?_
                     exact detK.mk)
                  | (refine run_guarded sn18 ?_
                     obtain ⟨c0, c1, c2, c3⟩ := hbox wx hx
                     unfold runs
                     go_simp
                     exact detK.mk)
              -- 32: slot 67 := Op.binOp BinOp.eql 3 t64 t66 3
              refine sure_det (js := [(29, 64), (31, 66), (18, 53)]) (ts := []) (gd := (some (53, true))) (place_at HVS.out (k := 32) rfl) (by rw [HSS.out, HMS.out]; kernel_rfl) ?_ ?_
              · intro wx hx ρ hρ hs hf
                have k1 := hρ.const
                have k2 := hρ.func
                obtain ⟨sn29, sn31, sn18, -⟩ := hs
                rw [place_at HVS.out (k := 29) rfl] at sn29
                replace sn29 : ρ (.tmp 64) = _ := sn29
                rw [place_at HVS.out (k := 31) rfl] at sn31
                replace sn31 : ρ (.tmp 66) = _ := sn31
                rw [place_at HVS.out (k := 18) rfl] at sn18
                replace sn18 : ρ (.tmp 53) = _ := sn18
                clear hf
                clear HSS HMS HVS qs3 qs4 qs7 qs9 qs10
                first
                  | (refine run_passed sn18 ?_
                     exact detK.mk)
                  | (refine run_guarded sn18 ?_
                     unfold runs
                     go_simp
                     exact detK.mk)
              -- 33: slot 68 := Op.move t67
              refine sure_det (js := [(32, 67), (18, 53)]) (ts := []) (gd := (some (53, true))) (place_at HVS.out (k := 33) rfl) (by rw [HSS.out, HMS.out]; kernel_rfl) ?_ ?_
              · intro wx hx ρ hρ hs hf
                have k1 := hρ.const
                have k2 := hρ.func
                obtain ⟨sn32, sn18, -⟩ := hs
                rw [place_at HVS.out (k := 32) rfl] at sn32
                replace sn32 : ρ (.tmp 67) = _ := sn32
                rw [place_at HVS.out (k := 18) rfl] at sn18
                replace sn18 : ρ (.tmp 53) = _ := sn18
                clear hf
                clear HSS HMS HVS qs3 qs4 qs7 qs9 qs10
                first
                  | (refine run_passed sn18 ?_
                     exact detK.mk)
                  | (refine run_guarded sn18 ?_
                     refine op_move rfl sn32 ?_
                     exact detK.mk)
              -- 34: slot 69 := Op.move t9
              refine sure_det (js := [(33, 68)]) (ts := [9]) (gd := (some (68, true))) (place_at HVS.out (k := 34) rfl) (by rw [HSS.out, HMS.out]; kernel_rfl) ?_ ?_
              · intro wx hx ρ hρ hs hf
                have k1 := hρ.const
                have k2 := hρ.func
                obtain ⟨sn33, -⟩ := hs
                obtain ⟨fx9, -⟩ := hf
                rw [qs9] at fx9
                rw [place_at HVS.out (k := 33) rfl] at sn33
                replace sn33 : ρ (.tmp 68) = _ := sn33
                clear HSS HMS HVS qs3 qs4 qs7 qs9 qs10
                first
                  | (refine run_passed sn33 ?_
                     exact detK.mk)
                  | (refine run_guarded sn33 ?_
                     refine op_move rfl fx9 ?_
                     exact detK.mk)
              -- 35: slot 70 := Op.move t10
              refine sure_det (js := [(33, 68)]) (ts := [10]) (gd := (some (68, true))) (place_at HVS.out (k := 35) rfl) (by rw [HSS.out, HMS.out]; kernel_rfl) ?_ ?_
              · intro wx hx ρ hρ hs hf
                have k1 := hρ.const
                have k2 := hρ.func
                obtain ⟨sn33, -⟩ := hs
                obtain ⟨fx10, -⟩ := hf
                rw [qs10] at fx10
                rw [place_at HVS.out (k := 33) rfl] at sn33
                replace sn33 : ρ (.tmp 68) = _ := sn33
                clear HSS HMS HVS qs3 qs4 qs7 qs9 qs10
                first
                  | (refine run_passed sn33 ?_
                     exact detK.mk)
                  | (refine run_guarded sn33 ?_
                     refine op_move rfl fx10 ?_
                     exact detK.mk)
              -- 36: slot 71 := Op.binOp BinOp.eql 37 t69 t70 37
              refine sure_det (js := [(34, 69), (35, 70), (33, 68)]) (ts := []) (gd := (some (68, true))) (place_at HVS.out (k := 36) rfl) (by rw [HSS.out, HMS.out]; kernel_rfl) ?_ ?_
              · intro wx hx ρ hρ hs hf
                have k1 := hρ.const
                have k2 := hρ.func
                obtain ⟨sn34, sn35, sn33, -⟩ := hs
                rw [place_at HVS.out (k := 34) rfl] at sn34
                replace sn34 : ρ (.tmp 69) = _ := sn34
                rw [place_at HVS.out (k := 35) rfl] at sn35
                replace sn35 : ρ (.tmp 70) = _ := sn35
                rw [place_at HVS.out (k := 33) rfl] at sn33
                replace sn33 : ρ (.tmp 68) = _ := sn33
                clear hf
                clear HSS HMS HVS qs3 qs4 qs7 qs9 qs10
                first
                  | (refine run_passed sn33 ?_
                     exact detK.mk)
                  | (refine run_guarded sn33 ?_
                     unfold runs
                     go_simp
                     exact detK.mk)
              -- 37: slot 72 := Op.pick t68 t71 ((Value.bool false))
              refine sure_det (js := [(33, 68), (36, 71), (18, 53)]) (ts := []) (gd := (some (53, true))) (place_at HVS.out (k := 37) rfl) (by rw [HSS.out, HMS.out]; kernel_rfl) ?_ ?_
              · intro wx hx ρ hρ hs hf
                have k1 := hρ.const
                have k2 := hρ.func
                obtain ⟨sn33, sn36, sn18, -⟩ := hs
                rw [place_at HVS.out (k := 33) rfl] at sn33
                replace sn33 : ρ (.tmp 68) = _ := sn33
                rw [place_at HVS.out (k := 36) rfl] at sn36
                replace sn36 : ρ (.tmp 71) = _ := sn36
                rw [place_at HVS.out (k := 18) rfl] at sn18
                replace sn18 : ρ (.tmp 53) = _ := sn18
                clear hf
                clear HSS HMS HVS qs3 qs4 qs7 qs9 qs10
                first
                  | (refine run_passed sn18 ?_
                     exact detK.mk)
                  | (refine run_guarded sn18 ?_
                     first | refine op_pick_t rfl sn33 sn36 ?_ | refine op_pick_f rfl sn33 (hρ.const _) ?_
                     exact detK.mk)
              -- 38: slot 73 := Op.binOp BinOp.eql 4 t62 t72 4
              refine sure_det (js := [(27, 62), (37, 72), (18, 53)]) (ts := []) (gd := (some (53, true))) (place_at HVS.out (k := 38) rfl) (by rw [HSS.out, HMS.out]; kernel_rfl) ?_ ?_
              · intro wx hx ρ hρ hs hf
                have k1 := hρ.const
                have k2 := hρ.func
                obtain ⟨sn27, sn37, sn18, -⟩ := hs
                rw [place_at HVS.out (k := 27) rfl] at sn27
                replace sn27 : ρ (.tmp 62) = _ := sn27
                rw [place_at HVS.out (k := 37) rfl] at sn37
                replace sn37 : ρ (.tmp 72) = _ := sn37
                rw [place_at HVS.out (k := 18) rfl] at sn18
                replace sn18 : ρ (.tmp 53) = _ := sn18
                clear hf
                clear HSS HMS HVS qs3 qs4 qs7 qs9 qs10
                first
                  | (refine run_passed sn18 ?_
                     exact detK.mk)
                  | (refine run_guarded sn18 ?_
                     unfold runs
                     go_simp
                     exact detK.mk)
              -- 39: slot 74 := Op.pick t53 t73 ((Value.bool false))
              refine sure_det (js := [(18, 53), (38, 73)]) (ts := []) (gd := none) (place_at HVS.out (k := 39) rfl) (by rw [HSS.out, HMS.out]; kernel_rfl) ?_ ?_
              · intro wx hx ρ hρ hs hf
                have k1 := hρ.const
                have k2 := hρ.func
                obtain ⟨sn18, sn38, -⟩ := hs
                rw [place_at HVS.out (k := 18) rfl] at sn18
                replace sn18 : ρ (.tmp 53) = _ := sn18
                rw [place_at HVS.out (k := 38) rfl] at sn38
                replace sn38 : ρ (.tmp 73) = _ := sn38
                clear hf
                clear HSS HMS HVS qs3 qs4 qs7 qs9 qs10
                refine run_plain ?_
                first | refine op_pick_t rfl sn18 sn38 ?_ | refine op_pick_f rfl sn18 (hρ.const _) ?_
                exact detK.mk
              -- 40: slot 75 := Op.move t74
              refine sure_det (js := [(39, 74)]) (ts := []) (gd := none) (place_at HVS.out (k := 40) rfl) (by rw [HSS.out, HMS.out]; kernel_rfl) ?_ ?_
              · intro wx hx ρ hρ hs hf
                have k1 := hρ.const
                have k2 := hρ.func
                obtain ⟨sn39, -⟩ := hs
                rw [place_at HVS.out (k := 39) rfl] at sn39
                replace sn39 : ρ (.tmp 74) = _ := sn39
                clear hf
                clear HSS HMS HVS qs3 qs4 qs7 qs9 qs10
                refine run_plain ?_
                refine op_move rfl sn39 ?_
                exact detK.mk
              -- 41: slot 76 := Op.move t9
              refine sure_det (js := [(40, 75)]) (ts := [9]) (gd := (some (75, true))) (place_at HVS.out (k := 41) rfl) (by rw [HSS.out, HMS.out]; kernel_rfl) ?_ ?_
              · intro wx hx ρ hρ hs hf
                have k1 := hρ.const
                have k2 := hρ.func
                obtain ⟨sn40, -⟩ := hs
                obtain ⟨fx9, -⟩ := hf
                rw [qs9] at fx9
                rw [place_at HVS.out (k := 40) rfl] at sn40
                replace sn40 : ρ (.tmp 75) = _ := sn40
                clear HSS HMS HVS qs3 qs4 qs7 qs9 qs10
                first
                  | (refine run_passed sn40 ?_
                     exact detK.mk)
                  | (refine run_guarded sn40 ?_
                     refine op_move rfl fx9 ?_
                     exact detK.mk)
              -- 42: slot 77 := Op.indexAddr 56 t3 ((i64 1))
              refine sure_det (js := [(40, 75)]) (ts := [3]) (gd := (some (75, true))) (place_at HVS.out (k := 42) rfl) (by rw [HSS.out, HMS.out]; kernel_rfl) ?_ ?_
              · intro wx hx ρ hρ hs hf
                have k1 := hρ.const
                have k2 := hρ.func
                obtain ⟨sn40, -⟩ := hs
                obtain ⟨fx3, -⟩ := hf
                rw [qs3] at fx3
                rw [place_at HVS.out (k := 40) rfl] at sn40
                replace sn40 : ρ (.tmp 75) = _ := sn40
                clear HSS HMS HVS qs3 qs4 qs7 qs9 qs10
                first
                  | (refine run_passed sn40 ?_
                     exact detK.mk)
                  | (refine run_guarded sn40 ?_
                     unfold runs
                     go_simp
                     exact detK.mk)
              -- 43: slot 78 := Op.load 3 t77
              refine sure_det (js := [(42, 77), (40, 75)]) (ts := []) (gd := (some (75, true))) (place_at HVS.out (k := 43) rfl) (by rw [HSS.out, HMS.out]; kernel_rfl) ?_ ?_
              · intro wx hx ρ hρ hs hf
                have k1 := hρ.const
                have k2 := hρ.func
                obtain ⟨sn42, sn40, -⟩ := hs
                rw [place_at HVS.out (k := 42) rfl] at sn42
                replace sn42 : ρ (.tmp 77) = _ := sn42
                rw [place_at HVS.out (k := 40) rfl] at sn40
                replace sn40 : ρ (.tmp 75) = _ := sn40
                clear hf
                clear HSS HMS HVS qs3 qs4 qs7 qs9 qs10
                first
                  | (refine run_passed sn40 ?_
                     exact detK.mk)
                  | (refine run_guarded sn40 ?_
                     obtain ⟨c0, c1, c2, c3⟩ := hbox wx hx
                     unfold runs
                     go_simp
                     exact detK.mk)
              -- 44: slot 79 := Op.binOp BinOp.rem 3 t78 ((i64 4)) 3
              refine sure_det (js := [(43, 78), (40, 75)]) (ts := []) (gd := (some (75, true))) (place_at HVS.out (k := 44) rfl) (by rw [HSS.out, HMS.out]; kernel_rfl) ?_ ?_
              · intro wx hx ρ hρ hs hf
                have k1 := hρ.const
                have k2 := hρ.func
                obtain ⟨sn43, sn40, -⟩ := hs
                rw [place_at HVS.out (k := 43) rfl] at sn43
                replace sn43 : ρ (.tmp 78) = _ := sn43
                rw [place_at HVS.out (k := 40) rfl] at sn40
                replace sn40 : ρ (.tmp 75) = _ := sn40
                clear hf
                clear HSS HMS HVS qs3 qs4 qs7 qs9 qs10
                first
                  | (refine run_passed sn40 ?_
                     exact detK.mk)
                  | (refine run_guarded sn40 ?_
                     unfold runs
                     go_simp
                     exact detK.mk)
              -- 45: slot 80 := Op.call { call ( 33), args := #[t76, t79], argTypes := #[37, 3] }
              refine sure_det (js := [(41, 76), (44, 79), (40, 75)]) (ts := []) (gd := (some (75, true))) (place_at HVS.out (k := 45) rfl) (by rw [HSS.out, HMS.out]; kernel_rfl) ?_ ?_
              · intro wx hx ρ hρ hs hf
                have k1 := hρ.const
                have k2 := hρ.func
                obtain ⟨sn41, sn44, sn40, -⟩ := hs
                rw [place_at HVS.out (k := 41) rfl] at sn41
                replace sn41 : ρ (.tmp 76) = _ := sn41
                rw [place_at HVS.out (k := 44) rfl] at sn44
                replace sn44 : ρ (.tmp 79) = _ := sn44
                rw [place_at HVS.out (k := 40) rfl] at sn40
                replace sn40 : ρ (.tmp 75) = _ := sn40
                clear hf
                clear HSS HMS HVS qs3 qs4 qs7 qs9 qs10
                first
                  | (refine run_passed sn40 ?_
                     exact detK.mk)
                  | (refine run_guarded sn40 ?_
                     refine op_call rfl hρ Try.call33 (map_two sn41 sn44) ?_
                     first | (refine Calls.mono (ends_any _ _ _) ?_; rintro e w' ⟨rfl, rfl⟩; refine ⟨_, rfl, ?_⟩; exact detK.mk) | (refine Calls.mono (top_any _ _ _) ?_; rintro e w' ⟨rfl, rfl⟩; refine ⟨_, rfl, ?_⟩; exact detK.mk) | (refine Calls.mono (flag_any _ _ _) ?_; rintro e w' ⟨rfl, rfl⟩; refine ⟨_, rfl, ?_⟩; exact detK.mk) | (refine Calls.mono (link_any _ _ _) ?_; rintro e w' ⟨rfl, rfl⟩; refine ⟨_, rfl, ?_⟩; exact detK.mk))
              -- 46: slot 81 := Op.move t10
              refine sure_det (js := [(40, 75)]) (ts := [10]) (gd := (some (75, true))) (place_at HVS.out (k := 46) rfl) (by rw [HSS.out, HMS.out]; kernel_rfl) ?_ ?_
              · intro wx hx ρ hρ hs hf
                have k1 := hρ.const
                have k2 := hρ.func
                obtain ⟨sn40, -⟩ := hs
                obtain ⟨fx10, -⟩ := hf
                rw [qs10] at fx10
                rw [place_at HVS.out (k := 40) rfl] at sn40
                replace sn40 : ρ (.tmp 75) = _ := sn40
                clear HSS HMS HVS qs3 qs4 qs7 qs9 qs10
                first
                  | (refine run_passed sn40 ?_
                     exact detK.mk)
                  | (refine run_guarded sn40 ?_
                     refine op_move rfl fx10 ?_
                     exact detK.mk)
              -- 47: slot 82 := Op.indexAddr 56 t4 ((i64 1))
              refine sure_det (js := [(40, 75)]) (ts := [4]) (gd := (some (75, true))) (place_at HVS.out (k := 47) rfl) (by rw [HSS.out, HMS.out]; kernel_rfl) ?_ ?_
              · intro wx hx ρ hρ hs hf
                have k1 := hρ.const
                have k2 := hρ.func
                obtain ⟨sn40, -⟩ := hs
                obtain ⟨fx4, -⟩ := hf
                rw [qs4] at fx4
                rw [place_at HVS.out (k := 40) rfl] at sn40
                replace sn40 : ρ (.tmp 75) = _ := sn40
                clear HSS HMS HVS qs3 qs4 qs7 qs9 qs10
                first
                  | (refine run_passed sn40 ?_
                     exact detK.mk)
                  | (refine run_guarded sn40 ?_
                     unfold runs
                     go_simp
                     exact detK.mk)
              -- 48: slot 83 := Op.load 3 t82
              refine sure_det (js := [(47, 82), (40, 75)]) (ts := []) (gd := (some (75, true))) (place_at HVS.out (k := 48) rfl) (by rw [HSS.out, HMS.out]; kernel_rfl) ?_ ?_
              · intro wx hx ρ hρ hs hf
                have k1 := hρ.const
                have k2 := hρ.func
                obtain ⟨sn47, sn40, -⟩ := hs
                rw [place_at HVS.out (k := 47) rfl] at sn47
                replace sn47 : ρ (.tmp 82) = _ := sn47
                rw [place_at HVS.out (k := 40) rfl] at sn40
                replace sn40 : ρ (.tmp 75) = _ := sn40
                clear hf
                clear HSS HMS HVS qs3 qs4 qs7 qs9 qs10
                first
                  | (refine run_passed sn40 ?_
                     exact detK.mk)
                  | (refine run_guarded sn40 ?_
                     obtain ⟨c0, c1, c2, c3⟩ := hbox wx hx
                     unfold runs
                     go_simp
                     exact detK.mk)
              -- 49: slot 84 := Op.binOp BinOp.rem 3 t83 ((i64 4)) 3
              refine sure_det (js := [(48, 83), (40, 75)]) (ts := []) (gd := (some (75, true))) (place_at HVS.out (k := 49) rfl) (by rw [HSS.out, HMS.out]; kernel_rfl) ?_ ?_
              · intro wx hx ρ hρ hs hf
                have k1 := hρ.const
                have k2 := hρ.func
                obtain ⟨sn48, sn40, -⟩ := hs
                rw [place_at HVS.out (k := 48) rfl] at sn48
                replace sn48 : ρ (.tmp 83) = _ := sn48
                rw [place_at HVS.out (k := 40) rfl] at sn40
                replace sn40 : ρ (.tmp 75) = _ := sn40
                clear hf
                clear HSS HMS HVS qs3 qs4 qs7 qs9 qs10
                first
                  | (refine run_passed sn40 ?_
                     exact detK.mk)
                  | (refine run_guarded sn40 ?_
                     unfold runs
                     go_simp
                     exact detK.mk)
              -- 50: slot 85 := Op.call { call ( 33), args := #[t81, t84], argTypes := #[37, 3] }
              refine sure_det (js := [(46, 81), (49, 84), (40, 75)]) (ts := []) (gd := (some (75, true))) (place_at HVS.out (k := 50) rfl) (by rw [HSS.out, HMS.out]; kernel_rfl) ?_ ?_
              · intro wx hx ρ hρ hs hf
                have k1 := hρ.const
                have k2 := hρ.func
                obtain ⟨sn46, sn49, sn40, -⟩ := hs
                rw [place_at HVS.out (k := 46) rfl] at sn46
                replace sn46 : ρ (.tmp 81) = _ := sn46
                rw [place_at HVS.out (k := 49) rfl] at sn49
                replace sn49 : ρ (.tmp 84) = _ := sn49
                rw [place_at HVS.out (k := 40) rfl] at sn40
                replace sn40 : ρ (.tmp 75) = _ := sn40
                clear hf
                clear HSS HMS HVS qs3 qs4 qs7 qs9 qs10
                first
                  | (refine run_passed sn40 ?_
                     exact detK.mk)
                  | (refine run_guarded sn40 ?_
                     refine op_call rfl hρ Try.call33 (map_two sn46 sn49) ?_
                     first | (refine Calls.mono (ends_any _ _ _) ?_; rintro e w' ⟨rfl, rfl⟩; refine ⟨_, rfl, ?_⟩; exact detK.mk) | (refine Calls.mono (top_any _ _ _) ?_; rintro e w' ⟨rfl, rfl⟩; refine ⟨_, rfl, ?_⟩; exact detK.mk) | (refine Calls.mono (flag_any _ _ _) ?_; rintro e w' ⟨rfl, rfl⟩; refine ⟨_, rfl, ?_⟩; exact detK.mk) | (refine Calls.mono (link_any _ _ _) ?_; rintro e w' ⟨rfl, rfl⟩; refine ⟨_, rfl, ?_⟩; exact detK.mk))
              -- 51: slot 86 := Op.binOp BinOp.eql 37 t80 t85 37
              refine sure_det (js := [(45, 80), (50, 85), (40, 75)]) (ts := []) (gd := (some (75, true))) (place_at HVS.out (k := 51) rfl) (by rw [HSS.out, HMS.out]; kernel_rfl) ?_ ?_
              · intro wx hx ρ hρ hs hf
                have k1 := hρ.const
                have k2 := hρ.func
                obtain ⟨sn45, sn50, sn40, -⟩ := hs
                rw [place_at HVS.out (k := 45) rfl] at sn45
                replace sn45 : ρ (.tmp 80) = _ := sn45
                rw [place_at HVS.out (k := 50) rfl] at sn50
                replace sn50 : ρ (.tmp 85) = _ := sn50
                rw [place_at HVS.out (k := 40) rfl] at sn40
                replace sn40 : ρ (.tmp 75) = _ := sn40
                clear hf
                clear HSS HMS HVS qs3 qs4 qs7 qs9 qs10
                first
                  | (refine run_passed sn40 ?_
                     exact detK.mk)
                  | (refine run_guarded sn40 ?_
                     unfold runs
                     go_simp
                     exact detK.mk)
              -- 52: slot 87 := Op.move t9
              refine sure_det (js := [(40, 75)]) (ts := [9]) (gd := (some (75, true))) (place_at HVS.out (k := 52) rfl) (by rw [HSS.out, HMS.out]; kernel_rfl) ?_ ?_
              · intro wx hx ρ hρ hs hf
                have k1 := hρ.const
                have k2 := hρ.func
                obtain ⟨sn40, -⟩ := hs
                obtain ⟨fx9, -⟩ := hf
                rw [qs9] at fx9
                rw [place_at HVS.out (k := 40) rfl] at sn40
                replace sn40 : ρ (.tmp 75) = _ := sn40
                clear HSS HMS HVS qs3 qs4 qs7 qs9 qs10
                first
                  | (refine run_passed sn40 ?_
                     exact detK.mk)
                  | (refine run_guarded sn40 ?_
                     refine op_move rfl fx9 ?_
                     exact detK.mk)
              -- 53: slot 88 := Op.move t10
              refine sure_det (js := [(40, 75)]) (ts := [10]) (gd := (some (75, true))) (place_at HVS.out (k := 53) rfl) (by rw [HSS.out, HMS.out]; kernel_rfl) ?_ ?_
              · intro wx hx ρ hρ hs hf
                have k1 := hρ.const
                have k2 := hρ.func
                obtain ⟨sn40, -⟩ := hs
                obtain ⟨fx10, -⟩ := hf
                rw [qs10] at fx10
                rw [place_at HVS.out (k := 40) rfl] at sn40
                replace sn40 : ρ (.tmp 75) = _ := sn40
                clear HSS HMS HVS qs3 qs4 qs7 qs9 qs10
                first
                  | (refine run_passed sn40 ?_
                     exact detK.mk)
                  | (refine run_guarded sn40 ?_
                     refine op_move rfl fx10 ?_
                     exact detK.mk)
              -- 54: slot 89 := Op.binOp BinOp.eql 37 t87 t88 37
              refine sure_det (js := [(52, 87), (53, 88), (40, 75)]) (ts := []) (gd := (some (75, true))) (place_at HVS.out (k := 54) rfl) (by rw [HSS.out, HMS.out]; kernel_rfl) ?_ ?_
              · intro wx hx ρ hρ hs hf
                have k1 := hρ.const
                have k2 := hρ.func
                obtain ⟨sn52, sn53, sn40, -⟩ := hs
                rw [place_at HVS.out (k := 52) rfl] at sn52
                replace sn52 : ρ (.tmp 87) = _ := sn52
                rw [place_at HVS.out (k := 53) rfl] at sn53
                replace sn53 : ρ (.tmp 88) = _ := sn53
                rw [place_at HVS.out (k := 40) rfl] at sn40
                replace sn40 : ρ (.tmp 75) = _ := sn40
                clear hf
                clear HSS HMS HVS qs3 qs4 qs7 qs9 qs10
                first
                  | (refine run_passed sn40 ?_
                     exact detK.mk)
                  | (refine run_guarded sn40 ?_
                     unfold runs
                     go_simp
                     exact detK.mk)
              -- 55: slot 90 := Op.move t89
              refine sure_det (js := [(54, 89), (40, 75)]) (ts := []) (gd := (some (75, true))) (place_at HVS.out (k := 55) rfl) (by rw [HSS.out, HMS.out]; kernel_rfl) ?_ ?_
              · intro wx hx ρ hρ hs hf
                have k1 := hρ.const
                have k2 := hρ.func
                obtain ⟨sn54, sn40, -⟩ := hs
                rw [place_at HVS.out (k := 54) rfl] at sn54
                replace sn54 : ρ (.tmp 89) = _ := sn54
                rw [place_at HVS.out (k := 40) rfl] at sn40
                replace sn40 : ρ (.tmp 75) = _ := sn40
                clear hf
                clear HSS HMS HVS qs3 qs4 qs7 qs9 qs10
                first
                  | (refine run_passed sn40 ?_
                     exact detK.mk)
                  | (refine run_guarded sn40 ?_
                     refine op_move rfl sn54 ?_
                     exact detK.mk)
              -- 56: slot 91 := Op.indexAddr 56 t3 ((i64 1))
              refine sure_det (js := [(55, 90)]) (ts := [3]) (gd := (some (90, true))) (place_at HVS.out (k := 56) rfl) (by rw [HSS.out, HMS.out]; kernel_rfl) ?_ ?_
              · intro wx hx ρ hρ hs hf
                have k1 := hρ.const
                have k2 := hρ.func
                obtain ⟨sn55, -⟩ := hs
                obtain ⟨fx3, -⟩ := hf
                rw [qs3] at fx3
                rw [place_at HVS.out (k := 55) rfl] at sn55
                replace sn55 : ρ (.tmp 90) = _ := sn55
                clear HSS HMS HVS qs3 qs4 qs7 qs9 qs10
                first
                  | (refine run_passed sn55 ?_
                     exact detK.mk)
                  | (refine run_guarded sn55 ?_
                     unfold runs
                     go_simp
                     exact detK.mk)
              -- 57: slot 92 := Op.load 3 t91
              refine sure_det (js := [(56, 91), (55, 90)]) (ts := []) (gd := (some (90, true))) (place_at HVS.out (k := 57) rfl) (by rw [HSS.out, HMS.out]; kernel_rfl) ?_ ?_
              · intro wx hx ρ hρ hs hf
                have k1 := hρ.const
                have k2 := hρ.func
                obtain ⟨sn56, sn55, -⟩ := hs
                rw [place_at HVS.out (k := 56) rfl] at sn56
                replace sn56 : ρ (.tmp 91) = _ := sn56
                rw [place_at HVS.out (k := 55) rfl] at sn55
                replace sn55 : ρ (.tmp 90) = _ := sn55
                clear hf
                clear HSS HMS HVS qs3 qs4 qs7 qs9 qs10
                first
                  | (refine run_passed sn55 ?_
                     exact detK.mk)
                  | (refine run_guarded sn55 ?_
                     obtain ⟨c0, c1, c2, c3⟩ := hbox wx hx
                     unfold runs
                     go_simp
                     exact detK.mk)
              -- 58: slot 93 := Op.binOp BinOp.rem 3 t92 ((i64 4)) 3
              refine sure_det (js := [(57, 92), (55, 90)]) (ts := []) (gd := (some (90, true))) (place_at HVS.out (k := 58) rfl) (by rw [HSS.out, HMS.out]; kernel_rfl) ?_ ?_
              · intro wx hx ρ hρ hs hf
                have k1 := hρ.const
                have k2 := hρ.func
                obtain ⟨sn57, sn55, -⟩ := hs
                rw [place_at HVS.out (k := 57) rfl] at sn57
                replace sn57 : ρ (.tmp 92) = _ := sn57
                rw [place_at HVS.out (k := 55) rfl] at sn55
                replace sn55 : ρ (.tmp 90) = _ := sn55
                clear hf
                clear HSS HMS HVS qs3 qs4 qs7 qs9 qs10
                first
                  | (refine run_passed sn55 ?_
                     exact detK.mk)
                  | (refine run_guarded sn55 ?_
                     unfold runs
                     go_simp
                     exact detK.mk)
              -- 59: slot 94 := Op.indexAddr 56 t4 ((i64 1))
              refine sure_det (js := [(55, 90)]) (ts := [4]) (gd := (some (90, true))) (place_at HVS.out (k := 59) rfl) (by rw [HSS.out, HMS.out]; kernel_rfl) ?_ ?_
              · intro wx hx ρ hρ hs hf
                have k1 := hρ.const
                have k2 := hρ.func
                obtain ⟨sn55, -⟩ := hs
                obtain ⟨fx4, -⟩ := hf
                rw [qs4] at fx4
                rw [place_at HVS.out (k := 55) rfl] at sn55
                replace sn55 : ρ (.tmp 90) = _ := sn55
                clear HSS HMS HVS qs3 qs4 qs7 qs9 qs10
                first
                  | (refine run_passed sn55 ?_
                     exact detK.mk)
                  | (refine run_guarded sn55 ?_
                     unfold runs
                     go_simp
                     exact detK.mk)
              -- 60: slot 95 := Op.load 3 t94
              refine sure_det (js := [(59, 94), (55, 90)]) (ts := []) (gd := (some (90, true))) (place_at HVS.out (k := 60) rfl) (by rw [HSS.out, HMS.out]; kernel_rfl) ?_ ?_
              · intro wx hx ρ hρ hs hf
                have k1 := hρ.const
                have k2 := hρ.func
                obtain ⟨sn59, sn55, -⟩ := hs
                rw [place_at HVS.out (k := 59) rfl] at sn59
                replace sn59 : ρ (.tmp 94) = _ := sn59
                rw [place_at HVS.out (k := 55) rfl] at sn55
                replace sn55 : ρ (.tmp 90) = _ := sn55
                clear hf
                clear HSS HMS HVS qs3 qs4 qs7 qs9 qs10
                first
                  | (refine run_passed sn55 ?_
                     exact detK.mk)
                  | (refine run_guarded sn55 ?_
                     obtain ⟨c0, c1, c2, c3⟩ := hbox wx hx
                     unfold runs
                     go_simp
                     exact detK.mk)
              -- 61: slot 96 := Op.binOp BinOp.rem 3 t95 ((i64 4)) 3
              refine sure_det (js := [(60, 95), (55, 90)]) (ts := []) (gd := (some (90, true))) (place_at HVS.out (k := 61) rfl) (by rw [HSS.out, HMS.out]; kernel_rfl) ?_ ?_
              · intro wx hx ρ hρ hs hf
                have k1 := hρ.const
                have k2 := hρ.func
                obtain ⟨sn60, sn55, -⟩ := hs
                rw [place_at HVS.out (k := 60) rfl] at sn60
                replace sn60 : ρ (.tmp 95) = _ := sn60
                rw [place_at HVS.out (k := 55) rfl] at sn55
                replace sn55 : ρ (.tmp 90) = _ := sn55
                clear hf
                clear HSS HMS HVS qs3 qs4 qs7 qs9 qs10
                first
                  | (refine run_passed sn55 ?_
                     exact detK.mk)
                  | (refine run_guarded sn55 ?_
                     unfold runs
                     go_simp
                     exact detK.mk)
              -- 62: slot 97 := Op.binOp BinOp.eql 3 t93 t96 3
              refine sure_det (js := [(58, 93), (61, 96), (55, 90)]) (ts := []) (gd := (some (90, true))) (place_at HVS.out (k := 62) rfl) (by rw [HSS.out, HMS.out]; kernel_rfl) ?_ ?_
              · intro wx hx ρ hρ hs hf
                have k1 := hρ.const
                have k2 := hρ.func
                obtain ⟨sn58, sn61, sn55, -⟩ := hs
                rw [place_at HVS.out (k := 58) rfl] at sn58
                replace sn58 : ρ (.tmp 93) = _ := sn58
                rw [place_at HVS.out (k := 61) rfl] at sn61
                replace sn61 : ρ (.tmp 96) = _ := sn61
                rw [place_at HVS.out (k := 55) rfl] at sn55
                replace sn55 : ρ (.tmp 90) = _ := sn55
                clear hf
                clear HSS HMS HVS qs3 qs4 qs7 qs9 qs10
                first
                  | (refine run_passed sn55 ?_
                     exact detK.mk)
                  | (refine run_guarded sn55 ?_
                     unfold runs
                     go_simp
                     exact detK.mk)
              -- 63: slot 98 := Op.pick t90 t97 ((Value.bool false))
              refine sure_det (js := [(55, 90), (62, 97), (40, 75)]) (ts := []) (gd := (some (75, true))) (place_at HVS.out (k := 63) rfl) (by rw [HSS.out, HMS.out]; kernel_rfl) ?_ ?_
              · intro wx hx ρ hρ hs hf
                have k1 := hρ.const
                have k2 := hρ.func
                obtain ⟨sn55, sn62, sn40, -⟩ := hs
                rw [place_at HVS.out (k := 55) rfl] at sn55
                replace sn55 : ρ (.tmp 90) = _ := sn55
                rw [place_at HVS.out (k := 62) rfl] at sn62
                replace sn62 : ρ (.tmp 97) = _ := sn62
                rw [place_at HVS.out (k := 40) rfl] at sn40
                replace sn40 : ρ (.tmp 75) = _ := sn40
                clear hf
                clear HSS HMS HVS qs3 qs4 qs7 qs9 qs10
                first
                  | (refine run_passed sn40 ?_
                     exact detK.mk)
                  | (refine run_guarded sn40 ?_
                     first | refine op_pick_t rfl sn55 sn62 ?_ | refine op_pick_f rfl sn55 (hρ.const _) ?_
                     exact detK.mk)
              -- 64: slot 99 := Op.binOp BinOp.eql 4 t86 t98 4
              refine sure_det (js := [(51, 86), (63, 98), (40, 75)]) (ts := []) (gd := (some (75, true))) (place_at HVS.out (k := 64) rfl) (by rw [HSS.out, HMS.out]; kernel_rfl) ?_ ?_
              · intro wx hx ρ hρ hs hf
                have k1 := hρ.const
                have k2 := hρ.func
                obtain ⟨sn51, sn63, sn40, -⟩ := hs
                rw [place_at HVS.out (k := 51) rfl] at sn51
                replace sn51 : ρ (.tmp 86) = _ := sn51
                rw [place_at HVS.out (k := 63) rfl] at sn63
                replace sn63 : ρ (.tmp 98) = _ := sn63
                rw [place_at HVS.out (k := 40) rfl] at sn40
                replace sn40 : ρ (.tmp 75) = _ := sn40
                clear hf
                clear HSS HMS HVS qs3 qs4 qs7 qs9 qs10
                first
                  | (refine run_passed sn40 ?_
                     exact detK.mk)
                  | (refine run_guarded sn40 ?_
                     unfold runs
                     go_simp
                     exact detK.mk)
              -- 65: slot 100 := Op.pick t75 t99 ((Value.bool false))
              refine sure_det (js := [(40, 75), (64, 99)]) (ts := []) (gd := none) (place_at HVS.out (k := 65) rfl) (by rw [HSS.out, HMS.out]; kernel_rfl) ?_ ?_
              · intro wx hx ρ hρ hs hf
                have k1 := hρ.const
                have k2 := hρ.func
                obtain ⟨sn40, sn64, -⟩ := hs
                rw [place_at HVS.out (k := 40) rfl] at sn40
                replace sn40 : ρ (.tmp 75) = _ := sn40
                rw [place_at HVS.out (k := 64) rfl] at sn64
                replace sn64 : ρ (.tmp 99) = _ := sn64
                clear hf
                clear HSS HMS HVS qs3 qs4 qs7 qs9 qs10
                refine run_plain ?_
                first | refine op_pick_t rfl sn40 sn64 ?_ | refine op_pick_f rfl sn40 (hρ.const _) ?_
                exact detK.mk
              -- 66: slot 101 := Op.move t100
              refine sure_det (js := [(65, 100)]) (ts := []) (gd := none) (place_at HVS.out (k := 66) rfl) (by rw [HSS.out, HMS.out]; kernel_rfl) ?_ ?_
              · intro wx hx ρ hρ hs hf
                have k1 := hρ.const
                have k2 := hρ.func
                obtain ⟨sn65, -⟩ := hs
                rw [place_at HVS.out (k := 65) rfl] at sn65
                replace sn65 : ρ (.tmp 100) = _ := sn65
                clear hf
                clear HSS HMS HVS qs3 qs4 qs7 qs9 qs10
                refine run_plain ?_
                refine op_move rfl sn65 ?_
                exact detK.mk
              -- 67: slot 102 := Op.indexAddr 56 t3 ((i64 0))
              refine sure_det (js := [(66, 101)]) (ts := [3]) (gd := (some (101, true))) (place_at HVS.out (k := 67) rfl) (by rw [HSS.out, HMS.out]; kernel_rfl) ?_ ?_
              · intro wx hx ρ hρ hs hf
                have k1 := hρ.const
                have k2 := hρ.func
                obtain ⟨sn66, -⟩ := hs
                obtain ⟨fx3, -⟩ := hf
                rw [qs3] at fx3
                rw [place_at HVS.out (k := 66) rfl] at sn66
                replace sn66 : ρ (.tmp 101) = _ := sn66
                clear HSS HMS HVS qs3 qs4 qs7 qs9 qs10
                first
                  | (refine run_passed sn66 ?_
                     exact detK.mk)
                  | (refine run_guarded sn66 ?_
                     unfold runs
                     go_simp
                     exact detK.mk)
              -- 68: slot 103 := Op.load 3 t102
              refine sure_det (js := [(67, 102), (66, 101)]) (ts := []) (gd := (some (101, true))) (place_at HVS.out (k := 68) rfl) (by rw [HSS.out, HMS.out]; kernel_rfl) ?_ ?_
              · intro wx hx ρ hρ hs hf
                have k1 := hρ.const
                have k2 := hρ.func
                obtain ⟨sn67, sn66, -⟩ := hs
                rw [place_at HVS.out (k := 67) rfl] at sn67
                replace sn67 : ρ (.tmp 102) = _ := sn67
                rw [place_at HVS.out (k := 66) rfl] at sn66
                replace sn66 : ρ (.tmp 101) = _ := sn66
                clear hf
                clear HSS HMS HVS qs3 qs4 qs7 qs9 qs10
                first
                  | (refine run_passed sn66 ?_
                     exact detK.mk)
                  | (refine run_guarded sn66 ?_
                     obtain ⟨c0, c1, c2, c3⟩ := hbox wx hx
                     unfold runs
                     go_simp
                     exact detK.mk)
              -- 69: slot 104 := Op.indexAddr 56 t3 ((i64 1))
              refine sure_det (js := [(66, 101)]) (ts := [3]) (gd := (some (101, true))) (place_at HVS.out (k := 69) rfl) (by rw [HSS.out, HMS.out]; kernel_rfl) ?_ ?_
              · intro wx hx ρ hρ hs hf
                have k1 := hρ.const
                have k2 := hρ.func
                obtain ⟨sn66, -⟩ := hs
                obtain ⟨fx3, -⟩ := hf
                rw [qs3] at fx3
                rw [place_at HVS.out (k := 66) rfl] at sn66
                replace sn66 : ρ (.tmp 101) = _ := sn66
                clear HSS HMS HVS qs3 qs4 qs7 qs9 qs10
                first
                  | (refine run_passed sn66 ?_
                     exact detK.mk)
                  | (refine run_guarded sn66 ?_
                     unfold runs
                     go_simp
                     exact detK.mk)
              -- 70: slot 105 := Op.load 3 t104
              refine sure_det (js := [(69, 104), (66, 101)]) (ts := []) (gd := (some (101, true))) (place_at HVS.out (k := 70) rfl) (by rw [HSS.out, HMS.out]; kernel_rfl) ?_ ?_
              · intro wx hx ρ hρ hs hf
                have k1 := hρ.const
                have k2 := hρ.func
                obtain ⟨sn69, sn66, -⟩ := hs
                rw [place_at HVS.out (k := 69) rfl] at sn69
                replace sn69 : ρ (.tmp 104) = _ := sn69
                rw [place_at HVS.out (k := 66) rfl] at sn66
                replace sn66 : ρ (.tmp 101) = _ := sn66
                clear hf
                clear HSS HMS HVS qs3 qs4 qs7 qs9 qs10
                first
                  | (refine run_passed sn66 ?_
                     exact detK.mk)
                  | (refine run_guarded sn66 ?_
                     obtain ⟨c0, c1, c2, c3⟩ := hbox wx hx
                     unfold runs
                     go_simp
                     exact detK.mk)
              -- 71: slot 106 := Op.binOp BinOp.rem 3 t105 ((i64 2)) 3
              refine sure_det (js := [(70, 105), (66, 101)]) (ts := []) (gd := (some (101, true))) (place_at HVS.out (k := 71) rfl) (by rw [HSS.out, HMS.out]; kernel_rfl) ?_ ?_
              · intro wx hx ρ hρ hs hf
                have k1 := hρ.const
                have k2 := hρ.func
                obtain ⟨sn70, sn66, -⟩ := hs
                rw [place_at HVS.out (k := 70) rfl] at sn70
                replace sn70 : ρ (.tmp 105) = _ := sn70
                rw [place_at HVS.out (k := 66) rfl] at sn66
                replace sn66 : ρ (.tmp 101) = _ := sn66
                clear hf
                clear HSS HMS HVS qs3 qs4 qs7 qs9 qs10
                first
                  | (refine run_passed sn66 ?_
                     exact detK.mk)
                  | (refine run_guarded sn66 ?_
                     unfold runs
                     go_simp
                     exact detK.mk)
              -- 72: slot 107 := Op.binOp BinOp.eql 3 t106 ((i64 1)) 3
              refine sure_det (js := [(71, 106), (66, 101)]) (ts := []) (gd := (some (101, true))) (place_at HVS.out (k := 72) rfl) (by rw [HSS.out, HMS.out]; kernel_rfl) ?_ ?_
              · intro wx hx ρ hρ hs hf
                have k1 := hρ.const
                have k2 := hρ.func
                obtain ⟨sn71, sn66, -⟩ := hs
                rw [place_at HVS.out (k := 71) rfl] at sn71
                replace sn71 : ρ (.tmp 106) = _ := sn71
                rw [place_at HVS.out (k := 66) rfl] at sn66
                replace sn66 : ρ (.tmp 101) = _ := sn66
                clear hf
                clear HSS HMS HVS qs3 qs4 qs7 qs9 qs10
                first
                  | (refine run_passed sn66 ?_
                     exact detK.mk)
                  | (refine run_guarded sn66 ?_
                     unfold runs
                     go_simp
                     exact detK.mk)
              -- 73: slot 108 := Op.call { call ( 27), args := #[t103, t107], argTypes := #[3, 4] }
              refine sure_det (js := [(68, 103), (72, 107), (66, 101)]) (ts := []) (gd := (some (101, true))) (place_at HVS.out (k := 73) rfl) (by rw [HSS.out, HMS.out]; kernel_rfl) ?_ ?_
              · intro wx hx ρ hρ hs hf
                have k1 := hρ.const
                have k2 := hρ.func
                obtain ⟨sn68, sn72, sn66, -⟩ := hs
                rw [place_at HVS.out (k := 68) rfl] at sn68
                replace sn68 : ρ (.tmp 103) = _ := sn68
                rw [place_at HVS.out (k := 72) rfl] at sn72
                replace sn72 : ρ (.tmp 107) = _ := sn72
                rw [place_at HVS.out (k := 66) rfl] at sn66
                replace sn66 : ρ (.tmp 101) = _ := sn66
                clear hf
                clear HSS HMS HVS qs3 qs4 qs7 qs9 qs10
                first
                  | (refine run_passed sn66 ?_
                     exact detK.mk)
                  | (refine run_guarded sn66 ?_
                     refine op_call rfl hρ Try.call27 (map_two sn68 sn72) ?_
                     first | (refine Calls.mono (ends_any _ _ _) ?_; rintro e w' ⟨rfl, rfl⟩; refine ⟨_, rfl, ?_⟩; exact detK.mk) | (refine Calls.mono (top_any _ _ _) ?_; rintro e w' ⟨rfl, rfl⟩; refine ⟨_, rfl, ?_⟩; exact detK.mk) | (refine Calls.mono (flag_any _ _ _) ?_; rintro e w' ⟨rfl, rfl⟩; refine ⟨_, rfl, ?_⟩; exact detK.mk) | (refine Calls.mono (link_any _ _ _) ?_; rintro e w' ⟨rfl, rfl⟩; refine ⟨_, rfl, ?_⟩; exact detK.mk))
              -- 74: slot 109 := Op.indexAddr 56 t4 ((i64 0))
              refine sure_det (js := [(66, 101)]) (ts := [4]) (gd := (some (101, true))) (place_at HVS.out (k := 74) rfl) (by rw [HSS.out, HMS.out]; kernel_rfl) ?_ ?_
              · intro wx hx ρ hρ hs hf
                have k1 := hρ.const
                have k2 := hρ.func
                obtain ⟨sn66, -⟩ := hs
                obtain ⟨fx4, -⟩ := hf
                rw [qs4] at fx4
                rw [place_at HVS.out (k := 66) rfl] at sn66
                replace sn66 : ρ (.tmp 101) = _ := sn66
                clear HSS HMS HVS qs3 qs4 qs7 qs9 qs10
                first
                  | (refine run_passed sn66 ?_
                     exact detK.mk)
                  | (refine run_guarded sn66 ?_
                     unfold runs
                     go_simp
                     exact detK.mk)
              -- 75: slot 110 := Op.load 3 t109
              refine sure_det (js := [(74, 109), (66, 101)]) (ts := []) (gd := (some (101, true))) (place_at HVS.out (k := 75) rfl) (by rw [HSS.out, HMS.out]; kernel_rfl) ?_ ?_
              · intro wx hx ρ hρ hs hf
                have k1 := hρ.const
                have k2 := hρ.func
                obtain ⟨sn74, sn66, -⟩ := hs
                rw [place_at HVS.out (k := 74) rfl] at sn74
                replace sn74 : ρ (.tmp 109) = _ := sn74
                rw [place_at HVS.out (k := 66) rfl] at sn66
                replace sn66 : ρ (.tmp 101) = _ := sn66
                clear hf
                clear HSS HMS HVS qs3 qs4 qs7 qs9 qs10
                first
                  | (refine run_passed sn66 ?_
                     exact detK.mk)
                  | (refine run_guarded sn66 ?_
                     obtain ⟨c0, c1, c2, c3⟩ := hbox wx hx
                     unfold runs
                     go_simp
                     exact detK.mk)
              -- 76: slot 111 := Op.indexAddr 56 t4 ((i64 1))
              refine sure_det (js := [(66, 101)]) (ts := [4]) (gd := (some (101, true))) (place_at HVS.out (k := 76) rfl) (by rw [HSS.out, HMS.out]; kernel_rfl) ?_ ?_
              · intro wx hx ρ hρ hs hf
                have k1 := hρ.const
                have k2 := hρ.func
                obtain ⟨sn66, -⟩ := hs
                obtain ⟨fx4, -⟩ := hf
                rw [qs4] at fx4
                rw [place_at HVS.out (k := 66) rfl] at sn66
                replace sn66 : ρ (.tmp 101) = _ := sn66
                clear HSS HMS HVS qs3 qs4 qs7 qs9 qs10
                first
                  | (refine run_passed sn66 ?_
                     exact detK.mk)
                  | (refine run_guarded sn66 ?_
                     unfold runs
                     go_simp
                     exact detK.mk)
              -- 77: slot 112 := Op.load 3 t111
              refine sure_det (js := [(76, 111), (66, 101)]) (ts := []) (gd := (some (101, true))) (place_at HVS.out (k := 77) rfl) (by rw [HSS.out, HMS.out]; kernel_rfl) ?_ ?_
              · intro wx hx ρ hρ hs hf
                have k1 := hρ.const
                have k2 := hρ.func
                obtain ⟨sn76, sn66, -⟩ := hs
                rw [place_at HVS.out (k := 76) rfl] at sn76
                replace sn76 : ρ (.tmp 111) = _ := sn76
                rw [place_at HVS.out (k := 66) rfl] at sn66
                replace sn66 : ρ (.tmp 101) = _ := sn66
                clear hf
                clear HSS HMS HVS qs3 qs4 qs7 qs9 qs10
                first
                  | (refine run_passed sn66 ?_
                     exact detK.mk)
                  | (refine run_guarded sn66 ?_
                     obtain ⟨c0, c1, c2, c3⟩ := hbox wx hx
                     unfold runs
                     go_simp
                     exact detK.mk)
              -- 78: slot 113 := Op.binOp BinOp.rem 3 t112 ((i64 2)) 3
              refine sure_det (js := [(77, 112), (66, 101)]) (ts := []) (gd := (some (101, true))) (place_at HVS.out (k := 78) rfl) (by rw [HSS.out, HMS.out]; kernel_rfl) ?_ ?_
              · intro wx hx ρ hρ hs hf
                have k1 := hρ.const
                have k2 := hρ.func
                obtain ⟨sn77, sn66, -⟩ := hs
                rw [place_at HVS.out (k := 77) rfl] at sn77
                replace sn77 : ρ (.tmp 112) = _ := sn77
                rw [place_at HVS.out (k := 66) rfl] at sn66
                replace sn66 : ρ (.tmp 101) = _ := sn66
                clear hf
                clear HSS HMS HVS qs3 qs4 qs7 qs9 qs10
                first
                  | (refine run_passed sn66 ?_
                     exact detK.mk)
                  | (refine run_guarded sn66 ?_
                     unfold runs
                     go_simp
                     exact detK.mk)
              -- 79: slot 114 := Op.binOp BinOp.eql 3 t113 ((i64 1)) 3
              refine sure_det (js := [(78, 113), (66, 101)]) (ts := []) (gd := (some (101, true))) (place_at HVS.out (k := 79) rfl) (by rw [HSS.out, HMS.out]; kernel_rfl) ?_ ?_
              · intro wx hx ρ hρ hs hf
                have k1 := hρ.const
                have k2 := hρ.func
                obtain ⟨sn78, sn66, -⟩ := hs
                rw [place_at HVS.out (k := 78) rfl] at sn78
                replace sn78 : ρ (.tmp 113) = _ := sn78
                rw [place_at HVS.out (k := 66) rfl] at sn66
                replace sn66 : ρ (.tmp 101) = _ := sn66
                clear hf
                clear HSS HMS HVS qs3 qs4 qs7 qs9 qs10
                first
                  | (refine run_passed sn66 ?_
                     exact detK.mk)
                  | (refine run_guarded sn66 ?_
                     unfold runs
                     go_simp
                     exact detK.mk)
              -- 80: slot 115 := Op.call { call ( 27), args := #[t110, t114], argTypes := #[3, 4] }
              refine sure_det (js := [(75, 110), (79, 114), (66, 101)]) (ts := []) (gd := (some (101, true))) (place_at HVS.out (k := 80) rfl) (by rw [HSS.out, HMS.out]; kernel_rfl) ?_ ?_
              · intro wx hx ρ hρ hs hf
                have k1 := hρ.const
                have k2 := hρ.func
                obtain ⟨sn75, sn79, sn66, -⟩ := hs
                rw [place_at HVS.out (k := 75) rfl] at sn75
                replace sn75 : ρ (.tmp 110) = _ := sn75
                rw [place_at HVS.out (k := 79) rfl] at sn79
                replace sn79 : ρ (.tmp 114) = _ := sn79
                rw [place_at HVS.out (k := 66) rfl] at sn66
                replace sn66 : ρ (.tmp 101) = _ := sn66
                clear hf
                clear HSS HMS HVS qs3 qs4 qs7 qs9 qs10
                first
                  | (refine run_passed sn66 ?_
                     exact detK.mk)
                  | (refine run_guarded sn66 ?_
                     refine op_call rfl hρ Try.call27 (map_two sn75 sn79) ?_
                     first | (refine Calls.mono (ends_any _ _ _) ?_; rintro e w' ⟨rfl, rfl⟩; refine ⟨_, rfl, ?_⟩; exact detK.mk) | (refine Calls.mono (top_any _ _ _) ?_; rintro e w' ⟨rfl, rfl⟩; refine ⟨_, rfl, ?_⟩; exact detK.mk) | (refine Calls.mono (flag_any _ _ _) ?_; rintro e w' ⟨rfl, rfl⟩; refine ⟨_, rfl, ?_⟩; exact detK.mk) | (refine Calls.mono (link_any _ _ _) ?_; rintro e w' ⟨rfl, rfl⟩; refine ⟨_, rfl, ?_⟩; exact detK.mk))
              -- 81: slot 116 := Op.binOp BinOp.eql 37 t108 t115 37
              refine sure_det (js := [(73, 108), (80, 115), (66, 101)]) (ts := []) (gd := (some (101, true))) (place_at HVS.out (k := 81) rfl) (by rw [HSS.out, HMS.out]; kernel_rfl) ?_ ?_
              · intro wx hx ρ hρ hs hf
                have k1 := hρ.const
                have k2 := hρ.func
                obtain ⟨sn73, sn80, sn66, -⟩ := hs
                rw [place_at HVS.out (k := 73) rfl] at sn73
                replace sn73 : ρ (.tmp 108) = _ := sn73
                rw [place_at HVS.out (k := 80) rfl] at sn80
                replace sn80 : ρ (.tmp 115) = _ := sn80
                rw [place_at HVS.out (k := 66) rfl] at sn66
                replace sn66 : ρ (.tmp 101) = _ := sn66
                clear hf
                clear HSS HMS HVS qs3 qs4 qs7 qs9 qs10
                first
                  | (refine run_passed sn66 ?_
                     exact detK.mk)
                  | (refine run_guarded sn66 ?_
                     unfold runs
                     go_simp
                     exact detK.mk)
              -- 82: slot 117 := Op.indexAddr 56 t3 ((i64 0))
              refine sure_det (js := [(66, 101)]) (ts := [3]) (gd := (some (101, true))) (place_at HVS.out (k := 82) rfl) (by rw [HSS.out, HMS.out]; kernel_rfl) ?_ ?_
              · intro wx hx ρ hρ hs hf
                have k1 := hρ.const
                have k2 := hρ.func
                obtain ⟨sn66, -⟩ := hs
                obtain ⟨fx3, -⟩ := hf
                rw [qs3] at fx3
                rw [place_at HVS.out (k := 66) rfl] at sn66
                replace sn66 : ρ (.tmp 101) = _ := sn66
                clear HSS HMS HVS qs3 qs4 qs7 qs9 qs10
                first
                  | (refine run_passed sn66 ?_
                     exact detK.mk)
                  | (refine run_guarded sn66 ?_
                     unfold runs
                     go_simp
                     exact detK.mk)
              -- 83: slot 118 := Op.load 3 t117
              refine sure_det (js := [(82, 117), (66, 101)]) (ts := []) (gd := (some (101, true))) (place_at HVS.out (k := 83) rfl) (by rw [HSS.out, HMS.out]; kernel_rfl) ?_ ?_
              · intro wx hx ρ hρ hs hf
                have k1 := hρ.const
                have k2 := hρ.func
                obtain ⟨sn82, sn66, -⟩ := hs
                rw [place_at HVS.out (k := 82) rfl] at sn82
                replace sn82 : ρ (.tmp 117) = _ := sn82
                rw [place_at HVS.out (k := 66) rfl] at sn66
                replace sn66 : ρ (.tmp 101) = _ := sn66
                clear hf
                clear HSS HMS HVS qs3 qs4 qs7 qs9 qs10
                first
                  | (refine run_passed sn66 ?_
                     exact detK.mk)
                  | (refine run_guarded sn66 ?_
                     obtain ⟨c0, c1, c2, c3⟩ := hbox wx hx
                     unfold runs
                     go_simp
                     exact detK.mk)
              -- 84: slot 119 := Op.indexAddr 56 t4 ((i64 0))
              refine sure_det (js := [(66, 101)]) (ts := [4]) (gd := (some (101, true))) (place_at HVS.out (k := 84) rfl) (by rw [HSS.out, HMS.out]; kernel_rfl) ?_ ?_
              · intro wx hx ρ hρ hs hf
                have k1 := hρ.const
                have k2 := hρ.func
                obtain ⟨sn66, -⟩ := hs
                obtain ⟨fx4, -⟩ := hf
                rw [qs4] at fx4
                rw [place_at HVS.out (k := 66) rfl] at sn66
                replace sn66 : ρ (.tmp 101) = _ := sn66
                clear HSS HMS HVS qs3 qs4 qs7 qs9 qs10
                first
                  | (refine run_passed sn66 ?_
                     exact detK.mk)
                  | (refine run_guarded sn66 ?_
                     unfold runs
                     go_simp
                     exact detK.mk)
              -- 85: slot 120 := Op.load 3 t119
              refine sure_det (js := [(84, 119), (66, 101)]) (ts := []) (gd := (some (101, true))) (place_at HVS.out (k := 85) rfl) (by rw [HSS.out, HMS.out]; kernel_rfl) ?_ ?_
              · intro wx hx ρ hρ hs hf
                have k1 := hρ.const
                have k2 := hρ.func
                obtain ⟨sn84, sn66, -⟩ := hs
                rw [place_at HVS.out (k := 84) rfl] at sn84
                replace sn84 : ρ (.tmp 119) = _ := sn84
                rw [place_at HVS.out (k := 66) rfl] at sn66
                replace sn66 : ρ (.tmp 101) = _ := sn66
                clear hf
                clear HSS HMS HVS qs3 qs4 qs7 qs9 qs10
                first
                  | (refine run_passed sn66 ?_
                     exact detK.mk)
                  | (refine run_guarded sn66 ?_
                     obtain ⟨c0, c1, c2, c3⟩ := hbox wx hx
                     unfold runs
                     go_simp
                     exact detK.mk)
              -- 86: slot 121 := Op.binOp BinOp.eql 3 t118 t120 3
              refine sure_det (js := [(83, 118), (85, 120), (66, 101)]) (ts := []) (gd := (some (101, true))) (place_at HVS.out (k := 86) rfl) (by rw [HSS.out, HMS.out]; kernel_rfl) ?_ ?_
              · intro wx hx ρ hρ hs hf
                have k1 := hρ.const
                have k2 := hρ.func
                obtain ⟨sn83, sn85, sn66, -⟩ := hs
                rw [place_at HVS.out (k := 83) rfl] at sn83
                replace sn83 : ρ (.tmp 118) = _ := sn83
                rw [place_at HVS.out (k := 85) rfl] at sn85
                replace sn85 : ρ (.tmp 120) = _ := sn85
                rw [place_at HVS.out (k := 66) rfl] at sn66
                replace sn66 : ρ (.tmp 101) = _ := sn66
                clear hf
                clear HSS HMS HVS qs3 qs4 qs7 qs9 qs10
                first
                  | (refine run_passed sn66 ?_
                     exact detK.mk)
                  | (refine run_guarded sn66 ?_
                     unfold runs
                     go_simp
                     exact detK.mk)
              -- 87: slot 122 := Op.move t121
              refine sure_det (js := [(86, 121), (66, 101)]) (ts := []) (gd := (some (101, true))) (place_at HVS.out (k := 87) rfl) (by rw [HSS.out, HMS.out]; kernel_rfl) ?_ ?_
              · intro wx hx ρ hρ hs hf
                have k1 := hρ.const
                have k2 := hρ.func
                obtain ⟨sn86, sn66, -⟩ := hs
                rw [place_at HVS.out (k := 86) rfl] at sn86
                replace sn86 : ρ (.tmp 121) = _ := sn86
                rw [place_at HVS.out (k := 66) rfl] at sn66
                replace sn66 : ρ (.tmp 101) = _ := sn66
                clear hf
                clear HSS HMS HVS qs3 qs4 qs7 qs9 qs10
                first
                  | (refine run_passed sn66 ?_
                     exact detK.mk)
                  | (refine run_guarded sn66 ?_
                     refine op_move rfl sn86 ?_
                     exact detK.mk)
              -- 88: slot 123 := Op.indexAddr 56 t3 ((i64 1))
              refine sure_det (js := [(87, 122)]) (ts := [3]) (gd := (some (122, true))) (place_at HVS.out (k := 88) rfl) (by rw [HSS.out, HMS.out]; kernel_rfl) ?_ ?_
              · intro wx hx ρ hρ hs hf
                have k1 := hρ.const
                have k2 := hρ.func
                obtain ⟨sn87, -⟩ := hs
                obtain ⟨fx3, -⟩ := hf
                rw [qs3] at fx3
                rw [place_at HVS.out (k := 87) rfl] at sn87
                replace sn87 : ρ (.tmp 122) = _ := sn87
                clear HSS HMS HVS qs3 qs4 qs7 qs9 qs10
                first
                  | (refine run_passed sn87 ?_
                     exact detK.mk)
                  | (refine run_guarded sn87 ?_
                     unfold runs
                     go_simp
                     exact detK.mk)
              -- 89: slot 124 := Op.load 3 t123
              refine sure_det (js := [(88, 123), (87, 122)]) (ts := []) (gd := (some (122, true))) (place_at HVS.out (k := 89) rfl) (by rw [HSS.out, HMS.out]; kernel_rfl) ?_ ?_
              · intro wx hx ρ hρ hs hf
                have k1 := hρ.const
                have k2 := hρ.func
                obtain ⟨sn88, sn87, -⟩ := hs
                rw [place_at HVS.out (k := 88) rfl] at sn88
                replace sn88 : ρ (.tmp 123) = _ := sn88
                rw [place_at HVS.out (k := 87) rfl] at sn87
                replace sn87 : ρ (.tmp 122) = _ := sn87
                clear hf
                clear HSS HMS HVS qs3 qs4 qs7 qs9 qs10
                first
                  | (refine run_passed sn87 ?_
                     exact detK.mk)
                  | (refine run_guarded sn87 ?_
                     obtain ⟨c0, c1, c2, c3⟩ := hbox wx hx
                     unfold runs
                     go_simp
                     exact detK.mk)
              -- 90: slot 125 := Op.binOp BinOp.rem 3 t124 ((i64 2)) 3
              refine sure_det (js := [(89, 124), (87, 122)]) (ts := []) (gd := (some (122, true))) (place_at HVS.out (k := 90) rfl) (by rw [HSS.out, HMS.out]; kernel_rfl) ?_ ?_
              · intro wx hx ρ hρ hs hf
                have k1 := hρ.const
                have k2 := hρ.func
                obtain ⟨sn89, sn87, -⟩ := hs
                rw [place_at HVS.out (k := 89) rfl] at sn89
                replace sn89 : ρ (.tmp 124) = _ := sn89
                rw [place_at HVS.out (k := 87) rfl] at sn87
                replace sn87 : ρ (.tmp 122) = _ := sn87
                clear hf
                clear HSS HMS HVS qs3 qs4 qs7 qs9 qs10
                first
                  | (refine run_passed sn87 ?_
                     exact detK.mk)
                  | (refine run_guarded sn87 ?_
                     unfold runs
                     go_simp
                     exact detK.mk)
              -- 91: slot 126 := Op.indexAddr 56 t4 ((i64 1))
              refine sure_det (js := [(87, 122)]) (ts := [4]) (gd := (some (122, true))) (place_at HVS.out (k := 91) rfl) (by rw [HSS.out, HMS.out]; kernel_rfl) ?_ ?_
              · intro wx hx ρ hρ hs hf
                have k1 := hρ.const
                have k2 := hρ.func
                obtain ⟨sn87, -⟩ := hs
                obtain ⟨fx4, -⟩ := hf
                rw [qs4] at fx4
                rw [place_at HVS.out (k := 87) rfl] at sn87
                replace sn87 : ρ (.tmp 122) = _ := sn87
                clear HSS HMS HVS qs3 qs4 qs7 qs9 qs10
                first
                  | (refine run_passed sn87 ?_
                     exact detK.mk)
                  | (refine run_guarded sn87 ?_
                     unfold runs
                     go_simp
                     exact detK.mk)
              -- 92: slot 127 := Op.load 3 t126
              refine sure_det (js := [(91, 126), (87, 122)]) (ts := []) (gd := (some (122, true))) (place_at HVS.out (k := 92) rfl) (by rw [HSS.out, HMS.out]; kernel_rfl) ?_ ?_
              · intro wx hx ρ hρ hs hf
                have k1 := hρ.const
                have k2 := hρ.func
                obtain ⟨sn91, sn87, -⟩ := hs
                rw [place_at HVS.out (k := 91) rfl] at sn91
                replace sn91 : ρ (.tmp 126) = _ := sn91
                rw [place_at HVS.out (k := 87) rfl] at sn87
                replace sn87 : ρ (.tmp 122) = _ := sn87
                clear hf
                clear HSS HMS HVS qs3 qs4 qs7 qs9 qs10
                first
                  | (refine run_passed sn87 ?_
                     exact detK.mk)
                  | (refine run_guarded sn87 ?_
                     obtain ⟨c0, c1, c2, c3⟩ := hbox wx hx
                     unfold runs
                     go_simp
                     exact detK.mk)
              -- 93: slot 128 := Op.binOp BinOp.rem 3 t127 ((i64 2)) 3
              refine sure_det (js := [(92, 127), (87, 122)]) (ts := []) (gd := (some (122, true))) (place_at HVS.out (k := 93) rfl) (by rw [HSS.out, HMS.out]; kernel_rfl) ?_ ?_
              · intro wx hx ρ hρ hs hf
                have k1 := hρ.const
                have k2 := hρ.func
                obtain ⟨sn92, sn87, -⟩ := hs
                rw [place_at HVS.out (k := 92) rfl] at sn92
                replace sn92 : ρ (.tmp 127) = _ := sn92
                rw [place_at HVS.out (k := 87) rfl] at sn87
                replace sn87 : ρ (.tmp 122) = _ := sn87
                clear hf
                clear HSS HMS HVS qs3 qs4 qs7 qs9 qs10
                first
                  | (refine run_passed sn87 ?_
                     exact detK.mk)
                  | (refine run_guarded sn87 ?_
                     unfold runs
                     go_simp
                     exact detK.mk)
              -- 94: slot 129 := Op.binOp BinOp.eql 3 t125 t128 3
              refine sure_det (js := [(90, 125), (93, 128), (87, 122)]) (ts := []) (gd := (some (122, true))) (place_at HVS.out (k := 94) rfl) (by rw [HSS.out, HMS.out]; kernel_rfl) ?_ ?_
              · intro wx hx ρ hρ hs hf
                have k1 := hρ.const
                have k2 := hρ.func
                obtain ⟨sn90, sn93, sn87, -⟩ := hs
                rw [place_at HVS.out (k := 90) rfl] at sn90
                replace sn90 : ρ (.tmp 125) = _ := sn90
                rw [place_at HVS.out (k := 93) rfl] at sn93
                replace sn93 : ρ (.tmp 128) = _ := sn93
                rw [place_at HVS.out (k := 87) rfl] at sn87
                replace sn87 : ρ (.tmp 122) = _ := sn87
                clear hf
                clear HSS HMS HVS qs3 qs4 qs7 qs9 qs10
                first
                  | (refine run_passed sn87 ?_
                     exact detK.mk)
                  | (refine run_guarded sn87 ?_
                     unfold runs
                     go_simp
                     exact detK.mk)
              -- 95: slot 130 := Op.pick t122 t129 ((Value.bool false))
              refine sure_det (js := [(87, 122), (94, 129), (66, 101)]) (ts := []) (gd := (some (101, true))) (place_at HVS.out (k := 95) rfl) (by rw [HSS.out, HMS.out]; kernel_rfl) ?_ ?_
              · intro wx hx ρ hρ hs hf
                have k1 := hρ.const
                have k2 := hρ.func
                obtain ⟨sn87, sn94, sn66, -⟩ := hs
                rw [place_at HVS.out (k := 87) rfl] at sn87
                replace sn87 : ρ (.tmp 122) = _ := sn87
                rw [place_at HVS.out (k := 94) rfl] at sn94
                replace sn94 : ρ (.tmp 129) = _ := sn94
                rw [place_at HVS.out (k := 66) rfl] at sn66
                replace sn66 : ρ (.tmp 101) = _ := sn66
                clear hf
                clear HSS HMS HVS qs3 qs4 qs7 qs9 qs10
                first
                  | (refine run_passed sn66 ?_
                     exact detK.mk)
                  | (refine run_guarded sn66 ?_
                     first | refine op_pick_t rfl sn87 sn94 ?_ | refine op_pick_f rfl sn87 (hρ.const _) ?_
                     exact detK.mk)
              -- 96: slot 131 := Op.binOp BinOp.eql 4 t116 t130 4
              refine sure_det (js := [(81, 116), (95, 130), (66, 101)]) (ts := []) (gd := (some (101, true))) (place_at HVS.out (k := 96) rfl) (by rw [HSS.out, HMS.out]; kernel_rfl) ?_ ?_
              · intro wx hx ρ hρ hs hf
                have k1 := hρ.const
                have k2 := hρ.func
                obtain ⟨sn81, sn95, sn66, -⟩ := hs
                rw [place_at HVS.out (k := 81) rfl] at sn81
                replace sn81 : ρ (.tmp 116) = _ := sn81
                rw [place_at HVS.out (k := 95) rfl] at sn95
                replace sn95 : ρ (.tmp 130) = _ := sn95
                rw [place_at HVS.out (k := 66) rfl] at sn66
                replace sn66 : ρ (.tmp 101) = _ := sn66
                clear hf
                clear HSS HMS HVS qs3 qs4 qs7 qs9 qs10
                first
                  | (refine run_passed sn66 ?_
                     exact detK.mk)
                  | (refine run_guarded sn66 ?_
                     unfold runs
                     go_simp
                     exact detK.mk)
              -- 97: slot 132 := Op.pick t101 t131 ((Value.bool false))
              refine sure_det (js := [(66, 101), (96, 131)]) (ts := []) (gd := none) (place_at HVS.out (k := 97) rfl) (by rw [HSS.out, HMS.out]; kernel_rfl) ?_ ?_
              · intro wx hx ρ hρ hs hf
                have k1 := hρ.const
                have k2 := hρ.func
                obtain ⟨sn66, sn96, -⟩ := hs
                rw [place_at HVS.out (k := 66) rfl] at sn66
                replace sn66 : ρ (.tmp 101) = _ := sn66
                rw [place_at HVS.out (k := 96) rfl] at sn96
                replace sn96 : ρ (.tmp 131) = _ := sn96
                clear hf
                clear HSS HMS HVS qs3 qs4 qs7 qs9 qs10
                refine run_plain ?_
                first | refine op_pick_t rfl sn66 sn96 ?_ | refine op_pick_f rfl sn66 (hρ.const _) ?_
                exact detK.mk
              -- 98: slot 6 := Op.assign t132
              refine sure_det (js := [(97, 132)]) (ts := []) (gd := none) (place_at HVS.out (k := 98) rfl) (by rw [HSS.out, HMS.out]; kernel_rfl) ?_ ?_
              · intro wx hx ρ hρ hs hf
                have k1 := hρ.const
                have k2 := hρ.func
                obtain ⟨sn97, -⟩ := hs
                rw [place_at HVS.out (k := 97) rfl] at sn97
                replace sn97 : ρ (.tmp 132) = _ := sn97
                clear hf
                clear HSS HMS HVS qs3 qs4 qs7 qs9 qs10
                refine run_plain ?_
                refine op_assign rfl sn97 ?_
                exact detK.mk
              exact trivial
            case hend =>
              intro xs wx hx hg
              have gk0 : xs 0 = _ := goods_get hg (i := 0) (j := 0) (d := 35) rfl
              have gk1 : xs 1 = _ := goods_get hg (i := 1) (j := 1) (d := 36) rfl
              have gk2 : xs 2 = _ := goods_get hg (i := 2) (j := 2) (d := 37) rfl
              have gk3 : xs 3 = _ := goods_get hg (i := 3) (j := 3) (d := 38) rfl
              have gk4 : xs 4 = _ := goods_get hg (i := 4) (j := 4) (d := 39) rfl
              have gk5 : xs 5 = _ := goods_get hg (i := 5) (j := 5) (d := 40) rfl
              have gk6 : xs 6 = _ := goods_get hg (i := 6) (j := 6) (d := 41) rfl
              have gk7 : xs 7 = _ := goods_get hg (i := 7) (j := 7) (d := 42) rfl
              have gk8 : xs 8 = _ := goods_get hg (i := 8) (j := 8) (d := 43) rfl
              have gk9 : xs 9 = _ := goods_get hg (i := 9) (j := 9) (d := 44) rfl
              have gk10 : xs 10 = _ := goods_get hg (i := 10) (j := 10) (d := 45) rfl
              have gk11 : xs 11 = _ := goods_get hg (i := 11) (j := 11) (d := 46) rfl
              have gk12 : xs 12 = _ := goods_get hg (i := 12) (j := 12) (d := 47) rfl
              have gk13 : xs 13 = _ := goods_get hg (i := 13) (j := 13) (d := 48) rfl
              have gk14 : xs 14 = _ := goods_get hg (i := 14) (j := 14) (d := 49) rfl
              have gk15 : xs 15 = _ := goods_get hg (i := 15) (j := 15) (d := 50) rfl
              have gk16 : xs 16 = _ := goods_get hg (i := 16) (j := 16) (d := 51) rfl
              have gk17 : xs 17 = _ := goods_get hg (i := 17) (j := 17) (d := 52) rfl
              have gk18 : xs 18 = _ := goods_get hg (i := 18) (j := 18) (d := 53) rfl
              have gk19 : xs 19 = _ := goods_get hg (i := 19) (j := 19) (d := 54) rfl
              have gk20 : xs 20 = _ := goods_get hg (i := 20) (j := 20) (d := 55) rfl
              have gk21 : xs 21 = _ := goods_get hg (i := 21) (j := 21) (d := 56) rfl
              have gk22 : xs 22 = _ := goods_get hg (i := 22) (j := 22) (d := 57) rfl
              have gk23 : xs 23 = _ := goods_get hg (i := 23) (j := 23) (d := 58) rfl
              have gk24 : xs 24 = _ := goods_get hg (i := 24) (j := 24) (d := 59) rfl
              have gk25 : xs 25 = _ := goods_get hg (i := 25) (j := 25) (d := 60) rfl
              have gk26 : xs 26 = _ := goods_get hg (i := 26) (j := 26) (d := 61) rfl
              have gk27 : xs 27 = _ := goods_get hg (i := 27) (j := 27) (d := 62) rfl
              have gk28 : xs 28 = _ := goods_get hg (i := 28) (j := 28) (d := 63) rfl
              have gk29 : xs 29 = _ := goods_get hg (i := 29) (j := 29) (d := 64) rfl
              have gk30 : xs 30 = _ := goods_get hg (i := 30) (j := 30) (d := 65) rfl
              have gk31 : xs 31 = _ := goods_get hg (i := 31) (j := 31) (d := 66) rfl
              have gk32 : xs 32 = _ := goods_get hg (i := 32) (j := 32) (d := 67) rfl
              have gk33 : xs 33 = _ := goods_get hg (i := 33) (j := 33) (d := 68) rfl
              have gk34 : xs 34 = _ := goods_get hg (i := 34) (j := 34) (d := 69) rfl
              have gk35 : xs 35 = _ := goods_get hg (i := 35) (j := 35) (d := 70) rfl
              have gk36 : xs 36 = _ := goods_get hg (i := 36) (j := 36) (d := 71) rfl
              have gk37 : xs 37 = _ := goods_get hg (i := 37) (j := 37) (d := 72) rfl
              have gk38 : xs 38 = _ := goods_get hg (i := 38) (j := 38) (d := 73) rfl
              have gk39 : xs 39 = _ := goods_get hg (i := 39) (j := 39) (d := 74) rfl
              have gk40 : xs 40 = _ := goods_get hg (i := 40) (j := 40) (d := 75) rfl
              have gk41 : xs 41 = _ := goods_get hg (i := 41) (j := 41) (d := 76) rfl
              have gk42 : xs 42 = _ := goods_get hg (i := 42) (j := 42) (d := 77) rfl
              have gk43 : xs 43 = _ := goods_get hg (i := 43) (j := 43) (d := 78) rfl
              have gk44 : xs 44 = _ := goods_get hg (i := 44) (j := 44) (d := 79) rfl
              have gk45 : xs 45 = _ := goods_get hg (i := 45) (j := 45) (d := 80) rfl
              have gk46 : xs 46 = _ := goods_get hg (i := 46) (j := 46) (d := 81) rfl
              have gk47 : xs 47 = _ := goods_get hg (i := 47) (j := 47) (d := 82) rfl
              have gk48 : xs 48 = _ := goods_get hg (i := 48) (j := 48) (d := 83) rfl
              have gk49 : xs 49 = _ := goods_get hg (i := 49) (j := 49) (d := 84) rfl
              have gk50 : xs 50 = _ := goods_get hg (i := 50) (j := 50) (d := 85) rfl
              have gk51 : xs 51 = _ := goods_get hg (i := 51) (j := 51) (d := 86) rfl
              have gk52 : xs 52 = _ := goods_get hg (i := 52) (j := 52) (d := 87) rfl
              have gk53 : xs 53 = _ := goods_get hg (i := 53) (j := 53) (d := 88) rfl
              have gk54 : xs 54 = _ := goods_get hg (i := 54) (j := 54) (d := 89) rfl
              have gk55 : xs 55 = _ := goods_get hg (i := 55) (j := 55) (d := 90) rfl
              have gk56 : xs 56 = _ := goods_get hg (i := 56) (j := 56) (d := 91) rfl
              have gk57 : xs 57 = _ := goods_get hg (i := 57) (j := 57) (d := 92) rfl
              have gk58 : xs 58 = _ := goods_get hg (i := 58) (j := 58) (d := 93) rfl
              have gk59 : xs 59 = _ := goods_get hg (i := 59) (j := 59) (d := 94) rfl
              have gk60 : xs 60 = _ := goods_get hg (i := 60) (j := 60) (d := 95) rfl
              have gk61 : xs 61 = _ := goods_get hg (i := 61) (j := 61) (d := 96) rfl
              have gk62 : xs 62 = _ := goods_get hg (i := 62) (j := 62) (d := 97) rfl
              have gk63 : xs 63 = _ := goods_get hg (i := 63) (j := 63) (d := 98) rfl
              have gk64 : xs 64 = _ := goods_get hg (i := 64) (j := 64) (d := 99) rfl
              have gk65 : xs 65 = _ := goods_get hg (i := 65) (j := 65) (d := 100) rfl
              have gk66 : xs 66 = _ := goods_get hg (i := 66) (j := 66) (d := 101) rfl
              have gk67 : xs 67 = _ := goods_get hg (i := 67) (j := 67) (d := 102) rfl
              have gk68 : xs 68 = _ := goods_get hg (i := 68) (j := 68) (d := 103) rfl
              have gk69 : xs 69 = _ := goods_get hg (i := 69) (j := 69) (d := 104) rfl
              have gk70 : xs 70 = _ := goods_get hg (i := 70) (j := 70) (d := 105) rfl
              have gk71 : xs 71 = _ := goods_get hg (i := 71) (j := 71) (d := 106) rfl
              have gk72 : xs 72 = _ := goods_get hg (i := 72) (j := 72) (d := 107) rfl
              have gk73 : xs 73 = _ := goods_get hg (i := 73) (j := 73) (d := 108) rfl
              have gk74 : xs 74 = _ := goods_get hg (i := 74) (j := 74) (d := 109) rfl
              have gk75 : xs 75 = _ := goods_get hg (i := 75) (j := 75) (d := 110) rfl
              have gk76 : xs 76 = _ := goods_get hg (i := 76) (j := 76) (d := 111) rfl
              have gk77 : xs 77 = _ := goods_get hg (i := 77) (j := 77) (d := 112) rfl
              have gk78 : xs 78 = _ := goods_get hg (i := 78) (j := 78) (d := 113) rfl
              have gk79 : xs 79 = _ := goods_get hg (i := 79) (j := 79) (d := 114) rfl
              have gk80 : xs 80 = _ := goods_get hg (i := 80) (j := 80) (d := 115) rfl
              have gk81 : xs 81 = _ := goods_get hg (i := 81) (j := 81) (d := 116) rfl
              have gk82 : xs 82 = _ := goods_get hg (i := 82) (j := 82) (d := 117) rfl
              have gk83 : xs 83 = _ := goods_get hg (i := 83) (j := 83) (d := 118) rfl
              have gk84 : xs 84 = _ := goods_get hg (i := 84) (j := 84) (d := 119) rfl
              have gk85 : xs 85 = _ := goods_get hg (i := 85) (j := 85) (d := 120) rfl
              have gk86 : xs 86 = _ := goods_get hg (i := 86) (j := 86) (d := 121) rfl
              have gk87 : xs 87 = _ := goods_get hg (i := 87) (j := 87) (d := 122) rfl
              have gk88 : xs 88 = _ := goods_get hg (i := 88) (j := 88) (d := 123) rfl
              have gk89 : xs 89 = _ := goods_get hg (i := 89) (j := 89) (d := 124) rfl
              have gk90 : xs 90 = _ := goods_get hg (i := 90) (j := 90) (d := 125) rfl
              have gk91 : xs 91 = _ := goods_get hg (i := 91) (j := 91) (d := 126) rfl
              have gk92 : xs 92 = _ := goods_get hg (i := 92) (j := 92) (d := 127) rfl
              have gk93 : xs 93 = _ := goods_get hg (i := 93) (j := 93) (d := 128) rfl
              have gk94 : xs 94 = _ := goods_get hg (i := 94) (j := 94) (d := 129) rfl
              have gk95 : xs 95 = _ := goods_get hg (i := 95) (j := 95) (d := 130) rfl
              have gk96 : xs 96 = _ := goods_get hg (i := 96) (j := 96) (d := 131) rfl
              have gk97 : xs 97 = _ := goods_get hg (i := 97) (j := 97) (d := 132) rfl
              have gk98 : xs 98 = _ := goods_get hg (i := 98) (j := 98) (d := 6) rfl
              clear hg
              simp only [putAll, gk0, gk1, gk2, gk3, gk4, gk5, gk6, gk7, gk8, gk9, gk10, gk11, gk12, gk13, gk14, gk15, gk16, gk17, gk18, gk19, gk20, gk21, gk22, gk23, gk24, gk25, gk26, gk27, gk28, gk29, gk30, gk31, gk32, gk33, gk34, gk35, gk36, gk37, gk38, gk39, gk40, gk41, gk42, gk43, gk44, gk45, gk46, gk47, gk48, gk49, gk50, gk51, gk52, gk53, gk54, gk55, gk56, gk57, gk58, gk59, gk60, gk61, gk62, gk63, gk64, gk65, gk66, gk67, gk68, gk69, gk70, gk71, gk72, gk73, gk74, gk75, gk76, gk77, gk78, gk79, gk80, gk81, gk82, gk83, gk84, gk85, gk86, gk87, gk88, gk89, gk90, gk91, gk92, gk93, gk94, gk95, gk96, gk97, gk98]
              clear gk0 gk1 gk2 gk3 gk4 gk5 gk6 gk7 gk8 gk9 gk10 gk11 gk12 gk13 gk14 gk15 gk16 gk17 gk18 gk19 gk20 gk21 gk22 gk23 gk24 gk25 gk26 gk27 gk28 gk29 gk30 gk31 gk32 gk33 gk34 gk35 gk36 gk37 gk38 gk39 gk40 gk41 gk42 gk43 gk44 gk45 gk46 gk47 gk48 gk49 gk50 gk51 gk52 gk53 gk54 gk55 gk56 gk57 gk58 gk59 gk60 gk61 gk62 gk63 gk64 gk65 gk66 gk67 gk68 gk69 gk70 gk71 gk72 gk73 gk74 gk75 gk76 gk77 gk78 gk79 gk80 gk81 gk82 gk83 gk84 gk85 gk86 gk87 gk88 gk89 gk90 gk91 gk92 gk93 gk94 gk95 gk96 gk97 gk98
              clear xs
              simp only [Act.put, List.setIfInBounds_toArray, List.set_cons_zero, List.set_cons_succ]
              go_wp2
              go_ret
              exact ⟨rfl, ((((((Below.refl _ _).alloc (Nat.le_refl _) _).alloc (by simp) _).alloc (by simp; omega) _).drew).trans (Below.mono hx (by simp; omega)))⟩
        · have hb1' : isRefB b1 = false := by simpa using hb1
          go_enter Try.func10, Try.ntmps10
          go_wp2_with (first
            | (go_at_call 23; refine (shown8_any _).mono ?_; rintro e w' ⟨rfl, rfl⟩)
            | (go_at_call 24; refine (is_any _ _).mono ?_; rintro e w' ⟨rfl, rfl⟩))
          refine wp_loop_rounds 3 ?_
          rw [rounds_succ]
          go_wp2_with (first
            | (go_at_call 24; refine (is_any _ _).mono ?_; rintro e w' ⟨rfl, rfl⟩))
          rw [rounds_succ]
          go_wp2_with (first
            | (go_at_call 24; refine (is_any _ _).mono ?_; rintro e w' ⟨rfl, rfl⟩))
          go_ret
          exact ⟨rfl, ((((Below.refl _ _).alloc (Nat.le_refl _) _).alloc (by simp) _).alloc (by simp; omega) _)⟩
      · have ha1' : isRefB a1 = false := by simpa using ha1
        go_enter Try.func10, Try.ntmps10
        go_wp2_with (first
          | (go_at_call 23; refine (shown8_any _).mono ?_; rintro e w' ⟨rfl, rfl⟩)
          | (go_at_call 24; refine (is_any _ _).mono ?_; rintro e w' ⟨rfl, rfl⟩))
        refine wp_loop_rounds 3 ?_
        rw [rounds_succ]
        go_wp2_with (first
          | (go_at_call 24; refine (is_any _ _).mono ?_; rintro e w' ⟨rfl, rfl⟩))
        rw [rounds_succ]
        go_wp2_with (first
          | (go_at_call 24; refine (is_any _ _).mono ?_; rintro e w' ⟨rfl, rfl⟩))
        go_ret
        exact ⟨rfl, ((((Below.refl _ _).alloc (Nat.le_refl _) _).alloc (by simp) _).alloc (by simp; omega) _)⟩
    · have hb0' : isRefB b0 = false := by simpa using hb0
      go_enter Try.func10, Try.ntmps10
      go_wp2_with (first
        | (go_at_call 23; refine (shown8_any _).mono ?_; rintro e w' ⟨rfl, rfl⟩)
        | (go_at_call 24; refine (is_any _ _).mono ?_; rintro e w' ⟨rfl, rfl⟩))
      refine wp_loop_rounds 3 ?_
      rw [rounds_succ]
      go_wp2_with (first
        | (go_at_call 24; refine (is_any _ _).mono ?_; rintro e w' ⟨rfl, rfl⟩))
      go_ret
      exact ⟨rfl, ((((Below.refl _ _).alloc (Nat.le_refl _) _).alloc (by simp) _).alloc (by simp; omega) _)⟩
  · have ha0' : isRefB a0 = false := by simpa using ha0
    go_enter Try.func10, Try.ntmps10
    go_wp2_with (first
      | (go_at_call 23; refine (shown8_any _).mono ?_; rintro e w' ⟨rfl, rfl⟩)
      | (go_at_call 24; refine (is_any _ _).mono ?_; rintro e w' ⟨rfl, rfl⟩))
    refine wp_loop_rounds 3 ?_
    rw [rounds_succ]
    go_wp2_with (first
      | (go_at_call 24; refine (is_any _ _).mono ?_; rintro e w' ⟨rfl, rfl⟩))
    go_ret
    exact ⟨rfl, ((((Below.refl _ _).alloc (Nat.le_refl _) _).alloc (by simp) _).alloc (by simp; omega) _)⟩
theorem apart_array {P : Program} {H : Type} {enc : TypeId × Value → H} {w : World} {base : Nat} {spare : Nat → Bool} {held : Bool} {t e : TypeId} {k : IntKind} {v : Value} {d : DataW H} {p : List MemPlace} {b0 : Nat} {r : Reach}
    (ht : P.underlying t = some (.array 2 e)) (he : P.underlying e = some (.int k))
    (hc : P.cellsOf t = 2) (hce : P.cellsOf e = 1) (hv : Value.okWide P w r b0 t v) (h : DataW.Trod enc P w base spare held t v d p) :
    ∃ a b, v = .agg #[.int k a, .int k b] ∧ (Lit.int k a).wf = true ∧ (Lit.int k b).wf = true := by
  simp only [Value.okWide, ht] at hv
  obtain ⟨cs, rfl, hsz, _⟩ := hv
  obtain ⟨fuel, hf⟩ := h
  obtain ⟨xs, m, _, _, _, hlen, hg⟩ := DataW.trod_array ht hf
  obtain ⟨l⟩ := cs
  match l, hsz.trans hc with
  | [c0, c1], _ =>
    match xs, hlen with
    | [y0, y1], _ =>
      have g0 := hg 0 (by omega)
      have g1 := hg 1 (by omega)
      simp [hce, Value.cells] at g0 g1
      obtain ⟨a, ea, _, wa⟩ := DataW.trod_int he g0
      obtain ⟨b, eb, _, wb⟩ := DataW.trod_int he g1
      simp at ea eb
      subst ea eb
      exact ⟨a, b, rfl, wa, wb⟩
set_option maxRecDepth 100000 in
theorem WordApart_lifted (os : Os) (started : os.Started) (H : Type) (enc : TypeId × Value → H) :
    ReturnsInHanded {} Try.checked os 10 .any (Rows.wordApartSpec.pre6 enc Try.prog Try.f10 Rows.wordApartRow.domain false) (Rows.wordApartSpec.post enc Try.prog Try.f10 false true false false) := by
  refine law_row os started H enc Rows.wordApartSpec rfl (fun ds h => by
    match ds, h with
    | [_, _, _], _ => rfl) (by kernel_rfl) Try.func10 rfl
    (by rw [Try.params10]; intro t ht; simp at ht; rcases ht with rfl | rfl | rfl <;> exact ⟨by kernel_rfl, of_decide_eq_true (by kernel_rfl)⟩)
    (ChangeSpec.witness6 (enc := enc) (C := Try.checked) false ⟨#[], #[.agg #[.int .i64 0, .int .i64 0], .agg #[.int .i64 0, .int .i64 0], .agg #[.int .u64 0, .int .u64 0]], []⟩ 8 (by kernel_rfl) (by kernel_rfl) (by kernel_rfl) (by kernel_rfl)) ?_
  intro W base args ds ps hval hA hlt
  rw [Try.params10] at hA hval
  obtain ⟨v0, v1, v2, d0, d1, d2, p0, p1, p2, rfl, rfl, rfl, h0, h1, h2⟩ := trodAll_three hA
  obtain ⟨x0, x1, rfl, _, _⟩ := apart_array Try.underlying56 Try.underlying3 (by kernel_rfl) (by kernel_rfl) (hval 0 _ v0 rfl rfl) h0
  obtain ⟨y0, y1, rfl, _, _⟩ := apart_array Try.underlying56 Try.underlying3 (by kernel_rfl) (by kernel_rfl) (hval 1 _ v1 rfl rfl) h1
  obtain ⟨z0, z1, rfl, u0, u1⟩ := apart_array Try.underlying57 Try.underlying37 (by kernel_rfl) (by kernel_rfl) (hval 2 _ v2 rfl rfl) h2
  exact apart_walk x0 x1 y0 y1 z0 z1 (wf_u64 u0) (wf_u64 u1) W
theorem WordApart_holds : Rows.WordApartSaid :=
  OpenClaim.holds_of_wide 10 Try.f10 rfl rfl rfl rfl rfl rfl rfl ⟨rfl, rfl, rfl, rfl, rfl⟩ rfl rfl rfl rfl rfl (by kernel_rfl) Try.func10 (by kernel_rfl)
    (of_decide_eq_true (by kernel_rfl)) (by unfold Func.isWrapper; rw [if_neg (of_decide_eq_false (by kernel_rfl))]; exact ⟨rfl, rfl⟩)
    (fun os started H enc _ => WordApart_lifted os started H enc)
#print axioms WordApart_holds
end Go.Proofs.Ythncdpopacdekaa
