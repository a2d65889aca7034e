import Derived.Test.YtennnhfaghdeoaaDiskSame
namespace Go.Proofs.Ytennnhfaghdeoaa
open Go.RowKit

/-! wealdref07: Few, Right. -/
def Few7E (n0 n1 : Nat) (e : Ending) : Prop := ∃ b : Bool, e = .returned (.bool b) ∧ (b = true → n0 ≤ 8 ∧ n1 ≤ 8)
set_option maxRecDepth 100000 in
set_option maxHeartbeats 4000000 in
theorem few7_any (R : Int) (A0 A1 : Option Addr) (n0 c0 n1 c1 : Nat) (l0 l1 : List St) (w : World) (h0 : RowV w A0 n0 c0 l0) (h1 : RowV w A1 n1 c1 l1) :
    Calls Try.prog 33 #[.agg #[.int .u64 R, .slice A0 n0 c0, .slice A1 n1 c1]] w fun e w' => Few7E n0 n1 e ∧ Ext w w' := by
  have hlen0 := h0.len
  have hlen1 := h1.len
  have hcap0 := Nat.le_trans h0.le h0.cap
  have hcap1 := Nat.le_trans h1.le h1.cap
  simp only [maxLen] at hcap0 hcap1
  have hW : Ext w (w.alloc (.cells #[.int .u64 R, .slice A0 n0 c0, .slice A1 n1 c1] 30)) := (Below.refl _ w).alloc (Nat.le_refl _) _
  have hE : (w.alloc (.cells #[.int .u64 R, .slice A0 n0 c0, .slice A1 n1 c1] 30)).heap[w.heap.size]? = some (.cells #[.int .u64 R, .slice A0 n0 c0, .slice A1 n1 c1] 30 (0, 0)) := heap_alloc_new w _
  go_enter Try.func33, Try.ntmps33
  go_upto_region 1 with (fail)
  generalize w.alloc (.cells #[.int .u64 R, .slice A0 n0 c0, .slice A1 n1 c1] 30) = W at *
  have e0 : W.cell? ⟨w.heap.size, 0, none⟩ = some (.int .u64 R) := by simp [World.cell?, hE]
  have e1 : W.cell? ⟨w.heap.size, 1, none⟩ = some (.slice A0 n0 c0) := by simp [World.cell?, hE]
  have e2 : W.cell? ⟨w.heap.size, 2, none⟩ = some (.slice A1 n1 c1) := by simp [World.cell?, hE]
  clear hE
  rcases (Decidable.em (n0 ≤ 8)).symm with h8 | h8
  · have h8' : (8 : Int) < (n0 : Int) := by omega
    go_wp2
    go_ret
    exact ⟨⟨false, rfl, fun h => by cases h⟩, hW⟩
  rcases (Decidable.em (n1 ≤ 8)).symm with h9 | h9
  · have h8' : ¬ (8 : Int) < (n0 : Int) := by omega
    have h9' : (8 : Int) < (n1 : Int) := by omega
    go_wp2
    go_ret
    exact ⟨⟨false, rfl, fun h => by cases h⟩, hW⟩
  have h8' : ¬ (8 : Int) < (n0 : Int) := by omega
  have h9' : ¬ (8 : Int) < (n1 : Int) := by omega
  go_wp2
  go_loopw [3, 4] (fun nv r wr => W = wr ∧ (∃ z : Int, nv = .int .i64 z) ∧ (r = .int .i64 0 ∨ r = .int .i64 1 ∨ r = .int .i64 2)) (fun _ r _ => 2 - (intOf r).toNat)
  case atStart => exact ⟨rfl, ⟨0, rfl⟩, .inl rfl⟩
  case round =>
    obtain ⟨rfl, ⟨z, rfl⟩, rfl | rfl | rfl⟩ := hrel
    · go_wp2
      go_loopw [3, 5] (fun nv i wr => W = wr ∧ (∃ z : Int, nv = .int .i64 z) ∧ ∃ j : Nat, j ≤ n0 ∧ i = .int .i64 j) (fun _ i _ => n0 - (intOf i).toNat)
      case atStart => exact ⟨rfl, ⟨z, rfl⟩, 0, Nat.zero_le _, rfl⟩
      case round =>
        obtain ⟨rfl, ⟨y, rfl⟩, j, hj, rfl⟩ := hrel
        rcases Nat.lt_or_ge j n0 with hjn | hjn
        · have hs : l0[j]? = some (l0[j]'(by omega)) := List.getElem?_eq_getElem _
          generalize (l0[j]'(by omega)) = s at *
          obtain ⟨a, rfl, a0, -, -⟩ := (h0.ext hW).at hs
          have hini : (j : Int) < (n0 : Int) := by omega
          go_wp2
          go_roundw
          case rel => exact ⟨by trivial, ⟨_, rfl⟩, j + 1, by omega, by go_num⟩
          case measure => simp [intOf]; omega
        · obtain rfl : j = n0 := by omega
          go_wp2
          go_roundw
          case rel => exact ⟨by trivial, ⟨_, rfl⟩, .inr (.inl (by go_num))⟩
          case measure => simp [intOf]
    · go_wp2
      go_loopw [3, 5] (fun nv i wr => W = wr ∧ (∃ z : Int, nv = .int .i64 z) ∧ ∃ j : Nat, j ≤ n1 ∧ i = .int .i64 j) (fun _ i _ => n1 - (intOf i).toNat)
      case atStart => exact ⟨rfl, ⟨z, rfl⟩, 0, Nat.zero_le _, rfl⟩
      case round =>
        obtain ⟨rfl, ⟨y, rfl⟩, j, hj, rfl⟩ := hrel
        rcases Nat.lt_or_ge j n1 with hjn | hjn
        · have hs : l1[j]? = some (l1[j]'(by omega)) := List.getElem?_eq_getElem _
          generalize (l1[j]'(by omega)) = s at *
          obtain ⟨a, rfl, a0, -, -⟩ := (h1.ext hW).at hs
          have hini : (j : Int) < (n1 : Int) := by omega
          go_wp2
          go_roundw
          case rel => exact ⟨by trivial, ⟨_, rfl⟩, j + 1, by omega, by go_num⟩
          case measure => simp [intOf]; omega
        · obtain rfl : j = n1 := by omega
          go_wp2
          go_roundw
          case rel => exact ⟨by trivial, ⟨_, rfl⟩, .inr (.inr (by go_num))⟩
          case measure => simp [intOf]
    · go_wp2
      go_ret
      exact ⟨⟨_, rfl, fun _ => ⟨h8, h9⟩⟩, hW⟩
set_option maxRecDepth 100000 in
set_option maxHeartbeats 4000000 in
theorem rright7_any (R : Int) (A0 A1 : Option Addr) (n0 c0 n1 c1 : Nat) (l0 l1 : List St) (w : World) (h0 : RowV w A0 n0 c0 l0) (h1 : RowV w A1 n1 c1 l1) :
    Calls Try.prog 65 #[.agg #[.int .u64 R, .slice A0 n0 c0, .slice A1 n1 c1]] w fun e w' => e = .returned (.bool (rightD n0 n1 l0 l1)) ∧ Ext w w' := by
  have hlen0 := h0.len
  have hlen1 := h1.len
  have hcap0 := Nat.le_trans h0.le h0.cap
  have hcap1 := Nat.le_trans h1.le h1.cap
  simp only [maxLen] at hcap0 hcap1
  obtain ⟨b, hb0⟩ : ∃ b, b = rightD n0 n1 l0 l1 := ⟨_, rfl⟩
  rw [← hb0]
  have hW : Ext w (w.alloc (.cells #[.int .u64 R, .slice A0 n0 c0, .slice A1 n1 c1] 30)) := (Below.refl _ w).alloc (Nat.le_refl _) _
  have hE : (w.alloc (.cells #[.int .u64 R, .slice A0 n0 c0, .slice A1 n1 c1] 30)).heap[w.heap.size]? = some (.cells #[.int .u64 R, .slice A0 n0 c0, .slice A1 n1 c1] 30 (0, 0)) := heap_alloc_new w _
  go_enter Try.func65, Try.ntmps65
  go_upto_region 1 with (fail)
  generalize w.alloc (.cells #[.int .u64 R, .slice A0 n0 c0, .slice A1 n1 c1] 30) = W at *
  have e0 : W.cell? ⟨w.heap.size, 0, none⟩ = some (.int .u64 R) := by simp [World.cell?, hE]
  have e1 : W.cell? ⟨w.heap.size, 1, none⟩ = some (.slice A0 n0 c0) := by simp [World.cell?, hE]
  have e2 : W.cell? ⟨w.heap.size, 2, none⟩ = some (.slice A1 n1 c1) := by simp [World.cell?, hE]
  clear hE
  by_cases hlo : n0 < 1
  · obtain rfl : b = false := by rw [hb0]; simp [rightD]; omega
    clear hb0
    have hlo' : (n0 : Int) < 1 := by omega
    go_wp2
    go_ret
    exact ⟨rfl, hW⟩
  have hlo' : ¬ (n0 : Int) < 1 := by omega
  by_cases hhi : 64 < n0
  · obtain rfl : b = false := by rw [hb0]; simp [rightD]; omega
    clear hb0
    have hhi' : (64 : Int) < (n0 : Int) := by omega
    go_wp2
    go_ret
    exact ⟨rfl, hW⟩
  have hhi' : ¬ (64 : Int) < (n0 : Int) := by omega
  rcases (Decidable.em (n1 = n0)).symm with hne | hne
  · obtain rfl : b = false := by rw [hb0]; simp [rightD, hne]
    clear hb0
    have hne' : ¬ (n1 : Int) = (n0 : Int) := by omega
    go_wp2
    go_ret
    exact ⟨rfl, hW⟩
  subst hne
  have hrd : rightD n1 n1 l0 l1 = (l0.all St.right && l1.all St.right) := by
    unfold rightD
    rw [decide_eq_true (by omega), Bool.true_and, List.all_append]
  rw [hrd] at hb0
  clear hrd
  go_wp2
  go_loopw [4] (fun r wr => Ext W wr ∧ (r = .int .i64 0 ∨ (r = .int .i64 1 ∧ l0.all St.right = true) ∨ (r = .int .i64 2 ∧ l0.all St.right = true ∧ l1.all St.right = true))) (fun r _ => 2 - (intOf r).toNat)
  case atStart => exact ⟨Ext.refl _, .inl rfl⟩
  case round =>
    obtain ⟨hxo, rfl | ⟨rfl, ha0⟩ | ⟨rfl, ha0, ha1⟩⟩ := hrel
    · go_wp2
      go_loopw [5] (fun i wr => ∃ j : Nat, j ≤ n1 ∧ i = .int .i64 j ∧ (∀ (k : Nat) (s : St), k < j → l0[k]? = some s → s.right = true) ∧ Ext W wr) (fun i _ => n1 - (intOf i).toNat)
      case atStart => exact ⟨0, Nat.zero_le _, rfl, fun k s hk => absurd hk (Nat.not_lt_zero _), hxo⟩
      case round =>
        obtain ⟨j, hj, rfl, hall, hx⟩ := hrel
        have d1 := hx.cell e1
        have d2 := hx.cell e2
        rcases Nat.lt_or_ge j n1 with hjn | hjn
        · have hs : l0[j]? = some (l0[j]'(by omega)) := List.getElem?_eq_getElem _
          generalize (l0[j]'(by omega)) = s at *
          obtain ⟨a, rfl, a0, a1, -⟩ := (h0.ext (hW.trans hx)).at hs
          have hini : (j : Int) < (n1 : Int) := by omega
          go_wp2_with fail
          refine (rright_any s.D s.q s.cd s.k _).mono ?_
          rintro e w3 ⟨rfl, hx3⟩
          have hx5 := hx.trans hx3
          cases hb : rightB s.k s.q with
          | true =>
            go_wp2
            go_roundw
            case rel =>
              refine ⟨j + 1, by omega, by go_num, fun k x hk hxk => ?_, hx5⟩
              rcases Nat.lt_or_ge k j with h | h
              · exact hall k x h hxk
              · obtain rfl : k = j := by omega
                rw [hs] at hxk
                cases hxk
                exact hb
            case measure => simp [intOf]; omega
          | false =>
            have hno : l0.all St.right = false := by
              rw [List.all_eq_false]
              exact ⟨s, List.mem_of_getElem? hs, by simp [St.right, hb]⟩
            obtain rfl : b = false := by rw [hb0, hno]; simp
            clear hb0
            go_wp2
            go_ret
            exact ⟨rfl, hW.trans hx5⟩
        · obtain rfl : j = n1 := by omega
          have hyes : l0.all St.right = true := by
            rw [List.all_eq_true]
            intro s hs
            obtain ⟨k, hk⟩ := List.getElem?_of_mem hs
            exact hall k s (by have := (List.getElem?_eq_some_iff.1 hk).1; omega) hk
          have hini : ¬ (j : Int) < (j : Int) := by omega
          go_wp2
          go_roundw
          case rel => exact ⟨hx, .inr (.inl ⟨by go_num, hyes⟩)⟩
          case measure => simp [intOf]
    · go_wp2
      go_loopw [5] (fun i wr => ∃ j : Nat, j ≤ n1 ∧ i = .int .i64 j ∧ (∀ (k : Nat) (s : St), k < j → l1[k]? = some s → s.right = true) ∧ Ext W wr) (fun i _ => n1 - (intOf i).toNat)
      case atStart => exact ⟨0, Nat.zero_le _, rfl, fun k s hk => absurd hk (Nat.not_lt_zero _), hxo⟩
      case round =>
        obtain ⟨j, hj, rfl, hall, hx⟩ := hrel
        have d1 := hx.cell e1
        have d2 := hx.cell e2
        rcases Nat.lt_or_ge j n1 with hjn | hjn
        · have hs : l1[j]? = some (l1[j]'(by omega)) := List.getElem?_eq_getElem _
          generalize (l1[j]'(by omega)) = s at *
          obtain ⟨a, rfl, a0, a1, -⟩ := (h1.ext (hW.trans hx)).at hs
          have hini : (j : Int) < (n1 : Int) := by omega
          go_wp2_with fail
          refine (rright_any s.D s.q s.cd s.k _).mono ?_
          rintro e w3 ⟨rfl, hx3⟩
          have hx5 := hx.trans hx3
          cases hb : rightB s.k s.q with
          | true =>
            go_wp2
            go_roundw
            case rel =>
              refine ⟨j + 1, by omega, by go_num, fun k x hk hxk => ?_, hx5⟩
              rcases Nat.lt_or_ge k j with h | h
              · exact hall k x h hxk
              · obtain rfl : k = j := by omega
                rw [hs] at hxk
                cases hxk
                exact hb
            case measure => simp [intOf]; omega
          | false =>
            have hno : l1.all St.right = false := by
              rw [List.all_eq_false]
              exact ⟨s, List.mem_of_getElem? hs, by simp [St.right, hb]⟩
            obtain rfl : b = false := by rw [hb0, hno]; simp
            clear hb0
            go_wp2
            go_ret
            exact ⟨rfl, hW.trans hx5⟩
        · obtain rfl : j = n1 := by omega
          have hyes : l1.all St.right = true := by
            rw [List.all_eq_true]
            intro s hs
            obtain ⟨k, hk⟩ := List.getElem?_of_mem hs
            exact hall k s (by have := (List.getElem?_eq_some_iff.1 hk).1; omega) hk
          have hini : ¬ (j : Int) < (j : Int) := by omega
          go_wp2
          go_roundw
          case rel => exact ⟨hx, .inr (.inr ⟨by go_num, ha0, hyes⟩)⟩
          case measure => simp [intOf]
    · obtain rfl : b = true := by rw [hb0, ha0, ha1]; rfl
      clear hb0
      go_wp2
      go_ret
      exact ⟨rfl, hW.trans hxo⟩
end Go.Proofs.Ytennnhfaghdeoaa
