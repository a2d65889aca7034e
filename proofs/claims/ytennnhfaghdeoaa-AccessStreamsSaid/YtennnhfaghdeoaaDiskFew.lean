import Derived.Test.YtennnhfaghdeoaaDiskRef
namespace Go.Proofs.Ytennnhfaghdeoaa
open Go.RowKit

/-! wealdref07: Few, with what it sums. -/
def sumQ : List St → Nat
  | [] => 0
  | s :: l => s.q + sumQ l
theorem sumQ_append : ∀ a b : List St, sumQ (a ++ b) = sumQ a + sumQ b
  | [], b => by simp [sumQ]
  | x :: a, b => by simp [sumQ, sumQ_append a b, Nat.add_assoc]
theorem sumQ_le {K : Nat} : ∀ {l : List St}, (∀ s ∈ l, s.q ≤ K) → sumQ l ≤ l.length * K
  | [], _ => Nat.zero_le _
  | s :: l, h => by
    have h1 := h s (by simp)
    have h2 := sumQ_le (l := l) fun x hx => h x (by simp [hx])
    simp only [sumQ, List.length_cons, Nat.succ_mul]
    omega
theorem sumQ_mem : ∀ {l : List St} {s : St}, s ∈ l → s.q ≤ sumQ l
  | x :: l, s, h => by
    simp only [sumQ]
    rcases List.mem_cons.1 h with rfl | h
    · omega
    · have := sumQ_mem h; omega
theorem sumQ_take {l : List St} {j : Nat} {s : St} (h : l[j]? = some s) : sumQ (l.take (j + 1)) = sumQ (l.take j) + s.q := by
  rw [List.take_add_one, h, sumQ_append]; simp [sumQ]
def Few7S (n0 n1 : Nat) (l0 l1 : List St) (e : Ending) : Prop := ∃ b : Bool, e = .returned (.bool b) ∧ (b = true → n0 ≤ 8 ∧ n1 ≤ 8 ∧ sumQ l0 + sumQ l1 ≤ 4000)
set_option maxRecDepth 100000 in
set_option maxHeartbeats 4000000 in
theorem few7_sum (R : Int) (A0 A1 : Option Addr) (n0 c0 n1 c1 : Nat) (l0 l1 : List St) (w : World) (h0 : RowV w A0 n0 c0 l0) (h1 : RowV w A1 n1 c1 l1) (hz0 : ∀ s ∈ l0, s.q ≤ 140737488351232) (hz1 : ∀ s ∈ l1, s.q ≤ 140737488351232) :
    Calls Try.prog 33 #[.agg #[.int .u64 R, .slice A0 n0 c0, .slice A1 n1 c1]] w fun e w' => Few7S n0 n1 l0 l1 e ∧ Ext w w' := by
  have hlen0 := h0.len
  have hlen1 := h1.len
  have hcap0 := Nat.le_trans h0.le h0.cap
  have hcap1 := Nat.le_trans h1.le h1.cap
  simp only [maxLen] at hcap0 hcap1
  have hW : Ext w (w.alloc (.cells #[.int .u64 R, .slice A0 n0 c0, .slice A1 n1 c1] 30)) := (Below.refl _ w).alloc (Nat.le_refl _) _
  have hE : (w.alloc (.cells #[.int .u64 R, .slice A0 n0 c0, .slice A1 n1 c1] 30)).heap[w.heap.size]? = some (.cells #[.int .u64 R, .slice A0 n0 c0, .slice A1 n1 c1] 30 (0, 0)) := heap_alloc_new w _
  go_enter Try.func33, Try.ntmps33
  go_upto_region 1 with (fail)
  generalize w.alloc (.cells #[.int .u64 R, .slice A0 n0 c0, .slice A1 n1 c1] 30) = W at *
  have e0 : W.cell? ⟨w.heap.size, 0, none⟩ = some (.int .u64 R) := by simp [World.cell?, hE]
  have e1 : W.cell? ⟨w.heap.size, 1, none⟩ = some (.slice A0 n0 c0) := by simp [World.cell?, hE]
  have e2 : W.cell? ⟨w.heap.size, 2, none⟩ = some (.slice A1 n1 c1) := by simp [World.cell?, hE]
  clear hE
  rcases (Decidable.em (n0 ≤ 8)).symm with h8 | h8
  · have h8' : (8 : Int) < (n0 : Int) := by omega
    go_wp2
    go_ret
    exact ⟨⟨false, rfl, fun h => by cases h⟩, hW⟩
  rcases (Decidable.em (n1 ≤ 8)).symm with h9 | h9
  · have h8' : ¬ (8 : Int) < (n0 : Int) := by omega
    have h9' : (8 : Int) < (n1 : Int) := by omega
    go_wp2
    go_ret
    exact ⟨⟨false, rfl, fun h => by cases h⟩, hW⟩
  have h8' : ¬ (8 : Int) < (n0 : Int) := by omega
  have h9' : ¬ (8 : Int) < (n1 : Int) := by omega
  have hs0 := sumQ_le hz0
  have hs1 := sumQ_le hz1
  rw [hlen0] at hs0
  rw [hlen1] at hs1
  have hm0 : n0 * 140737488351232 ≤ 8 * 140737488351232 := Nat.mul_le_mul_right _ h8
  have hm1 : n1 * 140737488351232 ≤ 8 * 140737488351232 := Nat.mul_le_mul_right _ h9
  have hb0 : sumQ l0 ≤ 1125899906809856 := by omega
  have hb1 : sumQ l1 ≤ 1125899906809856 := by omega
  clear hs0 hs1 hm0 hm1
  go_wp2
  go_loopw [3, 4] (fun nv r wr => W = wr ∧ ((r = .int .i64 0 ∧ nv = .int .i64 0) ∨ (r = .int .i64 1 ∧ nv = .int .i64 (sumQ l0 : Nat)) ∨ (r = .int .i64 2 ∧ nv = .int .i64 (sumQ l0 + sumQ l1 : Nat)))) (fun _ r _ => 2 - (intOf r).toNat)
  case atStart => exact ⟨rfl, .inl ⟨rfl, rfl⟩⟩
  case round =>
    obtain ⟨rfl, ⟨rfl, rfl⟩ | ⟨rfl, rfl⟩ | ⟨rfl, rfl⟩⟩ := hrel
    · go_wp2
      go_loopw [3, 5] (fun nv i wr => W = wr ∧ ∃ j : Nat, j ≤ n0 ∧ i = .int .i64 j ∧ nv = .int .i64 (sumQ (l0.take j) : Nat)) (fun _ i _ => n0 - (intOf i).toNat)
      case atStart => exact ⟨rfl, 0, Nat.zero_le _, rfl, by simp [sumQ]⟩
      case round =>
        obtain ⟨rfl, j, hj, rfl, rfl⟩ := hrel
        rcases Nat.lt_or_ge j n0 with hjn | hjn
        · have hs : l0[j]? = some (l0[j]'(by omega)) := List.getElem?_eq_getElem _
          generalize (l0[j]'(by omega)) = s at *
          obtain ⟨a, rfl, a0, -, -⟩ := (h0.ext hW).at hs
          have hini : (j : Int) < (n0 : Int) := by omega
          have hst := sumQ_take hs
          have hle : sumQ (l0.take (j + 1)) ≤ sumQ l0 := by
            have := sumQ_append (l0.take (j + 1)) (l0.drop (j + 1))
            rw [List.take_append_drop] at this
            omega
          have hsum : IntKind.i64.wrap (((sumQ (l0.take j) : Nat) : Int) + (s.q : Int)) = ((sumQ (l0.take (j + 1)) : Nat) : Int) := by rw [IntKind.wrap_i64]; omega
          generalize hP : (sumQ (l0.take j)) = P at *
          clear hP
          go_wp2
          go_roundw
          case rel => exact ⟨by trivial, j + 1, by omega, by go_num, by rw [← hsum]; go_num⟩
          case measure => simp [intOf]; omega
        · obtain rfl : j = n0 := by omega
          have htk : l0.take j = l0 := List.take_of_length_le (by omega)
          rw [htk]
          go_wp2
          go_roundw
          case rel => exact ⟨by trivial, .inr (.inl ⟨by go_num, rfl⟩)⟩
          case measure => simp [intOf]
    · go_wp2
      go_loopw [3, 5] (fun nv i wr => W = wr ∧ ∃ j : Nat, j ≤ n1 ∧ i = .int .i64 j ∧ nv = .int .i64 (sumQ l0 + sumQ (l1.take j) : Nat)) (fun _ i _ => n1 - (intOf i).toNat)
      case atStart => exact ⟨rfl, 0, Nat.zero_le _, rfl, by simp [sumQ]⟩
      case round =>
        obtain ⟨rfl, j, hj, rfl, rfl⟩ := hrel
        rcases Nat.lt_or_ge j n1 with hjn | hjn
        · have hs : l1[j]? = some (l1[j]'(by omega)) := List.getElem?_eq_getElem _
          generalize (l1[j]'(by omega)) = s at *
          obtain ⟨a, rfl, a0, -, -⟩ := (h1.ext hW).at hs
          have hini : (j : Int) < (n1 : Int) := by omega
          have hst := sumQ_take hs
          have hle : sumQ (l1.take (j + 1)) ≤ sumQ l1 := by
            have := sumQ_append (l1.take (j + 1)) (l1.drop (j + 1))
            rw [List.take_append_drop] at this
            omega
          have hsum : IntKind.i64.wrap (((sumQ l0 + sumQ (l1.take j) : Nat) : Int) + (s.q : Int)) = ((sumQ l0 + sumQ (l1.take (j + 1)) : Nat) : Int) := by rw [IntKind.wrap_i64]; omega
          generalize hP : (sumQ l0 + sumQ (l1.take j)) = P at *
          clear hP
          go_wp2
          go_roundw
          case rel => exact ⟨by trivial, j + 1, by omega, by go_num, by rw [← hsum]; go_num⟩
          case measure => simp [intOf]; omega
        · obtain rfl : j = n1 := by omega
          have htk : l1.take j = l1 := List.take_of_length_le (by omega)
          rw [htk]
          go_wp2
          go_roundw
          case rel => exact ⟨by trivial, .inr (.inr ⟨by go_num, rfl⟩)⟩
          case measure => simp [intOf]
    · by_cases h4 : sumQ l0 + sumQ l1 ≤ 4000
      · have h4' : ((sumQ l0 + sumQ l1 : Nat) : Int) ≤ 4000 := by omega
        generalize sumQ l0 + sumQ l1 = P at h4' ⊢
        go_wp2
        go_ret
        exact ⟨⟨true, rfl, fun _ => ⟨h8, h9, h4⟩⟩, hW⟩
      · have h4' : ¬ ((sumQ l0 + sumQ l1 : Nat) : Int) ≤ 4000 := by omega
        generalize sumQ l0 + sumQ l1 = P at h4' ⊢
        go_wp2
        go_ret
        exact ⟨⟨false, rfl, fun h => by cases h⟩, hW⟩
end Go.Proofs.Ytennnhfaghdeoaa
