/- Proved: the law PlayTells (what a row of accesses asks next, or answers, is as the document says) returns true at every input and turns none of its arguments. No condition. -/
import Derived.Test.YthgcpfofdbdkpaaPlayShown
import Derived.Test.YthgcpfofdbdkpaaPlayOpen
import Derived.Test.YthgcpfofdbdkpaaLift
namespace Go.Proofs.Ythgcpfofdbdkpaa
open Go.ChangeShapes Go.WideShapes Go.ChangeAt Go.RowKit

theorem line_form (l : List Acc) (rs : List Res) : ∃ (x : Acc) (o : OutN) (d : Bool), lineEnd l rs = .returned (.tuple #[.agg x.cells, .agg o.cells, .bool d]) ∧ (x = Acc.zero ∨ ∃ j : Nat, l[j]? = some x) := by
  unfold lineEnd
  by_cases h : l.length ≤ rs.length
  · rw [if_pos h]; exact ⟨Acc.zero, _, true, rfl, .inl rfl⟩
  · have hlt : rs.length < l.length := by omega
    rw [if_neg h, List.getElem?_eq_getElem hlt]
    exact ⟨l[rs.length], ⟨0, false, 0, 0⟩, false, rfl, .inr ⟨rs.length, List.getElem?_eq_getElem hlt⟩⟩
set_option maxRecDepth 100000 in
set_option maxHeartbeats 4000000 in
theorem ptells_walk (A : Option Addr) (n c : Nat) (l : List Acc) (B : Option Addr) (k kc : Nat) (rs : List Res) (w : World) (hA : AccsP w A n c l) (hB : LogP w B k kc rs) :
    Calls Try.prog 3 #[.slice A n c, .slice B k kc] w fun e w' => e = .returned (.bool true) ∧ Ext w w' := by
  have hcap := hA.cap
  have hcapk := hB.cap
  simp only [maxLen] at hcap hcapk
  go_enter Try.func3, Try.ntmps3
  go_wp2_with fail
  refine (shown11_any _).mono ?_
  rintro e w1 ⟨rfl, hx1⟩
  go_wp2_with fail
  refine (few_any A n c 60 l _ (hA.accs.ext hx1) (by omega) (by omega) fun j x hj => (by have := (hA.ok j x hj).2; simp only [maxLen] at this; omega)).mono ?_
  rintro e w2 ⟨⟨b, rfl, hb⟩, hx2⟩
  have hx := hx1.trans hx2
  clear hx1 hx2
  cases b with
  | false =>
    go_wp2
    go_ret
    exact ⟨rfl, hx⟩
  | true =>
    obtain ⟨hf1, hf2⟩ := hb rfl
    have hlen := hA.accs.len
    have hwk : IntKind.i64.wrap (k : Int) = (k : Int) := by rw [IntKind.wrap_i64]; omega
    by_cases hk : k ≤ 80
    · have hk' : ¬ (80 : Int) < (k : Int) := by omega
      have hlog := (hB.log (by omega)).ext hx
      have hacc := hA.accs.ext hx
      obtain ⟨⟨x0, x1, x2, x3, x4, x5, x6, x7, x8, x9⟩, ⟨o0, o1, o2, o3⟩, d, he, hx0⟩ := line_form l rs
      have hok : AccOK w2 ⟨x0, x1, x2, x3, x4, x5, x6, x7, x8, x9⟩ ∧ x8 ≤ 100 := by
        rcases hx0 with h | ⟨j, hj⟩
        · rw [h]; cases h; exact ⟨AccOK.zero _, by omega⟩
        · exact ⟨(hA.ok j _ hj).1.ext hx, (hf2 j _ hj).2⟩
      go_wp2_with fail
      refine (line_any A n c l B k kc rs _ hacc (by omega) hlog).mono ?_
      rintro e w3 ⟨rfl, hx3⟩
      rw [he]
      simp only [Acc.cells, OutN.cells]
      go_upto_region 5 with (fail)
      obtain ⟨hx4, -, ha4, ho4⟩ := two_boxes w3 (.cells #[.int .i64 x0, .int .i64 x1, .int .u64 x2, .int .u64 x3, .slice x4 x5 x6, .slice x7 x8 x9] 30) (.cells #[.int .i64 o0, .bool o1, .int .i64 o2, .int .u64 o3, .slice none 0 0] 34)
      generalize (w3.alloc (.cells #[.int .i64 x0, .int .i64 x1, .int .u64 x2, .int .u64 x3, .slice x4 x5 x6, .slice x7 x8 x9] 30)).alloc (.cells #[.int .i64 o0, .bool o1, .int .i64 o2, .int .u64 o3, .slice none 0 0] 34) = W4 at *
      generalize w3.heap.size = g3 at *
      replace hx4 := hx3.trans hx4
      clear hx3
      go_wp2_with fail
      refine (rline_any A n c l B k kc rs _ (hacc.ext hx4) (by omega) (hlog.ext hx4)).mono ?_
      rintro e w5 ⟨rfl, hx5⟩
      rw [he]
      simp only [Acc.cells, OutN.cells]
      go_upto_region 6 with (fail)
      obtain ⟨hx6, -, ha6, ho6⟩ := two_boxes w5 (.cells #[.int .i64 x0, .int .i64 x1, .int .u64 x2, .int .u64 x3, .slice x4 x5 x6, .slice x7 x8 x9] 30) (.cells #[.int .i64 o0, .bool o1, .int .i64 o2, .int .u64 o3, .slice none 0 0] 34)
      generalize (w5.alloc (.cells #[.int .i64 x0, .int .i64 x1, .int .u64 x2, .int .u64 x3, .slice x4 x5 x6, .slice x7 x8 x9] 30)).alloc (.cells #[.int .i64 o0, .bool o1, .int .i64 o2, .int .u64 o3, .slice none 0 0] 34) = W6 at *
      generalize w5.heap.size = g5 at *
      replace hx6 := hx5.trans hx6
      replace ha4 := heap_ext ha4 hx6
      replace ho4 := heap_ext ho4 hx6
      replace hx6 := hx4.trans hx6
      clear hx4 hx5
      have a0 : W6.cell? ⟨g3, 0, none⟩ = some (.int .i64 x0) := by simp [World.cell?, ha4]
      have a1 : W6.cell? ⟨g3, 1, none⟩ = some (.int .i64 x1) := by simp [World.cell?, ha4]
      have a2 : W6.cell? ⟨g3, 2, none⟩ = some (.int .u64 x2) := by simp [World.cell?, ha4]
      have a3 : W6.cell? ⟨g3, 3, none⟩ = some (.int .u64 x3) := by simp [World.cell?, ha4]
      have a4 : W6.cell? ⟨g3, 4, none⟩ = some (.slice x4 x5 x6) := by simp [World.cell?, ha4]
      have a5 : W6.cell? ⟨g3, 5, none⟩ = some (.slice x7 x8 x9) := by simp [World.cell?, ha4]
      have b0 : W6.cell? ⟨g5, 0, none⟩ = some (.int .i64 x0) := by simp [World.cell?, ha6]
      have b1 : W6.cell? ⟨g5, 1, none⟩ = some (.int .i64 x1) := by simp [World.cell?, ha6]
      have b2 : W6.cell? ⟨g5, 2, none⟩ = some (.int .u64 x2) := by simp [World.cell?, ha6]
      have b3 : W6.cell? ⟨g5, 3, none⟩ = some (.int .u64 x3) := by simp [World.cell?, ha6]
      have b4 : W6.cell? ⟨g5, 4, none⟩ = some (.slice x4 x5 x6) := by simp [World.cell?, ha6]
      have b5 : W6.cell? ⟨g5, 5, none⟩ = some (.slice x7 x8 x9) := by simp [World.cell?, ha6]
      go_wp2_with fail
      refine (asks_yes ⟨x0, x1, x2, x3, x4, x5, x6, x7, x8, x9⟩ _ (hok.1.ext hx6) (by simp only; omega)).mono ?_
      rintro e w7 ⟨rfl, hx7⟩
      replace ho4 := heap_ext ho4 hx7
      replace ho6 := heap_ext ho6 hx7
      clear ha4 ha6 a0 a1 a2 a3 a4 a5 b0 b1 b2 b3 b4 b5
      have a0 : w7.cell? ⟨g3 + 1, 0, none⟩ = some (.int .i64 o0) := by simp [World.cell?, ho4]
      have a1 : w7.cell? ⟨g3 + 1, 1, none⟩ = some (.bool o1) := by simp [World.cell?, ho4]
      have a2 : w7.cell? ⟨g3 + 1, 2, none⟩ = some (.int .i64 o2) := by simp [World.cell?, ho4]
      have a3 : w7.cell? ⟨g3 + 1, 3, none⟩ = some (.int .u64 o3) := by simp [World.cell?, ho4]
      have a4 : w7.cell? ⟨g3 + 1, 4, none⟩ = some (.slice none 0 0) := by simp [World.cell?, ho4]
      have b0 : w7.cell? ⟨g5 + 1, 0, none⟩ = some (.int .i64 o0) := by simp [World.cell?, ho6]
      have b1 : w7.cell? ⟨g5 + 1, 1, none⟩ = some (.bool o1) := by simp [World.cell?, ho6]
      have b2 : w7.cell? ⟨g5 + 1, 2, none⟩ = some (.int .i64 o2) := by simp [World.cell?, ho6]
      have b3 : w7.cell? ⟨g5 + 1, 3, none⟩ = some (.int .u64 o3) := by simp [World.cell?, ho6]
      have b4 : w7.cell? ⟨g5 + 1, 4, none⟩ = some (.slice none 0 0) := by simp [World.cell?, ho6]
      go_wp2_with fail
      refine (outs_yes ⟨o0, o1, o2, o3⟩ _).mono ?_
      rintro e w8 ⟨rfl, hx8⟩
      go_wp2
      go_ret
      exact ⟨rfl, ((hx.trans hx6).trans hx7).trans hx8⟩
    · have hk' : (80 : Int) < (k : Int) := by omega
      go_wp2
      go_ret
      exact ⟨rfl, hx⟩
set_option maxRecDepth 100000 in
theorem PlayTells_lifted (os : Os) (started : os.Started) (H : Type) (enc : TypeId × Value → H) :
    ReturnsInHanded {} Try.checked os 3 .any (Rows.playTellsSpec.pre6 enc Try.prog Try.f3 Rows.playTellsRow.domain false) (Rows.playTellsSpec.post enc Try.prog Try.f3 false true false false) := by
  refine law_row os started H enc Rows.playTellsSpec rfl (fun ds h => by
    match ds, h with
    | [_, _], _ => rfl) (by kernel_rfl) Try.func3 rfl
    (by rw [Try.params3]; intro t ht; simp at ht; rcases ht with rfl | rfl <;> exact ⟨by kernel_rfl, of_decide_eq_true (by kernel_rfl)⟩)
    (ChangeSpec.witness6 (enc := enc) (C := Try.checked) false ⟨#[], #[.slice none 0 0, .slice none 0 0], []⟩ 8 (by kernel_rfl) (by kernel_rfl) (by kernel_rfl) (by kernel_rfl)) ?_
  intro W base args ds ps hval hA hlt
  rw [Try.params3] at hA hval
  obtain ⟨v0, v1, d0, d1, p0, p1, rfl, rfl, rfl, h0, h1⟩ := trodAll_two hA
  obtain ⟨A, n, c, l, rfl, hR⟩ := open_accs (hval 0 _ v0 rfl rfl) h0
  obtain ⟨B, k, kc, rs, rfl, hS⟩ := open_log (hval 1 _ v1 rfl rfl) h1
  exact ptells_walk A n c l B k kc rs W hR hS
theorem PlayTells_holds : Rows.PlayTellsSaid :=
  OpenClaim.holds_of_wide 3 Try.f3 rfl rfl rfl rfl rfl rfl rfl ⟨rfl, rfl, rfl, rfl, rfl⟩ rfl rfl rfl rfl rfl (by kernel_rfl) Try.func3 (by kernel_rfl)
    (of_decide_eq_true (by kernel_rfl)) (by unfold Func.isWrapper; rw [if_neg (of_decide_eq_false (by kernel_rfl))]; exact ⟨rfl, rfl⟩)
    (fun os started H enc _ => PlayTells_lifted os started H enc)
#print axioms PlayTells_holds
end Go.Proofs.Ythgcpfofdbdkpaa
