/- Proved: the law PlayParts (two rows of accesses, one behind the other) returns true at every input and turns none of its arguments. No condition. -/
import Derived.Test.YthgcpfofdbdkpaaPlayRows
import Derived.Test.YthgcpfofdbdkpaaLift
namespace Go.Proofs.Ythgcpfofdbdkpaa
open Go.ChangeShapes Go.WideShapes Go.ChangeAt Go.RowKit

theorem lineEnd_done {l : List Acc} {rs : List Res} {n : Nat} (hn : l.length = n) (h : n ≤ rs.length) : lineEnd l rs = .returned (.tuple #[.agg accZero, .agg (OutN.cells ⟨0, false, n, lineSum rs n⟩), .bool true]) := by
  subst hn; exact if_pos h
theorem lineEnd_stop {l : List Acc} {rs : List Res} {x : Acc} (h : l[rs.length]? = some x) : lineEnd l rs = .returned (.tuple #[.agg x.cells, .agg outZero, .bool false]) := by
  have := (List.getElem?_eq_some_iff.1 h).1
  unfold lineEnd
  rw [if_neg (by omega), h]; rfl
theorem asks_zero (w : World) : Calls Try.prog 19 #[.agg #[.int .i64 0, .int .i64 0, .int .u64 0, .int .u64 0, .slice none 0 0, .slice none 0 0], .agg #[.int .i64 0, .int .i64 0, .int .u64 0, .int .u64 0, .slice none 0 0, .slice none 0 0]] w fun e w' => e = .returned (.bool true) ∧ Ext w w' :=
  asks_yes Acc.zero w (AccOK.zero w) (Nat.zero_le _)
set_option maxRecDepth 100000 in
set_option maxHeartbeats 8000000 in
theorem pparts_walk (A : Option Addr) (n c : Nat) (l1 : List Acc) (B : Option Addr) (m c2 : Nat) (l2 : List Acc) (D : Option Addr) (k kc : Nat) (rs : List Res) (w : World) (hA : AccsP w A n c l1) (hB : AccsP w B m c2 l2) (hD : LogP w D k kc rs) :
    Calls Try.prog 4 #[.slice A n c, .slice B m c2, .slice D k kc] w fun e w' => e = .returned (.bool true) ∧ Ext w w' := by
  have hcapn := hA.cap
  have hcapm := hB.cap
  have hcapk := hD.cap
  simp only [maxLen] at hcapn hcapm hcapk
  obtain ⟨i0, hi0, hz0, hz1, hz2⟩ := info_parts info_access
  obtain ⟨i1, hi1, -, hs1, -⟩ := info_parts info_result
  have hbs : ∀ W : World, (Instr.buildSlice 22 0 #[]).run Try.prog W = .ok (.slice (some ⟨W.heap.size, 0, none⟩) 0 0) (W.alloc (.cells #[] 30)) := fun _ => by kernel_rfl
  go_enter Try.func4, Try.ntmps4
  go_wp2_with fail
  refine (shown11_any _).mono ?_
  rintro e w1 ⟨rfl, hx⟩
  go_wp2_with fail
  refine (few_any A n c 30 l1 _ (hA.accs.ext hx) (by omega) (by omega) fun j x hj => (by have := (hA.ok j x hj).2; simp only [maxLen] at this; omega)).mono ?_
  rintro e w2 ⟨⟨b, rfl, hb1⟩, hx2⟩
  replace hx := hx.trans hx2
  clear hx2
  cases b with
  | false =>
    go_wp2
    go_ret
    exact ⟨rfl, hx⟩
  | true =>
    obtain ⟨hf1, hf2⟩ := hb1 rfl
    clear hb1
    go_wp2_with fail
    refine (few_any B m c2 30 l2 _ (hB.accs.ext hx) (by omega) (by omega) fun j x hj => (by have := (hB.ok j x hj).2; simp only [maxLen] at this; omega)).mono ?_
    rintro e w3 ⟨⟨b, rfl, hb2⟩, hx2⟩
    replace hx := hx.trans hx2
    clear hx2
    cases b with
    | false =>
      go_wp2
      go_ret
      exact ⟨rfl, hx⟩
    | true =>
      obtain ⟨hf3, hf4⟩ := hb2 rfl
      clear hb2
      have hlen1 := hA.accs.len
      have hlen2 := hB.accs.len
      have hwk : IntKind.i64.wrap (k : Int) = (k : Int) := by rw [IntKind.wrap_i64]; omega
      by_cases hk : k ≤ 80
      · have hk' : ¬ (80 : Int) < (k : Int) := by omega
        have hlog := (hD.log (by omega)).ext hx
        have hdle := hD.le
        have hrl := hlog.len
        have hok1 : ∀ (j : Nat) (x : Acc), l1[j]? = some x → AccOK w3 x ∧ x.wk ≤ 100 := fun j x hj => ⟨(hA.ok j x hj).1.ext hx, (hf2 j x hj).2⟩
        have hok2 : ∀ (j : Nat) (x : Acc), l2[j]? = some x → AccOK w3 x ∧ x.wk ≤ 100 := fun j x hj => ⟨(hB.ok j x hj).1.ext hx, (hf4 j x hj).2⟩
        have hn0 : A = none → c = 0 ∧ n = 0 := fun e => by have := hA.nil e; have := hA.le; omega
        have hm0 : B = none → c2 = 0 ∧ m = 0 := fun e => by have := hB.nil e; have := hB.le; omega
        have hac1 := hA.accs.ext hx
        have hac2 := hB.accs.ext hx
        clear hA hB hD hcapn hcapm hcapk
        go_upto_region 4 with (fail)
        have hW : Ext w3 (w3.alloc (.cells #[] 30)) := (Below.refl _ w3).alloc (Nat.le_refl _) _
        have hown0 : (w3.alloc (.cells #[] 30)).ownsRow w3.heap.size 30 6 (.slice (some ⟨w3.heap.size, 0, none⟩) 0 0) 0 [] := ownsRow_start (heap_alloc_new w3 _) (Nat.le_refl _)
        go_wp2_with (first
          | (at_builtin; refine wpList_append_own_any rfl (.tmp 36) (.tmp 37) _ _ rfl w3.heap.size i0 _ 6 80 Try.underlying22 hi0 hz0 hz1 hz2 rfl (by decide) _ 0 [] rfl hown0 A n c (accCells l1) rfl (by rw [accCells_length, hlen1]) (hac1.cells.ext hW) hn0 (accCells_one _) (by simp only [maxLen]; omega) (by omega) (by simp) ?_; go_loud (intro v1 w4 hown1 hb1; try simp only [Nat.zero_add, List.nil_append] at hown1; have hX4 : Ext w3 w4 := Below.trans hW hb1))
          | (at_builtin; refine wpList_append_own_any rfl (.tmp 38) (.tmp 39) _ _ rfl w3.heap.size i0 _ 6 80 Try.underlying22 hi0 hz0 hz1 hz2 rfl (by decide) _ n (accCells l1) rfl hown1 B m c2 (accCells l2) rfl (by rw [accCells_length, hlen2]) (hac2.cells.ext hX4) hm0 (accCells_one _) (by simp only [maxLen]; omega) (by omega) hX4.size ?_; intro v2 w5 hown2 hb2))
        have hX5 : Ext w3 w5 := Below.trans hX4 hb2
        obtain ⟨E, ec, rfl, he1, he2, he3, he4, -⟩ := own_formS (by omega) hown2
        have hall : AccsV w5 E (n + m) ec (l1 ++ l2) := AccsV.of_cells (by rw [List.length_append, hlen1, hlen2]) (by rw [accCells_append]; exact he4)
        clear hown1 hown0 hown2 hb1 hb2 hX4 hW he1 he2 he3 he4
        replace hlog := hlog.ext hX5
        replace hac1 := hac1.ext hX5
        replace hac2 := hac2.ext hX5
        replace hx := hx.trans hX5
        replace hok1 : ∀ (j : Nat) (x : Acc), l1[j]? = some x → AccOK w5 x ∧ x.wk ≤ 100 := fun j x hj => ⟨(hok1 j x hj).1.ext hX5, (hok1 j x hj).2⟩
        replace hok2 : ∀ (j : Nat) (x : Acc), l2[j]? = some x → AccOK w5 x ∧ x.wk ≤ 100 := fun j x hj => ⟨(hok2 j x hj).1.ext hX5, (hok2 j x hj).2⟩
        clear hX5
        have hnm : (l1 ++ l2).length = n + m := by rw [List.length_append, hlen1, hlen2]
        rcases Nat.lt_or_ge k n with hkn | hkn
        · have hki : (k : Int) < (n : Int) := by omega
          have hx1 : l1[rs.length]? = some (l1[rs.length]'(by omega)) := List.getElem?_eq_getElem _
          have hxa : (l1 ++ l2)[rs.length]? = some (l1[rs.length]'(by omega)) := by rw [List.getElem?_append_left (by omega)]; exact hx1
          generalize (l1[rs.length]'(by omega)) = x at hx1 hxa
          obtain ⟨hok, hwx⟩ := hok1 _ _ hx1
          obtain ⟨x0, x1, x2, x3, x4, x5, x6, x7, x8, x9⟩ := x
          go_wp2_with fail
          refine (line_any E (n + m) ec (l1 ++ l2) D k kc rs _ hall (by omega) hlog).mono ?_
          rintro e u1 ⟨rfl, hu1⟩
          rw [lineEnd_stop hxa]
          simp only [Acc.cells, OutN.cells, outZero, accZero]
          go_upto_region 6 with (fail)
          obtain ⟨hv1, -, ha1, ho1⟩ := two_boxes u1 (.cells #[.int .i64 x0, .int .i64 x1, .int .u64 x2, .int .u64 x3, .slice x4 x5 x6, .slice x7 x8 x9] 30) (.cells #[.int .i64 0, .bool false, .int .i64 0, .int .u64 0, .slice none 0 0] 34)
          generalize (u1.alloc (.cells #[.int .i64 x0, .int .i64 x1, .int .u64 x2, .int .u64 x3, .slice x4 x5 x6, .slice x7 x8 x9] 30)).alloc (.cells #[.int .i64 0, .bool false, .int .i64 0, .int .u64 0, .slice none 0 0] 34) = U1 at *
          generalize u1.heap.size = g1 at *
          replace hv1 := hu1.trans hv1
          clear hu1
          replace hlog := hlog.ext hv1
          replace hac1 := hac1.ext hv1
          replace hok := hok.ext hv1
          replace hx := hx.trans hv1
          clear hv1
          go_wp2_with fail
          refine (line_any A n c l1 D k kc rs _ hac1 (by omega) hlog).mono ?_
          rintro e u2 ⟨rfl, hu2⟩
          rw [lineEnd_stop hx1]
          simp only [Acc.cells, OutN.cells, outZero, accZero]
          go_upto_region 8 with (fail)
          obtain ⟨hv2, -, ha2, ho2⟩ := two_boxes u2 (.cells #[.int .i64 x0, .int .i64 x1, .int .u64 x2, .int .u64 x3, .slice x4 x5 x6, .slice x7 x8 x9] 30) (.cells #[.int .i64 0, .bool false, .int .i64 0, .int .u64 0, .slice none 0 0] 34)
          generalize (u2.alloc (.cells #[.int .i64 x0, .int .i64 x1, .int .u64 x2, .int .u64 x3, .slice x4 x5 x6, .slice x7 x8 x9] 30)).alloc (.cells #[.int .i64 0, .bool false, .int .i64 0, .int .u64 0, .slice none 0 0] 34) = U2 at *
          generalize u2.heap.size = g2 at *
          replace hv2 := hu2.trans hv2
          clear hu2
          replace ha1 := heap_ext ha1 hv2
          replace hok := hok.ext hv2
          replace hx := hx.trans hv2
          clear hv2
          have a0 : U2.cell? ⟨g1, 0, none⟩ = some (.int .i64 x0) := by simp [World.cell?, ha1]
          have a1 : U2.cell? ⟨g1, 1, none⟩ = some (.int .i64 x1) := by simp [World.cell?, ha1]
          have a2 : U2.cell? ⟨g1, 2, none⟩ = some (.int .u64 x2) := by simp [World.cell?, ha1]
          have a3 : U2.cell? ⟨g1, 3, none⟩ = some (.int .u64 x3) := by simp [World.cell?, ha1]
          have a4 : U2.cell? ⟨g1, 4, none⟩ = some (.slice x4 x5 x6) := by simp [World.cell?, ha1]
          have a5 : U2.cell? ⟨g1, 5, none⟩ = some (.slice x7 x8 x9) := by simp [World.cell?, ha1]
          have b0 : U2.cell? ⟨g2, 0, none⟩ = some (.int .i64 x0) := by simp [World.cell?, ha2]
          have b1 : U2.cell? ⟨g2, 1, none⟩ = some (.int .i64 x1) := by simp [World.cell?, ha2]
          have b2 : U2.cell? ⟨g2, 2, none⟩ = some (.int .u64 x2) := by simp [World.cell?, ha2]
          have b3 : U2.cell? ⟨g2, 3, none⟩ = some (.int .u64 x3) := by simp [World.cell?, ha2]
          have b4 : U2.cell? ⟨g2, 4, none⟩ = some (.slice x4 x5 x6) := by simp [World.cell?, ha2]
          have b5 : U2.cell? ⟨g2, 5, none⟩ = some (.slice x7 x8 x9) := by simp [World.cell?, ha2]
          go_wp2_with fail
          refine (asks_yes ⟨x0, x1, x2, x3, x4, x5, x6, x7, x8, x9⟩ _ hok (by simp only at hwx ⊢; omega)).mono ?_
          rintro e w7 ⟨rfl, hx7⟩
          go_wp2
          go_ret
          exact ⟨rfl, hx.trans hx7⟩
        · have hki : ¬ (k : Int) < (n : Int) := by omega
          obtain ⟨D', hdrop, hlogd⟩ : ∃ D', (∀ W : World, (Instr.slice 23 (.slice D k kc) (some (.int .i64 (n : Int))) none none).run Try.prog W = .ok (.slice D' (k - n) (kc - n)) W) ∧ LogV w5 D' (k - n) (kc - n) (rs.drop n) :=
            ⟨_, fun W => run_slice_from _ _ i1 3 Try.underlying23 hi1 hs1 D k kc n hkn hdle W, hlog.drop hkn hdle⟩
          have hdl : (rs.drop n).length = k - n := by rw [List.length_drop, hrl]
          have hsum := lineSum_drop rs n m
          rcases Nat.lt_or_ge k (n + m) with hkm | hkm
          · have hx2 : l2[(rs.drop n).length]? = some (l2[(rs.drop n).length]'(by omega)) := List.getElem?_eq_getElem _
            have hxa : (l1 ++ l2)[rs.length]? = some (l2[(rs.drop n).length]'(by omega)) := by
              rw [List.getElem?_append_right (by omega), show rs.length - l1.length = (rs.drop n).length by omega]; exact hx2
            generalize (l2[(rs.drop n).length]'(by omega)) = x at hx2 hxa
            obtain ⟨hok, hwx⟩ := hok2 _ _ hx2
            obtain ⟨x0, x1, x2, x3, x4, x5, x6, x7, x8, x9⟩ := x
            go_wp2_with fail
            refine (line_any E (n + m) ec (l1 ++ l2) D k kc rs _ hall (by omega) hlog).mono ?_
            rintro e u1 ⟨rfl, hu1⟩
            rw [lineEnd_stop hxa]
            simp only [Acc.cells, OutN.cells, outZero, accZero]
            go_upto_region 6 with (fail)
            obtain ⟨hv1, -, ha1, ho1⟩ := two_boxes u1 (.cells #[.int .i64 x0, .int .i64 x1, .int .u64 x2, .int .u64 x3, .slice x4 x5 x6, .slice x7 x8 x9] 30) (.cells #[.int .i64 0, .bool false, .int .i64 0, .int .u64 0, .slice none 0 0] 34)
            generalize (u1.alloc (.cells #[.int .i64 x0, .int .i64 x1, .int .u64 x2, .int .u64 x3, .slice x4 x5 x6, .slice x7 x8 x9] 30)).alloc (.cells #[.int .i64 0, .bool false, .int .i64 0, .int .u64 0, .slice none 0 0] 34) = U1 at *
            generalize u1.heap.size = g1 at *
            replace hv1 := hu1.trans hv1
            clear hu1
            replace hlog := hlog.ext hv1
            replace hlogd := hlogd.ext hv1
            replace hac1 := hac1.ext hv1
            replace hac2 := hac2.ext hv1
            replace hok := hok.ext hv1
            replace hx := hx.trans hv1
            clear hv1
            go_wp2_with fail
            refine (line_any A n c l1 D k kc rs _ hac1 (by omega) hlog).mono ?_
            rintro e u2 ⟨rfl, hu2⟩
            rw [lineEnd_done hlen1 (by omega)]
            simp only [Acc.cells, OutN.cells, outZero, accZero]
            go_upto_region 10 with (fail)
            obtain ⟨hv2, -, ha2, ho2⟩ := two_boxes u2 (.cells #[.int .i64 0, .int .i64 0, .int .u64 0, .int .u64 0, .slice none 0 0, .slice none 0 0] 30) (.cells #[.int .i64 0, .bool false, .int .i64 n, .int .u64 (lineSum rs n), .slice none 0 0] 34)
            generalize (u2.alloc (.cells #[.int .i64 0, .int .i64 0, .int .u64 0, .int .u64 0, .slice none 0 0, .slice none 0 0] 30)).alloc (.cells #[.int .i64 0, .bool false, .int .i64 n, .int .u64 (lineSum rs n), .slice none 0 0] 34) = U2 at *
            generalize u2.heap.size = g2 at *
            replace hv2 := hu2.trans hv2
            clear hu2
            replace ha1 := heap_ext ha1 hv2
            replace hok := hok.ext hv2
            replace hlog := hlog.ext hv2
            replace hlogd := hlogd.ext hv2
            replace hac2 := hac2.ext hv2
            replace hx := hx.trans hv2
            clear hv2
            go_wp2_with fail
            refine (line_any B m c2 l2 _ (k - n) (kc - n) (rs.drop n) _ hac2 (by omega) hlogd).mono ?_
            rintro e u3 ⟨rfl, hu3⟩
            rw [lineEnd_stop hx2]
            simp only [Acc.cells, OutN.cells, outZero, accZero]
            go_upto_region 11 with (fail)
            obtain ⟨hv3, -, ha3, ho3⟩ := two_boxes u3 (.cells #[.int .i64 x0, .int .i64 x1, .int .u64 x2, .int .u64 x3, .slice x4 x5 x6, .slice x7 x8 x9] 30) (.cells #[.int .i64 0, .bool false, .int .i64 0, .int .u64 0, .slice none 0 0] 34)
            generalize (u3.alloc (.cells #[.int .i64 x0, .int .i64 x1, .int .u64 x2, .int .u64 x3, .slice x4 x5 x6, .slice x7 x8 x9] 30)).alloc (.cells #[.int .i64 0, .bool false, .int .i64 0, .int .u64 0, .slice none 0 0] 34) = U3 at *
            generalize u3.heap.size = g3 at *
            replace hv3 := hu3.trans hv3
            clear hu3
            replace ha1 := heap_ext ha1 hv3
            replace hok := hok.ext hv3
            replace hx := hx.trans hv3
            clear hv3
            have a0 : U3.cell? ⟨g1, 0, none⟩ = some (.int .i64 x0) := by simp [World.cell?, ha1]
            have a1 : U3.cell? ⟨g1, 1, none⟩ = some (.int .i64 x1) := by simp [World.cell?, ha1]
            have a2 : U3.cell? ⟨g1, 2, none⟩ = some (.int .u64 x2) := by simp [World.cell?, ha1]
            have a3 : U3.cell? ⟨g1, 3, none⟩ = some (.int .u64 x3) := by simp [World.cell?, ha1]
            have a4 : U3.cell? ⟨g1, 4, none⟩ = some (.slice x4 x5 x6) := by simp [World.cell?, ha1]
            have a5 : U3.cell? ⟨g1, 5, none⟩ = some (.slice x7 x8 x9) := by simp [World.cell?, ha1]
            have b0 : U3.cell? ⟨g3, 0, none⟩ = some (.int .i64 x0) := by simp [World.cell?, ha3]
            have b1 : U3.cell? ⟨g3, 1, none⟩ = some (.int .i64 x1) := by simp [World.cell?, ha3]
            have b2 : U3.cell? ⟨g3, 2, none⟩ = some (.int .u64 x2) := by simp [World.cell?, ha3]
            have b3 : U3.cell? ⟨g3, 3, none⟩ = some (.int .u64 x3) := by simp [World.cell?, ha3]
            have b4 : U3.cell? ⟨g3, 4, none⟩ = some (.slice x4 x5 x6) := by simp [World.cell?, ha3]
            have b5 : U3.cell? ⟨g3, 5, none⟩ = some (.slice x7 x8 x9) := by simp [World.cell?, ha3]
            go_wp2_with fail
            refine (asks_yes ⟨x0, x1, x2, x3, x4, x5, x6, x7, x8, x9⟩ _ hok (by simp only at hwx ⊢; omega)).mono ?_
            rintro e w7 ⟨rfl, hx7⟩
            go_wp2
            go_ret
            exact ⟨rfl, hx.trans hx7⟩
          · have hwnm : IntKind.i64.wrap ((n : Int) + (m : Int)) = (n : Int) + (m : Int) := by rw [IntKind.wrap_i64]; omega
            go_wp2_with fail
            refine (line_any E (n + m) ec (l1 ++ l2) D k kc rs _ hall (by omega) hlog).mono ?_
            rintro e u1 ⟨rfl, hu1⟩
            rw [lineEnd_done hnm (by omega)]
            simp only [Acc.cells, OutN.cells, outZero, accZero]
            go_upto_region 6 with (fail)
            obtain ⟨hv1, -, ha1, ho1⟩ := two_boxes u1 (.cells #[.int .i64 0, .int .i64 0, .int .u64 0, .int .u64 0, .slice none 0 0, .slice none 0 0] 30) (.cells #[.int .i64 0, .bool false, .int .i64 ((n : Int) + (m : Int)), .int .u64 (lineSum rs (n + m)), .slice none 0 0] 34)
            generalize (u1.alloc (.cells #[.int .i64 0, .int .i64 0, .int .u64 0, .int .u64 0, .slice none 0 0, .slice none 0 0] 30)).alloc (.cells #[.int .i64 0, .bool false, .int .i64 ((n : Int) + (m : Int)), .int .u64 (lineSum rs (n + m)), .slice none 0 0] 34) = U1 at *
            generalize u1.heap.size = g1 at *
            replace hv1 := hu1.trans hv1
            clear hu1
            replace hlog := hlog.ext hv1
            replace hlogd := hlogd.ext hv1
            replace hac1 := hac1.ext hv1
            replace hac2 := hac2.ext hv1
            replace hx := hx.trans hv1
            clear hv1
            go_wp2_with fail
            refine (line_any A n c l1 D k kc rs _ hac1 (by omega) hlog).mono ?_
            rintro e u2 ⟨rfl, hu2⟩
            rw [lineEnd_done hlen1 (by omega)]
            simp only [Acc.cells, OutN.cells, outZero, accZero]
            go_upto_region 10 with (fail)
            obtain ⟨hv2, -, ha2, ho2⟩ := two_boxes u2 (.cells #[.int .i64 0, .int .i64 0, .int .u64 0, .int .u64 0, .slice none 0 0, .slice none 0 0] 30) (.cells #[.int .i64 0, .bool false, .int .i64 n, .int .u64 (lineSum rs n), .slice none 0 0] 34)
            generalize (u2.alloc (.cells #[.int .i64 0, .int .i64 0, .int .u64 0, .int .u64 0, .slice none 0 0, .slice none 0 0] 30)).alloc (.cells #[.int .i64 0, .bool false, .int .i64 n, .int .u64 (lineSum rs n), .slice none 0 0] 34) = U2 at *
            generalize u2.heap.size = g2 at *
            replace hv2 := hu2.trans hv2
            clear hu2
            replace ha1 := heap_ext ha1 hv2
            replace ho1 := heap_ext ho1 hv2
            replace hlog := hlog.ext hv2
            replace hlogd := hlogd.ext hv2
            replace hac2 := hac2.ext hv2
            replace hx := hx.trans hv2
            clear hv2
            go_wp2_with fail
            refine (line_any B m c2 l2 _ (k - n) (kc - n) (rs.drop n) _ hac2 (by omega) hlogd).mono ?_
            rintro e u3 ⟨rfl, hu3⟩
            rw [lineEnd_done hlen2 (by omega)]
            simp only [Acc.cells, OutN.cells, outZero, accZero]
            go_upto_region 11 with (fail)
            obtain ⟨hv3, -, ha3, ho3⟩ := two_boxes u3 (.cells #[.int .i64 0, .int .i64 0, .int .u64 0, .int .u64 0, .slice none 0 0, .slice none 0 0] 30) (.cells #[.int .i64 0, .bool false, .int .i64 m, .int .u64 (lineSum (rs.drop n) m), .slice none 0 0] 34)
            generalize (u3.alloc (.cells #[.int .i64 0, .int .i64 0, .int .u64 0, .int .u64 0, .slice none 0 0, .slice none 0 0] 30)).alloc (.cells #[.int .i64 0, .bool false, .int .i64 m, .int .u64 (lineSum (rs.drop n) m), .slice none 0 0] 34) = U3 at *
            generalize u3.heap.size = g3 at *
            replace hv3 := hu3.trans hv3
            clear hu3
            replace ha1 := heap_ext ha1 hv3
            replace ho1 := heap_ext ho1 hv3
            replace ho2 := heap_ext ho2 hv3
            replace hx := hx.trans hv3
            clear hv3
            have a0 : U3.cell? ⟨g1, 0, none⟩ = some (.int .i64 0) := by simp [World.cell?, ha1]
            have a1 : U3.cell? ⟨g1, 1, none⟩ = some (.int .i64 0) := by simp [World.cell?, ha1]
            have a2 : U3.cell? ⟨g1, 2, none⟩ = some (.int .u64 0) := by simp [World.cell?, ha1]
            have a3 : U3.cell? ⟨g1, 3, none⟩ = some (.int .u64 0) := by simp [World.cell?, ha1]
            have a4 : U3.cell? ⟨g1, 4, none⟩ = some (.slice none 0 0) := by simp [World.cell?, ha1]
            have a5 : U3.cell? ⟨g1, 5, none⟩ = some (.slice none 0 0) := by simp [World.cell?, ha1]
            have b0 : U3.cell? ⟨g3, 0, none⟩ = some (.int .i64 0) := by simp [World.cell?, ha3]
            have b1 : U3.cell? ⟨g3, 1, none⟩ = some (.int .i64 0) := by simp [World.cell?, ha3]
            have b2 : U3.cell? ⟨g3, 2, none⟩ = some (.int .u64 0) := by simp [World.cell?, ha3]
            have b3 : U3.cell? ⟨g3, 3, none⟩ = some (.int .u64 0) := by simp [World.cell?, ha3]
            have b4 : U3.cell? ⟨g3, 4, none⟩ = some (.slice none 0 0) := by simp [World.cell?, ha3]
            have b5 : U3.cell? ⟨g3, 5, none⟩ = some (.slice none 0 0) := by simp [World.cell?, ha3]
            go_wp2_with fail
            refine (asks_zero _).mono ?_
            rintro e w7 ⟨rfl, hx7⟩
            replace ho1 := heap_ext ho1 hx7
            replace ho2 := heap_ext ho2 hx7
            replace ho3 := heap_ext ho3 hx7
            have p1 : w7.cell? ⟨g1 + 1, 2, none⟩ = some (.int .i64 ((n : Int) + (m : Int))) := by simp [World.cell?, ho1]
            have q1 : w7.cell? ⟨g1 + 1, 3, none⟩ = some (.int .u64 (lineSum rs (n + m))) := by simp [World.cell?, ho1]
            have p2 : w7.cell? ⟨g2 + 1, 2, none⟩ = some (.int .i64 n) := by simp [World.cell?, ho2]
            have q2 : w7.cell? ⟨g2 + 1, 3, none⟩ = some (.int .u64 (lineSum rs n)) := by simp [World.cell?, ho2]
            have p3 : w7.cell? ⟨g3 + 1, 2, none⟩ = some (.int .i64 m) := by simp [World.cell?, ho3]
            have q3 : w7.cell? ⟨g3 + 1, 3, none⟩ = some (.int .u64 (lineSum (rs.drop n) m)) := by simp [World.cell?, ho3]
            go_wp2
            go_ret
            exact ⟨rfl, hx.trans hx7⟩
      · have hk' : (80 : Int) < (k : Int) := by omega
        go_wp2
        go_ret
        exact ⟨rfl, hx⟩
set_option maxRecDepth 100000 in
theorem PlayParts_lifted (os : Os) (started : os.Started) (H : Type) (enc : TypeId × Value → H) :
    ReturnsInHanded {} Try.checked os 4 .any (Rows.playPartsSpec.pre6 enc Try.prog Try.f4 Rows.playPartsRow.domain false) (Rows.playPartsSpec.post enc Try.prog Try.f4 false true false false) := by
  refine law_row os started H enc Rows.playPartsSpec rfl (fun ds h => by
    match ds, h with
    | [_, _, _], _ => rfl) (by kernel_rfl) Try.func4 rfl
    (by rw [Try.params4]; intro t ht; simp at ht; rcases ht with rfl | rfl <;> exact ⟨by kernel_rfl, of_decide_eq_true (by kernel_rfl)⟩)
    (ChangeSpec.witness6 (enc := enc) (C := Try.checked) false ⟨#[], #[.slice none 0 0, .slice none 0 0, .slice none 0 0], []⟩ 8 (by kernel_rfl) (by kernel_rfl) (by kernel_rfl) (by kernel_rfl)) ?_
  intro W base args ds ps hval hA hlt
  rw [Try.params4] at hA hval
  obtain ⟨v0, v1, v2, d0, d1, d2, p0, p1, p2, rfl, rfl, rfl, h0, h1, h2⟩ := trodAll_three hA
  obtain ⟨A, n, c, l, rfl, hR⟩ := open_accs (hval 0 _ v0 rfl rfl) h0
  obtain ⟨B, m, c2, l2, rfl, hR2⟩ := open_accs (hval 1 _ v1 rfl rfl) h1
  obtain ⟨D, k, kc, rs, rfl, hS⟩ := open_log (hval 2 _ v2 rfl rfl) h2
  exact pparts_walk A n c l B m c2 l2 D k kc rs W hR hR2 hS
theorem PlayParts_holds : Rows.PlayPartsSaid :=
  OpenClaim.holds_of_wide 4 Try.f4 rfl rfl rfl rfl rfl rfl rfl ⟨rfl, rfl, rfl, rfl, rfl⟩ rfl rfl rfl rfl rfl (by kernel_rfl) Try.func4 (by kernel_rfl)
    (of_decide_eq_true (by kernel_rfl)) (by unfold Func.isWrapper; rw [if_neg (of_decide_eq_false (by kernel_rfl))]; exact ⟨rfl, rfl⟩)
    (fun os started H enc _ => PlayParts_lifted os started H enc)
#print axioms PlayParts_holds
end Go.Proofs.Ythgcpfofdbdkpaa
