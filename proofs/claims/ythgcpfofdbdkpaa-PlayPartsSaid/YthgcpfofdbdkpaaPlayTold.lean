import Derived.Test.YthgcpfofdbdkpaaPlayRef
namespace Go.Proofs.Ythgcpfofdbdkpaa
open Go.RowKit

set_option maxRecDepth 100000 in
set_option maxHeartbeats 4000000 in
/-- what is asked next, or the answer -/
theorem told_any (g : Nat) (A : Option Addr) (n c : Nat) (s : Cu) (o : OutN) (w : World) (hcur : CurAt w g A n c s) :
    Calls Try.prog 57 #[.pointer (some ⟨g, 0, none⟩), .agg o.cells] w fun e w' =>
      e = .returned (.tuple #[.agg (if s.stop then s.x else Acc.zero).cells, .agg (if s.stop then ⟨0, false, 0, 0⟩ else o).cells, .bool (!s.stop)]) ∧ Ext w w' := by
  obtain ⟨i, stop, ⟨x0, x1, x2, x3, x4, x5, x6, x7, x8, x9⟩⟩ := s
  obtain ⟨o0, o1, o2, o3⟩ := o
  have hb0 : ∀ W : World, (Instr.build 34 #[]).run Try.prog W = .ok (.agg #[.int .i64 0, .bool false, .int .i64 0, .int .u64 0, .slice none 0 0]) W := fun _ => by kernel_rfl
  have hb1 : ∀ W : World, (Instr.build 30 #[]).run Try.prog W = .ok (.agg #[.int .i64 0, .int .i64 0, .int .u64 0, .int .u64 0, .slice none 0 0, .slice none 0 0]) W := fun _ => by kernel_rfl
  have hcg : g < w.heap.size := (Array.getElem?_eq_some_iff.1 hcur).1
  simp only [Acc.cells, OutN.cells]
  go_enter Try.func57, Try.ntmps57
  go_upto_region 1 with (fail)
  obtain ⟨hW, hsz, hL, hE, hO⟩ := three_boxes w (.cells #[.int .i64 o0, .bool o1, .int .i64 o2, .int .u64 o3, .slice none 0 0] 34) (.cells #[.int .i64 0, .int .i64 0, .int .u64 0, .int .u64 0, .slice none 0 0, .slice none 0 0] 30) (.cells #[.int .i64 0, .bool false, .int .i64 0, .int .u64 0, .slice none 0 0] 34)
  generalize ((w.alloc (.cells #[.int .i64 o0, .bool o1, .int .i64 o2, .int .u64 o3, .slice none 0 0] 34)).alloc (.cells #[.int .i64 0, .int .i64 0, .int .u64 0, .int .u64 0, .slice none 0 0, .slice none 0 0] 30)).alloc (.cells #[.int .i64 0, .bool false, .int .i64 0, .int .u64 0, .slice none 0 0] 34) = W at *
  have hcw : W.heap[g]? = some (.cells #[.slice A n c, .int .i64 i, .bool stop, .int .i64 x0, .int .i64 x1, .int .u64 x2, .int .u64 x3, .slice x4 x5 x6, .slice x7 x8 x9] 113 (0, 0)) := heap_ext hcur hW
  have c0 : W.cell? ⟨g, 0, none⟩ = some (.slice A n c) := by simp [World.cell?, hcw]
  have c1 : W.cell? ⟨g, 1, none⟩ = some (.int .i64 i) := by simp [World.cell?, hcw]
  have c2 : W.cell? ⟨g, 2, none⟩ = some (.bool stop) := by simp [World.cell?, hcw]
  have c3 : W.cell? ⟨g, 3, none⟩ = some (.int .i64 x0) := by simp [World.cell?, hcw]
  have c4 : W.cell? ⟨g, 4, none⟩ = some (.int .i64 x1) := by simp [World.cell?, hcw]
  have c5 : W.cell? ⟨g, 5, none⟩ = some (.int .u64 x2) := by simp [World.cell?, hcw]
  have c6 : W.cell? ⟨g, 6, none⟩ = some (.int .u64 x3) := by simp [World.cell?, hcw]
  have c7 : W.cell? ⟨g, 7, none⟩ = some (.slice x4 x5 x6) := by simp [World.cell?, hcw]
  have c8 : W.cell? ⟨g, 8, none⟩ = some (.slice x7 x8 x9) := by simp [World.cell?, hcw]
  cases stop with
  | true =>
    have e0 : W.cell? ⟨w.heap.size + 1, 0, none⟩ = some (.int .i64 0) := by simp [World.cell?, hE]
    have ef0 : W.frozen? ⟨w.heap.size + 1, 0, none⟩ = false := by simp [World.frozen?, hE]
    have e1 : W.cell? ⟨w.heap.size + 1, 1, none⟩ = some (.int .i64 0) := by simp [World.cell?, hE]
    have ef1 : W.frozen? ⟨w.heap.size + 1, 1, none⟩ = false := by simp [World.frozen?, hE]
    have e2 : W.cell? ⟨w.heap.size + 1, 2, none⟩ = some (.int .u64 0) := by simp [World.cell?, hE]
    have ef2 : W.frozen? ⟨w.heap.size + 1, 2, none⟩ = false := by simp [World.frozen?, hE]
    have e3 : W.cell? ⟨w.heap.size + 1, 3, none⟩ = some (.int .u64 0) := by simp [World.cell?, hE]
    have ef3 : W.frozen? ⟨w.heap.size + 1, 3, none⟩ = false := by simp [World.frozen?, hE]
    have e4 : W.cell? ⟨w.heap.size + 1, 4, none⟩ = some (.slice none 0 0) := by simp [World.cell?, hE]
    have ef4 : W.frozen? ⟨w.heap.size + 1, 4, none⟩ = false := by simp [World.frozen?, hE]
    have e5 : W.cell? ⟨w.heap.size + 1, 5, none⟩ = some (.slice none 0 0) := by simp [World.cell?, hE]
    have ef5 : W.frozen? ⟨w.heap.size + 1, 5, none⟩ = false := by simp [World.frozen?, hE]
    have d0 : W.cell? ⟨w.heap.size + 1 + 1, 0, none⟩ = some (.int .i64 0) := by simp [World.cell?, hO]
    have df0 : W.frozen? ⟨w.heap.size + 1 + 1, 0, none⟩ = false := by simp [World.frozen?, hO]
    have d1 : W.cell? ⟨w.heap.size + 1 + 1, 1, none⟩ = some (.bool false) := by simp [World.cell?, hO]
    have df1 : W.frozen? ⟨w.heap.size + 1 + 1, 1, none⟩ = false := by simp [World.frozen?, hO]
    have d2 : W.cell? ⟨w.heap.size + 1 + 1, 2, none⟩ = some (.int .i64 0) := by simp [World.cell?, hO]
    have df2 : W.frozen? ⟨w.heap.size + 1 + 1, 2, none⟩ = false := by simp [World.frozen?, hO]
    have d3 : W.cell? ⟨w.heap.size + 1 + 1, 3, none⟩ = some (.int .u64 0) := by simp [World.cell?, hO]
    have df3 : W.frozen? ⟨w.heap.size + 1 + 1, 3, none⟩ = false := by simp [World.frozen?, hO]
    have d4 : W.cell? ⟨w.heap.size + 1 + 1, 4, none⟩ = some (.slice none 0 0) := by simp [World.cell?, hO]
    have df4 : W.frozen? ⟨w.heap.size + 1 + 1, 4, none⟩ = false := by simp [World.frozen?, hO]
    clear hcw hE hO hL hcur
    go_wp2
    refine bodyPost_ret (v := .tuple #[.agg #[.int .i64 x0, .int .i64 x1, .int .u64 x2, .int .u64 x3, .slice x4 x5 x6, .slice x7 x8 x9], .agg #[.int .i64 0, .bool false, .int .i64 0, .int .u64 0, .slice none 0 0], .bool false]) (by simp [results, Try.results57, go_sem, e0, e1, e2, e3, e4, e5, d0, d1, d2, d3, d4]) rfl ⟨by simp, ?_⟩
    exact setAll_ext (g := w.heap.size + 1 + 1) (vs := [.int .i64 0, .bool false, .int .i64 0, .int .u64 0, .slice none 0 0]) (i := 0) (setAll_ext (g := w.heap.size + 1) (vs := [.int .i64 x0, .int .i64 x1, .int .u64 x2, .int .u64 x3, .slice x4 x5 x6, .slice x7 x8 x9]) (i := 0) hW (by omega)) (by omega)
  | false =>
    go_upto_region 3 with (fail)
    have b0 : W.cell? ⟨w.heap.size, 0, none⟩ = some (.int .i64 o0) := by simp [World.cell?, hL]
    have b1 : W.cell? ⟨w.heap.size, 1, none⟩ = some (.bool o1) := by simp [World.cell?, hL]
    have b2 : W.cell? ⟨w.heap.size, 2, none⟩ = some (.int .i64 o2) := by simp [World.cell?, hL]
    have b3 : W.cell? ⟨w.heap.size, 3, none⟩ = some (.int .u64 o3) := by simp [World.cell?, hL]
    have b4 : W.cell? ⟨w.heap.size, 4, none⟩ = some (.slice none 0 0) := by simp [World.cell?, hL]
    have e0 : W.cell? ⟨w.heap.size + 1, 0, none⟩ = some (.int .i64 0) := by simp [World.cell?, hE]
    have ef0 : W.frozen? ⟨w.heap.size + 1, 0, none⟩ = false := by simp [World.frozen?, hE]
    have e1 : W.cell? ⟨w.heap.size + 1, 1, none⟩ = some (.int .i64 0) := by simp [World.cell?, hE]
    have ef1 : W.frozen? ⟨w.heap.size + 1, 1, none⟩ = false := by simp [World.frozen?, hE]
    have e2 : W.cell? ⟨w.heap.size + 1, 2, none⟩ = some (.int .u64 0) := by simp [World.cell?, hE]
    have ef2 : W.frozen? ⟨w.heap.size + 1, 2, none⟩ = false := by simp [World.frozen?, hE]
    have e3 : W.cell? ⟨w.heap.size + 1, 3, none⟩ = some (.int .u64 0) := by simp [World.cell?, hE]
    have ef3 : W.frozen? ⟨w.heap.size + 1, 3, none⟩ = false := by simp [World.frozen?, hE]
    have e4 : W.cell? ⟨w.heap.size + 1, 4, none⟩ = some (.slice none 0 0) := by simp [World.cell?, hE]
    have ef4 : W.frozen? ⟨w.heap.size + 1, 4, none⟩ = false := by simp [World.frozen?, hE]
    have e5 : W.cell? ⟨w.heap.size + 1, 5, none⟩ = some (.slice none 0 0) := by simp [World.cell?, hE]
    have ef5 : W.frozen? ⟨w.heap.size + 1, 5, none⟩ = false := by simp [World.frozen?, hE]
    have d0 : W.cell? ⟨w.heap.size + 1 + 1, 0, none⟩ = some (.int .i64 0) := by simp [World.cell?, hO]
    have df0 : W.frozen? ⟨w.heap.size + 1 + 1, 0, none⟩ = false := by simp [World.frozen?, hO]
    have d1 : W.cell? ⟨w.heap.size + 1 + 1, 1, none⟩ = some (.bool false) := by simp [World.cell?, hO]
    have df1 : W.frozen? ⟨w.heap.size + 1 + 1, 1, none⟩ = false := by simp [World.frozen?, hO]
    have d2 : W.cell? ⟨w.heap.size + 1 + 1, 2, none⟩ = some (.int .i64 0) := by simp [World.cell?, hO]
    have df2 : W.frozen? ⟨w.heap.size + 1 + 1, 2, none⟩ = false := by simp [World.frozen?, hO]
    have d3 : W.cell? ⟨w.heap.size + 1 + 1, 3, none⟩ = some (.int .u64 0) := by simp [World.cell?, hO]
    have df3 : W.frozen? ⟨w.heap.size + 1 + 1, 3, none⟩ = false := by simp [World.frozen?, hO]
    have d4 : W.cell? ⟨w.heap.size + 1 + 1, 4, none⟩ = some (.slice none 0 0) := by simp [World.cell?, hO]
    have df4 : W.frozen? ⟨w.heap.size + 1 + 1, 4, none⟩ = false := by simp [World.frozen?, hO]
    clear hcw hcur c0 c1 c2 c3 c4 c5 c6 c7 c8 hL hE hO
    go_region
    all_goals
      go_wp2
      refine bodyPost_ret (v := .tuple #[.agg #[.int .i64 0, .int .i64 0, .int .u64 0, .int .u64 0, .slice none 0 0, .slice none 0 0], .agg #[.int .i64 o0, .bool o1, .int .i64 o2, .int .u64 o3, .slice none 0 0], .bool true]) (by simp [results, Try.results57, go_sem, e0, e1, e2, e3, e4, e5, d0, d1, d2, d3, d4]) rfl ⟨by simp [Acc.zero], ?_⟩
      refine Ext.trans ?_ (Ext.refl _).drawn
      exact setAll_ext (g := w.heap.size + 1 + 1) (vs := [.int .i64 o0, .bool o1, .int .i64 o2, .int .u64 o3, .slice none 0 0]) (i := 0) (setAll_ext (g := w.heap.size + 1) (vs := [.int .i64 0, .int .i64 0, .int .u64 0, .int .u64 0, .slice none 0 0, .slice none 0 0]) (i := 0) hW (by omega)) (by omega)
/-- a log gone through by a row of accesses -/
def Cu.at (rs : List Res) (l : List Acc) (j : Nat) : Cu := if j ≤ rs.length then ⟨j, false, Acc.zero⟩ else ⟨rs.length, true, (l[rs.length]?).getD Acc.zero⟩
theorem Cu.at_lo {rs : List Res} {l : List Acc} {j : Nat} (h : j ≤ rs.length) : Cu.at rs l j = ⟨j, false, Acc.zero⟩ := if_pos h
theorem Cu.at_hi {rs : List Res} {l : List Acc} {j : Nat} (h : ¬ j ≤ rs.length) : Cu.at rs l j = ⟨rs.length, true, (l[rs.length]?).getD Acc.zero⟩ := if_neg h
theorem Cu.at_next {rs : List Res} {l : List Acc} {j : Nat} {x : Acc} (hx : l[j]? = some x) : (Cu.at rs l j).next rs x = Cu.at rs l (j + 1) := by
  rcases Nat.lt_trichotomy j rs.length with h | h | h
  · rw [Cu.at_lo (Nat.le_of_lt h), Cu.at_lo h]; simp [Cu.next, h]
  · subst h; rw [Cu.at_lo (Nat.le_refl _), Cu.at_hi (by omega)]; simp [Cu.next, hx]
  · rw [Cu.at_hi (by omega), Cu.at_hi (by omega)]; simp [Cu.next]
theorem Cu.at_sum {rs : List Res} {l : List Acc} {j : Nat} : IntKind.u64.wrap (lineSum rs j + ((Cu.at rs l j).told rs).n) = lineSum rs (j + 1) := by
  rcases Nat.lt_or_ge j rs.length with h | h
  · rw [Cu.at_lo (Nat.le_of_lt h)]
    have hd : rs.drop j = rs[j] :: rs.drop (j + 1) := List.drop_eq_getElem_cons h
    rw [← lineSum_step hd]
    simp [Cu.told, h]
  · have h0 : lineSum rs j = lineSum rs (j + 1) := by
      unfold lineSum
      rw [List.take_of_length_le (by omega), List.take_of_length_le (by omega)]
    have hz : IntKind.u64.wrap (lineSum rs (j + 1)) = lineSum rs (j + 1) := by
      simp only [lineSum, IntKind.wrap_u64]; omega
    rw [h0]
    rcases Nat.lt_or_ge rs.length j with h' | h'
    · rw [Cu.at_hi (by omega)]; simp [Cu.told, Res.zero, hz]
    · rw [Cu.at_lo (by omega)]; simp [Cu.told, Res.zero, hz, List.getElem?_eq_none h]
theorem four_boxes (w : World) (o0 o1 o2 o3 : Obj) :
    Ext w ((((w.alloc o0).alloc o1).alloc o2).alloc o3) ∧ ((((w.alloc o0).alloc o1).alloc o2).alloc o3).heap.size = w.heap.size + 4 ∧
    ((((w.alloc o0).alloc o1).alloc o2).alloc o3).heap[w.heap.size]? = some o0 ∧ ((((w.alloc o0).alloc o1).alloc o2).alloc o3).heap[w.heap.size + 1]? = some o1 ∧ ((((w.alloc o0).alloc o1).alloc o2).alloc o3).heap[w.heap.size + 1 + 1]? = some o2 ∧
    ((((w.alloc o0).alloc o1).alloc o2).alloc o3).heap[w.heap.size + 1 + 1 + 1]? = some o3 := by
  refine ⟨(((((Below.refl _ w).alloc (Nat.le_refl _) _).alloc (by simp) _).alloc (by simp; omega) _).alloc (by simp; omega) _), by simp, ?_, ?_, ?_, ?_⟩
  · rw [Below.heap_alloc _ _ _ (by first | (simp; omega) | simp), Below.heap_alloc _ _ _ (by first | (simp; omega) | simp), Below.heap_alloc _ _ _ (by first | (simp; omega) | simp)]
    simpa using heap_alloc_new w o0
  · rw [Below.heap_alloc _ _ _ (by first | (simp; omega) | simp), Below.heap_alloc _ _ _ (by first | (simp; omega) | simp)]
    simpa using heap_alloc_new (w.alloc o0) o1
  · rw [Below.heap_alloc _ _ _ (by first | (simp; omega) | simp)]
    simpa using heap_alloc_new ((w.alloc o0).alloc o1) o2
  · simpa using heap_alloc_new (((w.alloc o0).alloc o1).alloc o2) o3
theorem LogV.low {w : World} {a : Addr} {n c : Nat} {rs : List Res} (h : LogV w (some a) n c rs) (hn : 0 < n) : a.block < w.heap.size := by
  obtain ⟨b, hb, hc⟩ := h.at_ 0 (rs[0]'(by rw [h.len]; exact hn)) (List.getElem?_eq_getElem _)
  obtain rfl : a = b := Option.some.inj hb
  have := lt_of_cell hc.1
  rwa [add_block] at this
set_option maxRecDepth 100000 in
set_option maxHeartbeats 4000000 in
theorem rline_any (A : Option Addr) (n c : Nat) (l : List Acc) (B : Option Addr) (k kc : Nat) (rs : List Res) (w : World) (hl : AccsV w A n c l) (hn : n ≤ 65536) (hlog : LogV w B k kc rs) :
    Calls Try.prog 18 #[.slice A n c, .slice B k kc] w fun e w' => e = lineEnd l rs ∧ Ext w w' := by
  have hlen : l.length = n := hl.len
  have hmk : ∀ W : World, (Instr.build 113 #[(0, .slice B k kc)]).run Try.prog W = .ok (.agg #[.slice B k kc, .int .i64 0, .bool false, .int .i64 0, .int .i64 0, .int .u64 0, .int .u64 0, .slice none 0 0, .slice none 0 0]) W := fun _ => by kernel_rfl
  have hmk2 : ∀ W : World, (Instr.build 34 #[(2, .int .i64 n)]).run Try.prog W = .ok (.agg #[.int .i64 0, .bool false, .int .i64 n, .int .u64 0, .slice none 0 0]) W := fun _ => by kernel_rfl
  have hwn : IntKind.i64.wrap (n : Int) = (n : Int) := by rw [IntKind.wrap_i64]; omega
  go_enter Try.func18, Try.ntmps18
  go_upto_region 3 with (fail)
  obtain ⟨hW, hsz, hE, hD, hC, hO⟩ := four_boxes w (.cells #[.int .i64 0, .int .i64 0, .int .u64 0, .int .u64 0, .slice none 0 0, .slice none 0 0] 30) (.cells #[.int .i64 0, .bool false, .int .i64 0, .int .u64 0, .slice none 0 0] 34)
    (.cells #[.slice B k kc, .int .i64 0, .bool false, .int .i64 0, .int .i64 0, .int .u64 0, .int .u64 0, .slice none 0 0, .slice none 0 0] 113) (.cells #[.int .i64 0, .bool false, .int .i64 n, .int .u64 0, .slice none 0 0] 34)
  generalize (((w.alloc (.cells #[.int .i64 0, .int .i64 0, .int .u64 0, .int .u64 0, .slice none 0 0, .slice none 0 0] 30)).alloc (.cells #[.int .i64 0, .bool false, .int .i64 0, .int .u64 0, .slice none 0 0] 34)).alloc
    (.cells #[.slice B k kc, .int .i64 0, .bool false, .int .i64 0, .int .i64 0, .int .u64 0, .int .u64 0, .slice none 0 0, .slice none 0 0] 113)).alloc (.cells #[.int .i64 0, .bool false, .int .i64 n, .int .u64 0, .slice none 0 0] 34) = W at *
  have hsep : ∀ a, B = some a → 0 < k → a.block ≠ w.heap.size + 1 + 1 := fun a ha hk => by subst ha; have := hlog.low hk; omega
  have hsepA : ∀ a, A = some a → 0 < n → a.block < w.heap.size := fun a ha hk => by subst ha; exact hl.low hk
  go_wp2
  go_loopw [9] (fun i wr => ∃ j : Nat, j ≤ n ∧ i = .int .i64 j ∧ CurAt wr (w.heap.size + 1 + 1) B k kc (Cu.at rs l j) ∧ wr.heap[w.heap.size + 1 + 1 + 1]? = some (.cells #[.int .i64 0, .bool false, .int .i64 n, .int .u64 (lineSum rs j), .slice none 0 0] 34 (0, 0)) ∧
    wr.heap[w.heap.size]? = some (.cells #[.int .i64 0, .int .i64 0, .int .u64 0, .int .u64 0, .slice none 0 0, .slice none 0 0] 30 (0, 0)) ∧ wr.heap[w.heap.size + 1]? = some (.cells #[.int .i64 0, .bool false, .int .i64 0, .int .u64 0, .slice none 0 0] 34 (0, 0)) ∧ Ext w wr) (fun i _ => n - (intOf i).toNat)
  case atStart => exact ⟨0, Nat.zero_le _, rfl, hC, hO, hE, hD, hW⟩
  case round =>
    clear hC hO hE hD hW hsz
    obtain ⟨j, hj, rfl, hC, hO, hE, hD, hx⟩ := hrel
    rcases Nat.lt_or_ge j n with hjn | hjn
    · obtain ⟨a, rfl, hxa⟩ := hl.at_ j (l[j]'(by rw [hl.len]; exact hjn)) (List.getElem?_eq_getElem _)
      have hlx : l[j]? = some (l[j]'(by rw [hl.len]; exact hjn)) := List.getElem?_eq_getElem _
      generalize (l[j]'(by rw [hl.len]; exact hjn)) = x at *
      obtain ⟨x0, x1, x2, x3, x4, x5, x6, x7, x8, x9⟩ := x
      have y0 := hx.cell (hxa 0 (.int .i64 x0) rfl)
      rw [show ((a.add (j * 6)).add 0) = a.add (j * 6) from rfl] at y0
      have y1 := hx.cell (hxa 1 (.int .i64 x1) rfl)
      rw [show ((a.add (j * 6)).add 1) = ⟨(a.add (j * 6)).block, (a.add (j * 6)).off + 1, none⟩ from rfl] at y1
      have y2 := hx.cell (hxa 2 (.int .u64 x2) rfl)
      rw [show ((a.add (j * 6)).add 2) = ⟨(a.add (j * 6)).block, (a.add (j * 6)).off + 2, none⟩ from rfl] at y2
      have y3 := hx.cell (hxa 3 (.int .u64 x3) rfl)
      rw [show ((a.add (j * 6)).add 3) = ⟨(a.add (j * 6)).block, (a.add (j * 6)).off + 3, none⟩ from rfl] at y3
      have y4 := hx.cell (hxa 4 (.slice x4 x5 x6) rfl)
      rw [show ((a.add (j * 6)).add 4) = ⟨(a.add (j * 6)).block, (a.add (j * 6)).off + 4, none⟩ from rfl] at y4
      have y5 := hx.cell (hxa 5 (.slice x7 x8 x9) rfl)
      rw [show ((a.add (j * 6)).add 5) = ⟨(a.add (j * 6)).block, (a.add (j * 6)).off + 5, none⟩ from rfl] at y5
      go_wp2_with fail
      refine (rdo_any ⟨x0, x1, x2, x3, x4, x5, x6, x7, x8, x9⟩ (w.heap.size + 1 + 1) B k kc (Cu.at rs l j) rs _ (hlog.ext hx) hsep hC).mono ?_
      rintro e w1 ⟨rfl, hC1, hB1⟩
      rw [Cu.at_next hlx] at hC1
      have hsum := Cu.at_sum (rs := rs) (l := l) (j := j)
      generalize (Cu.at rs l j).told rs = r at *
      have hO1 := hB1.heap hO (by omega)
      have hE1 := hB1.heap hE (by omega)
      have hD1 := hB1.heap hD (by omega)
      have hx1 := hB1.ext hx (by omega)
      clear hC hO hE hD hx y0 y1 y2 y3 y4 y5 hB1 hxa
      obtain ⟨rn, rA, rk, rc, rf⟩ := r
      simp only at hsum ⊢
      go_upto_region 7 with (fail)
      have hW3 : Ext w1 (w1.alloc (.cells #[.int .u64 rn, .slice rA rk rc, .bool rf] 107)) := (Below.refl _ w1).alloc (Nat.le_refl _) _
      have hr3 : (w1.alloc (.cells #[.int .u64 rn, .slice rA rk rc, .bool rf] 107)).heap[w1.heap.size]? = some (.cells #[.int .u64 rn, .slice rA rk rc, .bool rf] 107 (0, 0)) := heap_alloc_new w1 _
      have hC3 : CurAt _ _ _ _ _ _ := heap_ext hC1 hW3
      have hO3 := heap_ext hO1 hW3
      have hE3 := heap_ext hE1 hW3
      have hD3 := heap_ext hD1 hW3
      have hx3 := hx1.trans hW3
      have hlt : w.heap.size + 1 + 1 + 1 < w1.heap.size := (Array.getElem?_eq_some_iff.1 hO1).1
      clear hC1 hO1 hE1 hD1 hx1 hW3
      generalize w1.alloc (.cells #[.int .u64 rn, .slice rA rk rc, .bool rf] 107) = W3 at *
      generalize w1.heap.size = g3 at *
      have z3 : W3.cell? ⟨w.heap.size + 1 + 1 + 1, 3, none⟩ = some (.int .u64 (lineSum rs j)) := by simp [World.cell?, hO3]
      have f3 : W3.frozen? ⟨w.heap.size + 1 + 1 + 1, 3, none⟩ = false := by simp [World.frozen?, hO3]
      have r0 : W3.cell? ⟨g3, 0, none⟩ = some (.int .u64 rn) := by simp [World.cell?, hr3]
      have HC := Lib.hid hC3
      have HO := Lib.hid hO3
      have HE := Lib.hid hE3
      have HD := Lib.hid hD3
      clear hC3 hO3 hE3 hD3 hr3
      go_wp2
      go_roundw
      case rel => exact ⟨j + 1, by omega, by go_num, by rw [CurAt, Below.heap_setCell _ _ _ _ (by simp)]; exact HC.out, by rw [heap_setCell_at HO.out]; rfl,
        by rw [Below.heap_setCell _ _ _ _ (by first | (simp; omega) | simp)]; exact HE.out, by rw [Below.heap_setCell _ _ _ _ (by first | (simp; omega) | simp)]; exact HD.out, hx3.setCell (by first | (simp; omega) | simp) _⟩
      case measure => simp [intOf]; omega
    · obtain rfl : j = n := by omega
      have o0 : wr.cell? ⟨w.heap.size + 1 + 1 + 1, 0, none⟩ = some (.int .i64 0) := by simp [World.cell?, hO]
      have o1 : wr.cell? ⟨w.heap.size + 1 + 1 + 1, 1, none⟩ = some (.bool false) := by simp [World.cell?, hO]
      have o2 : wr.cell? ⟨w.heap.size + 1 + 1 + 1, 2, none⟩ = some (.int .i64 j) := by simp [World.cell?, hO]
      have o3 : wr.cell? ⟨w.heap.size + 1 + 1 + 1, 3, none⟩ = some (.int .u64 (lineSum rs j)) := by simp [World.cell?, hO]
      have o4 : wr.cell? ⟨w.heap.size + 1 + 1 + 1, 4, none⟩ = some (.slice none 0 0) := by simp [World.cell?, hO]
      have htold := told_any (w.heap.size + 1 + 1) B k kc (Cu.at rs l j) ⟨0, false, j, lineSum rs j⟩ wr hC
      have hcl : Calls Try.prog 57 #[.pointer (some ⟨w.heap.size + 1 + 1, 0, none⟩), .agg #[.int .i64 0, .bool false, .int .i64 j, .int .u64 (lineSum rs j), .slice none 0 0]] wr fun e w' =>
          ∃ (x : Acc) (o : OutN) (d : Bool), e = .returned (.tuple #[.agg x.cells, .agg o.cells, .bool d]) ∧ lineEnd l rs = e ∧ Ext wr w' := htold.mono fun e w' ⟨he, hx'⟩ => by
        refine ⟨_, _, _, he, ?_, hx'⟩
        rw [he]
        by_cases hle : j ≤ rs.length
        · rw [Cu.at_lo hle]
          simp only [lineEnd, hlen, if_pos hle]; rfl
        · have hlt : rs.length < l.length := by omega
          rw [Cu.at_hi hle]
          simp only [lineEnd, hlen, if_neg hle, List.getElem?_eq_getElem hlt, Option.elim]; rfl
      clear htold hC
      go_wp2_with fail
      refine hcl.mono ?_
      rintro e w1 ⟨⟨x0, x1, x2, x3, x4, x5, x6, x7, x8, x9⟩, ⟨p0, p1, p2, p3⟩, b, rfl, hend, hx1⟩
      have hE1 := heap_ext hE hx1
      have hD1 := heap_ext hD hx1
      have hx2 := hx.trans hx1
      clear hE hD hO hx hx1 hl hlog o0 o1 o2 o3 o4 hcl
      simp only [Acc.cells, OutN.cells] at hend ⊢
      have e0 : w1.cell? ⟨w.heap.size, 0, none⟩ = some (.int .i64 0) := by simp [World.cell?, hE1]
      have ef0 : w1.frozen? ⟨w.heap.size, 0, none⟩ = false := by simp [World.frozen?, hE1]
      have e1 : w1.cell? ⟨w.heap.size, 1, none⟩ = some (.int .i64 0) := by simp [World.cell?, hE1]
      have ef1 : w1.frozen? ⟨w.heap.size, 1, none⟩ = false := by simp [World.frozen?, hE1]
      have e2 : w1.cell? ⟨w.heap.size, 2, none⟩ = some (.int .u64 0) := by simp [World.cell?, hE1]
      have ef2 : w1.frozen? ⟨w.heap.size, 2, none⟩ = false := by simp [World.frozen?, hE1]
      have e3 : w1.cell? ⟨w.heap.size, 3, none⟩ = some (.int .u64 0) := by simp [World.cell?, hE1]
      have ef3 : w1.frozen? ⟨w.heap.size, 3, none⟩ = false := by simp [World.frozen?, hE1]
      have e4 : w1.cell? ⟨w.heap.size, 4, none⟩ = some (.slice none 0 0) := by simp [World.cell?, hE1]
      have ef4 : w1.frozen? ⟨w.heap.size, 4, none⟩ = false := by simp [World.frozen?, hE1]
      have e5 : w1.cell? ⟨w.heap.size, 5, none⟩ = some (.slice none 0 0) := by simp [World.cell?, hE1]
      have ef5 : w1.frozen? ⟨w.heap.size, 5, none⟩ = false := by simp [World.frozen?, hE1]
      have d0 : w1.cell? ⟨w.heap.size + 1, 0, none⟩ = some (.int .i64 0) := by simp [World.cell?, hD1]
      have df0 : w1.frozen? ⟨w.heap.size + 1, 0, none⟩ = false := by simp [World.frozen?, hD1]
      have d1 : w1.cell? ⟨w.heap.size + 1, 1, none⟩ = some (.bool false) := by simp [World.cell?, hD1]
      have df1 : w1.frozen? ⟨w.heap.size + 1, 1, none⟩ = false := by simp [World.frozen?, hD1]
      have d2 : w1.cell? ⟨w.heap.size + 1, 2, none⟩ = some (.int .i64 0) := by simp [World.cell?, hD1]
      have df2 : w1.frozen? ⟨w.heap.size + 1, 2, none⟩ = false := by simp [World.frozen?, hD1]
      have d3 : w1.cell? ⟨w.heap.size + 1, 3, none⟩ = some (.int .u64 0) := by simp [World.cell?, hD1]
      have df3 : w1.frozen? ⟨w.heap.size + 1, 3, none⟩ = false := by simp [World.frozen?, hD1]
      have d4 : w1.cell? ⟨w.heap.size + 1, 4, none⟩ = some (.slice none 0 0) := by simp [World.cell?, hD1]
      have df4 : w1.frozen? ⟨w.heap.size + 1, 4, none⟩ = false := by simp [World.frozen?, hD1]
      clear hE1 hD1
      go_wp2
      refine bodyPost_ret (v := .tuple #[.agg #[.int .i64 x0, .int .i64 x1, .int .u64 x2, .int .u64 x3, .slice x4 x5 x6, .slice x7 x8 x9], .agg #[.int .i64 p0, .bool p1, .int .i64 p2, .int .u64 p3, .slice none 0 0], .bool b]) (by simp [results, Try.results18, go_sem, e0, e1, e2, e3, e4, e5, d0, d1, d2, d3, d4]) rfl ⟨hend.symm, ?_⟩
      exact setAll_ext (g := w.heap.size + 1) (vs := [.int .i64 p0, .bool p1, .int .i64 p2, .int .u64 p3, .slice none 0 0]) (i := 0) (setAll_ext (g := w.heap.size) (vs := [.int .i64 x0, .int .i64 x1, .int .u64 x2, .int .u64 x3, .slice x4 x5 x6, .slice x7 x8 x9]) (i := 0) hx2 (by omega)) (by omega)
end Go.Proofs.Ythgcpfofdbdkpaa
