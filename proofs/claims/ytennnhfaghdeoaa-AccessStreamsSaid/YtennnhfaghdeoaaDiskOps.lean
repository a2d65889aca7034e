import Derived.Test.YtennnhfaghdeoaaDiskTurn
import Derived.Laws.MakeOwn
namespace Go.Proofs.Ytennnhfaghdeoaa
open Go.RowKit

/-! What is done with disks. -/
theorem Cells.setAll {w : World} {A : Option Addr} {xs : List Value} (h : Cells w A xs) {g : Nat} (hp : xs ≠ [] → ∀ a, A = some a → a.block ≠ g) (i : Nat) (vs : List Value) : Cells (setAll g i vs w) A xs := fun hn =>
 let ⟨a, ha, hc⟩ := h hn
 ⟨a, ha, fun j v hv => by
  rw [World.cell?_of_block (setAll_other (by rw [add_block]; exact hp hn a ha) vs i w)]
  exact hc j v hv⟩
theorem three_boxes7 (w : World) (o0 o1 o2 : Obj) :
  Ext w (((w.alloc o0).alloc o1).alloc o2) ∧ (((w.alloc o0).alloc o1).alloc o2).heap.size = w.heap.size + 3 ∧
  (((w.alloc o0).alloc o1).alloc o2).heap[w.heap.size]? = some o0 ∧ (((w.alloc o0).alloc o1).alloc o2).heap[w.heap.size + 1]? = some o1 ∧ (((w.alloc o0).alloc o1).alloc o2).heap[w.heap.size + 1 + 1]? = some o2 := by
 refine ⟨((((Below.refl _ w).alloc (Nat.le_refl _) _).alloc (by simp) _).alloc (by simp; omega) _), by simp, ?_, ?_, ?_⟩
 ·rw [Below.heap_alloc _ _ _ (by first | (simp; omega) | simp), Below.heap_alloc _ _ _ (by first | (simp; omega) | simp)]
  simpa using heap_alloc_new w o0
 ·rw [Below.heap_alloc _ _ _ (by first | (simp; omega) | simp)]
  simpa using heap_alloc_new (w.alloc o0) o1
 ·simpa using heap_alloc_new ((w.alloc o0).alloc o1) o2
/-- what stands in a disk's box: numbers and slices -/
def diskish : Value → Bool
 | .slice _ _ _ => true
 | .int .u64 _ => true
 | _ => false
theorem apart_of {w : World} {A : Option Addr} {xs : List Value} (h : Cells w A xs) {g : Nat} {cs : Array Value} {T : TypeId} {fr : Nat × Nat} (hg : w.heap[g]? = some (.cells cs T fr)) (hd : ∀ v ∈ cs, diskish v = true) (hx : xs ≠ [] → ∃ v ∈ xs, diskish v = false) :
  xs ≠ [] → ∀ a, A = some a → a.block ≠ g := fun hn a ha hb => by
 obtain ⟨a', ha', hcell⟩ := h hn
 obtain rfl : a = a' := Option.some.inj (ha.symm.trans ha')
 obtain ⟨v, hv, hf⟩ := hx hn
 obtain ⟨j, hj⟩ := List.getElem?_of_mem hv
 have h1 := hcell j v hj
 unfold World.cell? at h1
 rw [add_block, hb, hg] at h1
 simp only at h1
 split at h1
 ·cases h1
 ·have := hd v (Array.mem_of_getElem? h1)
  rw [hf] at this; cases this
theorem StOK.box {w : World} {s : St} (h : StOK w s) {g : Nat} {cs : Array Value} {T : TypeId} {fr : Nat × Nat} (hg : w.heap[g]? = some (.cells cs T fr)) (hd : ∀ v ∈ cs, diskish v = true) (i : Nat) (vs : List Value) : StOK (setAll g i vs w) s :=
 ⟨h.len, h.le, h.cap, h.nil, h.cells.setAll (apart_of h.cells hg hd fun hn => by
  match hs : s.d, hn with
  | [], hn => exact absurd rfl hn
  | x :: d, hn => exact ⟨_, List.mem_cons_self .., rfl⟩) i vs⟩
theorem RowV.box {w : World} {A : Option Addr} {n c : Nat} {l : List St} (h : RowV w A n c l) {g : Nat} {cs : Array Value} {T : TypeId} {fr : Nat × Nat} (hg : w.heap[g]? = some (.cells cs T fr)) (hd : ∀ v ∈ cs, diskish v = true) (i : Nat) (vs : List Value) : RowV (setAll g i vs w) A n c l :=
 ⟨h.len, h.le, h.cap, h.nil, h.cells.setAll (apart_of h.cells hg hd fun hn => by
  match l, hn with
  | [], hn => exact absurd rfl hn
  | x :: l, hn => exact ⟨.int .i64 x.k, by simp [rowCells, St.cells], rfl⟩) i vs, fun s hs => (h.ok s hs).box hg hd i vs⟩
theorem diskish_three {a b c : Value} (v : Value) (hv : v ∈ #[a, b, c]) (ha : diskish a = true) (hb : diskish b = true) (hc : diskish c = true) : diskish v = true := by
 simp at hv
 rcases hv with rfl | rfl | rfl <;> assumption
theorem made_row (n : Nat) : madeCells (Value.agg #[.slice none 0 0, .int .i64 0]).cells (n * 2) = (rowCells (List.replicate n St.zero)).toArray := by
 refine Array.ext_getElem? fun i => ?_
 have hlen : (rowCells (List.replicate n St.zero)).length = n * 2 := by rw [rowCells_length, List.length_replicate]
 by_cases hi : i < n * 2
 ·have hj : (List.replicate n St.zero)[i / 2]? = some St.zero := by rw [List.getElem?_replicate]; simp; omega
  obtain ⟨h1, h2⟩ := rowCells_at hj
  have hz : (Value.agg #[.slice none 0 0, .int .i64 0]).cells = #[.slice none 0 0, .int .i64 0] := rfl
  rcases Nat.mod_two_eq_zero_or_one i with hm | hm
  ·rw [show i = i / 2 * 2 by omega]
   simp only [List.getElem?_toArray]
   rw [h1]
   simp [madeCells, hz, St.zero, show i / 2 * 2 < n * 2 by omega]
  ·rw [show i = i / 2 * 2 + 1 by omega]
   simp only [List.getElem?_toArray]
   rw [h2]
   simp [madeCells, hz, St.zero, show i / 2 * 2 + 1 < n * 2 by omega, Nat.add_mod]
 ·rw [Array.getElem?_eq_none (by rw [size_madeCells]; omega), List.getElem?_toArray, List.getElem?_eq_none (by omega)]
theorem zero_ok {w : World} {n : Nat} : ∀ s ∈ List.replicate n St.zero, StOK w s := fun s hs => by
 obtain ⟨_, rfl⟩ := List.mem_replicate.1 hs
 exact StOK.zero w
theorem RowV.made {w : World} {g n : Nat} {T : TypeId} {fr : Nat × Nat} {l : List St} (hg : w.heap[g]? = some (.cells (rowCells l).toArray T fr)) (hl : l.length = n) (hn : n ≤ 65536) (hok : ∀ s ∈ l, StOK w s) : RowV w (some ⟨g, 0, none⟩) n n l := by
 refine ⟨hl, Nat.le_refl _, by simp only [maxLen]; omega, (by intro h; cases h), fun _ => ⟨_, rfl, fun j u hu => ?_⟩, hok⟩
 have h2 : (⟨g, 0, none⟩ : Addr).add j = ⟨g, j, none⟩ := by unfold Addr.add; split <;> simp_all
 rw [h2]
 simp only [World.cell?, hg, Option.isSome_none, Bool.false_eq_true, if_false]
 simpa using hu
theorem run_mkrow (n : Nat) (hn : n ≤ 65536) (W : World) : (Instr.makeSlice 27 (.int .i64 (n : Int)) (.int .i64 (n : Int))).run Try.prog W = .ok (.slice (some ⟨W.heap.size, 0, none⟩) n n) (W.alloc (.cells (rowCells (List.replicate n St.zero)).toArray 90)) := by
 obtain ⟨i0, hi0, hz0, hz1, hz2⟩ := info_parts info_stream
 have := run_make (P := Try.prog) W 27 90 i0 _ Try.underlying27 hi0 hz0 .i64 .i64 (n : Int) (n : Int) (by omega) (Int.le_refl _) (by rw [hz2]; omega) (by omega)
 simp only [Int.toNat_natCast, hz1] at this
 rw [this, made_row]
set_option maxRecDepth 100000 in
set_option maxHeartbeats 1000000 in
/-- the closure of disk.Append -/
theorem appendc_any (g : Nat) (A B : Option Addr) (n c m c2 : Nat) (k : Int) (d b : List UInt8) (w : World) (hg : w.cell? ⟨g, 0, none⟩ = some (.slice B m c2)) (hA : BytesV w A n c d) (hB : BytesV w B m c2 b) (hs : n + m ≤ 65536) :
  Calls Try.prog 92 #[.agg #[.slice A n c, .int .i64 k], .pointer (some ⟨g, 0, none⟩)] w fun e w' =>
   ∃ A' c', e = .returned (.agg #[.slice A' (n + m) c', .int .i64 k]) ∧ BytesV w' A' (n + m) c' (d ++ b) ∧ (d ++ b ≠ [] → ∀ a, A' = some a → (A' = A ∧ d ≠ []) ∨ w.heap.size ≤ a.block) ∧ Ext w w' := by
 go_enter Try.func92, Try.ntmps92
 go_upto_region 1 with (fail)
 obtain ⟨hW, hE, hO⟩ := two_boxes7 w (.cells #[.slice A n c, .int .i64 k] 90) (.cells #[.slice none 0 0, .int .i64 0] 90)
 generalize (w.alloc (.cells #[.slice A n c, .int .i64 k] 90)).alloc (.cells #[.slice none 0 0, .int .i64 0] 90) = W at *
 have e0 : W.cell? ⟨w.heap.size, 0, none⟩ = some (.slice A n c) := by simp [World.cell?, hE]
 have e1 : W.cell? ⟨w.heap.size, 1, none⟩ = some (.int .i64 k) := by simp [World.cell?, hE]
 have hg' := hW.cell hg
 have hlt : w.heap.size + 1 < W.heap.size := (Array.getElem?_eq_some_iff.1 hO).1
 have hsz := hW.size
 go_wp2_with fail
 refine (append_new A B n c m c2 k d b _ (hA.ext hW) (hB.ext hW) hs).mono ?_
 rintro e w1 ⟨A', c', rfl, hV, hfar, hx1⟩
 replace hO := heap_ext hO hx1
 have hX := hW.trans hx1
 clear e0 e1 hg' hE
 have d0 : w1.cell? ⟨w.heap.size + 1, 0, none⟩ = some (.slice none 0 0) := by simp [World.cell?, hO]
 have df0 : w1.frozen? ⟨w.heap.size + 1, 0, none⟩ = false := by simp [World.frozen?, hO]
 have d1 : w1.cell? ⟨w.heap.size + 1, 1, none⟩ = some (.int .i64 0) := by simp [World.cell?, hO]
 have df1 : w1.frozen? ⟨w.heap.size + 1, 1, none⟩ = false := by simp [World.frozen?, hO]
 have hlow := (show StOK w ⟨A, n, c, k, d⟩ from hA).low
 have hblk : d ++ b ≠ [] → ∀ a, A' = some a → a.block ≠ w.heap.size + 1 := fun hne a ha => by
  rcases hfar hne a ha with ⟨rfl, hd⟩ | h
  ·have := hlow hd a ha; omega
  ·omega
 clear hO
 go_wp2
 refine bodyPost_ret (v := .agg #[.slice A' (n + m) c', .int .i64 k]) (by simp [results, Try.results92, go_sem, d0, d1]) rfl ⟨A', c', rfl, ?_, ?_, ?_⟩
 ·exact ((show StOK w1 ⟨A', n + m, c', k, d ++ b⟩ from hV).set (p := ⟨w.heap.size + 1, 0, none⟩) hblk _).set (p := ⟨w.heap.size + 1, 1, none⟩) hblk _
 ·intro hne a ha
  rcases hfar hne a ha with h | h
  ·exact .inl h
  ·exact .inr (by omega)
 ·exact (hX.setCell (by simp) _).setCell (by simp) _
set_option maxRecDepth 100000 in
set_option maxHeartbeats 1000000 in
theorem dappend_row0 (R : Int) (A0 A1 : Option Addr) (n0 c0 n1 c1 : Nat) (i : Nat) (l : List St) (s : St) (B : Option Addr) (m c2 : Nat) (b : List UInt8) (w : World) (hrow : RowV w A0 n0 c0 l) (hs : l[i]? = some s) (hn0 : n0 ≤ 65536) (hn1 : n1 ≤ 65536)
  (hB : BytesV w B m c2 b) (hm : s.q + m ≤ 65536) :
  Calls Try.prog 67 #[.agg #[.int .u64 R, .slice A0 n0 c0, .slice A1 n1 c1], .int .i64 0, .int .i64 i, .slice B m c2] w fun e w' =>
   ∃ (A' : Option Addr) (c' : Nat) (s' : St), e = .returned (.tuple #[.agg #[.int .u64 R, .slice A' n0 c', .slice A1 n1 c1], .int .i64 0]) ∧ RowV w' A' n0 c' (l.set i s') ∧ (s'.q = s.q + m ∧ s'.k = s.k ∧ s'.d = s.d ++ b) ∧ Ext w w' := by
 have hmf : ∀ (fn : Fn) (first cap : Array Value) (w : World), (Instr.makeFunc fn first cap).run Try.prog w = .ok (.func fn first cap) w := fun _ _ _ _ => rfl
 have hsok := hrow.ok s (List.mem_of_getElem? hs)
 go_enter Try.func67, Try.ntmps67
 go_upto_region 1 with (fail)
 obtain ⟨hW, -, hE, hG, hO⟩ := three_boxes7 w (.cells #[.int .u64 R, .slice A0 n0 c0, .slice A1 n1 c1] 30) (.cells #[.slice B m c2] 40) (.cells #[.int .u64 0, .slice none 0 0, .slice none 0 0] 30)
 generalize ((w.alloc (.cells #[.int .u64 R, .slice A0 n0 c0, .slice A1 n1 c1] 30)).alloc (.cells #[.slice B m c2] 40)).alloc (.cells #[.int .u64 0, .slice none 0 0, .slice none 0 0] 30) = W at *
 have e0 : W.cell? ⟨w.heap.size, 0, none⟩ = some (.int .u64 R) := by simp [World.cell?, hE]
 have e1 : W.cell? ⟨w.heap.size, 1, none⟩ = some (.slice A0 n0 c0) := by simp [World.cell?, hE]
 have e2 : W.cell? ⟨w.heap.size, 2, none⟩ = some (.slice A1 n1 c1) := by simp [World.cell?, hE]
 have hgc : W.cell? ⟨w.heap.size + 1, 0, none⟩ = some (.slice B m c2) := by simp [World.cell?, hG]
 have hby : ∀ W', Ext W W' → Calls Try.prog 92 (#[.agg #[.slice s.D s.q s.cd, .int .i64 s.k]] ++ #[.pointer (some ⟨w.heap.size + 1, 0, none⟩)]) W' fun e w' => ∃ s' : St, e = .returned (.agg #[.slice s'.D s'.q s'.cd, .int .i64 s'.k]) ∧
   (s'.q = s.q + m ∧ s'.k = s.k ∧ s'.d = s.d ++ b) ∧ StOK w' s' ∧ (s'.d ≠ [] → ∀ a, s'.D = some a → a.block < W.heap.size ∨ W'.heap.size ≤ a.block) ∧ Ext W' w' := fun W' hx =>
  (appendc_any (w.heap.size + 1) s.D B s.q s.cd m c2 s.k s.d b W' (hx.cell hgc) ((hsok.ext hW).ext hx) ((hB.ext hW).ext hx) hm).mono fun e w' ⟨A', c', he, hV, hfar, hx'⟩ =>
   ⟨⟨A', s.q + m, c', s.k, s.d ++ b⟩, he, ⟨rfl, rfl, rfl⟩, hV, fun hd a ha => by
    rcases hfar hd a ha with ⟨h1, h2⟩ | h
    ·exact .inl ((hsok.ext hW).low h2 a (h1 ▸ ha))
    ·exact .inr h, hx'⟩
 go_wp2_with fail
 refine (turn_row0 R A0 A1 n0 c0 n1 c1 i l s 92 #[.pointer (some ⟨w.heap.size + 1, 0, none⟩)] (fun s' => s'.q = s.q + m ∧ s'.k = s.k ∧ s'.d = s.d ++ b) W (hrow.ext hW) hs hn0 hn1 Try.call92 hby).mono ?_
 rintro e w1 ⟨A', c', s', rfl, hr, hg, hx1⟩
 replace hO := heap_ext hO hx1
 replace hW := hW.trans hx1
 clear hby e0 e1 e2 hgc hE hG
 have d0 : w1.cell? ⟨w.heap.size + 1 + 1, 0, none⟩ = some (.int .u64 0) := by simp [World.cell?, hO]
 have df0 : w1.frozen? ⟨w.heap.size + 1 + 1, 0, none⟩ = false := by simp [World.frozen?, hO]
 have d1 : w1.cell? ⟨w.heap.size + 1 + 1, 1, none⟩ = some (.slice none 0 0) := by simp [World.cell?, hO]
 have df1 : w1.frozen? ⟨w.heap.size + 1 + 1, 1, none⟩ = false := by simp [World.frozen?, hO]
 have d2 : w1.cell? ⟨w.heap.size + 1 + 1, 2, none⟩ = some (.slice none 0 0) := by simp [World.cell?, hO]
 have df2 : w1.frozen? ⟨w.heap.size + 1 + 1, 2, none⟩ = false := by simp [World.frozen?, hO]
 have hr2 := fun vs => hr.box hO (fun v hv => diskish_three v hv rfl rfl rfl) 0 vs
 clear hO hr
 go_wp2
 refine bodyPost_ret (v := .tuple #[.agg #[.int .u64 R, .slice A' n0 c', .slice A1 n1 c1], .int .i64 0]) (by simp [results, Try.results67, go_sem, d0, d1, d2]) rfl ⟨A', c', s', rfl, ?_, hg, ?_⟩
 ·exact hr2 [.int .u64 R, .slice A' n0 c', .slice A1 n1 c1]
 ·exact setAll_ext (g := w.heap.size + 1 + 1) (vs := [.int .u64 R, .slice A' n0 c', .slice A1 n1 c1]) (i := 0) hW (by omega)
set_option maxRecDepth 100000 in
set_option maxHeartbeats 1000000 in
theorem dappend_row1 (R : Int) (A0 A1 : Option Addr) (n0 c0 n1 c1 : Nat) (i : Nat) (l : List St) (s : St) (B : Option Addr) (m c2 : Nat) (b : List UInt8) (w : World) (hrow : RowV w A1 n1 c1 l) (hs : l[i]? = some s) (hn0 : n0 ≤ 65536) (hn1 : n1 ≤ 65536)
  (hB : BytesV w B m c2 b) (hm : s.q + m ≤ 65536) :
  Calls Try.prog 67 #[.agg #[.int .u64 R, .slice A0 n0 c0, .slice A1 n1 c1], .int .i64 1, .int .i64 i, .slice B m c2] w fun e w' =>
   ∃ (A' : Option Addr) (c' : Nat) (s' : St), e = .returned (.tuple #[.agg #[.int .u64 R, .slice A0 n0 c0, .slice A' n1 c'], .int .i64 0]) ∧ RowV w' A' n1 c' (l.set i s') ∧ (s'.q = s.q + m ∧ s'.k = s.k ∧ s'.d = s.d ++ b) ∧ Ext w w' := by
 have hmf : ∀ (fn : Fn) (first cap : Array Value) (w : World), (Instr.makeFunc fn first cap).run Try.prog w = .ok (.func fn first cap) w := fun _ _ _ _ => rfl
 have hsok := hrow.ok s (List.mem_of_getElem? hs)
 go_enter Try.func67, Try.ntmps67
 go_upto_region 1 with (fail)
 obtain ⟨hW, -, hE, hG, hO⟩ := three_boxes7 w (.cells #[.int .u64 R, .slice A0 n0 c0, .slice A1 n1 c1] 30) (.cells #[.slice B m c2] 40) (.cells #[.int .u64 0, .slice none 0 0, .slice none 0 0] 30)
 generalize ((w.alloc (.cells #[.int .u64 R, .slice A0 n0 c0, .slice A1 n1 c1] 30)).alloc (.cells #[.slice B m c2] 40)).alloc (.cells #[.int .u64 0, .slice none 0 0, .slice none 0 0] 30) = W at *
 have e0 : W.cell? ⟨w.heap.size, 0, none⟩ = some (.int .u64 R) := by simp [World.cell?, hE]
 have e1 : W.cell? ⟨w.heap.size, 1, none⟩ = some (.slice A0 n0 c0) := by simp [World.cell?, hE]
 have e2 : W.cell? ⟨w.heap.size, 2, none⟩ = some (.slice A1 n1 c1) := by simp [World.cell?, hE]
 have hgc : W.cell? ⟨w.heap.size + 1, 0, none⟩ = some (.slice B m c2) := by simp [World.cell?, hG]
 have hby : ∀ W', Ext W W' → Calls Try.prog 92 (#[.agg #[.slice s.D s.q s.cd, .int .i64 s.k]] ++ #[.pointer (some ⟨w.heap.size + 1, 0, none⟩)]) W' fun e w' => ∃ s' : St, e = .returned (.agg #[.slice s'.D s'.q s'.cd, .int .i64 s'.k]) ∧
   (s'.q = s.q + m ∧ s'.k = s.k ∧ s'.d = s.d ++ b) ∧ StOK w' s' ∧ (s'.d ≠ [] → ∀ a, s'.D = some a → a.block < W.heap.size ∨ W'.heap.size ≤ a.block) ∧ Ext W' w' := fun W' hx =>
  (appendc_any (w.heap.size + 1) s.D B s.q s.cd m c2 s.k s.d b W' (hx.cell hgc) ((hsok.ext hW).ext hx) ((hB.ext hW).ext hx) hm).mono fun e w' ⟨A', c', he, hV, hfar, hx'⟩ =>
   ⟨⟨A', s.q + m, c', s.k, s.d ++ b⟩, he, ⟨rfl, rfl, rfl⟩, hV, fun hd a ha => by
    rcases hfar hd a ha with ⟨h1, h2⟩ | h
    ·exact .inl ((hsok.ext hW).low h2 a (h1 ▸ ha))
    ·exact .inr h, hx'⟩
 go_wp2_with fail
 refine (turn_row1 R A0 A1 n0 c0 n1 c1 i l s 92 #[.pointer (some ⟨w.heap.size + 1, 0, none⟩)] (fun s' => s'.q = s.q + m ∧ s'.k = s.k ∧ s'.d = s.d ++ b) W (hrow.ext hW) hs hn0 hn1 Try.call92 hby).mono ?_
 rintro e w1 ⟨A', c', s', rfl, hr, hg, hx1⟩
 replace hO := heap_ext hO hx1
 replace hW := hW.trans hx1
 clear hby e0 e1 e2 hgc hE hG
 have d0 : w1.cell? ⟨w.heap.size + 1 + 1, 0, none⟩ = some (.int .u64 0) := by simp [World.cell?, hO]
 have df0 : w1.frozen? ⟨w.heap.size + 1 + 1, 0, none⟩ = false := by simp [World.frozen?, hO]
 have d1 : w1.cell? ⟨w.heap.size + 1 + 1, 1, none⟩ = some (.slice none 0 0) := by simp [World.cell?, hO]
 have df1 : w1.frozen? ⟨w.heap.size + 1 + 1, 1, none⟩ = false := by simp [World.frozen?, hO]
 have d2 : w1.cell? ⟨w.heap.size + 1 + 1, 2, none⟩ = some (.slice none 0 0) := by simp [World.cell?, hO]
 have df2 : w1.frozen? ⟨w.heap.size + 1 + 1, 2, none⟩ = false := by simp [World.frozen?, hO]
 have hr2 := fun vs => hr.box hO (fun v hv => diskish_three v hv rfl rfl rfl) 0 vs
 clear hO hr
 go_wp2
 refine bodyPost_ret (v := .tuple #[.agg #[.int .u64 R, .slice A0 n0 c0, .slice A' n1 c'], .int .i64 0]) (by simp [results, Try.results67, go_sem, d0, d1, d2]) rfl ⟨A', c', s', rfl, ?_, hg, ?_⟩
 ·exact hr2 [.int .u64 R, .slice A0 n0 c0, .slice A' n1 c']
 ·exact setAll_ext (g := w.heap.size + 1 + 1) (vs := [.int .u64 R, .slice A0 n0 c0, .slice A' n1 c']) (i := 0) hW (by omega)
set_option maxRecDepth 100000 in
set_option maxHeartbeats 1000000 in
theorem dsync_row0 (R : Int) (A0 A1 : Option Addr) (n0 c0 n1 c1 : Nat) (i : Nat) (l : List St) (s : St) (w : World) (hrow : RowV w A0 n0 c0 l) (hs : l[i]? = some s) (hn0 : n0 ≤ 65536) (hn1 : n1 ≤ 65536) (hq : s.q ≤ 9223372036854775807) :
  Calls Try.prog 69 #[.agg #[.int .u64 R, .slice A0 n0 c0, .slice A1 n1 c1], .int .i64 0, .int .i64 i] w fun e w' =>
   ∃ (A' : Option Addr) (c' : Nat) (s' : St), e = .returned (.tuple #[.agg #[.int .u64 R, .slice A' n0 c', .slice A1 n1 c1], .int .i64 0]) ∧ RowV w' A' n0 c' (l.set i s') ∧ (s'.q = s.q ∧ s'.k = (s.q : Int) ∧ s'.d = s.d) ∧ Ext w w' := by
 have hsok := hrow.ok s (List.mem_of_getElem? hs)
 go_enter Try.func69, Try.ntmps69
 go_upto_region 1 with (fail)
 obtain ⟨hW, hE, hO⟩ := two_boxes7 w (.cells #[.int .u64 R, .slice A0 n0 c0, .slice A1 n1 c1] 30) (.cells #[.int .u64 0, .slice none 0 0, .slice none 0 0] 30)
 generalize (w.alloc (.cells #[.int .u64 R, .slice A0 n0 c0, .slice A1 n1 c1] 30)).alloc (.cells #[.int .u64 0, .slice none 0 0, .slice none 0 0] 30) = W at *
 have e0 : W.cell? ⟨w.heap.size, 0, none⟩ = some (.int .u64 R) := by simp [World.cell?, hE]
 have e1 : W.cell? ⟨w.heap.size, 1, none⟩ = some (.slice A0 n0 c0) := by simp [World.cell?, hE]
 have e2 : W.cell? ⟨w.heap.size, 2, none⟩ = some (.slice A1 n1 c1) := by simp [World.cell?, hE]
 have hby : ∀ W', Ext W W' → Calls Try.prog 46 (#[.agg #[.slice s.D s.q s.cd, .int .i64 s.k]] ++ #[]) W' fun e w' => ∃ s' : St, e = .returned (.agg #[.slice s'.D s'.q s'.cd, .int .i64 s'.k]) ∧
   (s'.q = s.q ∧ s'.k = (s.q : Int) ∧ s'.d = s.d) ∧ StOK w' s' ∧ (s'.d ≠ [] → ∀ a, s'.D = some a → a.block < W.heap.size ∨ W'.heap.size ≤ a.block) ∧ Ext W' w' := fun W' hx =>
  (sync_any s.D s.q s.cd s.k hq W').mono fun e w' ⟨he, hx'⟩ =>
   ⟨⟨s.D, s.q, s.cd, s.q, s.d⟩, he, ⟨rfl, rfl, rfl⟩, ((hsok.ext hW).ext hx).ext hx', fun hd a ha => .inl ((hsok.ext hW).low hd a ha), hx'⟩
 go_wp2_with fail
 refine (turn_row0 R A0 A1 n0 c0 n1 c1 i l s 46 #[] (fun s' => s'.q = s.q ∧ s'.k = (s.q : Int) ∧ s'.d = s.d) W (hrow.ext hW) hs hn0 hn1 Try.call46 hby).mono ?_
 rintro e w1 ⟨A', c', s', rfl, hr, hg, hx1⟩
 replace hO := heap_ext hO hx1
 replace hW := hW.trans hx1
 clear hby e0 e1 e2 hE
 have d0 : w1.cell? ⟨w.heap.size + 1, 0, none⟩ = some (.int .u64 0) := by simp [World.cell?, hO]
 have df0 : w1.frozen? ⟨w.heap.size + 1, 0, none⟩ = false := by simp [World.frozen?, hO]
 have d1 : w1.cell? ⟨w.heap.size + 1, 1, none⟩ = some (.slice none 0 0) := by simp [World.cell?, hO]
 have df1 : w1.frozen? ⟨w.heap.size + 1, 1, none⟩ = false := by simp [World.frozen?, hO]
 have d2 : w1.cell? ⟨w.heap.size + 1, 2, none⟩ = some (.slice none 0 0) := by simp [World.cell?, hO]
 have df2 : w1.frozen? ⟨w.heap.size + 1, 2, none⟩ = false := by simp [World.frozen?, hO]
 have hr2 := fun vs => hr.box hO (fun v hv => diskish_three v hv rfl rfl rfl) 0 vs
 clear hO hr
 go_wp2
 refine bodyPost_ret (v := .tuple #[.agg #[.int .u64 R, .slice A' n0 c', .slice A1 n1 c1], .int .i64 0]) (by simp [results, Try.results69, go_sem, d0, d1, d2]) rfl ⟨A', c', s', rfl, ?_, hg, ?_⟩
 ·exact hr2 [.int .u64 R, .slice A' n0 c', .slice A1 n1 c1]
 ·exact setAll_ext (g := w.heap.size + 1) (vs := [.int .u64 R, .slice A' n0 c', .slice A1 n1 c1]) (i := 0) hW (by omega)
set_option maxRecDepth 100000 in
set_option maxHeartbeats 1000000 in
theorem dread_row0 (R : Int) (A0 A1 : Option Addr) (n0 c0 n1 c1 : Nat) (i : Nat) (l : List St) (s : St) (w : World) (hrow : RowV w A0 n0 c0 l) (hs : l[i]? = some s) (hn0 : n0 ≤ 65536) (hn1 : n1 ≤ 65536) (hq : s.q ≤ 65536) :
  Calls Try.prog 71 #[.agg #[.int .u64 R, .slice A0 n0 c0, .slice A1 n1 c1], .int .i64 0, .int .i64 i] w fun e w' =>
   ∃ (A' : Option Addr) (c' : Nat), e = .returned (.tuple #[.slice A' s.q c', .int .i64 0]) ∧ BytesV w' A' s.q c' s.d ∧ Ext w w' := by
 have hil : i < l.length := (List.getElem?_eq_some_iff.1 hs).1
 have hlen := hrow.len
 have hin : i < n0 := by omega
 have hini : (i : Int) < (n0 : Int) := by omega
 obtain ⟨a, rfl, ha0, -, hsok⟩ := hrow.at hs
 have hW : Ext w (w.alloc (.cells #[.int .u64 R, .slice (some a) n0 c0, .slice A1 n1 c1] 30)) := (Below.refl _ w).alloc (Nat.le_refl _) _
 have hE : (w.alloc (.cells #[.int .u64 R, .slice (some a) n0 c0, .slice A1 n1 c1] 30)).heap[w.heap.size]? = some (.cells #[.int .u64 R, .slice (some a) n0 c0, .slice A1 n1 c1] 30 (0, 0)) := heap_alloc_new w _
 go_enter Try.func71, Try.ntmps71
 go_upto_region 1 with (fail)
 generalize w.alloc (.cells #[.int .u64 R, .slice (some a) n0 c0, .slice A1 n1 c1] 30) = W at *
 have e0 : W.cell? ⟨w.heap.size, 0, none⟩ = some (.int .u64 R) := by simp [World.cell?, hE]
 have e1 : W.cell? ⟨w.heap.size, 1, none⟩ = some (.slice (some a) n0 c0) := by simp [World.cell?, hE]
 have e2 : W.cell? ⟨w.heap.size, 2, none⟩ = some (.slice A1 n1 c1) := by simp [World.cell?, hE]
 go_wp2_with fail
 refine (is_any7 R _ _ n0 c0 n1 c1 0 i _).mono ?_
 rw [isB_row0 hin]
 rintro e w1 ⟨rfl, hx1⟩
 replace hE := heap_ext hE hx1
 replace hW := hW.trans hx1
 clear e0 e1 e2 hx1
 have e0 : w1.cell? ⟨w.heap.size, 0, none⟩ = some (.int .u64 R) := by simp [World.cell?, hE]
 have e1 : w1.cell? ⟨w.heap.size, 1, none⟩ = some (.slice (some a) n0 c0) := by simp [World.cell?, hE]
 have e2 : w1.cell? ⟨w.heap.size, 2, none⟩ = some (.slice A1 n1 c1) := by simp [World.cell?, hE]
 replace ha0 := hW.cell ha0
 go_wp2_with fail
 refine (clone_bytes s.D s.q s.cd s.d _ (hsok.ext hW) hq).mono ?_
 rintro e w2 ⟨A', c', rfl, hV, hx2⟩
 go_wp2
 refine bodyPost_ret (v := .tuple #[.slice A' s.q c', .int .i64 0]) (by simp [results, Try.results71, go_sem]) rfl ⟨A', c', rfl, hV, hW.trans hx2⟩
set_option maxRecDepth 100000 in
set_option maxHeartbeats 1000000 in
theorem dclear_row0 (R : Int) (A0 A1 : Option Addr) (n0 c0 n1 c1 : Nat) (w : World) (hpos : 0 < n0) (hn0 : n0 ≤ 65536) (hn1 : n1 ≤ 65536) :
  Calls Try.prog 73 #[.agg #[.int .u64 R, .slice A0 n0 c0, .slice A1 n1 c1], .int .i64 0] w fun e w' =>
   ∃ (A' : Option Addr) (c' : Nat), e = .returned (.tuple #[.agg #[.int .u64 R, .slice A' n0 c', .slice A1 n1 c1], .int .i64 0]) ∧ RowV w' A' n0 c' (List.replicate n0 St.zero) ∧ Ext w w' := by
 have hmk := run_mkrow n0 (by omega)
 go_enter Try.func73, Try.ntmps73
 go_upto_region 1 with (fail)
 obtain ⟨hW, hE, hO⟩ := two_boxes7 w (.cells #[.int .u64 R, .slice A0 n0 c0, .slice A1 n1 c1] 30) (.cells #[.int .u64 0, .slice none 0 0, .slice none 0 0] 30)
 generalize (w.alloc (.cells #[.int .u64 R, .slice A0 n0 c0, .slice A1 n1 c1] 30)).alloc (.cells #[.int .u64 0, .slice none 0 0, .slice none 0 0] 30) = W at *
 have e0 : W.cell? ⟨w.heap.size, 0, none⟩ = some (.int .u64 R) := by simp [World.cell?, hE]
 have e1 : W.cell? ⟨w.heap.size, 1, none⟩ = some (.slice A0 n0 c0) := by simp [World.cell?, hE]
 have e2 : W.cell? ⟨w.heap.size, 2, none⟩ = some (.slice A1 n1 c1) := by simp [World.cell?, hE]
 go_wp2_with fail
 refine (is_any7 R A0 A1 n0 c0 n1 c1 0 0 _).mono ?_
 rw [show isB 0 0 n0 n1 = true from isB_row0 (i := 0) hpos]
 rintro e w1 ⟨rfl, hx1⟩
 replace hE := heap_ext hE hx1
 replace hO := heap_ext hO hx1
 replace hW := hW.trans hx1
 clear e0 e1 e2 hx1
 have hlt : w.heap.size + 1 < w1.heap.size := (Array.getElem?_eq_some_iff.1 hO).1
 have e0 : w1.cell? ⟨w.heap.size, 0, none⟩ = some (.int .u64 R) := by simp [World.cell?, hE]
 have ef0 : w1.frozen? ⟨w.heap.size, 0, none⟩ = false := by simp [World.frozen?, hE]
 have e1 : w1.cell? ⟨w.heap.size, 1, none⟩ = some (.slice A0 n0 c0) := by simp [World.cell?, hE]
 have ef1 : w1.frozen? ⟨w.heap.size, 1, none⟩ = false := by simp [World.frozen?, hE]
 have e2 : w1.cell? ⟨w.heap.size, 2, none⟩ = some (.slice A1 n1 c1) := by simp [World.cell?, hE]
 have ef2 : w1.frozen? ⟨w.heap.size, 2, none⟩ = false := by simp [World.frozen?, hE]
 have hne1 : ¬ w.heap.size = w1.heap.size := by omega
 have hlt1 : w.heap.size < w1.heap.size := by omega
 go_upto_region 4 with (fail)
 clear hne1 hlt1
 generalize hC : (rowCells (List.replicate n0 St.zero)).toArray = C at *
 clear e0 e1 e2 ef0 ef1 ef2 hmk
 have hsU' : ∀ p u, (w1.setCell p u).heap.size = w1.heap.size := fun p u => by simp [World.setCell]
 generalize w1.heap.size = gz at *
 have hE2 : (w1.setCell ⟨w.heap.size, 1, none⟩ (.slice (some ⟨gz, 0, none⟩) n0 n0)).heap[w.heap.size]? = some (.cells #[.int .u64 R, .slice (some ⟨gz, 0, none⟩) n0 n0, .slice A1 n1 c1] 30 (0, 0)) := heap_setCell_at hE
 have hO2 : (w1.setCell ⟨w.heap.size, 1, none⟩ (.slice (some ⟨gz, 0, none⟩) n0 n0)).heap[w.heap.size + 1]? = _ := (Below.heap_setCell _ _ _ _ (by simp)).trans hO
 have hsU : (w1.setCell ⟨w.heap.size, 1, none⟩ (.slice (some ⟨gz, 0, none⟩) n0 n0)).heap.size = gz := hsU' _ _
 have hW2 : Ext w (w1.setCell ⟨w.heap.size, 1, none⟩ (.slice (some ⟨gz, 0, none⟩) n0 n0)) := hW.setCell (Nat.le_refl _) _
 generalize w1.setCell ⟨w.heap.size, 1, none⟩ (.slice (some ⟨gz, 0, none⟩) n0 n0) = U at *
 have hx3 : Ext U (U.alloc (.cells C 90)) := (Below.refl _ U).alloc (Nat.le_refl _) _
 have hZ3 : (U.alloc (.cells C 90)).heap[gz]? = some (.cells C 90 (0, 0)) := by rw [← hsU]; exact heap_alloc_new U _
 have hE3 := heap_ext hE2 hx3
 have hO3 := heap_ext hO2 hx3
 have hW3 := hW2.trans hx3
 clear hx3
 generalize U.alloc (.cells C 90) = W3 at *
 have e0 : W3.cell? ⟨w.heap.size, 0, none⟩ = some (.int .u64 R) := by simp [World.cell?, hE3]
 have e1 : W3.cell? ⟨w.heap.size, 1, none⟩ = some (.slice (some ⟨gz, 0, none⟩) n0 n0) := by simp [World.cell?, hE3]
 have e2 : W3.cell? ⟨w.heap.size, 2, none⟩ = some (.slice A1 n1 c1) := by simp [World.cell?, hE3]
 have d0 : W3.cell? ⟨w.heap.size + 1, 0, none⟩ = some (.int .u64 0) := by simp [World.cell?, hO3]
 have df0 : W3.frozen? ⟨w.heap.size + 1, 0, none⟩ = false := by simp [World.frozen?, hO3]
 have d1 : W3.cell? ⟨w.heap.size + 1, 1, none⟩ = some (.slice none 0 0) := by simp [World.cell?, hO3]
 have df1 : W3.frozen? ⟨w.heap.size + 1, 1, none⟩ = false := by simp [World.frozen?, hO3]
 have d2 : W3.cell? ⟨w.heap.size + 1, 2, none⟩ = some (.slice none 0 0) := by simp [World.cell?, hO3]
 have df2 : W3.frozen? ⟨w.heap.size + 1, 2, none⟩ = false := by simp [World.frozen?, hO3]
 clear hE3 hO3 hE hO hE2 hO2
 go_wp2
 refine bodyPost_ret (v := .tuple #[.agg #[.int .u64 R, .slice (some ⟨gz, 0, none⟩) n0 n0, .slice A1 n1 c1], .int .i64 0]) (by simp [results, Try.results73, go_sem, d0, d1, d2]) rfl ⟨_, _, rfl, RowV.made (fr := (0, 0)) (T := 90) ?_ (by simp) (by omega) zero_ok, ?_⟩
 ·rw [hC]
  exact (setAll_other (g := w.heap.size + 1) (k := gz) (by omega) [.int .u64 R, .slice (some ⟨gz, 0, none⟩) n0 n0, .slice A1 n1 c1] 0 W3).trans hZ3
 ·exact setAll_ext (g := w.heap.size + 1) (vs := [.int .u64 R, .slice (some ⟨gz, 0, none⟩) n0 n0, .slice A1 n1 c1]) (i := 0) hW3 (by omega)
set_option maxRecDepth 100000 in
set_option maxHeartbeats 1000000 in
theorem dsync_row1 (R : Int) (A0 A1 : Option Addr) (n0 c0 n1 c1 : Nat) (i : Nat) (l : List St) (s : St) (w : World) (hrow : RowV w A1 n1 c1 l) (hs : l[i]? = some s) (hn0 : n0 ≤ 65536) (hn1 : n1 ≤ 65536) (hq : s.q ≤ 9223372036854775807) :
  Calls Try.prog 69 #[.agg #[.int .u64 R, .slice A0 n0 c0, .slice A1 n1 c1], .int .i64 1, .int .i64 i] w fun e w' =>
   ∃ (A' : Option Addr) (c' : Nat) (s' : St), e = .returned (.tuple #[.agg #[.int .u64 R, .slice A0 n0 c0, .slice A' n1 c'], .int .i64 0]) ∧ RowV w' A' n1 c' (l.set i s') ∧ (s'.q = s.q ∧ s'.k = (s.q : Int) ∧ s'.d = s.d) ∧ Ext w w' := by
 have hsok := hrow.ok s (List.mem_of_getElem? hs)
 go_enter Try.func69, Try.ntmps69
 go_upto_region 1 with (fail)
 obtain ⟨hW, hE, hO⟩ := two_boxes7 w (.cells #[.int .u64 R, .slice A0 n0 c0, .slice A1 n1 c1] 30) (.cells #[.int .u64 0, .slice none 0 0, .slice none 0 0] 30)
 generalize (w.alloc (.cells #[.int .u64 R, .slice A0 n0 c0, .slice A1 n1 c1] 30)).alloc (.cells #[.int .u64 0, .slice none 0 0, .slice none 0 0] 30) = W at *
 have e0 : W.cell? ⟨w.heap.size, 0, none⟩ = some (.int .u64 R) := by simp [World.cell?, hE]
 have e1 : W.cell? ⟨w.heap.size, 1, none⟩ = some (.slice A0 n0 c0) := by simp [World.cell?, hE]
 have e2 : W.cell? ⟨w.heap.size, 2, none⟩ = some (.slice A1 n1 c1) := by simp [World.cell?, hE]
 have hby : ∀ W', Ext W W' → Calls Try.prog 46 (#[.agg #[.slice s.D s.q s.cd, .int .i64 s.k]] ++ #[]) W' fun e w' => ∃ s' : St, e = .returned (.agg #[.slice s'.D s'.q s'.cd, .int .i64 s'.k]) ∧
   (s'.q = s.q ∧ s'.k = (s.q : Int) ∧ s'.d = s.d) ∧ StOK w' s' ∧ (s'.d ≠ [] → ∀ a, s'.D = some a → a.block < W.heap.size ∨ W'.heap.size ≤ a.block) ∧ Ext W' w' := fun W' hx =>
  (sync_any s.D s.q s.cd s.k hq W').mono fun e w' ⟨he, hx'⟩ =>
   ⟨⟨s.D, s.q, s.cd, s.q, s.d⟩, he, ⟨rfl, rfl, rfl⟩, ((hsok.ext hW).ext hx).ext hx', fun hd a ha => .inl ((hsok.ext hW).low hd a ha), hx'⟩
 go_wp2_with fail
 refine (turn_row1 R A0 A1 n0 c0 n1 c1 i l s 46 #[] (fun s' => s'.q = s.q ∧ s'.k = (s.q : Int) ∧ s'.d = s.d) W (hrow.ext hW) hs hn0 hn1 Try.call46 hby).mono ?_
 rintro e w1 ⟨A', c', s', rfl, hr, hg, hx1⟩
 replace hO := heap_ext hO hx1
 replace hW := hW.trans hx1
 clear hby e0 e1 e2 hE
 have d0 : w1.cell? ⟨w.heap.size + 1, 0, none⟩ = some (.int .u64 0) := by simp [World.cell?, hO]
 have df0 : w1.frozen? ⟨w.heap.size + 1, 0, none⟩ = false := by simp [World.frozen?, hO]
 have d1 : w1.cell? ⟨w.heap.size + 1, 1, none⟩ = some (.slice none 0 0) := by simp [World.cell?, hO]
 have df1 : w1.frozen? ⟨w.heap.size + 1, 1, none⟩ = false := by simp [World.frozen?, hO]
 have d2 : w1.cell? ⟨w.heap.size + 1, 2, none⟩ = some (.slice none 0 0) := by simp [World.cell?, hO]
 have df2 : w1.frozen? ⟨w.heap.size + 1, 2, none⟩ = false := by simp [World.frozen?, hO]
 have hr2 := fun vs => hr.box hO (fun v hv => diskish_three v hv rfl rfl rfl) 0 vs
 clear hO hr
 go_wp2
 refine bodyPost_ret (v := .tuple #[.agg #[.int .u64 R, .slice A0 n0 c0, .slice A' n1 c'], .int .i64 0]) (by simp [results, Try.results69, go_sem, d0, d1, d2]) rfl ⟨A', c', s', rfl, ?_, hg, ?_⟩
 ·exact hr2 [.int .u64 R, .slice A0 n0 c0, .slice A' n1 c']
 ·exact setAll_ext (g := w.heap.size + 1) (vs := [.int .u64 R, .slice A0 n0 c0, .slice A' n1 c']) (i := 0) hW (by omega)
set_option maxRecDepth 100000 in
set_option maxHeartbeats 1000000 in
theorem dread_row1 (R : Int) (A0 A1 : Option Addr) (n0 c0 n1 c1 : Nat) (i : Nat) (l : List St) (s : St) (w : World) (hrow : RowV w A1 n1 c1 l) (hs : l[i]? = some s) (hn0 : n0 ≤ 65536) (hn1 : n1 ≤ 65536) (hq : s.q ≤ 65536) :
  Calls Try.prog 71 #[.agg #[.int .u64 R, .slice A0 n0 c0, .slice A1 n1 c1], .int .i64 1, .int .i64 i] w fun e w' =>
   ∃ (A' : Option Addr) (c' : Nat), e = .returned (.tuple #[.slice A' s.q c', .int .i64 0]) ∧ BytesV w' A' s.q c' s.d ∧ Ext w w' := by
 have hil : i < l.length := (List.getElem?_eq_some_iff.1 hs).1
 have hlen := hrow.len
 have hin : i < n1 := by omega
 have hini : (i : Int) < (n1 : Int) := by omega
 obtain ⟨a, rfl, ha0, -, hsok⟩ := hrow.at hs
 have hW : Ext w (w.alloc (.cells #[.int .u64 R, .slice A0 n0 c0, .slice (some a) n1 c1] 30)) := (Below.refl _ w).alloc (Nat.le_refl _) _
 have hE : (w.alloc (.cells #[.int .u64 R, .slice A0 n0 c0, .slice (some a) n1 c1] 30)).heap[w.heap.size]? = some (.cells #[.int .u64 R, .slice A0 n0 c0, .slice (some a) n1 c1] 30 (0, 0)) := heap_alloc_new w _
 go_enter Try.func71, Try.ntmps71
 go_upto_region 1 with (fail)
 generalize w.alloc (.cells #[.int .u64 R, .slice A0 n0 c0, .slice (some a) n1 c1] 30) = W at *
 have e0 : W.cell? ⟨w.heap.size, 0, none⟩ = some (.int .u64 R) := by simp [World.cell?, hE]
 have e1 : W.cell? ⟨w.heap.size, 1, none⟩ = some (.slice A0 n0 c0) := by simp [World.cell?, hE]
 have e2 : W.cell? ⟨w.heap.size, 2, none⟩ = some (.slice (some a) n1 c1) := by simp [World.cell?, hE]
 go_wp2_with fail
 refine (is_any7 R _ _ n0 c0 n1 c1 1 i _).mono ?_
 rw [isB_row1 hin]
 rintro e w1 ⟨rfl, hx1⟩
 replace hE := heap_ext hE hx1
 replace hW := hW.trans hx1
 clear e0 e1 e2 hx1
 have e0 : w1.cell? ⟨w.heap.size, 0, none⟩ = some (.int .u64 R) := by simp [World.cell?, hE]
 have e1 : w1.cell? ⟨w.heap.size, 1, none⟩ = some (.slice A0 n0 c0) := by simp [World.cell?, hE]
 have e2 : w1.cell? ⟨w.heap.size, 2, none⟩ = some (.slice (some a) n1 c1) := by simp [World.cell?, hE]
 replace ha0 := hW.cell ha0
 go_wp2_with fail
 refine (clone_bytes s.D s.q s.cd s.d _ (hsok.ext hW) hq).mono ?_
 rintro e w2 ⟨A', c', rfl, hV, hx2⟩
 go_wp2
 refine bodyPost_ret (v := .tuple #[.slice A' s.q c', .int .i64 0]) (by simp [results, Try.results71, go_sem]) rfl ⟨A', c', rfl, hV, hW.trans hx2⟩
set_option maxRecDepth 100000 in
set_option maxHeartbeats 1000000 in
theorem dclear_row1 (R : Int) (A0 A1 : Option Addr) (n0 c0 n1 c1 : Nat) (w : World) (hpos : 0 < n1) (hn0 : n0 ≤ 65536) (hn1 : n1 ≤ 65536) :
  Calls Try.prog 73 #[.agg #[.int .u64 R, .slice A0 n0 c0, .slice A1 n1 c1], .int .i64 1] w fun e w' =>
   ∃ (A' : Option Addr) (c' : Nat), e = .returned (.tuple #[.agg #[.int .u64 R, .slice A0 n0 c0, .slice A' n1 c'], .int .i64 0]) ∧ RowV w' A' n1 c' (List.replicate n1 St.zero) ∧ Ext w w' := by
 have hmk := run_mkrow n1 (by omega)
 go_enter Try.func73, Try.ntmps73
 go_upto_region 1 with (fail)
 obtain ⟨hW, hE, hO⟩ := two_boxes7 w (.cells #[.int .u64 R, .slice A0 n0 c0, .slice A1 n1 c1] 30) (.cells #[.int .u64 0, .slice none 0 0, .slice none 0 0] 30)
 generalize (w.alloc (.cells #[.int .u64 R, .slice A0 n0 c0, .slice A1 n1 c1] 30)).alloc (.cells #[.int .u64 0, .slice none 0 0, .slice none 0 0] 30) = W at *
 have e0 : W.cell? ⟨w.heap.size, 0, none⟩ = some (.int .u64 R) := by simp [World.cell?, hE]
 have e1 : W.cell? ⟨w.heap.size, 1, none⟩ = some (.slice A0 n0 c0) := by simp [World.cell?, hE]
 have e2 : W.cell? ⟨w.heap.size, 2, none⟩ = some (.slice A1 n1 c1) := by simp [World.cell?, hE]
 go_wp2_with fail
 refine (is_any7 R A0 A1 n0 c0 n1 c1 1 0 _).mono ?_
 rw [show isB 1 0 n0 n1 = true from isB_row1 (i := 0) hpos]
 rintro e w1 ⟨rfl, hx1⟩
 replace hE := heap_ext hE hx1
 replace hO := heap_ext hO hx1
 replace hW := hW.trans hx1
 clear e0 e1 e2 hx1
 have hlt : w.heap.size + 1 < w1.heap.size := (Array.getElem?_eq_some_iff.1 hO).1
 have e0 : w1.cell? ⟨w.heap.size, 0, none⟩ = some (.int .u64 R) := by simp [World.cell?, hE]
 have ef0 : w1.frozen? ⟨w.heap.size, 0, none⟩ = false := by simp [World.frozen?, hE]
 have e1 : w1.cell? ⟨w.heap.size, 1, none⟩ = some (.slice A0 n0 c0) := by simp [World.cell?, hE]
 have ef1 : w1.frozen? ⟨w.heap.size, 1, none⟩ = false := by simp [World.frozen?, hE]
 have e2 : w1.cell? ⟨w.heap.size, 2, none⟩ = some (.slice A1 n1 c1) := by simp [World.cell?, hE]
 have ef2 : w1.frozen? ⟨w.heap.size, 2, none⟩ = false := by simp [World.frozen?, hE]
 have hne1 : ¬ w.heap.size = w1.heap.size := by omega
 have hlt1 : w.heap.size < w1.heap.size := by omega
 go_upto_region 4 with (fail)
 clear hne1 hlt1
 generalize hC : (rowCells (List.replicate n1 St.zero)).toArray = C at *
 clear e0 e1 e2 ef0 ef1 ef2 hmk
 have hsU' : ∀ p u, (w1.setCell p u).heap.size = w1.heap.size := fun p u => by simp [World.setCell]
 generalize w1.heap.size = gz at *
 have hE2 : (w1.setCell ⟨w.heap.size, 2, none⟩ (.slice (some ⟨gz, 0, none⟩) n1 n1)).heap[w.heap.size]? = some (.cells #[.int .u64 R, .slice A0 n0 c0, .slice (some ⟨gz, 0, none⟩) n1 n1] 30 (0, 0)) := heap_setCell_at hE
 have hO2 : (w1.setCell ⟨w.heap.size, 2, none⟩ (.slice (some ⟨gz, 0, none⟩) n1 n1)).heap[w.heap.size + 1]? = _ := (Below.heap_setCell _ _ _ _ (by simp)).trans hO
 have hsU : (w1.setCell ⟨w.heap.size, 2, none⟩ (.slice (some ⟨gz, 0, none⟩) n1 n1)).heap.size = gz := hsU' _ _
 have hW2 : Ext w (w1.setCell ⟨w.heap.size, 2, none⟩ (.slice (some ⟨gz, 0, none⟩) n1 n1)) := hW.setCell (Nat.le_refl _) _
 generalize w1.setCell ⟨w.heap.size, 2, none⟩ (.slice (some ⟨gz, 0, none⟩) n1 n1) = U at *
 have hx3 : Ext U (U.alloc (.cells C 90)) := (Below.refl _ U).alloc (Nat.le_refl _) _
 have hZ3 : (U.alloc (.cells C 90)).heap[gz]? = some (.cells C 90 (0, 0)) := by rw [← hsU]; exact heap_alloc_new U _
 have hE3 := heap_ext hE2 hx3
 have hO3 := heap_ext hO2 hx3
 have hW3 := hW2.trans hx3
 clear hx3
 generalize U.alloc (.cells C 90) = W3 at *
 have e0 : W3.cell? ⟨w.heap.size, 0, none⟩ = some (.int .u64 R) := by simp [World.cell?, hE3]
 have e1 : W3.cell? ⟨w.heap.size, 1, none⟩ = some (.slice A0 n0 c0) := by simp [World.cell?, hE3]
 have e2 : W3.cell? ⟨w.heap.size, 2, none⟩ = some (.slice (some ⟨gz, 0, none⟩) n1 n1) := by simp [World.cell?, hE3]
 have d0 : W3.cell? ⟨w.heap.size + 1, 0, none⟩ = some (.int .u64 0) := by simp [World.cell?, hO3]
 have df0 : W3.frozen? ⟨w.heap.size + 1, 0, none⟩ = false := by simp [World.frozen?, hO3]
 have d1 : W3.cell? ⟨w.heap.size + 1, 1, none⟩ = some (.slice none 0 0) := by simp [World.cell?, hO3]
 have df1 : W3.frozen? ⟨w.heap.size + 1, 1, none⟩ = false := by simp [World.frozen?, hO3]
 have d2 : W3.cell? ⟨w.heap.size + 1, 2, none⟩ = some (.slice none 0 0) := by simp [World.cell?, hO3]
 have df2 : W3.frozen? ⟨w.heap.size + 1, 2, none⟩ = false := by simp [World.frozen?, hO3]
 clear hE3 hO3 hE hO hE2 hO2
 go_wp2
 refine bodyPost_ret (v := .tuple #[.agg #[.int .u64 R, .slice A0 n0 c0, .slice (some ⟨gz, 0, none⟩) n1 n1], .int .i64 0]) (by simp [results, Try.results73, go_sem, d0, d1, d2]) rfl ⟨_, _, rfl, RowV.made (fr := (0, 0)) (T := 90) ?_ (by simp) (by omega) zero_ok, ?_⟩
 ·rw [hC]
  exact (setAll_other (g := w.heap.size + 1) (k := gz) (by omega) [.int .u64 R, .slice A0 n0 c0, .slice (some ⟨gz, 0, none⟩) n1 n1] 0 W3).trans hZ3
 ·exact setAll_ext (g := w.heap.size + 1) (vs := [.int .u64 R, .slice A0 n0 c0, .slice (some ⟨gz, 0, none⟩) n1 n1]) (i := 0) hW3 (by omega)
set_option maxRecDepth 100000 in
set_option maxHeartbeats 1000000 in
theorem dread_no (R : Int) (A0 A1 : Option Addr) (n0 c0 n1 c1 : Nat) (row i : Int) (w : World) (hno : isB row i n0 n1 = false) :
  Calls Try.prog 71 #[.agg #[.int .u64 R, .slice A0 n0 c0, .slice A1 n1 c1], .int .i64 row, .int .i64 i] w fun e w' => e = .returned (.tuple #[.slice none 0 0, .int .i64 1]) ∧ Ext w w' := by
 have hW : Ext w (w.alloc (.cells #[.int .u64 R, .slice A0 n0 c0, .slice A1 n1 c1] 30)) := (Below.refl _ w).alloc (Nat.le_refl _) _
 go_enter Try.func71, Try.ntmps71
 go_wp2_with fail
 refine (is_any7 R A0 A1 n0 c0 n1 c1 row i _).mono ?_
 rw [hno]
 rintro e w1 ⟨rfl, hx1⟩
 go_wp2
 refine bodyPost_ret (v := .tuple #[.slice none 0 0, .int .i64 1]) (by simp [results, Try.results71, go_sem]) rfl ⟨rfl, hW.trans hx1⟩
set_option maxRecDepth 100000 in
set_option maxHeartbeats 1000000 in
theorem dappend_no (R : Int) (A0 A1 : Option Addr) (n0 c0 n1 c1 : Nat) (row i : Int) (B : Option Addr) (m c2 : Nat) (w : World) (hno : isB row i n0 n1 = false) :
  Calls Try.prog 67 #[.agg #[.int .u64 R, .slice A0 n0 c0, .slice A1 n1 c1], .int .i64 row, .int .i64 i, .slice B m c2] w fun e w' => e = .returned (.tuple #[.agg #[.int .u64 R, .slice A0 n0 c0, .slice A1 n1 c1], .int .i64 1]) ∧ Ext w w' := by
 have hmf : ∀ (fn : Fn) (first cap : Array Value) (w : World), (Instr.makeFunc fn first cap).run Try.prog w = .ok (.func fn first cap) w := fun _ _ _ _ => rfl
 go_enter Try.func67, Try.ntmps67
 go_upto_region 1 with (fail)
 obtain ⟨hW, -, hE, hG, hO⟩ := three_boxes7 w (.cells #[.int .u64 R, .slice A0 n0 c0, .slice A1 n1 c1] 30) (.cells #[.slice B m c2] 40) (.cells #[.int .u64 0, .slice none 0 0, .slice none 0 0] 30)
 generalize ((w.alloc (.cells #[.int .u64 R, .slice A0 n0 c0, .slice A1 n1 c1] 30)).alloc (.cells #[.slice B m c2] 40)).alloc (.cells #[.int .u64 0, .slice none 0 0, .slice none 0 0] 30) = W at *
 have e0 : W.cell? ⟨w.heap.size, 0, none⟩ = some (.int .u64 R) := by simp [World.cell?, hE]
 have e1 : W.cell? ⟨w.heap.size, 1, none⟩ = some (.slice A0 n0 c0) := by simp [World.cell?, hE]
 have e2 : W.cell? ⟨w.heap.size, 2, none⟩ = some (.slice A1 n1 c1) := by simp [World.cell?, hE]
 go_wp2_with fail
 refine (turn_no R A0 A1 n0 c0 n1 c1 row i 92 #[.pointer (some ⟨w.heap.size + 1, 0, none⟩)] W hno).mono ?_
 rintro e w1 ⟨rfl, hx1⟩
 replace hO := heap_ext hO hx1
 replace hW := hW.trans hx1
 clear e0 e1 e2 hE
 have d0 : w1.cell? ⟨w.heap.size + 1 + 1, 0, none⟩ = some (.int .u64 0) := by simp [World.cell?, hO]
 have df0 : w1.frozen? ⟨w.heap.size + 1 + 1, 0, none⟩ = false := by simp [World.frozen?, hO]
 have d1 : w1.cell? ⟨w.heap.size + 1 + 1, 1, none⟩ = some (.slice none 0 0) := by simp [World.cell?, hO]
 have df1 : w1.frozen? ⟨w.heap.size + 1 + 1, 1, none⟩ = false := by simp [World.frozen?, hO]
 have d2 : w1.cell? ⟨w.heap.size + 1 + 1, 2, none⟩ = some (.slice none 0 0) := by simp [World.cell?, hO]
 have df2 : w1.frozen? ⟨w.heap.size + 1 + 1, 2, none⟩ = false := by simp [World.frozen?, hO]
 clear hO
 go_wp2
 refine bodyPost_ret (v := .tuple #[.agg #[.int .u64 R, .slice A0 n0 c0, .slice A1 n1 c1], .int .i64 1]) (by simp [results, Try.results67, go_sem, d0, d1, d2]) rfl ⟨rfl, ?_⟩
 exact setAll_ext (g := w.heap.size + 1 + 1) (vs := [.int .u64 R, .slice A0 n0 c0, .slice A1 n1 c1]) (i := 0) hW (by omega)
set_option maxRecDepth 100000 in
set_option maxHeartbeats 1000000 in
theorem dsync_no (R : Int) (A0 A1 : Option Addr) (n0 c0 n1 c1 : Nat) (row i : Int) (w : World) (hno : isB row i n0 n1 = false) :
  Calls Try.prog 69 #[.agg #[.int .u64 R, .slice A0 n0 c0, .slice A1 n1 c1], .int .i64 row, .int .i64 i] w fun e w' => e = .returned (.tuple #[.agg #[.int .u64 R, .slice A0 n0 c0, .slice A1 n1 c1], .int .i64 1]) ∧ Ext w w' := by
 have hmf : ∀ (fn : Fn) (first cap : Array Value) (w : World), (Instr.makeFunc fn first cap).run Try.prog w = .ok (.func fn first cap) w := fun _ _ _ _ => rfl
 go_enter Try.func69, Try.ntmps69
 go_upto_region 1 with (fail)
 obtain ⟨hW, hE, hO⟩ := two_boxes7 w (.cells #[.int .u64 R, .slice A0 n0 c0, .slice A1 n1 c1] 30) (.cells #[.int .u64 0, .slice none 0 0, .slice none 0 0] 30)
 generalize (w.alloc (.cells #[.int .u64 R, .slice A0 n0 c0, .slice A1 n1 c1] 30)).alloc (.cells #[.int .u64 0, .slice none 0 0, .slice none 0 0] 30) = W at *
 have e0 : W.cell? ⟨w.heap.size, 0, none⟩ = some (.int .u64 R) := by simp [World.cell?, hE]
 have e1 : W.cell? ⟨w.heap.size, 1, none⟩ = some (.slice A0 n0 c0) := by simp [World.cell?, hE]
 have e2 : W.cell? ⟨w.heap.size, 2, none⟩ = some (.slice A1 n1 c1) := by simp [World.cell?, hE]
 go_wp2_with fail
 refine (turn_no R A0 A1 n0 c0 n1 c1 row i 46 #[] W hno).mono ?_
 rintro e w1 ⟨rfl, hx1⟩
 replace hO := heap_ext hO hx1
 replace hW := hW.trans hx1
 clear e0 e1 e2 hE
 have d0 : w1.cell? ⟨w.heap.size + 1, 0, none⟩ = some (.int .u64 0) := by simp [World.cell?, hO]
 have df0 : w1.frozen? ⟨w.heap.size + 1, 0, none⟩ = false := by simp [World.frozen?, hO]
 have d1 : w1.cell? ⟨w.heap.size + 1, 1, none⟩ = some (.slice none 0 0) := by simp [World.cell?, hO]
 have df1 : w1.frozen? ⟨w.heap.size + 1, 1, none⟩ = false := by simp [World.frozen?, hO]
 have d2 : w1.cell? ⟨w.heap.size + 1, 2, none⟩ = some (.slice none 0 0) := by simp [World.cell?, hO]
 have df2 : w1.frozen? ⟨w.heap.size + 1, 2, none⟩ = false := by simp [World.frozen?, hO]
 clear hO
 go_wp2
 refine bodyPost_ret (v := .tuple #[.agg #[.int .u64 R, .slice A0 n0 c0, .slice A1 n1 c1], .int .i64 1]) (by simp [results, Try.results69, go_sem, d0, d1, d2]) rfl ⟨rfl, ?_⟩
 exact setAll_ext (g := w.heap.size + 1) (vs := [.int .u64 R, .slice A0 n0 c0, .slice A1 n1 c1]) (i := 0) hW (by omega)
set_option maxRecDepth 100000 in
set_option maxHeartbeats 1000000 in
theorem dclear_no (R : Int) (A0 A1 : Option Addr) (n0 c0 n1 c1 : Nat) (row : Int) (w : World) (hno : isB row 0 n0 n1 = false) :
  Calls Try.prog 73 #[.agg #[.int .u64 R, .slice A0 n0 c0, .slice A1 n1 c1], .int .i64 row] w fun e w' => e = .returned (.tuple #[.agg #[.int .u64 R, .slice A0 n0 c0, .slice A1 n1 c1], .int .i64 1]) ∧ Ext w w' := by
 go_enter Try.func73, Try.ntmps73
 go_upto_region 1 with (fail)
 obtain ⟨hW, hE, hO⟩ := two_boxes7 w (.cells #[.int .u64 R, .slice A0 n0 c0, .slice A1 n1 c1] 30) (.cells #[.int .u64 0, .slice none 0 0, .slice none 0 0] 30)
 generalize (w.alloc (.cells #[.int .u64 R, .slice A0 n0 c0, .slice A1 n1 c1] 30)).alloc (.cells #[.int .u64 0, .slice none 0 0, .slice none 0 0] 30) = W at *
 have e0 : W.cell? ⟨w.heap.size, 0, none⟩ = some (.int .u64 R) := by simp [World.cell?, hE]
 have e1 : W.cell? ⟨w.heap.size, 1, none⟩ = some (.slice A0 n0 c0) := by simp [World.cell?, hE]
 have e2 : W.cell? ⟨w.heap.size, 2, none⟩ = some (.slice A1 n1 c1) := by simp [World.cell?, hE]
 go_wp2_with fail
 refine (is_any7 R A0 A1 n0 c0 n1 c1 row 0 _).mono ?_
 rw [hno]
 rintro e w1 ⟨rfl, hx1⟩
 replace hE := heap_ext hE hx1
 replace hO := heap_ext hO hx1
 replace hW := hW.trans hx1
 clear e0 e1 e2 hx1
 have e0 : w1.cell? ⟨w.heap.size, 0, none⟩ = some (.int .u64 R) := by simp [World.cell?, hE]
 have e1 : w1.cell? ⟨w.heap.size, 1, none⟩ = some (.slice A0 n0 c0) := by simp [World.cell?, hE]
 have e2 : w1.cell? ⟨w.heap.size, 2, none⟩ = some (.slice A1 n1 c1) := by simp [World.cell?, hE]
 have d0 : w1.cell? ⟨w.heap.size + 1, 0, none⟩ = some (.int .u64 0) := by simp [World.cell?, hO]
 have df0 : w1.frozen? ⟨w.heap.size + 1, 0, none⟩ = false := by simp [World.frozen?, hO]
 have d1 : w1.cell? ⟨w.heap.size + 1, 1, none⟩ = some (.slice none 0 0) := by simp [World.cell?, hO]
 have df1 : w1.frozen? ⟨w.heap.size + 1, 1, none⟩ = false := by simp [World.frozen?, hO]
 have d2 : w1.cell? ⟨w.heap.size + 1, 2, none⟩ = some (.slice none 0 0) := by simp [World.cell?, hO]
 have df2 : w1.frozen? ⟨w.heap.size + 1, 2, none⟩ = false := by simp [World.frozen?, hO]
 clear hE hO
 go_wp2
 refine bodyPost_ret (v := .tuple #[.agg #[.int .u64 R, .slice A0 n0 c0, .slice A1 n1 c1], .int .i64 1]) (by simp [results, Try.results73, go_sem, d0, d1, d2]) rfl ⟨rfl, ?_⟩
 exact setAll_ext (g := w.heap.size + 1) (vs := [.int .u64 R, .slice A0 n0 c0, .slice A1 n1 c1]) (i := 0) hW (by omega)
set_option maxRecDepth 100000 in
theorem drow_any (R : Nat) (v1 v2 : Value) (w : World) (hR : R < 18446744073709551616) :
  Calls Try.prog 75 #[.agg #[.int .u64 (R : Int), v1, v2]] w fun e w' => e = .returned (.int .i64 ((R % 2 : Nat) : Int)) ∧ Ext w w' := by
 have hW : Ext w (w.alloc (.cells #[.int .u64 (R : Int), v1, v2] 30)) := (Below.refl _ w).alloc (Nat.le_refl _) _
 have hm : Int.tmod (R : Int) 2 = ((R % 2 : Nat) : Int) := by rw [Int.tmod_eq_emod_of_nonneg (by omega)]; omega
 have hw1 : IntKind.u64.wrap ((R % 2 : Nat) : Int) = ((R % 2 : Nat) : Int) := by rw [IntKind.wrap_u64]; omega
 have hw2 : IntKind.i64.wrap ((R % 2 : Nat) : Int) = ((R % 2 : Nat) : Int) := by rw [IntKind.wrap_i64]; omega
 generalize hN : R % 2 = N at *
 go_enter Try.func75, Try.ntmps75
 go_wp2
 go_ret
 exact ⟨rfl, hW⟩
set_option maxRecDepth 100000 in
theorem dsetroot_any (R n : Int) (A0 A1 : Option Addr) (n0 c0 n1 c1 : Nat) (w : World) :
  Calls Try.prog 89 #[.agg #[.int .u64 R, .slice A0 n0 c0, .slice A1 n1 c1], .int .u64 n] w fun e w' => e = .returned (.agg #[.int .u64 n, .slice A0 n0 c0, .slice A1 n1 c1]) ∧ Ext w w' := by
 go_enter Try.func89, Try.ntmps89
 go_upto_region 1 with (fail)
 obtain ⟨hW, hE, hO⟩ := two_boxes7 w (.cells #[.int .u64 R, .slice A0 n0 c0, .slice A1 n1 c1] 30) (.cells #[.int .u64 0, .slice none 0 0, .slice none 0 0] 30)
 generalize (w.alloc (.cells #[.int .u64 R, .slice A0 n0 c0, .slice A1 n1 c1] 30)).alloc (.cells #[.int .u64 0, .slice none 0 0, .slice none 0 0] 30) = W at *
 have e0 : W.cell? ⟨w.heap.size, 0, none⟩ = some (.int .u64 R) := by simp [World.cell?, hE]
 have ef0 : W.frozen? ⟨w.heap.size, 0, none⟩ = false := by simp [World.frozen?, hE]
 have e1 : W.cell? ⟨w.heap.size, 1, none⟩ = some (.slice A0 n0 c0) := by simp [World.cell?, hE]
 have ef1 : W.frozen? ⟨w.heap.size, 1, none⟩ = false := by simp [World.frozen?, hE]
 have e2 : W.cell? ⟨w.heap.size, 2, none⟩ = some (.slice A1 n1 c1) := by simp [World.cell?, hE]
 have ef2 : W.frozen? ⟨w.heap.size, 2, none⟩ = false := by simp [World.frozen?, hE]
 have d0 : W.cell? ⟨w.heap.size + 1, 0, none⟩ = some (.int .u64 0) := by simp [World.cell?, hO]
 have df0 : W.frozen? ⟨w.heap.size + 1, 0, none⟩ = false := by simp [World.frozen?, hO]
 have d1 : W.cell? ⟨w.heap.size + 1, 1, none⟩ = some (.slice none 0 0) := by simp [World.cell?, hO]
 have df1 : W.frozen? ⟨w.heap.size + 1, 1, none⟩ = false := by simp [World.frozen?, hO]
 have d2 : W.cell? ⟨w.heap.size + 1, 2, none⟩ = some (.slice none 0 0) := by simp [World.cell?, hO]
 have df2 : W.frozen? ⟨w.heap.size + 1, 2, none⟩ = false := by simp [World.frozen?, hO]
 clear hE hO
 go_wp2
 refine bodyPost_ret (v := .agg #[.int .u64 n, .slice A0 n0 c0, .slice A1 n1 c1]) (by simp [results, Try.results89, go_sem, d0, d1, d2]) rfl ⟨rfl, ?_⟩
 exact setAll_ext (g := w.heap.size + 1) (vs := [.int .u64 n, .slice A0 n0 c0, .slice A1 n1 c1]) (i := 0) (hW.setCell (Nat.le_refl _) _) (by omega)
end Go.Proofs.Ytennnhfaghdeoaa
