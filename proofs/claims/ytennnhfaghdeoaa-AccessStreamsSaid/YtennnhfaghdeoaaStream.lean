import Derived.Test.YtennnhfaghdeoaaChecked
import Derived.Test.YtennnhfaghdeoaaMem
import Derived.Laws.BytesArg
import Derived.Outline
namespace Go.Proofs.Ytennnhfaghdeoaa
open Go.RowKit

theorem ret_bool' {a b : Bool} (h : a = b) : Ending.returned (.bool a) = .returned (.bool b) := by rw [h]
def bytesOf (l : List UInt8) : List Value := l.map fun b => .int .u8 (b.toNat : Int)
theorem bytesOf_length (l : List UInt8) : (bytesOf l).length = l.length := by simp [bytesOf]
theorem bytesOf_append (a b : List UInt8) : bytesOf (a ++ b) = bytesOf a ++ bytesOf b := by simp [bytesOf]
/-- a slice of bytes -/
structure BytesV (w : World) (A : Option Addr) (n c : Nat) (l : List UInt8) : Prop where
  len : l.length = n
  le : n ≤ c
  cap : c ≤ maxLen
  nil : A = none → c = 0
  cells : Cells w A (bytesOf l)
theorem BytesV.ext {w w' : World} {A : Option Addr} {n c : Nat} {l : List UInt8} (h : BytesV w A n c l) (hx : Ext w w') : BytesV w' A n c l := ⟨h.len, h.le, h.cap, h.nil, h.cells.ext hx⟩
theorem info_u8 : (Try.prog.info? 5).map (fun i => (i.zero, i.size, i.bytes)) = some (some (.int .u8 0), 1, 1) := by kernel_rfl
theorem info_stream : (Try.prog.info? 90).map (fun i => (i.zero, i.size, i.bytes)) = some (some (.agg #[.slice none 0 0, .int .i64 0]), 2, 32) := by kernel_rfl

set_option maxHeartbeats 1000000 in
theorem append_new (A B : Option Addr) (n c m c2 : Nat) (k : Int) (d b : List UInt8) (w : World) (hA : BytesV w A n c d) (hB : BytesV w B m c2 b) (hs : n + m ≤ 65536) :
    Calls Try.prog 44 #[.agg #[.slice A n c, .int .i64 k], .slice B m c2] w fun e w' =>
      ∃ A' c', e = .returned (.agg #[.slice A' (n + m) c', .int .i64 k]) ∧ BytesV w' A' (n + m) c' (d ++ b) ∧ (d ++ b ≠ [] → ∀ a, A' = some a → (A' = A ∧ d ≠ []) ∨ w.heap.size ≤ a.block) ∧ Ext w w' := by
  obtain ⟨i0, hi0, hz0, hz1, hz2⟩ := info_parts info_u8
  have hnc := hA.le
  have hcm := hA.cap
  unfold maxLen at hcm
  have hsl := fun W => run_slice3 (P := Try.prog) _ _ i0 Try.underlying40 hi0 A n c n hnc W
  have hn0 : A = none → n = 0 := fun h => by have := hA.nil h; omega
  have hcells : Cells w A (bytesOf d) := hA.cells
  have hbcells : Cells w B (bytesOf b) := hB.cells
  have hld : (bytesOf d).length = n * 1 := by rw [bytesOf_length, hA.len]; omega
  have hlb : (bytesOf b).length = m * 1 := by rw [bytesOf_length, hB.len]; omega
  have Hlen := Lib.hid hA.len
  have Hlenb := Lib.hid hB.len
  have Hld := Lib.hid hld
  have Hlb := Lib.hid hlb
  clear hld hlb
  have hE : Ext w ((w.alloc (.cells #[.slice A n c, .int .i64 k] 90)).alloc (.cells #[.slice none 0 0, .int .i64 0] 90)) := ((Below.refl _ w).alloc (Nat.le_refl _) _).alloc (by simp) _
  go_enter Try.func44, Try.ntmps44
  go_wp2_with (
    (at_builtin
     refine wpList_append_full rfl (.tmp 13) (.tmp 14) _ _ rfl i0 _ 1 1 Try.underlying40 hi0 hz0 hz1 hz2 rfl (by decide) A n (bytesOf d) rfl Hld.out ?ca hn0 B m c2 (bytesOf b) rfl Hlb.out ?cb ?c63 ?cby ?_
     case ca => exact hcells.ext hE
     case cb => exact hbcells.ext hE
     case c63 => simp only [maxLen]; omega
     case cby => omega
     intro A' c' w1 g1 g2 g3 g4 hx g6
     have c0 := hx.cell (p := ⟨w.heap.size, 0, none⟩) (v := .slice A n c) (by simp [go_sem])
     have c1 := hx.cell (p := ⟨w.heap.size, 1, none⟩) (v := .int .i64 k) (by simp [go_sem])
     have c2 := hx.cell (p := ⟨w.heap.size + 1, 0, none⟩) (v := .slice none 0 0) (by simp [go_sem])
     have c3 := hx.cell (p := ⟨w.heap.size + 1, 1, none⟩) (v := .int .i64 0) (by simp [go_sem])
     have f0 := hx.frozen (p := ⟨w.heap.size, 0, none⟩) (by simp; omega)
     have f2 := hx.frozen (p := ⟨w.heap.size + 1, 0, none⟩) (by simp)
     have f3 := hx.frozen (p := ⟨w.heap.size + 1, 1, none⟩) (by simp)
     simp [go_sem] at f0 f2 f3))
  have hblk : bytesOf d ++ bytesOf b ≠ [] → ∀ a, A' = some a → a.block ≠ w.heap.size ∧ a.block ≠ w.heap.size + 1 := fun hne a ha => by
    rcases g6 with ⟨rfl, hm, _⟩ | ⟨a', ha', hb'⟩
    · have hb0 : bytesOf b = [] := List.eq_nil_of_length_eq_zero (by rw [Hlb.out, hm])
      rw [hb0, List.append_nil] at hne
      subst ha
      have := hcells.lt hne
      omega
    · have : a' = a := Option.some.inj (ha'.symm.trans ha)
      subst this
      simp at hb'
      omega
  refine bodyPost_ret (v := .agg #[.slice A' (n + m) c', .int .i64 k]) (by simp [results, Try.results44, go_sem, c2, c3]) rfl ⟨A', c', rfl, ⟨by rw [List.length_append, Hlen.out, Hlenb.out], g1, g2, g3, ?_⟩, ?_, ?_⟩
  · rw [bytesOf_append]
    exact (((g4.set (fun hne a ha => (hblk hne a ha).1) _).set (fun hne a ha => (hblk hne a ha).2) _).set (fun hne a ha => (hblk hne a ha).2) _)
  · intro hne a ha
    rcases g6 with ⟨rfl, hm, _⟩ | ⟨a', ha', hb'⟩
    · have hb0 : b = [] := List.eq_nil_of_length_eq_zero (by rw [Hlenb.out, hm])
      rw [hb0, List.append_nil] at hne
      exact .inl ⟨rfl, hne⟩
    · have : a' = a := Option.some.inj (ha'.symm.trans ha)
      subst this
      refine .inr ?_
      simp at hb'
      omega
  · exact (((hE.trans hx).setCell (by simp) _).setCell (by simp) _).setCell (by simp) _
theorem append_any (A B : Option Addr) (n c m c2 : Nat) (k : Int) (d b : List UInt8) (w : World) (hA : BytesV w A n c d) (hB : BytesV w B m c2 b) (hs : n + m ≤ 65536) :
    Calls Try.prog 44 #[.agg #[.slice A n c, .int .i64 k], .slice B m c2] w fun e w' =>
      ∃ A' c', e = .returned (.agg #[.slice A' (n + m) c', .int .i64 k]) ∧ BytesV w' A' (n + m) c' (d ++ b) ∧ Ext w w' :=
  (append_new A B n c m c2 k d b w hA hB hs).mono fun _ _ ⟨A', c', h1, h2, _, h3⟩ => ⟨A', c', h1, h2, h3⟩

def rightB (k : Int) (n : Nat) : Bool := decide (0 ≤ k) && decide (k ≤ (n : Int))
theorem rightB_spec {k : Int} {n : Nat} (h : rightB k n = true) : 0 ≤ k ∧ k ≤ n := by simpa [rightB] using h
theorem right_any (A : Option Addr) (n c : Nat) (k : Int) (w : World) :
    Calls Try.prog 42 #[.agg #[.slice A n c, .int .i64 k]] w fun e w' => e = .returned (.bool (rightB k n)) ∧ Ext w w' := by
  by_cases h0 : 0 ≤ k
  · go_enter Try.func42, Try.ntmps42
    go_wp2
    all_goals go_ret
    all_goals exact ⟨ret_bool' (by simp [rightB, h0]), (Below.refl _ _).alloc (Nat.le_refl _) _⟩
  · have h1 : decide (0 ≤ k) = false := by simpa using h0
    go_enter Try.func42, Try.ntmps42
    go_wp2
    all_goals go_ret
    all_goals exact ⟨ret_bool' (by simp [rightB]; omega), (Below.refl _ _).alloc (Nat.le_refl _) _⟩
theorem rright_any (A : Option Addr) (n c : Nat) (k : Int) (w : World) :
    Calls Try.prog 41 #[.agg #[.slice A n c, .int .i64 k]] w fun e w' => e = .returned (.bool (rightB k n)) ∧ Ext w w' := by
  by_cases h0 : 0 ≤ k
  · go_enter Try.func41, Try.ntmps41
    go_wp2
    all_goals go_ret
    all_goals exact ⟨ret_bool' (by simp [rightB, h0]), (Below.refl _ _).alloc (Nat.le_refl _) _⟩
  · have h1 : decide (0 ≤ k) = false := by simpa using h0
    go_enter Try.func41, Try.ntmps41
    go_wp2
    all_goals go_ret
    all_goals exact ⟨ret_bool' (by simp [rightB]; omega), (Below.refl _ _).alloc (Nat.le_refl _) _⟩
theorem sync_any (A : Option Addr) (n c : Nat) (k : Int) (_hn : n ≤ 9223372036854775807) (w : World) :
    Calls Try.prog 46 #[.agg #[.slice A n c, .int .i64 k]] w fun e w' => e = .returned (.agg #[.slice A n c, .int .i64 n]) ∧ Ext w w' := by
  go_enter Try.func46, Try.ntmps46
  go_wp2
  exact bodyPost_ret (v := .agg #[.slice A n c, .int .i64 n]) (by simp [results, Try.results46, go_sem]) rfl ⟨rfl, ((Below.refl _ _).alloc (Nat.le_refl _) _).alloc (by simp) _⟩
theorem rsync_any (A : Option Addr) (n c : Nat) (k : Int) (_hn : n ≤ 9223372036854775807) (w : World) :
    Calls Try.prog 47 #[.agg #[.slice A n c, .int .i64 k]] w fun e w' => e = .returned (.agg #[.slice A n c, .int .i64 n]) ∧ Ext w w' := by
  go_enter Try.func47, Try.ntmps47
  go_wp2
  exact bodyPost_ret (v := .agg #[.slice A n c, .int .i64 n]) (by simp [results, Try.results47, go_sem]) rfl ⟨rfl, ((Below.refl _ _).alloc (Nat.le_refl _) _).alloc (by simp) _⟩
def cutN (n : Nat) (k more : Int) : Nat := (k + min (max more 0) (n - k)).toNat
theorem cutN_le {n : Nat} {k more : Int} (_h0 : 0 ≤ k) (_h1 : k ≤ n) : cutN n k more ≤ n := by unfold cutN; omega
theorem cut_any (A : Option Addr) (n c : Nat) (k more : Int) (hn : n ≤ 9223372036854775807) (hc : n ≤ c) (h0 : 0 ≤ k) (h1 : k ≤ n) (w : World) :
    Calls Try.prog 48 #[.agg #[.slice A n c, .int .i64 k], .int .i64 more] w fun e w' =>
      e = .returned (.agg #[.slice A (cutN n k more) (cutN n k more), .int .i64 (cutN n k more)]) ∧ Ext w w' := by
  obtain ⟨i0, hi0, hz0, hz1, hz2⟩ := info_parts info_u8
  have hend : ∀ x : Int, 0 ≤ x → x = (cutN n k more : Int) → bodyPost Try.prog Try.f48 (fun e w' => e = .returned (.agg #[.slice A (cutN n k more) (cutN n k more), .int .i64 (cutN n k more)]) ∧ Ext w w') Exit.ret = bodyPost Try.prog Try.f48 (fun e w' => e = .returned (.agg #[.slice A x.toNat x.toNat, .int .i64 x]) ∧ Ext w w') Exit.ret := fun x hx he => by
    rw [← he]; simp [show (cutN n k more) = x.toNat by omega]
  have H : ∀ x : Int, 0 ≤ x → x = (cutN n k more : Int) → Ending.returned (.agg #[.slice A x.toNat x.toNat, .int .i64 x]) = Ending.returned (.agg #[.slice A (cutN n k more) (cutN n k more), .int .i64 (cutN n k more)]) := fun x hx he => by
    rw [show x.toNat = cutN n k more by omega, ← he]
  clear hend
  by_cases hm : more ≤ 0
  · have hsl := fun W => run_slice3' (P := Try.prog) _ _ i0 Try.underlying40 hi0 A n c k h0 (by omega) W
    rcases Int.lt_or_eq_of_le hm with hm1 | rfl
    · go_enter Try.func48, Try.ntmps48
      go_wp2
      refine bodyPost_ret (v := .agg #[.slice A k.toNat k.toNat, .int .i64 k]) (by simp [results, Try.results48, go_sem]) rfl ⟨H k h0 (by unfold cutN; omega), ((Below.refl _ _).alloc (Nat.le_refl _) _).alloc (by simp) _⟩
    · go_enter Try.func48, Try.ntmps48
      go_wp2
      refine bodyPost_ret (v := .agg #[.slice A k.toNat k.toNat, .int .i64 k]) (by simp [results, Try.results48, go_sem]) rfl ⟨H k h0 (by unfold cutN; omega), ((Below.refl _ _).alloc (Nat.le_refl _) _).alloc (by simp) _⟩
  · have hm' : 0 < more := by omega
    have hm2 : ¬ more < 0 := by omega
    by_cases hl : more ≤ n - k
    · have hl2 : ¬ (n - k < more) := by omega
      have hsl := fun W => run_slice3' (P := Try.prog) _ _ i0 Try.underlying40 hi0 A n c (k + more) (by omega) (by omega) W
      go_enter Try.func48, Try.ntmps48
      go_wp2
      all_goals
        refine bodyPost_ret (v := .agg #[.slice A (k + more).toNat (k + more).toNat, .int .i64 (k + more)]) (by simp [results, Try.results48, go_sem]) rfl ⟨H (k + more) (by omega) (by unfold cutN; omega), ((Below.refl _ _).alloc (Nat.le_refl _) _).alloc (by simp) _⟩
    · have hl2 : n - k < more := by omega
      have hsl := fun W => run_slice3' (P := Try.prog) _ _ i0 Try.underlying40 hi0 A n c (k + (n - k)) (by omega) (by omega) W
      go_enter Try.func48, Try.ntmps48
      go_wp2
      all_goals
        refine bodyPost_ret (v := .agg #[.slice A (k + (n - k)).toNat (k + (n - k)).toNat, .int .i64 (k + (n - k))]) (by simp [results, Try.results48, go_sem]) rfl ⟨H (k + (n - k)) (by omega) (by unfold cutN; omega), ((Below.refl _ _).alloc (Nat.le_refl _) _).alloc (by simp) _⟩
theorem nums_back (l : List UInt8) : (l.map fun b => (b.toNat : Int)).map (fun n => UInt8.ofNat n.toNat) = l := by
  rw [List.map_map]
  conv => rhs; rw [← List.map_id l]
  refine List.map_congr_left fun b _ => ?_
  simp
theorem run_convert_bytesV {P : Program} {w : World} {A : Option Addr} {n c : Nat} {l : List UInt8} (h : BytesV w A n c l) {src dst e : TypeId} (hs : P.underlying src = some (.slice e)) (he : P.underlying e = some (.int .u8)) (hd : P.underlying dst = some .string) :
    (convert src dst (.slice A n c)).run P w = .ok (.string ⟨l.toArray⟩) w := by
  rcases A with _ | a
  · have hc := h.nil rfl
    have hn : n = 0 := by have := h.le; omega
    have hl : l = [] := List.eq_nil_of_length_eq_zero (by rw [h.len, hn])
    subst hl
    rw [run_convert_bytes_nil w src e hs he n c dst hd]
    rfl
  · have hload : (loadCells a n).run P w = .ok ((l.map fun b => (b.toNat : Int)).map (Value.int .u8)).toArray w := by
      have hm : (l.map fun b => (b.toNat : Int)).map (Value.int .u8) = bytesOf l := by simp [bytesOf]
      rw [hm]
      by_cases hn : bytesOf l = []
      · have hl0 : l = [] := by simpa [bytesOf] using hn
        have : n = 0 := by rw [← h.len, hl0]; rfl
        subst this
        rw [hn]
        exact run_loadCells_list (P := P) w a [] (fun j v hj => by simp at hj)
      · obtain ⟨a', ha, hc⟩ := h.cells hn
        injection ha with ha
        subst ha
        have := run_loadCells_list (P := P) w a (bytesOf l) hc
        rwa [bytesOf_length, h.len] at this
    rw [run_convert_bytes_string w src dst e _ n c hs he hd, run_bytesToString w a n c _ hload, foldl_push_bytes, nums_back]
    simp [ByteArray.empty, ByteArray.emptyWithCapacity]
    rfl

def sameB (a b : List UInt8) (k l : Int) : Bool := decide (a = b) && (k == l)
set_option maxHeartbeats 1000000 in
theorem same_any (A B : Option Addr) (n c m c2 : Nat) (k l : Int) (a b : List UInt8) (w : World) (hA : BytesV w A n c a) (hB : BytesV w B m c2 b) :
    Calls Try.prog 43 #[.agg #[.slice A n c, .int .i64 k], .agg #[.slice B m c2, .int .i64 l]] w fun e w' => e = .returned (.bool (sameB a b k l)) ∧ Ext w w' := by
  have hE : Ext w ((w.alloc (.cells #[.slice A n c, .int .i64 k] 90)).alloc (.cells #[.slice B m c2, .int .i64 l] 90)) := ((Below.refl _ w).alloc (Nat.le_refl _) _).alloc (by simp) _
  have q1 := run_convert_bytesV (P := Try.prog) (hA.ext hE) Try.underlying40 Try.underlying5 Try.underlying9
  have q2 := run_convert_bytesV (P := Try.prog) (hB.ext hE) Try.underlying40 Try.underlying5 Try.underlying9
  clear hA hB
  by_cases h : a = b
  · have hd : decide (a = b) = true := by simpa using h
    go_enter Try.func43, Try.ntmps43
    go_wp2
    all_goals go_ret
    all_goals exact ⟨ret_bool' (by simp [sameB, h]), hE⟩
  · have hd : decide (a = b) = false := by simpa using h
    go_enter Try.func43, Try.ntmps43
    go_wp2
    all_goals go_ret
    all_goals exact ⟨ret_bool' (by simp [sameB, h]), hE⟩

theorem bytesOf_one (l : List UInt8) : ∀ u ∈ bytesOf l, u.oneCell' = true := by
  intro u hu
  obtain ⟨b, _, rfl⟩ := List.mem_map.1 hu
  rfl
theorem BytesV.none0 {w : World} {A : Option Addr} {n c : Nat} {l : List UInt8} (h : BytesV w A n c l) : A = none → c = 0 ∧ n = 0 := fun e => by
  have := h.nil e; have := h.le; omega
theorem same_yes (A B : Option Addr) (n c c2 : Nat) (k : Int) (a : List UInt8) (w : World) (hA : BytesV w A n c a) (hB : BytesV w B n c2 a) :
    Calls Try.prog 43 #[.agg #[.slice A n c, .int .i64 k], .agg #[.slice B n c2, .int .i64 k]] w fun e w' => e = .returned (.bool true) ∧ Ext w w' :=
  (same_any A B n c n c2 k k a a w hA hB).mono fun _ _ ⟨he, hx⟩ => ⟨by rw [he]; simp [sameB], hx⟩
theorem cut_self (A : Option Addr) (n c : Nat) (more : Int) (hn : n ≤ 65536) (hc : n ≤ c) (w : World) :
    Calls Try.prog 48 #[.agg #[.slice A n c, .int .i64 n], .int .i64 more] w fun e w' => e = .returned (.agg #[.slice A n n, .int .i64 n]) ∧ Ext w w' :=
  (cut_any A n c n more (by omega) hc (by omega) (by omega) w).mono fun _ _ ⟨he, hx⟩ => ⟨by rw [he, show cutN n n more = n by unfold cutN; omega], hx⟩
theorem BytesV.cut {w : World} {A : Option Addr} {n c : Nat} {l : List UInt8} (h : BytesV w A n c l) {m : Nat} (hm : m ≤ n) : BytesV w A m m (l.take m) := by
  refine ⟨by rw [List.length_take, h.len]; omega, Nat.le_refl _, Nat.le_trans hm (Nat.le_trans h.le h.cap), fun e => by have := h.nil e; have := h.le; omega, ?_⟩
  have := h.cells.take m
  rw [show bytesOf (l.take m) = (bytesOf l).take m by simp [bytesOf, List.map_take]]
  exact this
theorem BytesV.more {w : World} {A : Option Addr} {n c : Nat} {l : List UInt8} (h : BytesV w A n c l) : BytesV w A n n l := by
  have := h.cut (Nat.le_refl n)
  rwa [List.take_of_length_le (by rw [h.len]; exact Nat.le_refl _)] at this
theorem bytesOf_notin {l : List UInt8} {A : Option Addr} {n c : Nat} {k : Int} : ∀ v ∈ bytesOf l, v ∉ (#[.slice A n c, .int .i64 k] : Array Value) := by
  intro v hv
  obtain ⟨b, _, rfl⟩ := List.mem_map.1 hv
  simp
/-- a stream that lies in a box of its own: what is stored into the box leaves the bytes -/
theorem BytesV.box {w : World} {A : Option Addr} {n c : Nat} {l : List UInt8} (h : BytesV w A n c l) {g : Nat} {A0 : Option Addr} {n0 c0 : Nat} {k0 : Int} {T : TypeId} {fr : Nat × Nat} (hg : w.heap[g]? = some (.cells #[.slice A0 n0 c0, .int .i64 k0] T fr)) (u v : Value) (i j : Nat) :
    BytesV ((w.setCell ⟨g, i, none⟩ u).setCell ⟨g, j, none⟩ v) A n c l :=
  ⟨h.len, h.le, h.cap, h.nil, (h.cells.set (h.cells.apart hg bytesOf_notin) _).set (h.cells.apart hg bytesOf_notin) _⟩
end Go.Proofs.Ytennnhfaghdeoaa
