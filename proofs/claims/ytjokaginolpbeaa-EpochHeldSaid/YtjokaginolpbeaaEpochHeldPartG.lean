import Derived.Test.YtjokaginolpbeaaEpochHeldPartF
import Derived.Test.YtjokaginolpbeaaEpochHeldPartE
import Derived.Test.YtjokaginolpbeaaEpochHeldPartA
import Derived.Test.YtjokaginolpbeaaEpochHeldPartB
import Derived.Lib.Hide
import Derived.LoopTactic
namespace Go.Proofs.Ytjokaginolpbeaa
open Go.RowKit

/-! The example of chapter 13, in plain. -/
def exP (me k u : Int) : List Int → NextE := nextT (epochT ((2 : Nat) : Int) me k u 100)
def exV : WldK × OutN × Bool := aloneN (exP 0 6 0) 0 (99 + 1) (newW 2 1) []
def exU : WldK × OutN × Bool := aloneN (exP 0 5 1) 0 (99 + 1) exV.1 []
def exX : WldK × OutN × Bool := aloneN (exP 1 6 0) 1 (99 + 1) exU.1 []
def exD : WldK × OutN × Bool := aloneN (exP 0 6 0) 0 (99 + 1) exX.1 []
def exY : WldK × OutN × Bool := aloneN (exP 1 3 0) 1 (9 + 1) (newW 2 1) []
theorem exV_eq : exV.2 = (⟨0, false, 1, 0⟩, true) := by kernel_rfl
theorem exU_eq : exU.2 = (⟨0, false, 0, 0⟩, true) := by kernel_rfl
theorem exX_eq : exX.2 = (⟨0, false, 1, 0⟩, true) := by kernel_rfl
theorem exD_eq : exD.2 = (⟨0, false, 0, 0⟩, true) := by kernel_rfl
theorem exY_eq : exY.2 = (⟨0, false, 0, 0⟩, true) := by kernel_rfl
theorem exY_len : exY.1.ws.length = 18 := by kernel_rfl
theorem exY_at : exY.1.at 9 = 1 := by kernel_rfl
theorem ex0 : WOk (newW 2 1) ∧ (newW 2 1).T = ((2 : Nat) : Int) := ⟨new_wok (by omega) (by omega) (by omega), rfl⟩
theorem ex_ok {X : WldK} (h : WOk X ∧ X.T = ((2 : Nat) : Int)) (me k u : Int) (hu : k = 5 → U64 u) (n : Nat) : WOk (aloneN (exP me k u) me n X []).1 ∧ (aloneN (exP me k u) me n X []).1.T = ((2 : Nat) : Int) := by
  obtain ⟨h1, h2, -⟩ := aloneN_ok (P := exP me k u) (me := me) (fun ns x h hx => epochN_ok _ _ _ _ _ hu ns x h hx) n X [] h.1 (fun m hm => by cases hm)
  exact ⟨h1, h2.trans h.2⟩
theorem exV_ok : WOk exV.1 ∧ exV.1.T = ((2 : Nat) : Int) := ex_ok ex0 0 6 0 (by omega) _
theorem exU_ok : WOk exU.1 ∧ exU.1.T = ((2 : Nat) : Int) := ex_ok exV_ok 0 5 1 (fun _ => by unfold U64; omega) _
theorem exX_ok : WOk exX.1 ∧ exX.1.T = ((2 : Nat) : Int) := ex_ok exU_ok 1 6 0 (by omega) _
theorem exc_V (wv : Value) (w : World) (hV : WldV w wv (newW 2 1)) : Calls Try.prog 22 #[wv, .int .i64 0, .agg #[.int .i64 6, .int .i64 0, .int .i64 0, .int .u64 0], .int .i64 99] w fun e w' => ∃ v', e = .returned (.tuple #[v', .agg #[.int .i64 0, .bool false, .int .i64 1, .int .u64 0, .slice none 0 0], .bool true]) ∧ WldV w' v' exV.1 ∧ Ext w w' := by
  have h := eal_any 100 (newW 2 1) 2 ex0.2 (by omega) ex0.1 wv 0 6 0 0 0 99 (by omega) (by omega) (by omega) 99 rfl (by omega) (by omega) w hV
  rw [show aloneN (nextT (epochT ((2 : Nat) : Int) 0 6 0 100)) 0 (99 + 1) (newW 2 1) [] = exV from rfl, exV_eq] at h
  exact h
theorem exc_U (wv : Value) (w : World) (hV : WldV w wv (exV.1)) : Calls Try.prog 22 #[wv, .int .i64 0, .agg #[.int .i64 5, .int .i64 1, .int .i64 0, .int .u64 0], .int .i64 99] w fun e w' => ∃ v', e = .returned (.tuple #[v', .agg #[.int .i64 0, .bool false, .int .i64 0, .int .u64 0, .slice none 0 0], .bool true]) ∧ WldV w' v' exU.1 ∧ Ext w w' := by
  have h := eal_any 100 (exV.1) 2 exV_ok.2 (by omega) exV_ok.1 wv 0 5 1 0 0 99 (by omega) (by omega) (by omega) 99 rfl (by omega) (by omega) w hV
  rw [show aloneN (nextT (epochT ((2 : Nat) : Int) 0 5 1 100)) 0 (99 + 1) (exV.1) [] = exU from rfl, exU_eq] at h
  exact h
theorem exc_X (wv : Value) (w : World) (hV : WldV w wv (exU.1)) : Calls Try.prog 22 #[wv, .int .i64 1, .agg #[.int .i64 6, .int .i64 0, .int .i64 0, .int .u64 0], .int .i64 99] w fun e w' => ∃ v', e = .returned (.tuple #[v', .agg #[.int .i64 0, .bool false, .int .i64 1, .int .u64 0, .slice none 0 0], .bool true]) ∧ WldV w' v' exX.1 ∧ Ext w w' := by
  have h := eal_any 100 (exU.1) 2 exU_ok.2 (by omega) exU_ok.1 wv 1 6 0 0 0 99 (by omega) (by omega) (by omega) 99 rfl (by omega) (by omega) w hV
  rw [show aloneN (nextT (epochT ((2 : Nat) : Int) 1 6 0 100)) 1 (99 + 1) (exU.1) [] = exX from rfl, exX_eq] at h
  exact h
theorem exc_D (wv : Value) (w : World) (hV : WldV w wv (exX.1)) : Calls Try.prog 22 #[wv, .int .i64 0, .agg #[.int .i64 6, .int .i64 0, .int .i64 0, .int .u64 0], .int .i64 99] w fun e w' => ∃ v', e = .returned (.tuple #[v', .agg #[.int .i64 0, .bool false, .int .i64 0, .int .u64 0, .slice none 0 0], .bool true]) ∧ WldV w' v' exD.1 ∧ Ext w w' := by
  have h := eal_any 100 (exX.1) 2 exX_ok.2 (by omega) exX_ok.1 wv 0 6 0 0 0 99 (by omega) (by omega) (by omega) 99 rfl (by omega) (by omega) w hV
  rw [show aloneN (nextT (epochT ((2 : Nat) : Int) 0 6 0 100)) 0 (99 + 1) (exX.1) [] = exD from rfl, exD_eq] at h
  exact h
theorem exc_Y (wv : Value) (w : World) (hV : WldV w wv (newW 2 1)) : Calls Try.prog 22 #[wv, .int .i64 1, .agg #[.int .i64 3, .int .i64 0, .int .i64 0, .int .u64 0], .int .i64 9] w fun e w' => ∃ v', e = .returned (.tuple #[v', .agg #[.int .i64 0, .bool false, .int .i64 0, .int .u64 0, .slice none 0 0], .bool true]) ∧ WldV w' v' exY.1 ∧ Ext w w' := by
  have h := eal_any 100 (newW 2 1) 2 ex0.2 (by omega) ex0.1 wv 1 3 0 0 0 9 (by omega) (by omega) (by omega) 9 rfl (by omega) (by omega) w hV
  rw [show aloneN (nextT (epochT ((2 : Nat) : Int) 1 3 0 100)) 1 (9 + 1) (newW 2 1) [] = exY from rfl, exY_eq] at h
  exact h
end Go.Proofs.Ytjokaginolpbeaa

namespace Go.Proofs.Ytjokaginolpbeaa
open Go.RowKit

/-! wealdref11: a log that is gone through. -/
def Res.zero : Res := ⟨0, none, 0, 0, false⟩
/-- how far a log is gone through, whether it stopped, and what is asked -/
structure Cu where
  i : Nat
  stop : Bool
  x : Acc
def Cu.told (rs : List Res) (s : Cu) : Res := if s.stop then Res.zero else (rs[s.i]?).getD Res.zero
def Cu.next (rs : List Res) (y : Acc) (s : Cu) : Cu := if s.stop then s else if s.i < rs.length then ⟨s.i + 1, false, s.x⟩ else ⟨s.i, true, y⟩
def curCells (A : Option Addr) (n c : Nat) (s : Cu) : List Value := [.slice A n c, .int .i64 s.i, .bool s.stop, .int .i64 s.x.kind, .int .i64 s.x.cell, .int .u64 s.x.a, .int .u64 s.x.b, .slice s.x.D s.x.dk s.x.dc, .slice s.x.W s.x.wk s.x.wc]
def CurAt (w : World) (g : Nat) (A : Option Addr) (n c : Nat) (s : Cu) : Prop := w.heap[g]? = some (.cells (curCells A n c s).toArray 142 (0, 0))
end Go.Proofs.Ytjokaginolpbeaa

namespace Go.Proofs.Ytjokaginolpbeaa
open Go.RowKit

/-! wealdref11.Cur: Load, Store, Cas. -/
theorem LogV.cur {w w' : World} {g : Nat} {A : Option Addr} {n c : Nat} {rs : List Res} (h : LogV w A n c rs) (hx : ExtB g w w') (hsep : ∀ a, A = some a → 0 < n → a.block ≠ g) : LogV w' A n c rs :=
  ⟨h.len, h.small, fun j r hr => let ⟨a, ha, h1⟩ := h.at_ j r hr; ⟨a, ha, h1.extB hx (hsep a ha (by have := (List.getElem?_eq_some_iff.1 hr).1; have := h.len; omega))⟩⟩
theorem CurAt.ext {w w' : World} {g : Nat} {A : Option Addr} {n c : Nat} {s : Cu} (h : CurAt w g A n c s) (hx : Ext w w') : CurAt w' g A n c s := heap_ext h hx
end Go.Proofs.Ytjokaginolpbeaa

namespace Go.Proofs.Ytjokaginolpbeaa
open Go.RowKit

/-! The document's text (wealdref08), and 'shown'. -/
end Go.Proofs.Ytjokaginolpbeaa

namespace Go.Proofs.Ytjokaginolpbeaa
open Go.RowKit

/-! wealdref12.Pop, wealdref12.Push: what popN and pushN say. -/
def Cu.after (rs : List Res) (s : Cu) : ProgE → Cu
  | .stop x => ⟨rs.length, true, x⟩
  | .ret _ k => ⟨k, false, s.x⟩
def ProgE.val : ProgE → Int
  | .stop _ => 0
  | .ret r _ => r
theorem Cu.on {rs : List Res} {s : Cu} {y : Acc} {r : Res} {R : List Res} (hs : s.stop = false) (h : rs.drop s.i = r :: R) : s.told rs = r ∧ s.next rs y = ⟨s.i + 1, false, s.x⟩ ∧ rs.drop (s.i + 1) = R := by
  have h1 : s.i < rs.length := by
    rcases Nat.lt_or_ge s.i rs.length with h' | h'
    · exact h'
    · rw [List.drop_eq_nil_of_le h'] at h; cases h
  have h2 : rs[s.i]? = some r := by rw [List.getElem?_eq_getElem h1]; rw [List.drop_eq_getElem_cons h1] at h; injection h with h _; rw [h]
  refine ⟨by simp [Cu.told, hs, h2], by simp [Cu.next, hs, h1], ?_⟩
  rw [show rs.drop (s.i + 1) = (rs.drop s.i).drop 1 by rw [List.drop_drop], h]; rfl
theorem Cu.off {rs : List Res} {s : Cu} {y : Acc} (hs : s.stop = false) (h : rs.drop s.i = []) (hi : s.i ≤ rs.length) : s.told rs = Res.zero ∧ s.next rs y = ⟨rs.length, true, y⟩ := by
  have h1 : s.i = rs.length := by
    rcases Nat.lt_or_ge s.i rs.length with h' | h'
    · rw [List.drop_eq_getElem_cons h'] at h; cases h
    · omega
  refine ⟨by simp [Cu.told, hs, h1], by simp [Cu.next, hs, h1]⟩
theorem Cu.still {rs : List Res} {s : Cu} {y : Acc} (hs : s.stop = true) : s.told rs = Res.zero ∧ s.next rs y = s := by simp [Cu.told, Cu.next, hs]
def curM (g : Nat) (w : World) : Nat := match w.cell? ⟨g, 2, none⟩ with
  | some (.bool true) => 0
  | _ => match w.cell? ⟨g, 1, none⟩ with
    | some (.int _ i) => 65537 - i.toNat
    | _ => 0
theorem CurAt.cells {w : World} {g : Nat} {A : Option Addr} {n c : Nat} {s : Cu} (h : CurAt w g A n c s) : w.cell? ⟨g, 1, none⟩ = some (.int .i64 (s.i : Int)) ∧ w.cell? ⟨g, 2, none⟩ = some (.bool s.stop) := by
  unfold CurAt curCells at h
  simp [World.cell?, h]
theorem CurAt.m {w : World} {g : Nat} {A : Option Addr} {n c : Nat} {s : Cu} (h : CurAt w g A n c s) : curM g w = if s.stop then 0 else 65537 - s.i := by
  obtain ⟨h1, h2⟩ := h.cells
  unfold curM
  rw [h2, h1]
  cases s.stop <;> simp
end Go.Proofs.Ytjokaginolpbeaa

namespace Go.Proofs.Ytjokaginolpbeaa
open Go.RowKit

/-! A row of ints of the call's own, its spare part known too: what is laid onto it turns no world. -/
def intCells (l : List Int) : List Value := l.map (.int .i64)
theorem intCells_take (l : List Int) (n : Nat) : (intCells l).take n = intCells (l.take n) := by simp [intCells, List.map_take]
theorem intCells_at {l : List Int} {i : Nat} {x : Int} (h : l[i]? = some x) : (intCells l)[i]? = some (.int .i64 x) := by simp [intCells, h]
def IntOwn (w : World) (base : Nat) (v : Value) (n : Nat) (l : List Int) : Prop :=
  l.length = n ∧ ((v = .slice none 0 0 ∧ n = 0) ∨ ∃ g cap full, v = .slice (some ⟨g, 0, none⟩) n cap ∧ base ≤ g ∧ w.heap[g]? = some (.cells (intCells full).toArray 3 (0, 0)) ∧ n ≤ cap ∧ cap ≤ maxLen ∧ full.length = cap ∧ full.take n = l)
theorem IntOwn.nil (w : World) (base : Nat) : IntOwn w base (.slice none 0 0) 0 [] := ⟨rfl, .inl ⟨rfl, rfl⟩⟩
theorem IntOwn.kept {w w' : World} {base : Nat} {v : Value} {n : Nat} {l : List Int} (h : IntOwn w base v n l) (hk : ∀ g o, base ≤ g → some g = v.ownBlock → w.heap[g]? = some o → w'.heap[g]? = some o) : IntOwn w' base v n l := by
  refine ⟨h.1, ?_⟩
  rcases h.2 with h2 | ⟨g, cap, full, e, hb, hg, h3⟩
  · exact .inl h2
  · exact .inr ⟨g, cap, full, e, hb, hk g _ hb (by rw [e]; rfl) hg, h3⟩
theorem IntOwn.ext {w w' : World} {base : Nat} {v : Value} {n : Nat} {l : List Int} (h : IntOwn w base v n l) (hx : Ext w w') : IntOwn w' base v n l := h.kept fun _ _ _ _ ho => heap_ext ho hx
/-- another own row grows -/
theorem IntOwn.grown {w w' : World} {base : Nat} {v u : Value} {n : Nat} {l : List Int} (h : IntOwn w base v n l) (hg : w.grownBy w' u.ownBlock) (hne : ∀ g, v.ownBlock = some g → u.ownBlock ≠ some g) : IntOwn w' base v n l :=
  h.kept fun g o _ hv ho => by
    rw [hg.block g (Array.getElem?_eq_some_iff.1 ho).1 (fun e => hne g hv.symm e.symm)]; exact ho
theorem IntOwn.form {w : World} {base : Nat} {v : Value} {n : Nat} {l : List Int} (h : IntOwn w base v n l) : ∃ B c, v = .slice B n c ∧ Cells w B (intCells l) ∧ (B = none → c = 0 ∧ n = 0) ∧ (∀ b, B = some b → ∃ g, b = ⟨g, 0, none⟩ ∧ base ≤ g ∧ v.ownBlock = some g) ∧ n ≤ c ∧ c ≤ maxLen := by
  obtain ⟨hl, h⟩ := h
  rcases h with ⟨rfl, rfl⟩ | ⟨g, cap, full, rfl, hb, hg, h1, h2, h3, rfl⟩
  · have : l = [] := List.eq_nil_of_length_eq_zero hl
    subst this
    exact ⟨none, 0, rfl, Cells.nil _ _, fun _ => ⟨rfl, rfl⟩, (by intro b h; cases h), Nat.le_refl _, by simp only [maxLen]; omega⟩
  · refine ⟨_, _, rfl, fun _ => ⟨_, rfl, fun j u hj => ?_⟩, (by intro h; cases h), (by intro b h; cases h; exact ⟨g, rfl, hb, rfl⟩), h1, h2⟩
    rw [← intCells_take, List.getElem?_take] at hj
    split at hj
    · obtain ⟨a, ha, hc⟩ := cells_heap hg (fun e => by rw [e] at hj; simp at hj)
      cases ha
      exact hc j u hj
    · cases hj
/-- an element of it -/
theorem IntOwn.at {w : World} {base : Nat} {v : Value} {n : Nat} {l : List Int} (h : IntOwn w base v n l) {i : Nat} {x : Int} (hi : l[i]? = some x) : ∃ g c, v = .slice (some ⟨g, 0, none⟩) n c ∧ base ≤ g ∧ n ≤ c ∧ c ≤ maxLen ∧ w.cell? ⟨g, i, none⟩ = some (.int .i64 x) := by
  obtain ⟨hl, h⟩ := h
  rcases h with ⟨rfl, rfl⟩ | ⟨g, cap, full, rfl, hb, hg, h1, h2, h3, rfl⟩
  · have : l = [] := List.eq_nil_of_length_eq_zero hl
    subst this; simp at hi
  · refine ⟨g, cap, rfl, hb, h1, h2, ?_⟩
    rw [List.getElem?_take] at hi
    split at hi
    · have := intCells_at hi
      simp only [World.cell?, hg, Option.isSome_none, Bool.false_eq_true, if_false]
      simpa using this
    · cases hi
/-- the last one taken off -/
theorem IntOwn.pop {w : World} {base : Nat} {g cap n : Nat} {l : List Int} (h : IntOwn w base (.slice (some ⟨g, 0, none⟩) (n + 1) cap) (n + 1) l) : IntOwn w base (.slice (some ⟨g, 0, none⟩) n cap) n l.dropLast := by
  obtain ⟨hl, h⟩ := h
  rcases h with ⟨h, _⟩ | ⟨g', cap', full, e, hb, hg, h1, h2, h3, rfl⟩
  · cases h
  · cases e
    refine ⟨by rw [List.length_dropLast, hl]; omega, .inr ⟨g, cap, full, rfl, hb, hg, by omega, h2, h3, ?_⟩⟩
    rw [List.dropLast_eq_take, List.take_take, hl]
    congr 1; omega
theorem IntOwn.low {w : World} {base : Nat} {v : Value} {n : Nat} {l : List Int} (h : IntOwn w base v n l) {k : Nat} (hk : k < base) : v.ownBlock ≠ some k := by
  rcases h.2 with ⟨rfl, _⟩ | ⟨g, cap, full, rfl, hb, hh, _⟩
  · simp [Value.ownBlock]
  · simp only [Value.ownBlock]; intro e; injection e with e; omega
theorem IntOwn.lt {w : World} {base : Nat} {v : Value} {n : Nat} {l : List Int} (h : IntOwn w base v n l) {k : Nat} (hk : v.ownBlock = some k) : base ≤ k ∧ k < w.heap.size := by
  rcases h.2 with ⟨rfl, _⟩ | ⟨g, cap, full, rfl, hb, hh, _⟩
  · simp [Value.ownBlock] at hk
  · simp only [Value.ownBlock] at hk; injection hk with hk; subst hk; exact ⟨hb, (Array.getElem?_eq_some_iff.1 hh).1⟩
end Go.Proofs.Ytjokaginolpbeaa

namespace Go.Proofs.Ytjokaginolpbeaa
open Go.RowKit

/-! wealdref12.Free: a chain's records. -/
theorem WldV.words {w : World} {X : WldK} {T C : Int} {A : Option Addr} {q c : Nat} {R : Int} {B C' : Option Addr} {n b n' d : Nat} (h : WldV w (.agg #[.int .i64 T, .int .i64 C, .slice A q c, .int .u64 R, .slice B n b, .slice C' n' d]) X) : WordsV w A q c X.ws := by
  obtain ⟨A2, q2, c2, B2, C2, b2, d2, e, hw, -⟩ := h
  simp only [Value.agg.injEq, Array.mk.injEq, List.cons.injEq, Value.slice.injEq, and_true] at e
  obtain ⟨-, -, ⟨rfl, rfl, rfl⟩, -⟩ := e
  exact hw
theorem nodup_len : ∀ (c : Nat) (l : List Int), l.Nodup → (∀ x ∈ l, 1 ≤ x ∧ x ≤ (c : Int)) → l.length ≤ c
  | 0, l, _, h => by
    cases l with
    | nil => simp
    | cons x l => have := h x (by simp); omega
  | c + 1, l, hd, h => by
    have h1 := nodup_len c (l.erase ((c : Int) + 1)) (hd.erase _) (fun x hx => by
      have hm := List.mem_of_mem_erase hx
      have hne : x ≠ (c : Int) + 1 := fun e => by subst e; exact (List.Nodup.not_mem_erase hd) hx
      have := h x hm
      omega)
    have h2 : l.length ≤ (l.erase ((c : Int) + 1)).length + 1 := by
      by_cases hm : ((c : Int) + 1) ∈ l
      · rw [List.length_erase_of_mem hm]; omega
      · rw [List.erase_of_not_mem hm]; omega
    omega
theorem PoolK.len {X : WldK} {t c : Nat} {pile : List Int} (h : PoolK X t c pile) : pile.length ≤ c := nodup_len c pile h.nodup h.chain.mem
end Go.Proofs.Ytjokaginolpbeaa

namespace Go.Proofs.Ytjokaginolpbeaa
open Go.RowKit

/-! What the laws of chapter 12 share. -/
theorem bytes_cell {w : World} {A : Option Addr} {n c : Nat} {l : List UInt8} (h : BytesV w A n c l) {i : Nat} (hi : i < n) : ∃ a z, A = some a ∧ w.cell? (a.add i) = some (.int .u8 (z : Nat)) ∧ z < 256 := by
  have hl : i < l.length := by rw [h.len]; exact hi
  obtain ⟨a, ha, hc⟩ := h.cells (fun e => by simp [bytesOf] at e; subst e; simp at hl)
  refine ⟨a, l[i].toNat, ha, hc i _ ?_, l[i].toNat_lt⟩
  simp [bytesOf, hl]
theorem WldV.word {w : World} {X : WldK} {T C : Int} {A : Option Addr} {q c : Nat} {R : Int} {B C' : Option Addr} {n b n' d : Nat} (h : WldV w (.agg #[.int .i64 T, .int .i64 C, .slice A q c, .int .u64 R, .slice B n b, .slice C' n' d]) X) (h2 : 2 ≤ X.ws.length) :
    ∃ a, A = some a ∧ q = X.ws.length ∧ ∀ i : Nat, i < q → w.cell? (a.add i) = some (.int .u64 (X.at (i : Int))) := by
  have hA := h.words
  have hne : wordsOf X.ws ≠ [] := fun e => by
    have := congrArg List.length e
    rw [wordsOf_length, List.length_nil] at this; omega
  obtain ⟨a, rfl, hc⟩ := hA.cells hne
  refine ⟨a, rfl, hA.len.symm, fun i hi => hc i _ ?_⟩
  unfold wordsOf WldK.at
  rw [List.getElem?_map]
  have hi2 : i < X.ws.length := by rw [hA.len]; exact hi
  simp [List.getElem?_eq_getElem hi2, List.getD_eq_getElem?_getD]
/-- what is free, and what is had: all records, each once -/
structure HK (N : Nat) (pile held : List Int) : Prop where
  nodup : (pile ++ held).Nodup
  rng : ∀ x ∈ held, 1 ≤ x ∧ x ≤ (N : Int)
  len : pile.length + held.length = N
theorem HK.new (N : Nat) : HK N (upFrom 1 N) [] := ⟨by rw [List.append_nil]; exact upFrom_nodup _ _, by simp, by
  have : ∀ n r, (upFrom r n).length = n := fun n => by
    induction n with
    | zero => intro r; rfl
    | succ n ih => intro r; simp [upFrom, ih]
  simp [this]⟩
theorem HK.pop {N : Nat} {x : Int} {l held : List Int} (h : HK N (x :: l) held) (hx : 1 ≤ x ∧ x ≤ (N : Int)) : HK N l (held ++ [x]) := by
  have hn : (l ++ (held ++ [x])).Nodup := by
    have h1 : (x :: (l ++ held)).Nodup := h.nodup
    rw [List.nodup_cons] at h1
    rw [← List.append_assoc, List.nodup_append]
    refine ⟨h1.2, by simp, fun a ha b hb => ?_⟩
    rw [List.mem_singleton] at hb
    intro e; subst e; subst hb; exact h1.1 ha
  refine ⟨hn, fun y hy => ?_, by have := h.len; simp at this ⊢; omega⟩
  rcases List.mem_append.1 hy with hy | hy
  · exact h.rng y hy
  · rw [List.mem_singleton.1 hy]; exact hx
end Go.Proofs.Ytjokaginolpbeaa

namespace Go.Proofs.Ytjokaginolpbeaa
open Go.RowKit

/-! The example of chapter 13. -/
set_option maxRecDepth 100000 in
set_option maxHeartbeats 4000000 in
theorem shown13_any (w : World) : Calls Try.prog 15 #[] w fun e w' => e = .returned (.bool true) ∧ Ext w w' := by
  have hb6 : ∀ (W : World), (Instr.build 24 #[(0, .int .i64 6)]).run Try.prog W = .ok (.agg #[.int .i64 6, .int .i64 0, .int .i64 0, .int .u64 0]) W := fun _ => by kernel_rfl
  have hb3 : ∀ (W : World), (Instr.build 24 #[(0, .int .i64 3)]).run Try.prog W = .ok (.agg #[.int .i64 3, .int .i64 0, .int .i64 0, .int .u64 0]) W := fun _ => by kernel_rfl
  have hb5 : ∀ (W : World), (Instr.build 24 #[(0, .int .i64 5), (1, .int .i64 1)]).run Try.prog W = .ok (.agg #[.int .i64 5, .int .i64 1, .int .i64 0, .int .u64 0]) W := fun _ => by kernel_rfl
  have hnew := ranew_yes 2 1 (by omega) (by omega) (by omega) w
  have cV := exc_V
  have cU := exc_U
  have cX := exc_X
  have cD := exc_D
  have cY := exc_Y
  have hyl := exY_len
  have hya := exY_at
  generalize exV.1 = X1 at *
  generalize exU.1 = X2 at *
  generalize exX.1 = X3 at *
  generalize exD.1 = X4 at *
  generalize exY.1 = X5 at *
  generalize newW 2 1 = X0 at *
  have HYL := Lib.hid hyl
  have HYA := Lib.hid hya
  clear hyl hya
  go_enter Try.func15, Try.ntmps15
  have hW : Ext w w := Ext.refl w
  go_wp2_with fail
  refine (hnew).mono ?_
  rintro e w_a ⟨v_, rfl, hVa, hx_⟩
  obtain ⟨aA, aq, ac, aB, ab, aC, ad, rfl⟩ := hVa.form6
  replace hW := hW.trans hx_
  clear hx_
  go_upto_region 2 with (fail)
  have hx_ : Ext w_a (w_a.alloc (.cells #[.int .i64 X0.T, .int .i64 X0.C, .slice aA aq ac, .int .u64 X0.R, .slice aB X0.n ab, .slice aC X0.n ad] 51)) := (Below.refl _ w_a).alloc (Nat.le_refl _) _
  have hba := heap_alloc_new w_a (.cells #[.int .i64 X0.T, .int .i64 X0.C, .slice aA aq ac, .int .u64 X0.R, .slice aB X0.n ab, .slice aC X0.n ad] 51)
  generalize w_a.alloc (.cells #[.int .i64 X0.T, .int .i64 X0.C, .slice aA aq ac, .int .u64 X0.R, .slice aB X0.n ab, .slice aC X0.n ad] 51) = W1 at *
  generalize w_a.heap.size = ga at *
  replace hVa := hVa.ext hx_
  replace hW := hW.trans hx_
  clear hx_
  have z0 : W1.cell? ⟨ga, 0, none⟩ = some (.int .i64 X0.T) := by simp [World.cell?, hba]
  have z1 : W1.cell? ⟨ga, 1, none⟩ = some (.int .i64 X0.C) := by simp [World.cell?, hba]
  have z2 : W1.cell? ⟨ga, 2, none⟩ = some (.slice aA aq ac) := by simp [World.cell?, hba]
  have z3 : W1.cell? ⟨ga, 3, none⟩ = some (.int .u64 X0.R) := by simp [World.cell?, hba]
  have z4 : W1.cell? ⟨ga, 4, none⟩ = some (.slice aB X0.n ab) := by simp [World.cell?, hba]
  have z5 : W1.cell? ⟨ga, 5, none⟩ = some (.slice aC X0.n ad) := by simp [World.cell?, hba]
  go_wp2_with fail
  refine (cV _ _ hVa).mono ?_
  rintro e w_b ⟨v_, rfl, hVb, hx_⟩
  obtain ⟨bA, bq, bc, bB, bb, bC, bd, rfl⟩ := hVb.form6
  clear z0 z1 z2 z3 z4 z5
  replace hba := heap_ext hba hx_
  replace hVa := hVa.ext hx_
  replace hW := hW.trans hx_
  clear hx_
  go_upto_region 3 with (fail)
  obtain ⟨hx_, hbb, hob⟩ := two_boxes7 w_b (.cells #[.int .i64 X1.T, .int .i64 X1.C, .slice bA bq bc, .int .u64 X1.R, .slice bB X1.n bb, .slice bC X1.n bd] 51) (.cells #[.int .i64 0, .bool false, .int .i64 1, .int .u64 0, .slice none 0 0] 37)
  generalize (w_b.alloc (.cells #[.int .i64 X1.T, .int .i64 X1.C, .slice bA bq bc, .int .u64 X1.R, .slice bB X1.n bb, .slice bC X1.n bd] 51)).alloc (.cells #[.int .i64 0, .bool false, .int .i64 1, .int .u64 0, .slice none 0 0] 37) = Wb at *
  generalize w_b.heap.size = gb at *
  replace hba := heap_ext hba hx_
  replace hVa := hVa.ext hx_
  replace hVb := hVb.ext hx_
  replace hW := hW.trans hx_
  clear hx_
  have z0 : Wb.cell? ⟨gb, 0, none⟩ = some (.int .i64 X1.T) := by simp [World.cell?, hbb]
  have z1 : Wb.cell? ⟨gb, 1, none⟩ = some (.int .i64 X1.C) := by simp [World.cell?, hbb]
  have z2 : Wb.cell? ⟨gb, 2, none⟩ = some (.slice bA bq bc) := by simp [World.cell?, hbb]
  have z3 : Wb.cell? ⟨gb, 3, none⟩ = some (.int .u64 X1.R) := by simp [World.cell?, hbb]
  have z4 : Wb.cell? ⟨gb, 4, none⟩ = some (.slice bB X1.n bb) := by simp [World.cell?, hbb]
  have z5 : Wb.cell? ⟨gb, 5, none⟩ = some (.slice bC X1.n bd) := by simp [World.cell?, hbb]
  go_wp2_with fail
  refine (cU _ _ hVb).mono ?_
  rintro e w_c ⟨v_, rfl, hVc, hx_⟩
  obtain ⟨cA, cq, cc, cB, cb, cC, cd, rfl⟩ := hVc.form6
  clear z0 z1 z2 z3 z4 z5
  replace hba := heap_ext hba hx_
  replace hbb := heap_ext hbb hx_
  replace hob := heap_ext hob hx_
  replace hVa := hVa.ext hx_
  replace hVb := hVb.ext hx_
  replace hW := hW.trans hx_
  clear hx_
  go_upto_region 4 with (fail)
  obtain ⟨hx_, hbc, hoc⟩ := two_boxes7 w_c (.cells #[.int .i64 X2.T, .int .i64 X2.C, .slice cA cq cc, .int .u64 X2.R, .slice cB X2.n cb, .slice cC X2.n cd] 51) (.cells #[.int .i64 0, .bool false, .int .i64 0, .int .u64 0, .slice none 0 0] 37)
  generalize (w_c.alloc (.cells #[.int .i64 X2.T, .int .i64 X2.C, .slice cA cq cc, .int .u64 X2.R, .slice cB X2.n cb, .slice cC X2.n cd] 51)).alloc (.cells #[.int .i64 0, .bool false, .int .i64 0, .int .u64 0, .slice none 0 0] 37) = Wc at *
  generalize w_c.heap.size = gc at *
  replace hba := heap_ext hba hx_
  replace hbb := heap_ext hbb hx_
  replace hob := heap_ext hob hx_
  replace hVa := hVa.ext hx_
  replace hVb := hVb.ext hx_
  replace hVc := hVc.ext hx_
  replace hW := hW.trans hx_
  clear hx_
  clear hbb hVb
  have z0 : Wc.cell? ⟨gc, 0, none⟩ = some (.int .i64 X2.T) := by simp [World.cell?, hbc]
  have z1 : Wc.cell? ⟨gc, 1, none⟩ = some (.int .i64 X2.C) := by simp [World.cell?, hbc]
  have z2 : Wc.cell? ⟨gc, 2, none⟩ = some (.slice cA cq cc) := by simp [World.cell?, hbc]
  have z3 : Wc.cell? ⟨gc, 3, none⟩ = some (.int .u64 X2.R) := by simp [World.cell?, hbc]
  have z4 : Wc.cell? ⟨gc, 4, none⟩ = some (.slice cB X2.n cb) := by simp [World.cell?, hbc]
  have z5 : Wc.cell? ⟨gc, 5, none⟩ = some (.slice cC X2.n cd) := by simp [World.cell?, hbc]
  go_wp2_with fail
  refine (cX _ _ hVc).mono ?_
  rintro e w_d ⟨v_, rfl, hVd, hx_⟩
  obtain ⟨dA, dq, dc, dB, db, dC, dd, rfl⟩ := hVd.form6
  clear z0 z1 z2 z3 z4 z5
  replace hba := heap_ext hba hx_
  replace hob := heap_ext hob hx_
  replace hbc := heap_ext hbc hx_
  replace hoc := heap_ext hoc hx_
  replace hVa := hVa.ext hx_
  replace hVc := hVc.ext hx_
  replace hW := hW.trans hx_
  clear hx_
  go_upto_region 5 with (fail)
  obtain ⟨hx_, hbd, hod⟩ := two_boxes7 w_d (.cells #[.int .i64 X3.T, .int .i64 X3.C, .slice dA dq dc, .int .u64 X3.R, .slice dB X3.n db, .slice dC X3.n dd] 51) (.cells #[.int .i64 0, .bool false, .int .i64 1, .int .u64 0, .slice none 0 0] 37)
  generalize (w_d.alloc (.cells #[.int .i64 X3.T, .int .i64 X3.C, .slice dA dq dc, .int .u64 X3.R, .slice dB X3.n db, .slice dC X3.n dd] 51)).alloc (.cells #[.int .i64 0, .bool false, .int .i64 1, .int .u64 0, .slice none 0 0] 37) = Wd at *
  generalize w_d.heap.size = gd at *
  replace hba := heap_ext hba hx_
  replace hob := heap_ext hob hx_
  replace hbc := heap_ext hbc hx_
  replace hoc := heap_ext hoc hx_
  replace hVa := hVa.ext hx_
  replace hVc := hVc.ext hx_
  replace hVd := hVd.ext hx_
  replace hW := hW.trans hx_
  clear hx_
  clear hbc hVc
  have z0 : Wd.cell? ⟨gd, 0, none⟩ = some (.int .i64 X3.T) := by simp [World.cell?, hbd]
  have z1 : Wd.cell? ⟨gd, 1, none⟩ = some (.int .i64 X3.C) := by simp [World.cell?, hbd]
  have z2 : Wd.cell? ⟨gd, 2, none⟩ = some (.slice dA dq dc) := by simp [World.cell?, hbd]
  have z3 : Wd.cell? ⟨gd, 3, none⟩ = some (.int .u64 X3.R) := by simp [World.cell?, hbd]
  have z4 : Wd.cell? ⟨gd, 4, none⟩ = some (.slice dB X3.n db) := by simp [World.cell?, hbd]
  have z5 : Wd.cell? ⟨gd, 5, none⟩ = some (.slice dC X3.n dd) := by simp [World.cell?, hbd]
  go_wp2_with fail
  refine (cD _ _ hVd).mono ?_
  rintro e w_e ⟨v_, rfl, hVe, hx_⟩
  obtain ⟨eA, eq, ec, eB, eb, eC, ed, rfl⟩ := hVe.form6
  clear z0 z1 z2 z3 z4 z5
  replace hba := heap_ext hba hx_
  replace hob := heap_ext hob hx_
  replace hoc := heap_ext hoc hx_
  replace hbd := heap_ext hbd hx_
  replace hod := heap_ext hod hx_
  replace hVa := hVa.ext hx_
  replace hVd := hVd.ext hx_
  replace hW := hW.trans hx_
  clear hx_
  go_upto_region 6 with (fail)
  obtain ⟨hx_, hbe, hoe⟩ := two_boxes7 w_e (.cells #[.int .i64 X4.T, .int .i64 X4.C, .slice eA eq ec, .int .u64 X4.R, .slice eB X4.n eb, .slice eC X4.n ed] 51) (.cells #[.int .i64 0, .bool false, .int .i64 0, .int .u64 0, .slice none 0 0] 37)
  generalize (w_e.alloc (.cells #[.int .i64 X4.T, .int .i64 X4.C, .slice eA eq ec, .int .u64 X4.R, .slice eB X4.n eb, .slice eC X4.n ed] 51)).alloc (.cells #[.int .i64 0, .bool false, .int .i64 0, .int .u64 0, .slice none 0 0] 37) = We at *
  generalize w_e.heap.size = ge at *
  replace hba := heap_ext hba hx_
  replace hob := heap_ext hob hx_
  replace hoc := heap_ext hoc hx_
  replace hbd := heap_ext hbd hx_
  replace hod := heap_ext hod hx_
  replace hVa := hVa.ext hx_
  replace hVd := hVd.ext hx_
  replace hVe := hVe.ext hx_
  replace hW := hW.trans hx_
  clear hx_
  clear hbd hVd
  have z0 : We.cell? ⟨ga, 0, none⟩ = some (.int .i64 X0.T) := by simp [World.cell?, hba]
  have z1 : We.cell? ⟨ga, 1, none⟩ = some (.int .i64 X0.C) := by simp [World.cell?, hba]
  have z2 : We.cell? ⟨ga, 2, none⟩ = some (.slice aA aq ac) := by simp [World.cell?, hba]
  have z3 : We.cell? ⟨ga, 3, none⟩ = some (.int .u64 X0.R) := by simp [World.cell?, hba]
  have z4 : We.cell? ⟨ga, 4, none⟩ = some (.slice aB X0.n ab) := by simp [World.cell?, hba]
  have z5 : We.cell? ⟨ga, 5, none⟩ = some (.slice aC X0.n ad) := by simp [World.cell?, hba]
  go_wp2_with fail
  refine (cY _ _ hVa).mono ?_
  rintro e w_f ⟨v_, rfl, hVf, hx_⟩
  obtain ⟨fA, fq, fc, fB, fb, fC, fd, rfl⟩ := hVf.form6
  clear z0 z1 z2 z3 z4 z5
  replace hba := heap_ext hba hx_
  replace hob := heap_ext hob hx_
  replace hoc := heap_ext hoc hx_
  replace hod := heap_ext hod hx_
  replace hbe := heap_ext hbe hx_
  replace hoe := heap_ext hoe hx_
  replace hVa := hVa.ext hx_
  replace hVe := hVe.ext hx_
  replace hW := hW.trans hx_
  clear hx_
  go_upto_region 7 with (fail)
  obtain ⟨hx_, hbf, hof⟩ := two_boxes7 w_f (.cells #[.int .i64 X5.T, .int .i64 X5.C, .slice fA fq fc, .int .u64 X5.R, .slice fB X5.n fb, .slice fC X5.n fd] 51) (.cells #[.int .i64 0, .bool false, .int .i64 0, .int .u64 0, .slice none 0 0] 37)
  generalize (w_f.alloc (.cells #[.int .i64 X5.T, .int .i64 X5.C, .slice fA fq fc, .int .u64 X5.R, .slice fB X5.n fb, .slice fC X5.n fd] 51)).alloc (.cells #[.int .i64 0, .bool false, .int .i64 0, .int .u64 0, .slice none 0 0] 37) = Wf at *
  generalize w_f.heap.size = gf at *
  replace hba := heap_ext hba hx_
  replace hob := heap_ext hob hx_
  replace hoc := heap_ext hoc hx_
  replace hod := heap_ext hod hx_
  replace hbe := heap_ext hbe hx_
  replace hoe := heap_ext hoe hx_
  replace hVa := hVa.ext hx_
  replace hVe := hVe.ext hx_
  replace hVf := hVf.ext hx_
  replace hW := hW.trans hx_
  clear hx_
  clear hba hVa
  have z0 : Wf.cell? ⟨gf, 0, none⟩ = some (.int .i64 X5.T) := by simp [World.cell?, hbf]
  have z1 : Wf.cell? ⟨gf, 1, none⟩ = some (.int .i64 X5.C) := by simp [World.cell?, hbf]
  have z2 : Wf.cell? ⟨gf, 2, none⟩ = some (.slice fA fq fc) := by simp [World.cell?, hbf]
  have z3 : Wf.cell? ⟨gf, 3, none⟩ = some (.int .u64 X5.R) := by simp [World.cell?, hbf]
  have z4 : Wf.cell? ⟨gf, 4, none⟩ = some (.slice fB X5.n fb) := by simp [World.cell?, hbf]
  have z5 : Wf.cell? ⟨gf, 5, none⟩ = some (.slice fC X5.n fd) := by simp [World.cell?, hbf]
  have b0 : Wf.cell? ⟨gb + 1, 0, none⟩ = some (.int .i64 0) := by simp [World.cell?, hob]
  have b1 : Wf.cell? ⟨gb + 1, 1, none⟩ = some (.bool false) := by simp [World.cell?, hob]
  have b2 : Wf.cell? ⟨gb + 1, 2, none⟩ = some (.int .i64 1) := by simp [World.cell?, hob]
  have b3 : Wf.cell? ⟨gb + 1, 3, none⟩ = some (.int .u64 0) := by simp [World.cell?, hob]
  have b4 : Wf.cell? ⟨gb + 1, 4, none⟩ = some (.slice none 0 0) := by simp [World.cell?, hob]
  have d0 : Wf.cell? ⟨gd + 1, 0, none⟩ = some (.int .i64 0) := by simp [World.cell?, hod]
  have d1 : Wf.cell? ⟨gd + 1, 1, none⟩ = some (.bool false) := by simp [World.cell?, hod]
  have d2 : Wf.cell? ⟨gd + 1, 2, none⟩ = some (.int .i64 1) := by simp [World.cell?, hod]
  have d3 : Wf.cell? ⟨gd + 1, 3, none⟩ = some (.int .u64 0) := by simp [World.cell?, hod]
  have d4 : Wf.cell? ⟨gd + 1, 4, none⟩ = some (.slice none 0 0) := by simp [World.cell?, hod]
  have e0 : Wf.cell? ⟨ge + 1, 0, none⟩ = some (.int .i64 0) := by simp [World.cell?, hoe]
  have e1 : Wf.cell? ⟨ge + 1, 1, none⟩ = some (.bool false) := by simp [World.cell?, hoe]
  have e2 : Wf.cell? ⟨ge + 1, 2, none⟩ = some (.int .i64 0) := by simp [World.cell?, hoe]
  have e3 : Wf.cell? ⟨ge + 1, 3, none⟩ = some (.int .u64 0) := by simp [World.cell?, hoe]
  have e4 : Wf.cell? ⟨ge + 1, 4, none⟩ = some (.slice none 0 0) := by simp [World.cell?, hoe]
  obtain ⟨aY, rfl, hqY, hcY⟩ := hVf.word (by rw [HYL.out]; omega)
  rw [HYL.out] at hqY
  have hc9 := hcY 9 (by omega)
  rw [show (((9 : Nat)) : Int) = 9 from rfl, HYA.out, show aY.add 9 = ⟨aY.block, aY.off + 9, none⟩ from rfl] at hc9
  have hfq : ¬ (fq : Int) < 10 := by omega
  have hfq9 : (9 : Int) < (fq : Int) := by omega
  clear hqY hcY
  go_wp2
  go_ret
  exact ⟨rfl, hW⟩
end Go.Proofs.Ytjokaginolpbeaa

namespace Go.Proofs.Ytjokaginolpbeaa
open Go.RowKit

/-! What operations on epochs do, stepping alone: an epoch, what is free, three limbos, pins. -/
structure EpS where
  e : Nat
  pile : List Int
  L : Nat → List Int
  P : Nat → Int
def EpS.all (S : EpS) : List Int := S.pile ++ (S.L 0 ++ (S.L 1 ++ S.L 2))
structure EpK (X : WldK) (t c : Nat) (S : EpS) : Prop where
  pool : PoolK X t c S.pile
  lim : ∀ i : Nat, i < 3 → ChainW X t c (S.L i) (firstF (X.at (4 + (i : Int))))
  nodup : S.all.Nodup
  ep : X.at 3 = (S.e : Int)
  pins : ∀ i : Nat, i < t → X.at (8 + (i : Int)) = S.P i
theorem EpK.dim {X : WldK} {t c : Nat} {S : EpS} (h : EpK X t c S) : Dim X t c := h.pool.dim
theorem at_ge (X : WldK) {t c : Nat} (h : Dim X t c) : 15 + t ≤ X.ws.length + 7 ∧ 8 + t ≤ X.ws.length := by rw [h.len]; unfold memL; omega
theorem Goes.cast {α : Type} {me : Int} {T : PT α} {X X' : WldK} {j j' : Nat} {a : α} (h : Goes me T X j a X') (e : j = j') : Goes me T X j' a X' := e ▸ h
/-! Draining a chain. -/
def drainX (X : WldK) (t : Nat) (l : List Int) : WldK := l.foldl (fun X x => pushX X t x) X
theorem drain_cons (X : WldK) (t : Nat) (x : Int) (l : List Int) : drainX X t (x :: l) = drainX (pushX X t x) t l := rfl
theorem pushX_at {X : WldK} {t : Nat} {x j : Int} (h1 : j.toNat ≠ 1) (h2 : j.toNat ≠ (linkI t x).toNat) : (pushX X t x).at j = X.at j := by
  unfold pushX
  rw [at_put_other (by omega), at_put_other h2]
theorem drain_at {t : Nat} {j : Int} (h1 : j.toNat ≠ 1) : ∀ (l : List Int) (X : WldK), (∀ x ∈ l, j.toNat ≠ (linkI t x).toNat) → (drainX X t l).at j = X.at j
  | [], X, _ => rfl
  | x :: l, X, h => by rw [drain_cons, drain_at h1 l _ (fun y hy => h y (by simp [hy])), pushX_at h1 (h x (by simp))]
theorem chain_drain {me : Int} {t c f : Nat} : ∀ (l : List Int) (X : WldK) (r : Int) (pile : List Int) (g : Nat), PoolK X t c pile → ChainW X t c l r → (l ++ pile).Nodup → l.length < g →
    Goes me (chainT t (f + 1) g r) X (4 * l.length) 0 (drainX X t l) ∧ PoolK (drainX X t l) t c (l.reverse ++ pile)
  | [], X, r, pile, g, hp, hc, _, hg => by
    obtain ⟨g, rfl⟩ : ∃ m, g = m + 1 := ⟨g - 1, by simp at hg; omega⟩
    have h0 : r = 0 := hc
    refine ⟨?_, hp⟩
    unfold chainT
    rw [if_pos h0]
    exact Goes.ret _ _
  | x :: l, X, r, pile, g, hp, hc, hn, hg => by
    obtain ⟨g, rfl⟩ : ∃ m, g = m + 1 := ⟨g - 1, by simp at hg; omega⟩
    obtain ⟨hr, h1, h2, h3⟩ := hc
    have hl := link_in (t := t) h1 h2
    have hq := link_pos t h1
    rw [List.cons_append, List.nodup_cons] at hn
    have hxp : x ∉ pile := fun hm => hn.1 (by simp [hm])
    have hxl : x ∉ l := fun hm => hn.1 (by simp [hm])
    have hpp := push_pool hp h1 h2 hxp
    have hcl : ChainW (pushX X t x) t c l (firstF (X.at (linkI t x))) := h3.keep fun y hy hy1 => by
      have hy0 := link_pos t hy1
      exact pushX_at (by omega) (link_ne hy1 h1 (fun e => hxl (e ▸ hy)))
    have hnd : (l ++ x :: pile).Nodup := by
      rw [List.nodup_append] at hn ⊢
      refine ⟨hn.2.1, List.nodup_cons.2 ⟨hxp, hn.2.2.1⟩, fun a ha b hb => ?_⟩
      rcases List.mem_cons.1 hb with rfl | hb
      · intro e; subst e; exact hxl ha
      · exact hn.2.2.2 a ha b hb
    obtain ⟨ih1, ih2⟩ := chain_drain (me := me) (f := f) l (pushX X t x) _ (x :: pile) g hpp.1 hcl hnd (by simp at hg; omega)
    rw [drain_cons]
    refine ⟨?_, by simpa using ih2⟩
    unfold chainT
    rw [if_neg (by omega), hr]
    have hsum : 4 * (x :: l).length = (3 + 4 * l.length) + 1 := by simp; omega
    rw [hsum]
    refine goes_load (by omega) (by rw [hp.dim.len]; omega) ?_
    exact Goes.bind (push_goes hp.dim h1 h2 me f) ih1
/-! Apart: what lies in one row lies in no other. -/
theorem EpS.apart {S : EpS} (h : S.all.Nodup) : S.pile.Nodup ∧ (∀ i, i < 3 → (S.L i).Nodup) ∧ (∀ i, i < 3 → ∀ x ∈ S.L i, x ∉ S.pile) ∧ (∀ i, i < 3 → ∀ j, j < 3 → i ≠ j → ∀ x ∈ S.L i, x ∉ S.L j) := by
  unfold EpS.all at h
  simp only [List.nodup_append] at h
  obtain ⟨h1, ⟨h2, ⟨h3, h4, h5⟩, h6⟩, h7⟩ := h
  refine ⟨h1, ?_, ?_, ?_⟩
  · intro i hi
    obtain rfl | rfl | rfl : i = 0 ∨ i = 1 ∨ i = 2 := by omega
    · exact h2
    · exact h3
    · exact h4
  · intro i hi x hx hp
    obtain rfl | rfl | rfl : i = 0 ∨ i = 1 ∨ i = 2 := by omega
    · exact h7 x hp x (by simp [hx]) rfl
    · exact h7 x hp x (by simp [hx]) rfl
    · exact h7 x hp x (by simp [hx]) rfl
  · intro i hi j hj hij x hx hy
    obtain rfl | rfl | rfl : i = 0 ∨ i = 1 ∨ i = 2 := by omega
    · obtain rfl | rfl : j = 1 ∨ j = 2 := by omega
      · exact h6 x hx x (by simp [hy]) rfl
      · exact h6 x hx x (by simp [hy]) rfl
    · obtain rfl | rfl : j = 0 ∨ j = 2 := by omega
      · exact h6 x hy x (by simp [hx]) rfl
      · exact h5 x hx x hy rfl
    · obtain rfl | rfl : j = 0 ∨ j = 1 := by omega
      · exact h6 x hy x (by simp [hx]) rfl
      · exact h5 x hy x hx rfl
theorem EpS.mem_all {S : EpS} {x : Int} : x ∈ S.all ↔ x ∈ S.pile ∨ x ∈ S.L 0 ∨ x ∈ S.L 1 ∨ x ∈ S.L 2 := by
  unfold EpS.all; simp
theorem EpK.rng {X : WldK} {t c : Nat} {S : EpS} (h : EpK X t c S) : ∀ x ∈ S.all, 1 ≤ x ∧ x ≤ (c : Int) := fun x hx => by
  rcases EpS.mem_all.1 hx with hx | hx | hx | hx
  · exact h.pool.chain.mem x hx
  · exact (h.lim 0 (by omega)).mem x hx
  · exact (h.lim 1 (by omega)).mem x hx
  · exact (h.lim 2 (by omega)).mem x hx
theorem EpK.lim_len {X : WldK} {t c : Nat} {S : EpS} (h : EpK X t c S) {i : Nat} (hi : i < 3) : (S.L i).length ≤ c := nodup_len c _ ((EpS.apart h.nodup).2.1 i hi) (h.lim i hi).mem
/-! The operations. -/
def EpS.pin (S : EpS) (me : Nat) (v : Int) : EpS := { S with P := fun i => if i = me then v else S.P i }
def EpS.retire (S : EpS) (x : Int) : EpS := { S with L := fun i => if i = S.e % 3 then x :: S.L i else S.L i }
def EpS.drain (S : EpS) : EpS := ⟨S.e + 1, (S.L ((S.e + 2) % 3)).reverse ++ S.pile, fun i => if i = (S.e + 2) % 3 then [] else S.L i, S.P⟩
def EpS.okP (S : EpS) (t : Nat) : Prop := ∀ i, i < t → S.P i = 0 ∨ S.P i = (S.e : Int) + 1
instance (S : EpS) (t : Nat) : Decidable (S.okP t) := inferInstanceAs (Decidable (∀ i, i < t → S.P i = 0 ∨ S.P i = (S.e : Int) + 1))
def EpS.adv (S : EpS) (t : Nat) : EpS := if S.okP t then S.drain else S
def EpS.pop (S : EpS) : EpS := { S with pile := S.pile.tail }
def allocS (t me : Nat) : Nat → EpS → Int → EpS × Int
  | 0, S, r => (S, r)
  | k + 1, S, r => if r = 0 then allocS t me k (((S.pin me ((S.e : Int) + 1)).adv t).pop) (((S.pin me ((S.e : Int) + 1)).adv t).pile.headD 0) else (S, r)
def EpS.alloc (S : EpS) (t me : Nat) : EpS × Int := allocS t me 3 S.pop (S.pile.headD 0)
theorem inc_nat {e : Nat} (h : e ≤ 1000000) : incW (e : Int) = (e : Int) + 1 := by unfold incW; omega
/-- a cell that no chain of the operations reads: pins, the epoch -/
theorem pin_goes {X : WldK} {t c : Nat} {S : EpS} (h : EpK X t c S) (he : S.e ≤ 1000000) {me : Nat} (hme : me < t) : ∃ X', Goes (me : Int) (pinT me) X 2 0 X' ∧ EpK X' t c (S.pin me ((S.e : Int) + 1)) := by
  obtain ⟨-, hlen⟩ := at_ge X h.dim
  refine ⟨X.put (8 + (me : Int)) ((S.e : Int) + 1), ?_, ?_⟩
  · refine goes_load (by omega) (by omega) ?_
    rw [h.ep, inc_nat he]
    refine goes_store (by omega) (by omega) ?_
    exact Goes.ret _ _
  · have hu : U64 ((S.e : Int) + 1) := by unfold U64; omega
    have hk : ∀ l r, ChainW X t c l r → ChainW (X.put (8 + (me : Int)) ((S.e : Int) + 1)) t c l r := fun l r hc => hc.keep fun y _ hy => at_put_other (by have := link_pos t hy; omega)
    refine ⟨⟨h.dim.put hu, ?_, h.pool.nodup⟩, ?_, h.nodup, ?_, ?_⟩
    · rw [at_put_other (by omega)]; exact hk _ _ h.pool.chain
    · intro i hi
      rw [at_put_other (by omega)]; exact hk _ _ (h.lim i hi)
    · rw [at_put_other (by omega)]; exact h.ep
    · intro i hi
      by_cases e : i = me
      · subst e
        rw [at_put_same (by omega)]; simp [EpS.pin]
      · rw [at_put_other (by omega), h.pins i hi]; simp [EpS.pin, e]
theorem unpin_goes {X : WldK} {t c : Nat} {S : EpS} (h : EpK X t c S) {me : Nat} (hme : me < t) : ∃ X', Goes (me : Int) (unpinT me) X 1 0 X' ∧ EpK X' t c (S.pin me 0) := by
  obtain ⟨-, hlen⟩ := at_ge X h.dim
  refine ⟨X.put (8 + (me : Int)) 0, ?_, ?_⟩
  · refine goes_store (by omega) (by omega) ?_
    exact Goes.ret _ _
  · have hk : ∀ l r, ChainW X t c l r → ChainW (X.put (8 + (me : Int)) 0) t c l r := fun l r hc => hc.keep fun y _ hy => at_put_other (by have := link_pos t hy; omega)
    refine ⟨⟨h.dim.put u64_zero, ?_, h.pool.nodup⟩, ?_, h.nodup, ?_, ?_⟩
    · rw [at_put_other (by omega)]; exact hk _ _ h.pool.chain
    · intro i hi
      rw [at_put_other (by omega)]; exact hk _ _ (h.lim i hi)
    · rw [at_put_other (by omega)]; exact h.ep
    · intro i hi
      by_cases e : i = me
      · subst e
        rw [at_put_same (by omega)]; simp [EpS.pin]
      · rw [at_put_other (by omega), h.pins i hi]; simp [EpS.pin, e]
theorem retire_all {S : EpS} {x : Int} : (S.retire x).all.Perm (x :: S.all) := by
  rw [List.perm_iff_count]
  intro a
  have hlt : S.e % 3 < 3 := Nat.mod_lt _ (by omega)
  unfold EpS.all EpS.retire
  obtain h | h | h : S.e % 3 = 0 ∨ S.e % 3 = 1 ∨ S.e % 3 = 2 := by omega
  all_goals
    simp only [h, List.count_append, List.count_cons]
    simp [List.count_cons]
    omega
theorem drain_all (S : EpS) : S.drain.all.Perm S.all := by
  rw [List.perm_iff_count]
  intro a
  unfold EpS.all EpS.drain
  obtain h | h | h : (S.e + 2) % 3 = 0 ∨ (S.e + 2) % 3 = 1 ∨ (S.e + 2) % 3 = 2 := by omega
  all_goals
    simp only [h, List.count_append, List.count_reverse]
    simp
    omega
theorem limbo_nat (e : Nat) : limboI (e : Int) = 4 + ((e % 3 : Nat) : Int) := by unfold limboI; omega
theorem pins_goes {X : WldK} {t c : Nat} {S : EpS} (h : EpK X t c S) (he : S.e ≤ 1000000) (me : Int) : ∀ (n i : Nat), i + n = t → ∃ j b, j ≤ n ∧ Goes me (pinsT (S.e : Int) n (i : Int)) X j b X ∧ (b = true ↔ ∀ k, i ≤ k → k < t → S.P k = 0 ∨ S.P k = (S.e : Int) + 1)
  | 0, i, hi => ⟨0, true, Nat.le_refl _, Goes.ret _ _, by simp; intro k h1 h2; omega⟩
  | n + 1, i, hi => by
    obtain ⟨-, hlen⟩ := at_ge X h.dim
    have hP := h.pins i (by omega)
    by_cases hg : S.P i = 0 ∨ S.P i = (S.e : Int) + 1
    · obtain ⟨j, b, hj, hgo, hb⟩ := pins_goes h he me n (i + 1) (by omega)
      refine ⟨j + 1, b, by omega, ?_, ?_⟩
      · refine goes_load (by omega) (by omega) ?_
        rw [hP, inc_nat he, if_pos hg]
        exact hgo
      · rw [hb]
        refine ⟨fun hk k h1 h2 => ?_, fun hk k h1 h2 => hk k (by omega) h2⟩
        rcases Nat.lt_or_ge i k with h3 | h3
        · exact hk k (by omega) h2
        · obtain rfl : k = i := by omega
          exact hg
    · refine ⟨1, false, by omega, ?_, ?_⟩
      · refine goes_load (by omega) (by omega) ?_
        rw [hP, inc_nat he, if_neg hg]
        exact Goes.ret _ _
      · simp only [Bool.false_eq_true, false_iff]
        intro hk
        exact hg (hk i (Nat.le_refl _) (by omega))
theorem Dim.three {X : WldK} {t c : Nat} (h : Dim X t c) : (7 : Int) < (X.ws.length : Int) := by have := at_ge X h; have := h.t1; omega
theorem adv_goes {X : WldK} {t c : Nat} {S : EpS} (h : EpK X t c S) (he : S.e ≤ 1000000) (me : Int) (f : Nat) (hf : c ≤ f) : ∃ X' j, j ≤ 3 + t + 4 * c ∧ Goes me (advT t (f + 1)) X j (decide (S.okP t)) X' ∧ EpK X' t c (S.adv t) := by
  have hlen := h.dim.three
  have ht := h.dim.t1
  obtain ⟨j, b, hj, hgo, hb⟩ := pins_goes h he me t 0 (by omega)
  have hb2 : b = decide (S.okP t) := by
    rw [Bool.eq_iff_iff, hb, decide_eq_true_iff]
    exact ⟨fun hk i hi => hk i (Nat.zero_le _) hi, fun hk i _ hi => hk i hi⟩
  by_cases hok : S.okP t
  · have hbt : b = true := by rw [hb2]; exact decide_eq_true hok
    subst hbt
    obtain ⟨d, hd⟩ : ∃ d, d = (S.e + 2) % 3 := ⟨_, rfl⟩
    have hd3 : d < 3 := by rw [hd]; exact Nat.mod_lt _ (by omega)
    have hld := h.lim_len hd3
    have hap := EpS.apart h.nodup
    obtain ⟨X1, hX1⟩ : ∃ X1, X1 = X.put 3 ((S.e : Int) + 1) := ⟨_, rfl⟩
    obtain ⟨X2, hX2⟩ : ∃ X2, X2 = X1.put (4 + (d : Int)) 0 := ⟨_, rfl⟩
    have hu : U64 ((S.e : Int) + 1) := by unfold U64; omega
    have hl1 : X1.ws.length = X.ws.length := by rw [hX1, put_len]
    have hl2 : X2.ws.length = X.ws.length := by rw [hX2, put_len, hl1]
    have hat : ∀ j : Int, j.toNat ≠ 3 → j.toNat ≠ (4 + (d : Int)).toNat → X2.at j = X.at j := fun j h1 h2 => by
      rw [hX2, at_put_other h2, hX1, at_put_other (by omega)]
    have hk : ∀ l r, ChainW X t c l r → ChainW X2 t c l r := fun l r hc => hc.keep fun y _ hy => by
      have := link_pos t hy
      exact hat _ (by omega) (by omega)
    have hD2 : Dim X2 t c := by rw [hX2, hX1]; exact (h.dim.put hu).put u64_zero
    have hp2 : PoolK X2 t c S.pile := ⟨hD2, by rw [hat 1 (by omega) (by omega)]; exact hk _ _ h.pool.chain, h.pool.nodup⟩
    have hnd : (S.L d ++ S.pile).Nodup := by
      rw [List.nodup_append]
      refine ⟨hap.2.1 d hd3, hap.1, fun a ha b hb e => ?_⟩
      subst e
      exact hap.2.2.1 d hd3 a ha hb
    obtain ⟨hg3, hp3⟩ := chain_drain (me := me) (f := f) (S.L d) X2 (firstF (X.at (4 + (d : Int)))) S.pile (f + 1) hp2 (hk _ _ (h.lim d hd3)) hnd (by omega)
    refine ⟨drainX X2 t (S.L d), 1 + (j + (1 + (1 + (4 * (S.L d).length + 0)))), by omega, ?_, ?_⟩
    · rw [decide_eq_true hok, show 1 + (j + (1 + (1 + (4 * (S.L d).length + 0)))) = (j + (1 + (1 + (4 * (S.L d).length + 0)))) + 1 by omega]
      refine goes_load (by omega) (by omega) ?_
      rw [h.ep, Int.toNat_natCast]
      refine Goes.bind hgo ?_
      rw [if_pos rfl, show 1 + (1 + (4 * (S.L d).length + 0)) = (1 + (4 * (S.L d).length + 0)) + 1 by omega]
      refine goes_cas (by omega) (by omega) h.ep ?_
      rw [if_pos rfl, inc_nat he, ← hX1, show ((S.e : Int) + 2) % 18446744073709551616 = ((S.e + 2 : Nat) : Int) by omega, limbo_nat, ← hd, show 1 + (4 * (S.L d).length + 0) = (4 * (S.L d).length + 0) + 1 by omega]
      refine goes_swap (by omega) (by rw [hl1]; omega) ?_
      rw [← hX2, show X1.at (4 + (d : Int)) = X.at (4 + (d : Int)) by rw [hX1, at_put_other (by omega)]]
      exact Goes.cast (Goes.bind hg3 (Goes.ret true _)) (Nat.add_zero _)
    · have hS : S.adv t = S.drain := by unfold EpS.adv; rw [if_pos hok]
      have hlk : ∀ (j : Int), 0 ≤ j → j < 15 + (t : Int) → ∀ x ∈ S.L d, j.toNat ≠ (linkI t x).toNat := fun j h0 h1 x hx => by
        have := link_pos t ((h.lim d hd3).mem x hx).1
        omega
      rw [hS]
      refine ⟨?_, ?_, ?_, ?_, ?_⟩
      · show PoolK _ t c ((S.L ((S.e + 2) % 3)).reverse ++ S.pile)
        rw [← hd]; exact hp3
      · intro i hi
        rw [drain_at (by omega) _ _ (hlk _ (by omega) (by omega))]
        by_cases e : i = d
        · subst e
          have hlL : S.drain.L i = [] := by simp only [EpS.drain]; rw [if_pos hd]
          rw [hlL, hX2, at_put_same (by omega)]
          rfl
        · have hlL : S.drain.L i = S.L i := by simp only [EpS.drain]; rw [if_neg (by omega)]
          rw [hlL, hat _ (by omega) (by omega)]
          refine (hk _ _ (h.lim i hi)).keep fun y hy hy1 => drain_at (by have := link_pos t hy1; omega) _ _ fun x hx => ?_
          exact link_ne hy1 ((h.lim d hd3).mem x hx).1 (fun e2 => hap.2.2.2 d hd3 i hi (fun e3 => e e3.symm) x hx (e2 ▸ hy))
      · rw [(drain_all S).nodup_iff]; exact h.nodup
      · rw [drain_at (by omega) _ _ (hlk _ (by omega) (by omega)), hX2, at_put_other (by omega), hX1, at_put_same (by omega)]
        simp [EpS.drain]
      · intro i hi
        rw [drain_at (by omega) _ _ (hlk _ (by omega) (by omega)), hat _ (by omega) (by omega)]
        exact h.pins i hi
  · have hbf : b = false := by rw [hb2]; exact decide_eq_false hok
    subst hbf
    refine ⟨X, 1 + (j + 0), by omega, ?_, by unfold EpS.adv; rw [if_neg hok]; exact h⟩
    rw [decide_eq_false hok, show 1 + (j + 0) = (j + 0) + 1 by omega]
    refine goes_load (by omega) (by omega) ?_
    rw [h.ep, Int.toNat_natCast]
    refine Goes.cast (Goes.bind hgo ?_) (Nat.add_zero _)
    simp only [Bool.false_eq_true, if_false]
    exact Goes.ret _ _
/-! The operations, stepping alone: what 'alone' answers. -/
theorem ep_alone {t me f most : Nat} {k u : Int} {X X' : WldK} {j : Nat} {o : OutN} (hg : Goes (me : Int) (epochT t me k u f) X j o X') (hj : j ≤ most) : aloneN (nextT (epochT t me k u f)) me (most + 1) X [] = (X', o, true) :=
  alone_goes (T0 := epochT t me k u f) hg (fun _ _ => rfl) (by cases epochT t me k u f <;> rfl) (by cases epochT t me k u f <;> trivial) (by omega)
theorem epin_alone {X : WldK} {t c : Nat} {S : EpS} (h : EpK X t c S) (he : S.e ≤ 1000000) {me : Nat} (hme : me < t) (u : Int) (f : Nat) (most : Nat) (hm : 2 ≤ most) : ∃ X', aloneN (nextT (epochT t me 3 u f)) me (most + 1) X [] = (X', ⟨0, false, 0, 0⟩, true) ∧ EpK X' t c (S.pin me ((S.e : Int) + 1)) := by
  obtain ⟨X', g, h'⟩ := pin_goes h he hme
  refine ⟨X', ep_alone (j := 2) ?_ hm, h'⟩
  unfold epochT; rw [if_pos (by omega)]
  exact Goes.cast (Goes.bind g (Goes.ret _ _)) (Nat.add_zero _)
theorem eunpin_alone {X : WldK} {t c : Nat} {S : EpS} (h : EpK X t c S) {me : Nat} (hme : me < t) (u : Int) (f : Nat) (most : Nat) (hm : 1 ≤ most) : ∃ X', aloneN (nextT (epochT t me 4 u f)) me (most + 1) X [] = (X', ⟨0, false, 0, 0⟩, true) ∧ EpK X' t c (S.pin me 0) := by
  obtain ⟨X', g, h'⟩ := unpin_goes h hme
  refine ⟨X', ep_alone (j := 1) ?_ hm, h'⟩
  unfold epochT; rw [if_neg (by omega), if_pos (by omega)]
  exact Goes.cast (Goes.bind g (Goes.ret _ _)) (Nat.add_zero _)
theorem eadv_alone {X : WldK} {t c : Nat} {S : EpS} (h : EpK X t c S) (he : S.e ≤ 1000000) (me : Nat) (u : Int) (f : Nat) (hf : c ≤ f) (most : Nat) (hm : 3 + t + 4 * c ≤ most) : ∃ X', aloneN (nextT (epochT t me 19 u (f + 1))) me (most + 1) X [] = (X', ⟨0, decide (S.okP t), 0, 0⟩, true) ∧ EpK X' t c (S.adv t) := by
  obtain ⟨X', j, hj, g, h'⟩ := adv_goes h he (me : Int) f hf
  refine ⟨X', ep_alone (j := j) ?_ (by omega), h'⟩
  unfold epochT; rw [if_neg (by omega), if_neg (by omega), if_neg (by omega), if_pos (by omega)]
  exact Goes.cast (Goes.bind g (Goes.ret _ _)) (Nat.add_zero _)
end Go.Proofs.Ytjokaginolpbeaa

namespace Go.Proofs.Ytjokaginolpbeaa
open Go.RowKit

/-! What an allocation takes, and leaves. -/
/-- no other thread is pinned -/
def EpS.lone (S : EpS) (t me : Nat) : Prop := ∀ i, i < t → i ≠ me → S.P i = 0
theorem adv_P (S : EpS) (t : Nat) : (S.adv t).P = S.P := by unfold EpS.adv; split <;> rfl
/-- the limbos behind are empty -/
def EpS.behind (S : EpS) (k : Nat) : Prop := ∀ j, k ≤ j → j < 3 → S.L ((S.e + 2 + j) % 3) = []
/-- what is free, or retired, and what is had: all records, each once -/
structure HE (N : Nat) (S : EpS) (held : List Int) : Prop where
  nodup : (S.all ++ held).Nodup
  rng : ∀ x ∈ S.all ++ held, 1 ≤ x ∧ x ≤ (N : Int)
  len : S.all.length + held.length = N
theorem HE.hk {N : Nat} {S : EpS} {held : List Int} (h : HE N S held) : HK N S.all held := ⟨h.nodup, fun x hx => h.rng x (by simp [hx]), h.len⟩
theorem HE.take {N : Nat} {S S' : EpS} {held : List Int} {x : Int} (h : HE N S held) (hp : S.all.Perm (x :: S'.all)) : HE N S' (held ++ [x]) := by
  have hq : (S'.all ++ (held ++ [x])).Perm (S.all ++ held) := by
    rw [List.perm_iff_count] at hp ⊢
    intro a
    have := hp a
    simp only [List.count_append, List.count_cons, List.count_nil] at this ⊢
    omega
  refine ⟨hq.nodup_iff.2 h.nodup, fun y hy => h.rng y (hq.mem_iff.1 hy), ?_⟩
  have := hq.length_eq
  have h3 := h.len
  simp only [List.length_append] at this ⊢
  omega
theorem HE.back {N : Nat} {S : EpS} {h1 h2 : List Int} {x : Int} (h : HE N S (h1 ++ x :: h2)) : HE N (S.retire x) (h1 ++ h2) ∧ x ∉ S.all ∧ 1 ≤ x ∧ x ≤ (N : Int) := by
  have hr := h.rng x (by simp)
  have hn := h.nodup
  rw [List.nodup_append] at hn
  have hx : x ∉ S.all := fun hm => hn.2.2 x hm x (by simp) rfl
  have hq : ((S.retire x).all ++ (h1 ++ h2)).Perm (S.all ++ (h1 ++ x :: h2)) := by
    have hp := retire_all (S := S) (x := x)
    rw [List.perm_iff_count] at hp ⊢
    intro a
    have := hp a
    simp only [List.count_append, List.count_cons] at this ⊢
    omega
  refine ⟨⟨hq.nodup_iff.2 h.nodup, fun y hy => h.rng y (hq.mem_iff.1 hy), ?_⟩, hx, hr.1, hr.2⟩
  have := hq.length_eq
  have h3 := h.len
  simp only [List.length_append, List.length_cons] at this h3 ⊢
  omega
def newS (c : Nat) : EpS := ⟨0, upFrom 1 c, fun _ => [], fun _ => 0⟩
theorem newS_all (c : Nat) : (newS c).all = upFrom 1 c := by simp [newS, EpS.all]
theorem newF_low {t c r i : Nat} (h1 : i ≠ 1) (h2 : i < 15 + t) : newF t c r i = 0 := by
  unfold newF
  rw [if_neg h1, if_neg (by omega)]
theorem newS_k {t c : Nat} (t1 : 1 ≤ t) (t2 : t ≤ 64) (hc : c ≤ 65536) : EpK (newW t c) t c (newS c) := by
  have hp := new_pool (t := t) (c := c) t1 t2 hc
  have hlow : ∀ i : Nat, i ≠ 1 → i < 8 + t → (newW t c).at (i : Int) = 0 := fun i h1 h2 => by
    rw [new_at t c i (by unfold memL; omega)]
    exact newF_low h1 (by omega)
  refine ⟨hp, fun i hi => ?_, by rw [newS_all]; exact upFrom_nodup _ _, ?_, fun i hi => ?_⟩
  · have := hlow (4 + i) (by omega) (by omega)
    rw [show (4 : Int) + (i : Int) = ((4 + i : Nat) : Int) by omega, this]
    rfl
  · have := hlow 3 (by omega) (by omega)
    exact this
  · have := hlow (8 + i) (by omega) (by omega)
    rw [show (8 : Int) + (i : Int) = ((8 + i : Nat) : Int) by omega, this]
    rfl
/-! Pins, and what three epochs give back. -/
theorem okP_zero {S : EpS} {t : Nat} (h : ∀ i, S.P i = 0) : S.okP t := fun i _ => .inl (h i)
theorem adv_ok {S : EpS} {t : Nat} (h : S.okP t) : S.adv t = S.drain := by unfold EpS.adv; rw [if_pos h]
theorem adv_no {S : EpS} {t : Nat} (h : ¬ S.okP t) : S.adv t = S := by unfold EpS.adv; rw [if_neg h]
/-- one thread is pinned, at the epoch or the one ahead -/
theorem okP_one {S : EpS} {t : Nat} {E : Int} (ht : 0 < t) (h0 : S.P 0 = E + 1) (h : ∀ i, i ≠ 0 → S.P i = 0) (hE : 0 ≤ E) : S.okP t ↔ (S.e : Int) = E := by
  constructor
  · intro hk
    rcases hk 0 ht with h1 | h1
    · omega
    · omega
  · intro he i hi
    by_cases e : i = 0
    · subst e; right; omega
    · exact .inl (h i e)
/-! The contracts of 'alone'. -/
theorem eal_pin {X : WldK} {t c : Nat} {S : EpS} (h : EpK X t c S) (hX : WOk X) {me : Nat} (hme : me < t) (he : S.e ≤ 1000000) (most : Nat) (hm : 2 ≤ most) (hm9 : most ≤ 900) : ∃ X', EpK X' t c (S.pin me ((S.e : Int) + 1)) ∧ WOk X' ∧ ∀ (wv : Value) (v d : Int) (w : World), WldV w wv X →
    Calls Try.prog 22 #[wv, .int .i64 (me : Int), .agg #[.int .i64 3, .int .i64 0, .int .i64 v, .int .u64 d], .int .i64 (most : Int)] w fun e w' => ∃ v', e = .returned (.tuple #[v', .agg #[.int .i64 0, .bool false, .int .i64 0, .int .u64 0, .slice none 0 0], .bool true]) ∧ WldV w' v' X' ∧ Ext w w' := by
  obtain ⟨X', ha, hk⟩ := epin_alone h he hme 0 (most + 1) most hm
  have hT := h.dim.T
  have ht2 := h.dim.t2
  have hw := (aloneN_ok (P := nextT (epochT t me 3 0 (most + 1))) (me := (me : Int)) (fun ns x h3 hx3 => epochN_ok _ _ _ _ _ (fun h5 => by unfold U64; omega) ns x h3 hx3) (most + 1) X [] hX (fun m hm => by cases hm)).1
  refine ⟨X', hk, ?_, fun wv v d w hV => ?_⟩
  · have ha2 := ha
    have e : (aloneN (nextT (epochT t me 3 0 (most + 1))) (me : Int) (most + 1) X []).1 = X' := by
      first
        | rw [ha2]
        | exact congrArg Prod.fst ha2
    rw [e] at hw; exact hw
  · have h1 := eal_any (most + 1) X t hT ht2 hX wv me 3 0 v d (most : Int) (by omega) (by omega) (by omega) most rfl (by omega) hm9 w hV
    have ha2 := ha
    rw [ha2] at h1
    exact h1
theorem eal_unpin {X : WldK} {t c : Nat} {S : EpS} (h : EpK X t c S) (hX : WOk X) {me : Nat} (hme : me < t)  (most : Nat) (hm : 1 ≤ most) (hm9 : most ≤ 900) : ∃ X', EpK X' t c (S.pin me 0) ∧ WOk X' ∧ ∀ (wv : Value) (v d : Int) (w : World), WldV w wv X →
    Calls Try.prog 22 #[wv, .int .i64 (me : Int), .agg #[.int .i64 4, .int .i64 0, .int .i64 v, .int .u64 d], .int .i64 (most : Int)] w fun e w' => ∃ v', e = .returned (.tuple #[v', .agg #[.int .i64 0, .bool false, .int .i64 0, .int .u64 0, .slice none 0 0], .bool true]) ∧ WldV w' v' X' ∧ Ext w w' := by
  obtain ⟨X', ha, hk⟩ := eunpin_alone h hme 0 (most + 1) most hm
  have hT := h.dim.T
  have ht2 := h.dim.t2
  have hw := (aloneN_ok (P := nextT (epochT t me 4 0 (most + 1))) (me := (me : Int)) (fun ns x h3 hx3 => epochN_ok _ _ _ _ _ (fun h5 => by unfold U64; omega) ns x h3 hx3) (most + 1) X [] hX (fun m hm => by cases hm)).1
  refine ⟨X', hk, ?_, fun wv v d w hV => ?_⟩
  · have ha2 := ha
    have e : (aloneN (nextT (epochT t me 4 0 (most + 1))) (me : Int) (most + 1) X []).1 = X' := by
      first
        | rw [ha2]
        | exact congrArg Prod.fst ha2
    rw [e] at hw; exact hw
  · have h1 := eal_any (most + 1) X t hT ht2 hX wv me 4 0 v d (most : Int) (by omega) (by omega) (by omega) most rfl (by omega) hm9 w hV
    have ha2 := ha
    rw [ha2] at h1
    exact h1
theorem eal_adv {X : WldK} {t c : Nat} {S : EpS} (h : EpK X t c S) (hX : WOk X) {me : Nat} (hme : me < t) (he : S.e ≤ 1000000) (most : Nat) (hm : 3 + t + 4 * c ≤ most) (hm9 : most ≤ 900) : ∃ X', EpK X' t c (S.adv t) ∧ WOk X' ∧ ∀ (wv : Value) (v d : Int) (w : World), WldV w wv X →
    Calls Try.prog 22 #[wv, .int .i64 (me : Int), .agg #[.int .i64 19, .int .i64 0, .int .i64 v, .int .u64 d], .int .i64 (most : Int)] w fun e w' => ∃ v', e = .returned (.tuple #[v', .agg #[.int .i64 0, .bool (decide (S.okP t)), .int .i64 0, .int .u64 0, .slice none 0 0], .bool true]) ∧ WldV w' v' X' ∧ Ext w w' := by
  obtain ⟨X', ha, hk⟩ := eadv_alone h he me 0 most (by omega) most hm
  have hT := h.dim.T
  have ht2 := h.dim.t2
  have hw := (aloneN_ok (P := nextT (epochT t me 19 0 (most + 1))) (me := (me : Int)) (fun ns x h3 hx3 => epochN_ok _ _ _ _ _ (fun h5 => by unfold U64; omega) ns x h3 hx3) (most + 1) X [] hX (fun m hm => by cases hm)).1
  refine ⟨X', hk, ?_, fun wv v d w hV => ?_⟩
  · have ha2 := ha
    have e : (aloneN (nextT (epochT t me 19 0 (most + 1))) (me : Int) (most + 1) X []).1 = X' := by
      first
        | rw [ha2]
        | exact congrArg Prod.fst ha2
    rw [e] at hw; exact hw
  · have h1 := eal_any (most + 1) X t hT ht2 hX wv me 19 0 v d (most : Int) (by omega) (by omega) (by omega) most rfl (by omega) hm9 w hV
    have ha2 := ha
    rw [ha2] at h1
    exact h1
end Go.Proofs.Ytjokaginolpbeaa

namespace Go.Proofs.Ytjokaginolpbeaa
open Go.RowKit

/-! A region that draws its order, in which several operations that turn nothing may come behind stores of the tail: they are taken first. -/
section
variable {P : Program} {ops : Array Oper} {Q : Exit → Act → World → Prop}
def bitsOf : List Nat → Nat
  | [] => 0
  | L :: r => 2 ^ L ||| bitsOf r
theorem bitsOf_spec : ∀ {l : List Nat} {i : Nat}, (bitsOf l).testBit i = true → i ∈ l
  | [], i, h => by simp [bitsOf] at h
  | L :: r, i, h => by
    simp only [bitsOf, Nat.testBit_or, Bool.or_eq_true] at h
    rcases h with h | h
    · rw [Nat.testBit_two_pow] at h
      rw [of_decide_eq_true h]; simp
    · exact List.mem_cons_of_mem _ (bitsOf_spec h)
def tailMB (M : List Nat) (n : Nat) (LL : List Nat) : Nat → List Row → Bool
  | _, [] => true
  | k, _ :: rs => (decide (k < n) || (M.getD k 0 ||| bitsOf LL) &&& (2 ^ k - 1) == 2 ^ k - 1) && tailMB M n LL (k + 1) rs
/-- of the tail alone: each waits for all of the tail ahead of it -/
def tailTB (M : List Nat) (n : Nat) : Nat → List Row → Bool
  | _, [] => true
  | k, _ :: rs => (decide (k < n) || ((List.range k).all fun i => decide (i < n) || waits M k i)) && tailTB M n (k + 1) rs
def sureMB (S : List Row) (M : List Nat) (n m : Nat) (LL : List Nat) : Bool :=
  decide (n ≤ S.length) && (LL.all fun L => decide (L < n)) && sureB S M S.length m && tailMB M n LL 0 S && tailTB M n 0 S
theorem tailM_spec {M : List Nat} {n : Nat} {LL : List Nat} : ∀ (S : List Row) (k0 : Nat), tailMB M n LL k0 S = true → ∀ k, k < S.length → n ≤ k0 + k → ∀ i, i < k0 + k → waits M (k0 + k) i = true ∨ i ∈ LL
  | [], _, _, k, h => by simp at h
  | x :: S, k0, hB, k, h => by
    simp only [tailMB, Bool.and_eq_true, Bool.or_eq_true, decide_eq_true_eq, beq_iff_eq] at hB
    cases k with
    | zero =>
      intro hn i hi
      rcases hB.1 with h1 | h1
      · omega
      · have h2 := congrArg (fun q => Nat.testBit q i) h1
        simp only [Nat.testBit_and, Nat.testBit_or, Nat.testBit_two_pow_sub_one] at h2
        rw [Nat.add_zero] at hi ⊢
        simp only [hi, decide_true, Bool.and_true, Bool.or_eq_true] at h2
        rcases h2 with h2 | h2
        · exact .inl h2
        · exact .inr (bitsOf_spec h2)
    | succ k =>
      intro hn i hi
      have := tailM_spec S (k0 + 1) hB.2 k (by simpa using h) (by omega) i (by omega)
      rw [show k0 + (k + 1) = k0 + 1 + k by omega]
      exact this
theorem tailT_spec {M : List Nat} {n : Nat} : ∀ (S : List Row) (k0 : Nat), tailTB M n k0 S = true → ∀ k, k < S.length → n ≤ k0 + k → ∀ i, n ≤ i → i < k0 + k → waits M (k0 + k) i = true
  | [], _, _, k, h => by simp at h
  | x :: S, k0, hB, k, h => by
    simp only [tailTB, Bool.and_eq_true, Bool.or_eq_true, decide_eq_true_eq, List.all_eq_true, List.mem_range] at hB
    cases k with
    | zero =>
      intro hn i hi hik
      rcases hB.1 with h1 | h1
      · omega
      · rcases h1 i (by omega) with h2 | h2
        · omega
        · simpa using h2
    | succ k =>
      intro hn i hi hik
      have := tailT_spec S (k0 + 1) hB.2 k (by simpa using h) (by omega) i hi (by omega)
      rw [show k0 + (k + 1) = k0 + 1 + k by omega]
      exact this
theorem wpAny_lates {C : Cfg} {Gs : List Good} {a0 : Act} {w0 : World} {n m : Nat} {LL : List Nat} (S : SureB ops C.M ops.size m) (hnN : n ≤ ops.size) (hLn : ∀ L ∈ LL, L < n) (hW : C.W = []) (hfree : ∀ L ∈ LL, lateFree ops C.M L = true) (hsel : Region.noSelect ops = true)
    (htail : ∀ k i, n ≤ k → k < ops.size → i < k → waits C.M k i = true ∨ i ∈ LL)
    (hS : ops.toList.map rowOf = C.S) (hm : a0.tmps.size = m) (hst : ∀ j v w w', good Gs j v w → Ext w w' → good Gs j v w')
    (hfr : ∀ j, C.F.getD j true = true → ∀ v w w', good Gs j v w → WildR C.E w w' → good Gs j v w')
    (hone : ∀ k o, k < n → ops[k]? = some o → sureOne P C (fun j => Gs.getD j Good.any) a0 w0 k o (Gs.getD k Good.any))
    (hQ : ∀ d v c a w, Q (.panic c) (a.put d v) w → Q (.panic c) a w)
    (hlate : ∀ L ∈ LL, ∀ oL, ops[L]? = some oL → ∀ listed a w, SureInv C ops Gs a0 w0 ops.size listed a w → (∀ j, waits C.M L j = true → listed.getD j false = true) → ∃ v, (∀ w', (execOp a.eval oL).run P w' = .ok (.value v) w') ∧ good Gs L v w)
    (hend : ∀ listed a w, SureInv C ops Gs a0 w0 ops.size listed a w → (∀ t, n ≤ t → listed.getD t false = false) → (∀ i, i < n → listed.getD i false = true) → wpAny P .any ops Q (ops.size - n) listed a w) :
    ∀ (c : Nat) (listed : Array Bool) (a : Act) (w : World), SureInv C ops Gs a0 w0 ops.size listed a w → (∀ t, n ≤ t → listed.getD t false = false) → (List.range n).countP (fun i => !listed.getD i false) = c → wpAny P .any ops Q (c + (ops.size - n)) listed a w
  | 0, listed, a, w, I, hT, hc => by
    rw [Nat.zero_add]
    refine hend listed a w I hT fun i hi => ?_
    have := List.countP_eq_zero.1 hc i (List.mem_range.2 hi)
    simpa using this
  | c + 1, listed, a, w, I, hT, hc => by
    rw [show c + 1 + (ops.size - n) = (c + (ops.size - n)) + 1 by omega]
    have cnt : ∀ k, k < n → listed.getD k false = false → (List.range n).countP (fun i => !(listed.setIfInBounds k true).getD i false) = c := fun k hkn hkun => by
      have hkl : k < listed.size := by rw [I.size]; omega
      have h2 := countP_less (p := fun i => !listed.getD i false) (q := fun i => !(listed.setIfInBounds k true).getD i false) (k := k)
        (by simp only [hkun, Bool.not_false]) (by simp [hkl]) (fun j hj => by simp only [getD_set_ne false (Ne.symm hj)]) n hkn
      omega
    have hT' : ∀ k, k < n → ∀ t, n ≤ t → (listed.setIfInBounds k true).getD t false = false := fun k hk t ht => by rw [getD_set_ne false (by omega)]; exact hT t ht
    by_cases hex : ∃ L, L ∈ LL ∧ L ∈ Region.ready .any ops listed
    · obtain ⟨L, hLL, hLr⟩ := hex
      obtain ⟨hun, o', ho', hall⟩ := mem_ready.1 hLr
      have hLn1 := hLn L hLL
      have dep : ∀ j, waits C.M L j = true → listed.getD j false = true := fun j hw => waits_listed S I.closed L o' ho' hall j hw
      obtain ⟨v, hy, hg⟩ := hlate L hLL o' ho' listed a w I dep
      have hfree1 := hfree L hLL
      simp only [lateFree, ho', Bool.and_eq_true, List.all_eq_true, List.mem_range, Bool.or_eq_true, beq_iff_eq] at hfree1
      have hgd : o'.guard = none := by have := hfree1.1; simpa using this
      refine wpAny_first ho' (Region.noSelect_spec hsel) (hQ o'.dst v) _ listed a w (fun j oj hj hne hunj hno => ?_) hLr (.inl ⟨by simp [Region.wanted, hgd], hy⟩)
        (wpAny_lates S hnN hLn hW hfree hsel htail hS hm hst hfr hone hQ hlate hend c _ _ w (sure_put S hm hW I ho' hLr (by omega) hg) (hT' L hLn1) (cnt L hLn1 (getD_alike hun)))
      have hjs : j < ops.size := (Array.getElem?_eq_some_iff.1 hj).1
      rcases hfree1.2 j hjs with (h1 | h1) | h1
      · exact absurd h1 hne
      · have := getD_alike hunj
        have h2 := dep j h1
        rw [this] at h2; cases h2
      · rw [hj] at h1
        simp only [Bool.or_eq_true] at h1
        rcases h1 with h1 | h1
        · obtain ⟨e, he, hb⟩ := Array.any_eq_true'.1 h1
          simp only [Bool.and_eq_true, beq_iff_eq] at hb
          exact absurd hb.2 (hno e he hb.1)
        · exact h1
    · -- the least one that is still to come
      have hex2 : ∃ i, i < n ∧ listed.getD i false = false ∧ ∀ j, j < i → listed.getD j false = true := by
        have hpos : 0 < (List.range n).countP (fun i => !listed.getD i false) := by omega
        obtain ⟨i, hi, hn⟩ := List.countP_pos_iff.1 hpos
        have key : ∀ i, i < n → listed.getD i false = false → ∃ i, i < n ∧ listed.getD i false = false ∧ ∀ j, j < i → listed.getD j false = true := by
          intro i
          induction i using Nat.strongRecOn with
          | _ i ih =>
            intro h1 h2
            by_cases hall : ∀ j, j < i → listed.getD j false = true
            · exact ⟨i, h1, h2, hall⟩
            · have hne : ∃ j, j < i ∧ listed.getD j false = false := by
                rcases Classical.em (∃ j, j < i ∧ listed.getD j false = false) with h | h
                · exact h
                · exact absurd (fun j hj => by
                    cases hq : listed.getD j false with
                    | true => rfl
                    | false => exact absurd ⟨j, hj, hq⟩ h) hall
              obtain ⟨j, hj, hjf⟩ := hne
              exact ih j hj (by omega) hjf
        exact key i (List.mem_range.1 hi) (by simpa using hn)
      obtain ⟨i, hin, hif, hall⟩ := hex2
      have his : i < ops.size := Nat.lt_of_lt_of_le hin hnN
      have hir : i ∈ Region.ready .any ops listed := by
        refine mem_ready.2 ⟨?_, ops[i], Array.getElem?_eq_getElem his, fun e he hb => hall e.on (S.edge i ops[i] (Array.getElem?_eq_getElem his) e he hb)⟩
        have hil : i < listed.size := by rw [I.size]; exact his
        simp [hil] at hif ⊢; exact hif
      refine ⟨fun h => (by rw [h] at hir; cases hir), fun k hk => ?_⟩
      obtain ⟨hkun, o, ho, hkall⟩ := mem_ready.1 hk
      have hks : k < ops.size := (Array.getElem?_eq_some_iff.1 ho).1
      have hkn : k < n := by
        rcases Nat.lt_or_ge k n with h | h
        · exact h
        · rcases htail k i h hks (by omega) with h2 | h2
          · have h3 := waits_listed S I.closed k o ho hkall i h2
            rw [hif] at h3; cases h3
          · exact absurd ⟨i, h2, hir⟩ hex
      exact wpOp_mono (fun a' w' I' => wpAny_lates S hnN hLn hW hfree hsel htail hS hm hst hfr hone hQ hlate hend c _ a' w' I' (hT' k hkn) (cnt k hkn (getD_alike hkun))) (sure_step S hS hm hst hfr I ho hk (by omega) (hone k o hkn ho))
/-- each of them, wherever it comes -/
def latesOK (P : Program) (l : List Oper) (V : Nat → Good) (w0 : World) : List (Nat × List (Nat × Tmp)) → Prop
  | [] => True
  | q :: r => (∀ w', Ext w0 w' → ∀ ρ, Env ρ → seen V ρ w' q.2 → ∀ o, l[q.1]? = some o → ∃ v, (∀ w'', (execOp ρ o).run P w'' = .ok (.value v) w'') ∧ (V q.1).G v w') ∧ latesOK P l V w0 r
theorem latesOK_at {P : Program} {l : List Oper} {V : Nat → Good} {w0 : World} : ∀ {LJ : List (Nat × List (Nat × Tmp))}, latesOK P l V w0 LJ → ∀ q ∈ LJ, ∀ w', Ext w0 w' → ∀ ρ, Env ρ → seen V ρ w' q.2 → ∀ o, l[q.1]? = some o → ∃ v, (∀ w'', (execOp ρ o).run P w'' = .ok (.value v) w'') ∧ (V q.1).G v w'
  | [], _, q, hq => by cases hq
  | x :: r, h, q, hq => by
    rcases List.mem_cons.1 hq with rfl | hq
    · exact h.1
    · exact latesOK_at h.2 q hq
/-- A REGION THAT DRAWS ITS ORDER, with operations that turn nothing and may come behind stores of the tail -/
theorem wp_region_lates {id : Nat} {a0 : Act} {w : World} {l : List Oper} (LJ : List (Nat × List (Nat × Tmp))) (C : Cfg) (n m : Nat) (js es : List (Nat × Tmp)) (Gs : List Good) (hmix : P.follows .mixedOrders = true)
    (hS : l.map rowOf = C.S) (hB : sureMB C.S C.M n m (LJ.map (·.1)) = true) (hm : a0.tmps.size = m) (hjs : endPairs C.S n = js) (hes : (js.filter fun p => aliveB C p.1) = es) (hF : Gs.map (fun g => g.free C.E) = C.F)
    (hfree : (LJ.all fun q => lateFree l.toArray C.M q.1) = true) (hlook : (LJ.all fun q => q.2.all fun p => waits C.M q.1 p.1 && dstS C.S p.1 == some p.2) = true) (hsel : Region.noSelect l.toArray = true) (hW : C.W = [])
    (hQ : ∀ (d : Tmp) (v : Value) c a w, Q (.panic c) (a.put (some d) v) w → Q (.panic c) a w)
    (hlate : ∀ (V : Nat → Good), places V 0 Gs → latesOK P l V w.drew LJ)
    (h : ∀ (C' : Cfg) (a' : Act) (V : Nat → Good), C' = C → a' = a0 → places V 0 Gs → sureAll P C' V a' w.drew 0 (l.take n))
    (hend : ∀ (xs : Nat → Value) (w' : World), Ext w.drew w' → goods Gs xs w' es → wpList P l.toArray Q (l.drop n) (putAll js xs a0) w') :
    (Code.region id l.toArray true).wp P Q a0 w := by
  have hS' : l.toArray.toList.map rowOf = C.S := by simpa using hS
  simp only [sureMB, Bool.and_eq_true, decide_eq_true_eq] at hB
  obtain ⟨⟨⟨⟨hn1, hLn⟩, hB1⟩, hB2⟩, hB3⟩ := hB
  have hlS : C.S.length = l.toArray.size := by rw [← hS']; simp
  have B := sureB_spec hS' hB1
  rw [hlS] at B
  have hnN : n ≤ l.toArray.size := by omega
  have htail : ∀ k i, n ≤ k → k < l.toArray.size → i < k → waits C.M k i = true ∨ i ∈ LJ.map (·.1) := fun k i h1 h2 h3 => by
    have := tailM_spec C.S 0 hB2 k (by omega) (by omega) i (by omega)
    simpa using this
  have hP0 := places_of Gs Gs 0 (fun j _ => by rw [Nat.zero_add])
  have hone := sureAll_at (l.take n) 0 (h C a0 (fun j => Gs.getD j Good.any) rfl rfl hP0)
  have hst : ∀ j v w w', good Gs j v w → Ext w w' → good Gs j v w' := fun j v w w' h hx => (Gs.getD j Good.any).st v w w' h hx
  have hone' : ∀ k o, k < n → l.toArray[k]? = some o → sureOne P C (fun j => Gs.getD j Good.any) a0 w.drew k o (Gs.getD k Good.any) := fun k o hk ho => by
    have := hone k o (by rw [List.getElem?_take]; simp [hk]; simpa using ho)
    simpa using this
  have hfr : ∀ j, C.F.getD j true = true → ∀ v w w', good Gs j v w → WildR C.E w w' → good Gs j v w' := fun j hj v w w' hg hx => by
    refine (Gs.getD j Good.any).fr C.E ?_ v w w' hg hx
    rw [← hF] at hj
    rcases Nat.lt_or_ge j Gs.length with h' | h'
    · simp [h'] at hj ⊢; exact hj
    · rw [List.getD_eq_getElem?_getD, List.getElem?_eq_none h']; rfl
  refine wp_region_any hmix ?_
  have I0 : SureInv C l.toArray Gs a0 w.drew l.toArray.size (Array.replicate l.toArray.size false) a0 { w with drawn := w.drawn + 1 } := by
    have hf : ∀ j, (Array.replicate l.toArray.size false).getD j false = false := rep_false _
    refine ⟨by simp, fun j oj _ h => (by rw [hf] at h; cases h), fun t _ => hf t, Ext.refl _, rfl, rfl, fun t _ => rfl, fun j h _ => (by rw [hf] at h; cases h)⟩
  have hno : ∀ (listed : Array Bool) (j : Nat), ∀ c, c ∈ C.W → listed.getD c false = true → alive C j c = true := fun _ _ c hc => by rw [hW] at hc; cases hc
  have h := wpAny_lates (Q := Q) B hnN (fun L hL => by simpa using List.all_eq_true.1 hLn L hL) hW (fun L hL => by
      obtain ⟨q, hq, rfl⟩ := List.mem_map.1 hL
      exact List.all_eq_true.1 hfree q hq) hsel htail hS' hm hst hfr hone' (fun d v c a w => by cases d with | none => exact fun h => h | some d => exact hQ d v c a w) (fun L hL oL hoL listed a w' I hdep => by
      obtain ⟨q, hq, rfl⟩ := List.mem_map.1 hL
      refine latesOK_at (hlate (fun j => Gs.getD j Good.any) hP0) q hq w' I.ext a.eval (act_env a) (seen_of fun p hp => ?_) oL (by simpa using hoL)
      have h2 := List.all_eq_true.1 (List.all_eq_true.1 hlook q hq) p hp
      simp only [Bool.and_eq_true, beq_iff_eq] at h2
      obtain ⟨v, hv, hg⟩ := I.good p.1 (hdep p.1 h2.1) (hno _ _)
      rw [act_eval (hv _ (by rw [← dst_eq hS']; exact h2.2))]
      exact hg) (fun listed a w' I hT hall => by
    have hpairs : ∀ p ∈ endPairs C.S n, p.1 < n ∧ dstOf l.toArray p.1 = some p.2 := fun p hp => by
      obtain ⟨j, hj, e⟩ := List.mem_filterMap.1 hp
      obtain ⟨d, hd, rfl⟩ := Option.map_eq_some_iff.1 e
      rw [dst_eq hS'] at hd
      exact ⟨List.mem_range.1 hj, hd⟩
    let xs : Nat → Value := fun j => match dstOf l.toArray j with | some d => a.tmps.getD d undef | none => undef
    have hxv : ∀ j d, dstOf l.toArray j = some d → a.tmps[d]? = some (xs j) := fun j d hj => by
      have hd : d < a.tmps.size := by rw [I.tsize, hm]; exact B.inside j d hj
      simp only [xs, hj, Array.getD_eq_getD_getElem?, Array.getElem?_eq_getElem hd, Option.getD_some]
    have hxs : ∀ j d, dstOf l.toArray j = some d → listed.getD j false = true → aliveB C j = true → good Gs j (xs j) w' := fun j d hj hl ha => by
      obtain ⟨v, hv, hg⟩ := I.good j hl (fun c hc _ => List.all_eq_true.1 ha c hc)
      have h2 := hv d hj
      have h3 : xs j = v := Option.some.inj ((hxv j d hj).symm.trans h2)
      rw [h3]
      exact hg
    have hgoods : goods Gs xs w' es := goods_mem fun p hp => by
      rw [← hes, ← hjs] at hp
      obtain ⟨hp, hal⟩ := List.mem_filter.1 hp
      obtain ⟨h1, h2⟩ := hpairs p hp
      exact hxs p.1 p.2 h2 (hall _ h1) hal
    have ha : a = putAll js xs a0 := by
      have ht : a.tmps = (putAll js xs a0).tmps := by
        refine Array.ext_getElem? fun t => ?_
        rw [← hjs]
        by_cases hex : ∃ j, j < n ∧ dstOf l.toArray j = some t
        · obtain ⟨j, hj, hd⟩ := hex
          rw [putAll_in (endPairs C.S n) xs a0 j t (List.mem_filterMap.2 ⟨j, List.mem_range.2 hj, by rw [dst_eq hS', hd]; rfl⟩) (fun p hp hpd => by
            obtain ⟨_, h2⟩ := hpairs p hp
            rw [hpd] at h2
            rcases Nat.decEq p.1 j with h | h
            · exact absurd hd (B.apart p.1 j t h h2)
            · exact h) (by rw [hm]; exact B.inside j t hd)]
          exact hxv j t hd
        · rw [putAll_out _ xs a0 t (fun p hp hpd => by
            obtain ⟨h1, h2⟩ := hpairs p hp
            exact hex ⟨p.1, h1, by rw [← hpd]; exact h2⟩)]
          refine I.frame t fun j hl hj => hex ⟨j, ?_, hj⟩
          rcases Nat.lt_or_ge j n with h | h
          · exact h
          · rw [hT j h] at hl; cases hl
      have hd : a.defers = (putAll js xs a0).defers := by rw [putAll_defers]; exact I.defers
      cases a
      cases hq : putAll js xs a0
      rw [hq] at ht hd
      simp only at ht hd
      rw [ht, hd]
    have hlen : l.toArray.size - n = (l.drop n).length := by simp
    rw [hlen, ha]
    exact wpAny_seqL B (n := n) (fun k i h1 h2 h3 => by
      have := tailT_spec C.S 0 hB3 k (by omega) (by omega) i h1 (by omega)
      simpa using this) (l.drop n) n _ _ _ (Nat.le_refl _) (by simp at hnN ⊢; omega) (fun j => by simp) I.size hall hT (hend xs w' I.ext hgoods)) n (Array.replicate l.toArray.size false) a0 _ I0 (fun t _ => rep_false _ t) (by
      have : (fun i => !(Array.replicate l.toArray.size false).getD i false) = fun _ : Nat => true := by
        funext i
        rw [rep_false]; rfl
      rw [this]
      simp)
  have hsz : n + (l.toArray.size - n) = l.toArray.size := by omega
  rw [hsz] at h
  exact h
end
end Go.Proofs.Ytjokaginolpbeaa
