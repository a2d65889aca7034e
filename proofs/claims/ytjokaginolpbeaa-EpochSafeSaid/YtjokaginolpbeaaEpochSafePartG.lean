import Derived.Test.YtjokaginolpbeaaEpochSafePartF
import Derived.Test.YtjokaginolpbeaaEpochSafePartE
import Derived.Test.YtjokaginolpbeaaEpochSafePartA
import Derived.Test.YtjokaginolpbeaaEpochSafePartB
import Derived.Lib.Hide
import Derived.LoopTactic
namespace Go.Proofs.Ytjokaginolpbeaa
open Go.RowKit

/-! The example of chapter 13, in plain. -/
def exP (me k u : Int) : List Int → NextE := nextT (epochT ((2 : Nat) : Int) me k u 100)
def exV : WldK × OutN × Bool := aloneN (exP 0 6 0) 0 (99 + 1) (newW 2 1) []
def exU : WldK × OutN × Bool := aloneN (exP 0 5 1) 0 (99 + 1) exV.1 []
def exX : WldK × OutN × Bool := aloneN (exP 1 6 0) 1 (99 + 1) exU.1 []
def exD : WldK × OutN × Bool := aloneN (exP 0 6 0) 0 (99 + 1) exX.1 []
def exY : WldK × OutN × Bool := aloneN (exP 1 3 0) 1 (9 + 1) (newW 2 1) []
theorem exV_eq : exV.2 = (⟨0, false, 1, 0⟩, true) := by kernel_rfl
theorem exU_eq : exU.2 = (⟨0, false, 0, 0⟩, true) := by kernel_rfl
theorem exX_eq : exX.2 = (⟨0, false, 1, 0⟩, true) := by kernel_rfl
theorem exD_eq : exD.2 = (⟨0, false, 0, 0⟩, true) := by kernel_rfl
theorem exY_eq : exY.2 = (⟨0, false, 0, 0⟩, true) := by kernel_rfl
theorem exY_len : exY.1.ws.length = 18 := by kernel_rfl
theorem exY_at : exY.1.at 9 = 1 := by kernel_rfl
theorem ex0 : WOk (newW 2 1) ∧ (newW 2 1).T = ((2 : Nat) : Int) := ⟨new_wok (by omega) (by omega) (by omega), rfl⟩
theorem ex_ok {X : WldK} (h : WOk X ∧ X.T = ((2 : Nat) : Int)) (me k u : Int) (hu : k = 5 → U64 u) (n : Nat) : WOk (aloneN (exP me k u) me n X []).1 ∧ (aloneN (exP me k u) me n X []).1.T = ((2 : Nat) : Int) := by
  obtain ⟨h1, h2, -⟩ := aloneN_ok (P := exP me k u) (me := me) (fun ns x h hx => epochN_ok _ _ _ _ _ hu ns x h hx) n X [] h.1 (fun m hm => by cases hm)
  exact ⟨h1, h2.trans h.2⟩
theorem exV_ok : WOk exV.1 ∧ exV.1.T = ((2 : Nat) : Int) := ex_ok ex0 0 6 0 (by omega) _
theorem exU_ok : WOk exU.1 ∧ exU.1.T = ((2 : Nat) : Int) := ex_ok exV_ok 0 5 1 (fun _ => by unfold U64; omega) _
theorem exX_ok : WOk exX.1 ∧ exX.1.T = ((2 : Nat) : Int) := ex_ok exU_ok 1 6 0 (by omega) _
theorem exc_V (wv : Value) (w : World) (hV : WldV w wv (newW 2 1)) : Calls Try.prog 22 #[wv, .int .i64 0, .agg #[.int .i64 6, .int .i64 0, .int .i64 0, .int .u64 0], .int .i64 99] w fun e w' => ∃ v', e = .returned (.tuple #[v', .agg #[.int .i64 0, .bool false, .int .i64 1, .int .u64 0, .slice none 0 0], .bool true]) ∧ WldV w' v' exV.1 ∧ Ext w w' := by
  have h := eal_any 100 (newW 2 1) 2 ex0.2 (by omega) ex0.1 wv 0 6 0 0 0 99 (by omega) (by omega) (by omega) 99 rfl (by omega) (by omega) w hV
  rw [show aloneN (nextT (epochT ((2 : Nat) : Int) 0 6 0 100)) 0 (99 + 1) (newW 2 1) [] = exV from rfl, exV_eq] at h
  exact h
theorem exc_U (wv : Value) (w : World) (hV : WldV w wv (exV.1)) : Calls Try.prog 22 #[wv, .int .i64 0, .agg #[.int .i64 5, .int .i64 1, .int .i64 0, .int .u64 0], .int .i64 99] w fun e w' => ∃ v', e = .returned (.tuple #[v', .agg #[.int .i64 0, .bool false, .int .i64 0, .int .u64 0, .slice none 0 0], .bool true]) ∧ WldV w' v' exU.1 ∧ Ext w w' := by
  have h := eal_any 100 (exV.1) 2 exV_ok.2 (by omega) exV_ok.1 wv 0 5 1 0 0 99 (by omega) (by omega) (by omega) 99 rfl (by omega) (by omega) w hV
  rw [show aloneN (nextT (epochT ((2 : Nat) : Int) 0 5 1 100)) 0 (99 + 1) (exV.1) [] = exU from rfl, exU_eq] at h
  exact h
theorem exc_X (wv : Value) (w : World) (hV : WldV w wv (exU.1)) : Calls Try.prog 22 #[wv, .int .i64 1, .agg #[.int .i64 6, .int .i64 0, .int .i64 0, .int .u64 0], .int .i64 99] w fun e w' => ∃ v', e = .returned (.tuple #[v', .agg #[.int .i64 0, .bool false, .int .i64 1, .int .u64 0, .slice none 0 0], .bool true]) ∧ WldV w' v' exX.1 ∧ Ext w w' := by
  have h := eal_any 100 (exU.1) 2 exU_ok.2 (by omega) exU_ok.1 wv 1 6 0 0 0 99 (by omega) (by omega) (by omega) 99 rfl (by omega) (by omega) w hV
  rw [show aloneN (nextT (epochT ((2 : Nat) : Int) 1 6 0 100)) 1 (99 + 1) (exU.1) [] = exX from rfl, exX_eq] at h
  exact h
theorem exc_D (wv : Value) (w : World) (hV : WldV w wv (exX.1)) : Calls Try.prog 22 #[wv, .int .i64 0, .agg #[.int .i64 6, .int .i64 0, .int .i64 0, .int .u64 0], .int .i64 99] w fun e w' => ∃ v', e = .returned (.tuple #[v', .agg #[.int .i64 0, .bool false, .int .i64 0, .int .u64 0, .slice none 0 0], .bool true]) ∧ WldV w' v' exD.1 ∧ Ext w w' := by
  have h := eal_any 100 (exX.1) 2 exX_ok.2 (by omega) exX_ok.1 wv 0 6 0 0 0 99 (by omega) (by omega) (by omega) 99 rfl (by omega) (by omega) w hV
  rw [show aloneN (nextT (epochT ((2 : Nat) : Int) 0 6 0 100)) 0 (99 + 1) (exX.1) [] = exD from rfl, exD_eq] at h
  exact h
theorem exc_Y (wv : Value) (w : World) (hV : WldV w wv (newW 2 1)) : Calls Try.prog 22 #[wv, .int .i64 1, .agg #[.int .i64 3, .int .i64 0, .int .i64 0, .int .u64 0], .int .i64 9] w fun e w' => ∃ v', e = .returned (.tuple #[v', .agg #[.int .i64 0, .bool false, .int .i64 0, .int .u64 0, .slice none 0 0], .bool true]) ∧ WldV w' v' exY.1 ∧ Ext w w' := by
  have h := eal_any 100 (newW 2 1) 2 ex0.2 (by omega) ex0.1 wv 1 3 0 0 0 9 (by omega) (by omega) (by omega) 9 rfl (by omega) (by omega) w hV
  rw [show aloneN (nextT (epochT ((2 : Nat) : Int) 1 3 0 100)) 1 (9 + 1) (newW 2 1) [] = exY from rfl, exY_eq] at h
  exact h
end Go.Proofs.Ytjokaginolpbeaa

namespace Go.Proofs.Ytjokaginolpbeaa
open Go.RowKit

/-! wealdref11: a log that is gone through. -/
def Res.zero : Res := ⟨0, none, 0, 0, false⟩
/-- how far a log is gone through, whether it stopped, and what is asked -/
structure Cu where
  i : Nat
  stop : Bool
  x : Acc
def Cu.told (rs : List Res) (s : Cu) : Res := if s.stop then Res.zero else (rs[s.i]?).getD Res.zero
def Cu.next (rs : List Res) (y : Acc) (s : Cu) : Cu := if s.stop then s else if s.i < rs.length then ⟨s.i + 1, false, s.x⟩ else ⟨s.i, true, y⟩
def curCells (A : Option Addr) (n c : Nat) (s : Cu) : List Value := [.slice A n c, .int .i64 s.i, .bool s.stop, .int .i64 s.x.kind, .int .i64 s.x.cell, .int .u64 s.x.a, .int .u64 s.x.b, .slice s.x.D s.x.dk s.x.dc, .slice s.x.W s.x.wk s.x.wc]
def CurAt (w : World) (g : Nat) (A : Option Addr) (n c : Nat) (s : Cu) : Prop := w.heap[g]? = some (.cells (curCells A n c s).toArray 142 (0, 0))
end Go.Proofs.Ytjokaginolpbeaa

namespace Go.Proofs.Ytjokaginolpbeaa
open Go.RowKit

/-! wealdref11.Cur: Load, Store, Cas. -/
theorem LogV.cur {w w' : World} {g : Nat} {A : Option Addr} {n c : Nat} {rs : List Res} (h : LogV w A n c rs) (hx : ExtB g w w') (hsep : ∀ a, A = some a → 0 < n → a.block ≠ g) : LogV w' A n c rs :=
  ⟨h.len, h.small, fun j r hr => let ⟨a, ha, h1⟩ := h.at_ j r hr; ⟨a, ha, h1.extB hx (hsep a ha (by have := (List.getElem?_eq_some_iff.1 hr).1; have := h.len; omega))⟩⟩
theorem CurAt.ext {w w' : World} {g : Nat} {A : Option Addr} {n c : Nat} {s : Cu} (h : CurAt w g A n c s) (hx : Ext w w') : CurAt w' g A n c s := heap_ext h hx
end Go.Proofs.Ytjokaginolpbeaa

namespace Go.Proofs.Ytjokaginolpbeaa
open Go.RowKit

/-! The document's text (wealdref08), and 'shown'. -/
end Go.Proofs.Ytjokaginolpbeaa

namespace Go.Proofs.Ytjokaginolpbeaa
open Go.RowKit

/-! wealdref12.Pop, wealdref12.Push: what popN and pushN say. -/
def Cu.after (rs : List Res) (s : Cu) : ProgE → Cu
  | .stop x => ⟨rs.length, true, x⟩
  | .ret _ k => ⟨k, false, s.x⟩
def ProgE.val : ProgE → Int
  | .stop _ => 0
  | .ret r _ => r
theorem Cu.on {rs : List Res} {s : Cu} {y : Acc} {r : Res} {R : List Res} (hs : s.stop = false) (h : rs.drop s.i = r :: R) : s.told rs = r ∧ s.next rs y = ⟨s.i + 1, false, s.x⟩ ∧ rs.drop (s.i + 1) = R := by
  have h1 : s.i < rs.length := by
    rcases Nat.lt_or_ge s.i rs.length with h' | h'
    · exact h'
    · rw [List.drop_eq_nil_of_le h'] at h; cases h
  have h2 : rs[s.i]? = some r := by rw [List.getElem?_eq_getElem h1]; rw [List.drop_eq_getElem_cons h1] at h; injection h with h _; rw [h]
  refine ⟨by simp [Cu.told, hs, h2], by simp [Cu.next, hs, h1], ?_⟩
  rw [show rs.drop (s.i + 1) = (rs.drop s.i).drop 1 by rw [List.drop_drop], h]; rfl
theorem Cu.off {rs : List Res} {s : Cu} {y : Acc} (hs : s.stop = false) (h : rs.drop s.i = []) (hi : s.i ≤ rs.length) : s.told rs = Res.zero ∧ s.next rs y = ⟨rs.length, true, y⟩ := by
  have h1 : s.i = rs.length := by
    rcases Nat.lt_or_ge s.i rs.length with h' | h'
    · rw [List.drop_eq_getElem_cons h'] at h; cases h
    · omega
  refine ⟨by simp [Cu.told, hs, h1], by simp [Cu.next, hs, h1]⟩
theorem Cu.still {rs : List Res} {s : Cu} {y : Acc} (hs : s.stop = true) : s.told rs = Res.zero ∧ s.next rs y = s := by simp [Cu.told, Cu.next, hs]
def curM (g : Nat) (w : World) : Nat := match w.cell? ⟨g, 2, none⟩ with
  | some (.bool true) => 0
  | _ => match w.cell? ⟨g, 1, none⟩ with
    | some (.int _ i) => 65537 - i.toNat
    | _ => 0
theorem CurAt.cells {w : World} {g : Nat} {A : Option Addr} {n c : Nat} {s : Cu} (h : CurAt w g A n c s) : w.cell? ⟨g, 1, none⟩ = some (.int .i64 (s.i : Int)) ∧ w.cell? ⟨g, 2, none⟩ = some (.bool s.stop) := by
  unfold CurAt curCells at h
  simp [World.cell?, h]
theorem CurAt.m {w : World} {g : Nat} {A : Option Addr} {n c : Nat} {s : Cu} (h : CurAt w g A n c s) : curM g w = if s.stop then 0 else 65537 - s.i := by
  obtain ⟨h1, h2⟩ := h.cells
  unfold curM
  rw [h2, h1]
  cases s.stop <;> simp
end Go.Proofs.Ytjokaginolpbeaa

namespace Go.Proofs.Ytjokaginolpbeaa
open Go.RowKit

/-! A row of ints of the call's own, its spare part known too: what is laid onto it turns no world. -/
def intCells (l : List Int) : List Value := l.map (.int .i64)
theorem intCells_append (a b : List Int) : intCells (a ++ b) = intCells a ++ intCells b := by simp [intCells]
theorem intCells_length (l : List Int) : (intCells l).length = l.length := by simp [intCells]
theorem intCells_take (l : List Int) (n : Nat) : (intCells l).take n = intCells (l.take n) := by simp [intCells, List.map_take]
theorem intCells_drop (l : List Int) (n : Nat) : (intCells l).drop n = intCells (l.drop n) := by simp [intCells, List.map_drop]
theorem intCells_at {l : List Int} {i : Nat} {x : Int} (h : l[i]? = some x) : (intCells l)[i]? = some (.int .i64 x) := by simp [intCells, h]
theorem intCells_one (l : List Int) : ∀ u ∈ intCells l, u.oneCell' = true := by
  intro u hu
  obtain ⟨x, _, rfl⟩ := List.mem_map.1 hu
  rfl
theorem int_boxish : ∀ l : List Int, boxish (intCells l) = true
  | [] => rfl
  | [r] => rfl
  | r :: r' :: l => by
    have h := int_boxish (r' :: l)
    simpa [intCells, boxish, kindV] using h
theorem info_i64 : (Try.prog.info? 3).map (fun i => (i.zero, i.size, i.bytes)) = some (some (.int .i64 0), 1, 8) := by kernel_rfl
theorem zero_int (k : Nat) : (Builtin.zeroCells (Value.cells (.int .i64 0)) k).toList = intCells (List.replicate k 0) := by
  refine List.ext_getElem? fun x => ?_
  by_cases hx : x < k
  · simp [Builtin.zeroCells, intCells, Value.cells, hx, Nat.mod_one]
  · rw [List.getElem?_eq_none (by simp [Builtin.zeroCells, Value.cells]; omega), List.getElem?_eq_none (by rw [intCells_length]; simp; omega)]
def IntOwn (w : World) (base : Nat) (v : Value) (n : Nat) (l : List Int) : Prop :=
  l.length = n ∧ ((v = .slice none 0 0 ∧ n = 0) ∨ ∃ g cap full, v = .slice (some ⟨g, 0, none⟩) n cap ∧ base ≤ g ∧ w.heap[g]? = some (.cells (intCells full).toArray 3 (0, 0)) ∧ n ≤ cap ∧ cap ≤ maxLen ∧ full.length = cap ∧ full.take n = l)
theorem IntOwn.nil (w : World) (base : Nat) : IntOwn w base (.slice none 0 0) 0 [] := ⟨rfl, .inl ⟨rfl, rfl⟩⟩
theorem IntOwn.kept {w w' : World} {base : Nat} {v : Value} {n : Nat} {l : List Int} (h : IntOwn w base v n l) (hk : ∀ g o, base ≤ g → some g = v.ownBlock → w.heap[g]? = some o → w'.heap[g]? = some o) : IntOwn w' base v n l := by
  refine ⟨h.1, ?_⟩
  rcases h.2 with h2 | ⟨g, cap, full, e, hb, hg, h3⟩
  · exact .inl h2
  · exact .inr ⟨g, cap, full, e, hb, hk g _ hb (by rw [e]; rfl) hg, h3⟩
theorem IntOwn.ext {w w' : World} {base : Nat} {v : Value} {n : Nat} {l : List Int} (h : IntOwn w base v n l) (hx : Ext w w') : IntOwn w' base v n l := h.kept fun _ _ _ _ ho => heap_ext ho hx
/-- another own row grows -/
theorem IntOwn.grown {w w' : World} {base : Nat} {v u : Value} {n : Nat} {l : List Int} (h : IntOwn w base v n l) (hg : w.grownBy w' u.ownBlock) (hne : ∀ g, v.ownBlock = some g → u.ownBlock ≠ some g) : IntOwn w' base v n l :=
  h.kept fun g o _ hv ho => by
    rw [hg.block g (Array.getElem?_eq_some_iff.1 ho).1 (fun e => hne g hv.symm e.symm)]; exact ho
theorem IntOwn.form {w : World} {base : Nat} {v : Value} {n : Nat} {l : List Int} (h : IntOwn w base v n l) : ∃ B c, v = .slice B n c ∧ Cells w B (intCells l) ∧ (B = none → c = 0 ∧ n = 0) ∧ (∀ b, B = some b → ∃ g, b = ⟨g, 0, none⟩ ∧ base ≤ g ∧ v.ownBlock = some g) ∧ n ≤ c ∧ c ≤ maxLen := by
  obtain ⟨hl, h⟩ := h
  rcases h with ⟨rfl, rfl⟩ | ⟨g, cap, full, rfl, hb, hg, h1, h2, h3, rfl⟩
  · have : l = [] := List.eq_nil_of_length_eq_zero hl
    subst this
    exact ⟨none, 0, rfl, Cells.nil _ _, fun _ => ⟨rfl, rfl⟩, (by intro b h; cases h), Nat.le_refl _, by simp only [maxLen]; omega⟩
  · refine ⟨_, _, rfl, fun _ => ⟨_, rfl, fun j u hj => ?_⟩, (by intro h; cases h), (by intro b h; cases h; exact ⟨g, rfl, hb, rfl⟩), h1, h2⟩
    rw [← intCells_take, List.getElem?_take] at hj
    split at hj
    · obtain ⟨a, ha, hc⟩ := cells_heap hg (fun e => by rw [e] at hj; simp at hj)
      cases ha
      exact hc j u hj
    · cases hj
/-- an element of it -/
theorem IntOwn.at {w : World} {base : Nat} {v : Value} {n : Nat} {l : List Int} (h : IntOwn w base v n l) {i : Nat} {x : Int} (hi : l[i]? = some x) : ∃ g c, v = .slice (some ⟨g, 0, none⟩) n c ∧ base ≤ g ∧ n ≤ c ∧ c ≤ maxLen ∧ w.cell? ⟨g, i, none⟩ = some (.int .i64 x) := by
  obtain ⟨hl, h⟩ := h
  rcases h with ⟨rfl, rfl⟩ | ⟨g, cap, full, rfl, hb, hg, h1, h2, h3, rfl⟩
  · have : l = [] := List.eq_nil_of_length_eq_zero hl
    subst this; simp at hi
  · refine ⟨g, cap, rfl, hb, h1, h2, ?_⟩
    rw [List.getElem?_take] at hi
    split at hi
    · have := intCells_at hi
      simp only [World.cell?, hg, Option.isSome_none, Bool.false_eq_true, if_false]
      simpa using this
    · cases hi
/-- the last one taken off -/
theorem IntOwn.pop {w : World} {base : Nat} {g cap n : Nat} {l : List Int} (h : IntOwn w base (.slice (some ⟨g, 0, none⟩) (n + 1) cap) (n + 1) l) : IntOwn w base (.slice (some ⟨g, 0, none⟩) n cap) n l.dropLast := by
  obtain ⟨hl, h⟩ := h
  rcases h with ⟨h, _⟩ | ⟨g', cap', full, e, hb, hg, h1, h2, h3, rfl⟩
  · cases h
  · cases e
    refine ⟨by rw [List.length_dropLast, hl]; omega, .inr ⟨g, cap, full, rfl, hb, hg, by omega, h2, h3, ?_⟩⟩
    rw [List.dropLast_eq_take, List.take_take, hl]
    congr 1; omega
theorem WldV.grownI {w w' : World} {base : Nat} {v : Value} {n : Nat} {l : List Int} (h : IntOwn w base v n l) (hg : w.grownBy w' v.ownBlock) {x : Value} {X : WldK} (hV : WldV w x X) (hl : 2 ≤ X.ws.length) : WldV w' x X := by
  rcases h.2 with ⟨rfl, _⟩ | ⟨g, cap, full, rfl, _, hh, _⟩
  · exact hV.ext ⟨hg.os, hg.tape, hg.output, hg.size, fun k hk => hg.block k hk (by simp [Value.ownBlock])⟩
  · refine hV.but hl (g := g) (fun k o hk ho => ?_) hh (int_boxish full)
    rw [hg.block k (Array.getElem?_eq_some_iff.1 ho).1 (by simp [Value.ownBlock]; exact hk)]; exact ho
theorem grownI_heap {w w' : World} {base : Nat} {v : Value} {n : Nat} {l : List Int} (h : IntOwn w base v n l) (hg : w.grownBy w' v.ownBlock) {k : Nat} {o : Obj} (hk : v.ownBlock ≠ some k) (ho : w.heap[k]? = some o) : w'.heap[k]? = some o := by
  rw [hg.block k (Array.getElem?_eq_some_iff.1 ho).1 (fun e => hk e.symm)]; exact ho
theorem IntOwn.low {w : World} {base : Nat} {v : Value} {n : Nat} {l : List Int} (h : IntOwn w base v n l) {k : Nat} (hk : k < base) : v.ownBlock ≠ some k := by
  rcases h.2 with ⟨rfl, _⟩ | ⟨g, cap, full, rfl, hb, hh, _⟩
  · simp [Value.ownBlock]
  · simp only [Value.ownBlock]; intro e; injection e with e; omega
theorem IntOwn.lt {w : World} {base : Nat} {v : Value} {n : Nat} {l : List Int} (h : IntOwn w base v n l) {k : Nat} (hk : v.ownBlock = some k) : base ≤ k ∧ k < w.heap.size := by
  rcases h.2 with ⟨rfl, _⟩ | ⟨g, cap, full, rfl, hb, hh, _⟩
  · simp [Value.ownBlock] at hk
  · simp only [Value.ownBlock] at hk; injection hk with hk; subst hk; exact ⟨hb, (Array.getElem?_eq_some_iff.1 hh).1⟩
theorem IntOwn.ne_box {w : World} {base : Nat} {v : Value} {n : Nat} {l : List Int} (h : IntOwn w base v n l) {k : Nat} {cs : Array Value} {T : TypeId} {fr : Nat × Nat} (hk : w.heap[k]? = some (.cells cs T fr)) (hT : T ≠ 3) : v.ownBlock ≠ some k := by
  rcases h.2 with ⟨rfl, _⟩ | ⟨g, cap, full, rfl, hb, hh, _⟩
  · simp [Value.ownBlock]
  · simp only [Value.ownBlock]; intro e; injection e with e; subst e
    rw [hh] at hk; simp only [Option.some.injEq, Obj.cells.injEq] at hk; exact hT hk.2.1.symm
theorem grownI_ext {w0 w w' : World} {base : Nat} {v : Value} {n : Nat} {l : List Int} (h : IntOwn w base v n l) (hg : w.grownBy w' v.ownBlock) (h0 : Ext w0 w) (hb : w0.heap.size ≤ base) : Ext w0 w' :=
  ⟨hg.os.trans h0.os, hg.tape.trans h0.tape, hg.output.trans h0.output, Nat.le_trans h0.size hg.size, fun k hk => by
    have h1 : k < w.heap.size := Nat.lt_of_lt_of_le hk h0.size
    obtain ⟨o, ho⟩ : ∃ o, w.heap[k]? = some o := ⟨_, Array.getElem?_eq_getElem h1⟩
    rw [grownI_heap h hg (h.low (by omega)) ho, ← ho]
    exact h0.block k hk⟩
/-- a new row, or the old one -/
theorem run_append_int {P : Program} {w : World} (base : Nat) (t ty : TypeId) (i : TypeInfo) (ht : P.underlying t = some (.slice 3)) (hi : P.info? 3 = some i) (hz : i.zero = some (.int .i64 0)) (hsize : i.size = 1) (hby : i.bytes = 8)
    (v : Value) (n : Nat) (l : List Int) (hown : IntOwn w base v n l) (a : Addr) (m c : Nat) (l2 : List Int) (hm : l2.length = m) (h0 : v = .slice none 0 0 → 0 < m) (hnews : ∀ j u, (intCells l2)[j]? = some u → w.cell? (a.add j) = some u) (hn : n + m ≤ 1000000) (hbase : base ≤ w.heap.size) :
    ∃ v' w', (Builtin.append_ #[t, t] ty #[v, .slice (some a) m c]).run P w = .ok v' w' ∧ IntOwn w' base v' (n + m) (l ++ l2) ∧ w.grownBy w' v.ownBlock ∧ (v'.ownBlock = v.ownBlock ∨ v'.ownBlock = some w.heap.size) := by
  have hl1 : (intCells l2).length = m * i.size := by rw [hsize, intCells_length, hm, Nat.mul_one]
  have h1 := intCells_one l2
  have hlen : (l ++ l2).length = n + m := by rw [List.length_append, hown.1, hm]
  have grown : ∀ (old : Nat), old < n + m → ∀ (row : Option Nat),
      IntOwn (w.drew.alloc (.cells ((intCells l).toArray ++ (intCells l2).toArray ++ Builtin.zeroCells (Value.cells (.int .i64 0)) (grownCap w (n + m) old 3 - (n + m))) 3)) base
        (.slice (some ⟨w.heap.size, 0, none⟩) (n + m) (grownCap w (n + m) old 3)) (n + m) (l ++ l2) ∧
      w.grownBy (w.drew.alloc (.cells ((intCells l).toArray ++ (intCells l2).toArray ++ Builtin.zeroCells (Value.cells (.int .i64 0)) (grownCap w (n + m) old 3 - (n + m))) 3)) row := by
    intro old ho row
    have hge := grownCap_ge w (n + m) old 3
    have hcm : grownCap w (n + m) old 3 ≤ maxLen := grownCap_le_maxLen w (n + m) old _ (by simp only [maxLen]; omega)
    refine ⟨⟨hlen, .inr ⟨w.heap.size, _, (l ++ l2) ++ List.replicate (grownCap w (n + m) old 3 - (n + m)) 0, rfl, hbase, ?_, hge, hcm, ?_, ?_⟩⟩, ⟨rfl, rfl, rfl, by simp, fun k hk _ => heap_alloc_old w.drew _ hk⟩⟩
    · have e : ((intCells l).toArray ++ (intCells l2).toArray ++ Builtin.zeroCells (Value.cells (.int .i64 0)) (grownCap w (n + m) old 3 - (n + m))) = (intCells ((l ++ l2) ++ List.replicate (grownCap w (n + m) old 3 - (n + m)) 0)).toArray := by
        rw [intCells_append, intCells_append, ← zero_int]
        simp
      rw [e]
      exact heap_alloc_new w.drew _
    · rw [List.length_append, hlen, List.length_replicate]; omega
    · rw [← hlen]; exact List.take_left
  rcases hown.2 with ⟨rfl, rfl⟩ | ⟨g, cap, full, rfl, hbg, hg, hnc, hcm, hcl, htake⟩
  · have hx : l = [] := List.eq_nil_of_length_eq_zero hown.1
    subst hx
    have hr := run_append_nil (P := P) w t ty 3 i _ ht hi hz a m c (intCells l2) hl1 hnews (h0 rfl) (by omega) (by rw [hby]; omega)
    have hgr := grown 0 (by have := h0 rfl; omega) (Value.ownBlock (.slice none 0 0))
    simp only [Nat.zero_add, intCells, List.map_nil, Array.empty_append] at hgr hr ⊢
    exact ⟨_, _, hr, hgr.1, hgr.2, .inr rfl⟩
  · by_cases hroom : n + m ≤ cap
    · have hfit : n * i.size + (intCells l2).length ≤ (intCells full).toArray.size := by rw [hl1, hsize, List.size_toArray, intCells_length, hcl]; omega
      have hr := run_append_room (P := P) w t ty 3 i ht hi g n cap _ hg a m c (intCells l2) hl1 hnews h1 hroom hfit
      have e : ((intCells full).take (n * i.size) ++ intCells l2 ++ (intCells full).drop (n * i.size + (intCells l2).length)) = intCells ((l ++ l2) ++ full.drop (n + m)) := by
        rw [hl1, hsize, Nat.mul_one, Nat.mul_one, intCells_take, intCells_drop, htake, intCells_append, intCells_append]
      rw [List.toList_toArray, e] at hr
      refine ⟨_, _, hr, ⟨hlen, .inr ⟨g, cap, _, rfl, hbg, setRow_heap w g _ _ _ _ hg, hroom, hcm, ?_, ?_⟩⟩, ⟨rfl, rfl, rfl, by simp, fun k _ hk => setRow_other w g k _ (fun e => hk (by simp [Value.ownBlock, e]))⟩, .inl rfl⟩
      · rw [List.length_append, hlen, List.length_drop]; omega
      · rw [← hlen]; exact List.take_left
    · have holds : ∀ j u, (intCells l)[j]? = some u → w.cell? ((⟨g, 0, none⟩ : Addr).add j) = some u := fun j u hj => by
        rw [← htake, ← intCells_take, List.getElem?_take] at hj
        split at hj
        · obtain ⟨a', ha, hc⟩ := cells_heap hg (fun e => by rw [e] at hj; simp at hj)
          cases ha
          exact hc j u hj
        · cases hj
      have hr := run_append_grow (P := P) w t ty 3 i _ ht hi hz ⟨g, 0, none⟩ n cap (intCells l) (by rw [hsize, intCells_length, hown.1, Nat.mul_one]) holds a m c (intCells l2) hl1 hnews (by omega) (by omega) (growslice_fits (by omega) (by rw [hby]; omega))
      have hgr := grown cap (by omega) (Value.ownBlock (.slice (some ⟨g, 0, none⟩) n cap))
      exact ⟨_, _, hr, hgr.1, hgr.2, .inr rfl⟩
theorem wpList_append_int {P : Program} {ops : Array Oper} {rest : List Oper} {o : Oper} {a : Act} {Q : Exit → Act → World → Prop} {w : World} (hgd : o.guard = none) (s x : Operand) (t : TypeId)
    (ho : o.op = .call { callee := .builtin .append, args := #[s, x], argTypes := #[t, t] }) (base : Nat) (i : TypeInfo) (ht : P.underlying t = some (.slice 3)) (hi : P.info? 3 = some i) (hz : i.zero = some (.int .i64 0)) (hsize : i.size = 1) (hby : i.bytes = 8)
    (v : Value) (n : Nat) (l : List Int) (hs : a.eval s = v) (hown : IntOwn w base v n l) (ad : Addr) (m c : Nat) (l2 : List Int) (hm : l2.length = m) (h0 : v = .slice none 0 0 → 0 < m) (hx : a.eval x = .slice (some ad) m c) (hnews : ∀ j u, (intCells l2)[j]? = some u → w.cell? (ad.add j) = some u) (hn : n + m ≤ 1000000) (hbase : base ≤ w.heap.size)
    (h : ∀ v' w', IntOwn w' base v' (n + m) (l ++ l2) → w.grownBy w' v.ownBlock → (v'.ownBlock = v.ownBlock ∨ v'.ownBlock = some w.heap.size) → wpList P ops Q rest (a.put o.dst v') w') : wpList P ops Q (o :: rest) a w := by
  obtain ⟨v', w', hr, h2, h3, h4⟩ := run_append_int (P := P) (w := w) base t o.type i ht hi hz hsize hby v n l hown ad m c l2 hm h0 hnews hn hbase
  refine wpList_plain hgd fun _ hK => ?_
  unfold Oper.wp execOp
  simp only [ho, resolve, invoke, builtin, Sem.run_bind, Sem.run_pure, Result.andThen_ok, List.map_toArray, List.map_cons, List.map_nil, hs, hx, hr]
  exact hK _ _ (h v' w' h2 h3 h4)
end Go.Proofs.Ytjokaginolpbeaa

namespace Go.Proofs.Ytjokaginolpbeaa
open Go.RowKit

/-! wealdref12.Free: a chain's records. -/
theorem WldV.words {w : World} {X : WldK} {T C : Int} {A : Option Addr} {q c : Nat} {R : Int} {B C' : Option Addr} {n b n' d : Nat} (h : WldV w (.agg #[.int .i64 T, .int .i64 C, .slice A q c, .int .u64 R, .slice B n b, .slice C' n' d]) X) : WordsV w A q c X.ws := by
  obtain ⟨A2, q2, c2, B2, C2, b2, d2, e, hw, -⟩ := h
  simp only [Value.agg.injEq, Array.mk.injEq, List.cons.injEq, Value.slice.injEq, and_true] at e
  obtain ⟨-, -, ⟨rfl, rfl, rfl⟩, -⟩ := e
  exact hw
theorem nodup_len : ∀ (c : Nat) (l : List Int), l.Nodup → (∀ x ∈ l, 1 ≤ x ∧ x ≤ (c : Int)) → l.length ≤ c
  | 0, l, _, h => by
    cases l with
    | nil => simp
    | cons x l => have := h x (by simp); omega
  | c + 1, l, hd, h => by
    have h1 := nodup_len c (l.erase ((c : Int) + 1)) (hd.erase _) (fun x hx => by
      have hm := List.mem_of_mem_erase hx
      have hne : x ≠ (c : Int) + 1 := fun e => by subst e; exact (List.Nodup.not_mem_erase hd) hx
      have := h x hm
      omega)
    have h2 : l.length ≤ (l.erase ((c : Int) + 1)).length + 1 := by
      by_cases hm : ((c : Int) + 1) ∈ l
      · rw [List.length_erase_of_mem hm]; omega
      · rw [List.erase_of_not_mem hm]; omega
    omega
theorem PoolK.len {X : WldK} {t c : Nat} {pile : List Int} (h : PoolK X t c pile) : pile.length ≤ c := nodup_len c pile h.nodup h.chain.mem
end Go.Proofs.Ytjokaginolpbeaa

namespace Go.Proofs.Ytjokaginolpbeaa
open Go.RowKit

/-! What the laws of chapter 12 share. -/
theorem bytes_cell {w : World} {A : Option Addr} {n c : Nat} {l : List UInt8} (h : BytesV w A n c l) {i : Nat} (hi : i < n) : ∃ a z, A = some a ∧ w.cell? (a.add i) = some (.int .u8 (z : Nat)) ∧ z < 256 := by
  have hl : i < l.length := by rw [h.len]; exact hi
  obtain ⟨a, ha, hc⟩ := h.cells (fun e => by simp [bytesOf] at e; subst e; simp at hl)
  refine ⟨a, l[i].toNat, ha, hc i _ ?_, l[i].toNat_lt⟩
  simp [bytesOf, hl]
theorem WldV.word {w : World} {X : WldK} {T C : Int} {A : Option Addr} {q c : Nat} {R : Int} {B C' : Option Addr} {n b n' d : Nat} (h : WldV w (.agg #[.int .i64 T, .int .i64 C, .slice A q c, .int .u64 R, .slice B n b, .slice C' n' d]) X) (h2 : 2 ≤ X.ws.length) :
    ∃ a, A = some a ∧ q = X.ws.length ∧ ∀ i : Nat, i < q → w.cell? (a.add i) = some (.int .u64 (X.at (i : Int))) := by
  have hA := h.words
  have hne : wordsOf X.ws ≠ [] := fun e => by
    have := congrArg List.length e
    rw [wordsOf_length, List.length_nil] at this; omega
  obtain ⟨a, rfl, hc⟩ := hA.cells hne
  refine ⟨a, rfl, hA.len.symm, fun i hi => hc i _ ?_⟩
  unfold wordsOf WldK.at
  rw [List.getElem?_map]
  have hi2 : i < X.ws.length := by rw [hA.len]; exact hi
  simp [List.getElem?_eq_getElem hi2, List.getD_eq_getElem?_getD]
/-- what is free, and what is had: all records, each once -/
structure HK (N : Nat) (pile held : List Int) : Prop where
  nodup : (pile ++ held).Nodup
  rng : ∀ x ∈ held, 1 ≤ x ∧ x ≤ (N : Int)
  len : pile.length + held.length = N
theorem HK.new (N : Nat) : HK N (upFrom 1 N) [] := ⟨by rw [List.append_nil]; exact upFrom_nodup _ _, by simp, by
  have : ∀ n r, (upFrom r n).length = n := fun n => by
    induction n with
    | zero => intro r; rfl
    | succ n ih => intro r; simp [upFrom, ih]
  simp [this]⟩
theorem HK.pop {N : Nat} {x : Int} {l held : List Int} (h : HK N (x :: l) held) (hx : 1 ≤ x ∧ x ≤ (N : Int)) : HK N l (held ++ [x]) := by
  have hn : (l ++ (held ++ [x])).Nodup := by
    have h1 : (x :: (l ++ held)).Nodup := h.nodup
    rw [List.nodup_cons] at h1
    rw [← List.append_assoc, List.nodup_append]
    refine ⟨h1.2, by simp, fun a ha b hb => ?_⟩
    rw [List.mem_singleton] at hb
    intro e; subst e; subst hb; exact h1.1 ha
  refine ⟨hn, fun y hy => ?_, by have := h.len; simp at this ⊢; omega⟩
  rcases List.mem_append.1 hy with hy | hy
  · exact h.rng y hy
  · rw [List.mem_singleton.1 hy]; exact hx
end Go.Proofs.Ytjokaginolpbeaa

namespace Go.Proofs.Ytjokaginolpbeaa
open Go.RowKit

/-! The example of chapter 13. -/
set_option maxRecDepth 100000 in
set_option maxHeartbeats 4000000 in
theorem shown13_any (w : World) : Calls Try.prog 15 #[] w fun e w' => e = .returned (.bool true) ∧ Ext w w' := by
  have hb6 : ∀ (W : World), (Instr.build 24 #[(0, .int .i64 6)]).run Try.prog W = .ok (.agg #[.int .i64 6, .int .i64 0, .int .i64 0, .int .u64 0]) W := fun _ => by kernel_rfl
  have hb3 : ∀ (W : World), (Instr.build 24 #[(0, .int .i64 3)]).run Try.prog W = .ok (.agg #[.int .i64 3, .int .i64 0, .int .i64 0, .int .u64 0]) W := fun _ => by kernel_rfl
  have hb5 : ∀ (W : World), (Instr.build 24 #[(0, .int .i64 5), (1, .int .i64 1)]).run Try.prog W = .ok (.agg #[.int .i64 5, .int .i64 1, .int .i64 0, .int .u64 0]) W := fun _ => by kernel_rfl
  have hnew := ranew_yes 2 1 (by omega) (by omega) (by omega) w
  have cV := exc_V
  have cU := exc_U
  have cX := exc_X
  have cD := exc_D
  have cY := exc_Y
  have hyl := exY_len
  have hya := exY_at
  generalize exV.1 = X1 at *
  generalize exU.1 = X2 at *
  generalize exX.1 = X3 at *
  generalize exD.1 = X4 at *
  generalize exY.1 = X5 at *
  generalize newW 2 1 = X0 at *
  have HYL := Lib.hid hyl
  have HYA := Lib.hid hya
  clear hyl hya
  go_enter Try.func15, Try.ntmps15
  have hW : Ext w w := Ext.refl w
  go_wp2_with fail
  refine (hnew).mono ?_
  rintro e w_a ⟨v_, rfl, hVa, hx_⟩
  obtain ⟨aA, aq, ac, aB, ab, aC, ad, rfl⟩ := hVa.form6
  replace hW := hW.trans hx_
  clear hx_
  go_upto_region 2 with (fail)
  have hx_ : Ext w_a (w_a.alloc (.cells #[.int .i64 X0.T, .int .i64 X0.C, .slice aA aq ac, .int .u64 X0.R, .slice aB X0.n ab, .slice aC X0.n ad] 51)) := (Below.refl _ w_a).alloc (Nat.le_refl _) _
  have hba := heap_alloc_new w_a (.cells #[.int .i64 X0.T, .int .i64 X0.C, .slice aA aq ac, .int .u64 X0.R, .slice aB X0.n ab, .slice aC X0.n ad] 51)
  generalize w_a.alloc (.cells #[.int .i64 X0.T, .int .i64 X0.C, .slice aA aq ac, .int .u64 X0.R, .slice aB X0.n ab, .slice aC X0.n ad] 51) = W1 at *
  generalize w_a.heap.size = ga at *
  replace hVa := hVa.ext hx_
  replace hW := hW.trans hx_
  clear hx_
  have z0 : W1.cell? ⟨ga, 0, none⟩ = some (.int .i64 X0.T) := by simp [World.cell?, hba]
  have z1 : W1.cell? ⟨ga, 1, none⟩ = some (.int .i64 X0.C) := by simp [World.cell?, hba]
  have z2 : W1.cell? ⟨ga, 2, none⟩ = some (.slice aA aq ac) := by simp [World.cell?, hba]
  have z3 : W1.cell? ⟨ga, 3, none⟩ = some (.int .u64 X0.R) := by simp [World.cell?, hba]
  have z4 : W1.cell? ⟨ga, 4, none⟩ = some (.slice aB X0.n ab) := by simp [World.cell?, hba]
  have z5 : W1.cell? ⟨ga, 5, none⟩ = some (.slice aC X0.n ad) := by simp [World.cell?, hba]
  go_wp2_with fail
  refine (cV _ _ hVa).mono ?_
  rintro e w_b ⟨v_, rfl, hVb, hx_⟩
  obtain ⟨bA, bq, bc, bB, bb, bC, bd, rfl⟩ := hVb.form6
  clear z0 z1 z2 z3 z4 z5
  replace hba := heap_ext hba hx_
  replace hVa := hVa.ext hx_
  replace hW := hW.trans hx_
  clear hx_
  go_upto_region 3 with (fail)
  obtain ⟨hx_, hbb, hob⟩ := two_boxes7 w_b (.cells #[.int .i64 X1.T, .int .i64 X1.C, .slice bA bq bc, .int .u64 X1.R, .slice bB X1.n bb, .slice bC X1.n bd] 51) (.cells #[.int .i64 0, .bool false, .int .i64 1, .int .u64 0, .slice none 0 0] 37)
  generalize (w_b.alloc (.cells #[.int .i64 X1.T, .int .i64 X1.C, .slice bA bq bc, .int .u64 X1.R, .slice bB X1.n bb, .slice bC X1.n bd] 51)).alloc (.cells #[.int .i64 0, .bool false, .int .i64 1, .int .u64 0, .slice none 0 0] 37) = Wb at *
  generalize w_b.heap.size = gb at *
  replace hba := heap_ext hba hx_
  replace hVa := hVa.ext hx_
  replace hVb := hVb.ext hx_
  replace hW := hW.trans hx_
  clear hx_
  have z0 : Wb.cell? ⟨gb, 0, none⟩ = some (.int .i64 X1.T) := by simp [World.cell?, hbb]
  have z1 : Wb.cell? ⟨gb, 1, none⟩ = some (.int .i64 X1.C) := by simp [World.cell?, hbb]
  have z2 : Wb.cell? ⟨gb, 2, none⟩ = some (.slice bA bq bc) := by simp [World.cell?, hbb]
  have z3 : Wb.cell? ⟨gb, 3, none⟩ = some (.int .u64 X1.R) := by simp [World.cell?, hbb]
  have z4 : Wb.cell? ⟨gb, 4, none⟩ = some (.slice bB X1.n bb) := by simp [World.cell?, hbb]
  have z5 : Wb.cell? ⟨gb, 5, none⟩ = some (.slice bC X1.n bd) := by simp [World.cell?, hbb]
  go_wp2_with fail
  refine (cU _ _ hVb).mono ?_
  rintro e w_c ⟨v_, rfl, hVc, hx_⟩
  obtain ⟨cA, cq, cc, cB, cb, cC, cd, rfl⟩ := hVc.form6
  clear z0 z1 z2 z3 z4 z5
  replace hba := heap_ext hba hx_
  replace hbb := heap_ext hbb hx_
  replace hob := heap_ext hob hx_
  replace hVa := hVa.ext hx_
  replace hVb := hVb.ext hx_
  replace hW := hW.trans hx_
  clear hx_
  go_upto_region 4 with (fail)
  obtain ⟨hx_, hbc, hoc⟩ := two_boxes7 w_c (.cells #[.int .i64 X2.T, .int .i64 X2.C, .slice cA cq cc, .int .u64 X2.R, .slice cB X2.n cb, .slice cC X2.n cd] 51) (.cells #[.int .i64 0, .bool false, .int .i64 0, .int .u64 0, .slice none 0 0] 37)
  generalize (w_c.alloc (.cells #[.int .i64 X2.T, .int .i64 X2.C, .slice cA cq cc, .int .u64 X2.R, .slice cB X2.n cb, .slice cC X2.n cd] 51)).alloc (.cells #[.int .i64 0, .bool false, .int .i64 0, .int .u64 0, .slice none 0 0] 37) = Wc at *
  generalize w_c.heap.size = gc at *
  replace hba := heap_ext hba hx_
  replace hbb := heap_ext hbb hx_
  replace hob := heap_ext hob hx_
  replace hVa := hVa.ext hx_
  replace hVb := hVb.ext hx_
  replace hVc := hVc.ext hx_
  replace hW := hW.trans hx_
  clear hx_
  clear hbb hVb
  have z0 : Wc.cell? ⟨gc, 0, none⟩ = some (.int .i64 X2.T) := by simp [World.cell?, hbc]
  have z1 : Wc.cell? ⟨gc, 1, none⟩ = some (.int .i64 X2.C) := by simp [World.cell?, hbc]
  have z2 : Wc.cell? ⟨gc, 2, none⟩ = some (.slice cA cq cc) := by simp [World.cell?, hbc]
  have z3 : Wc.cell? ⟨gc, 3, none⟩ = some (.int .u64 X2.R) := by simp [World.cell?, hbc]
  have z4 : Wc.cell? ⟨gc, 4, none⟩ = some (.slice cB X2.n cb) := by simp [World.cell?, hbc]
  have z5 : Wc.cell? ⟨gc, 5, none⟩ = some (.slice cC X2.n cd) := by simp [World.cell?, hbc]
  go_wp2_with fail
  refine (cX _ _ hVc).mono ?_
  rintro e w_d ⟨v_, rfl, hVd, hx_⟩
  obtain ⟨dA, dq, dc, dB, db, dC, dd, rfl⟩ := hVd.form6
  clear z0 z1 z2 z3 z4 z5
  replace hba := heap_ext hba hx_
  replace hob := heap_ext hob hx_
  replace hbc := heap_ext hbc hx_
  replace hoc := heap_ext hoc hx_
  replace hVa := hVa.ext hx_
  replace hVc := hVc.ext hx_
  replace hW := hW.trans hx_
  clear hx_
  go_upto_region 5 with (fail)
  obtain ⟨hx_, hbd, hod⟩ := two_boxes7 w_d (.cells #[.int .i64 X3.T, .int .i64 X3.C, .slice dA dq dc, .int .u64 X3.R, .slice dB X3.n db, .slice dC X3.n dd] 51) (.cells #[.int .i64 0, .bool false, .int .i64 1, .int .u64 0, .slice none 0 0] 37)
  generalize (w_d.alloc (.cells #[.int .i64 X3.T, .int .i64 X3.C, .slice dA dq dc, .int .u64 X3.R, .slice dB X3.n db, .slice dC X3.n dd] 51)).alloc (.cells #[.int .i64 0, .bool false, .int .i64 1, .int .u64 0, .slice none 0 0] 37) = Wd at *
  generalize w_d.heap.size = gd at *
  replace hba := heap_ext hba hx_
  replace hob := heap_ext hob hx_
  replace hbc := heap_ext hbc hx_
  replace hoc := heap_ext hoc hx_
  replace hVa := hVa.ext hx_
  replace hVc := hVc.ext hx_
  replace hVd := hVd.ext hx_
  replace hW := hW.trans hx_
  clear hx_
  clear hbc hVc
  have z0 : Wd.cell? ⟨gd, 0, none⟩ = some (.int .i64 X3.T) := by simp [World.cell?, hbd]
  have z1 : Wd.cell? ⟨gd, 1, none⟩ = some (.int .i64 X3.C) := by simp [World.cell?, hbd]
  have z2 : Wd.cell? ⟨gd, 2, none⟩ = some (.slice dA dq dc) := by simp [World.cell?, hbd]
  have z3 : Wd.cell? ⟨gd, 3, none⟩ = some (.int .u64 X3.R) := by simp [World.cell?, hbd]
  have z4 : Wd.cell? ⟨gd, 4, none⟩ = some (.slice dB X3.n db) := by simp [World.cell?, hbd]
  have z5 : Wd.cell? ⟨gd, 5, none⟩ = some (.slice dC X3.n dd) := by simp [World.cell?, hbd]
  go_wp2_with fail
  refine (cD _ _ hVd).mono ?_
  rintro e w_e ⟨v_, rfl, hVe, hx_⟩
  obtain ⟨eA, eq, ec, eB, eb, eC, ed, rfl⟩ := hVe.form6
  clear z0 z1 z2 z3 z4 z5
  replace hba := heap_ext hba hx_
  replace hob := heap_ext hob hx_
  replace hoc := heap_ext hoc hx_
  replace hbd := heap_ext hbd hx_
  replace hod := heap_ext hod hx_
  replace hVa := hVa.ext hx_
  replace hVd := hVd.ext hx_
  replace hW := hW.trans hx_
  clear hx_
  go_upto_region 6 with (fail)
  obtain ⟨hx_, hbe, hoe⟩ := two_boxes7 w_e (.cells #[.int .i64 X4.T, .int .i64 X4.C, .slice eA eq ec, .int .u64 X4.R, .slice eB X4.n eb, .slice eC X4.n ed] 51) (.cells #[.int .i64 0, .bool false, .int .i64 0, .int .u64 0, .slice none 0 0] 37)
  generalize (w_e.alloc (.cells #[.int .i64 X4.T, .int .i64 X4.C, .slice eA eq ec, .int .u64 X4.R, .slice eB X4.n eb, .slice eC X4.n ed] 51)).alloc (.cells #[.int .i64 0, .bool false, .int .i64 0, .int .u64 0, .slice none 0 0] 37) = We at *
  generalize w_e.heap.size = ge at *
  replace hba := heap_ext hba hx_
  replace hob := heap_ext hob hx_
  replace hoc := heap_ext hoc hx_
  replace hbd := heap_ext hbd hx_
  replace hod := heap_ext hod hx_
  replace hVa := hVa.ext hx_
  replace hVd := hVd.ext hx_
  replace hVe := hVe.ext hx_
  replace hW := hW.trans hx_
  clear hx_
  clear hbd hVd
  have z0 : We.cell? ⟨ga, 0, none⟩ = some (.int .i64 X0.T) := by simp [World.cell?, hba]
  have z1 : We.cell? ⟨ga, 1, none⟩ = some (.int .i64 X0.C) := by simp [World.cell?, hba]
  have z2 : We.cell? ⟨ga, 2, none⟩ = some (.slice aA aq ac) := by simp [World.cell?, hba]
  have z3 : We.cell? ⟨ga, 3, none⟩ = some (.int .u64 X0.R) := by simp [World.cell?, hba]
  have z4 : We.cell? ⟨ga, 4, none⟩ = some (.slice aB X0.n ab) := by simp [World.cell?, hba]
  have z5 : We.cell? ⟨ga, 5, none⟩ = some (.slice aC X0.n ad) := by simp [World.cell?, hba]
  go_wp2_with fail
  refine (cY _ _ hVa).mono ?_
  rintro e w_f ⟨v_, rfl, hVf, hx_⟩
  obtain ⟨fA, fq, fc, fB, fb, fC, fd, rfl⟩ := hVf.form6
  clear z0 z1 z2 z3 z4 z5
  replace hba := heap_ext hba hx_
  replace hob := heap_ext hob hx_
  replace hoc := heap_ext hoc hx_
  replace hod := heap_ext hod hx_
  replace hbe := heap_ext hbe hx_
  replace hoe := heap_ext hoe hx_
  replace hVa := hVa.ext hx_
  replace hVe := hVe.ext hx_
  replace hW := hW.trans hx_
  clear hx_
  go_upto_region 7 with (fail)
  obtain ⟨hx_, hbf, hof⟩ := two_boxes7 w_f (.cells #[.int .i64 X5.T, .int .i64 X5.C, .slice fA fq fc, .int .u64 X5.R, .slice fB X5.n fb, .slice fC X5.n fd] 51) (.cells #[.int .i64 0, .bool false, .int .i64 0, .int .u64 0, .slice none 0 0] 37)
  generalize (w_f.alloc (.cells #[.int .i64 X5.T, .int .i64 X5.C, .slice fA fq fc, .int .u64 X5.R, .slice fB X5.n fb, .slice fC X5.n fd] 51)).alloc (.cells #[.int .i64 0, .bool false, .int .i64 0, .int .u64 0, .slice none 0 0] 37) = Wf at *
  generalize w_f.heap.size = gf at *
  replace hba := heap_ext hba hx_
  replace hob := heap_ext hob hx_
  replace hoc := heap_ext hoc hx_
  replace hod := heap_ext hod hx_
  replace hbe := heap_ext hbe hx_
  replace hoe := heap_ext hoe hx_
  replace hVa := hVa.ext hx_
  replace hVe := hVe.ext hx_
  replace hVf := hVf.ext hx_
  replace hW := hW.trans hx_
  clear hx_
  clear hba hVa
  have z0 : Wf.cell? ⟨gf, 0, none⟩ = some (.int .i64 X5.T) := by simp [World.cell?, hbf]
  have z1 : Wf.cell? ⟨gf, 1, none⟩ = some (.int .i64 X5.C) := by simp [World.cell?, hbf]
  have z2 : Wf.cell? ⟨gf, 2, none⟩ = some (.slice fA fq fc) := by simp [World.cell?, hbf]
  have z3 : Wf.cell? ⟨gf, 3, none⟩ = some (.int .u64 X5.R) := by simp [World.cell?, hbf]
  have z4 : Wf.cell? ⟨gf, 4, none⟩ = some (.slice fB X5.n fb) := by simp [World.cell?, hbf]
  have z5 : Wf.cell? ⟨gf, 5, none⟩ = some (.slice fC X5.n fd) := by simp [World.cell?, hbf]
  have b0 : Wf.cell? ⟨gb + 1, 0, none⟩ = some (.int .i64 0) := by simp [World.cell?, hob]
  have b1 : Wf.cell? ⟨gb + 1, 1, none⟩ = some (.bool false) := by simp [World.cell?, hob]
  have b2 : Wf.cell? ⟨gb + 1, 2, none⟩ = some (.int .i64 1) := by simp [World.cell?, hob]
  have b3 : Wf.cell? ⟨gb + 1, 3, none⟩ = some (.int .u64 0) := by simp [World.cell?, hob]
  have b4 : Wf.cell? ⟨gb + 1, 4, none⟩ = some (.slice none 0 0) := by simp [World.cell?, hob]
  have d0 : Wf.cell? ⟨gd + 1, 0, none⟩ = some (.int .i64 0) := by simp [World.cell?, hod]
  have d1 : Wf.cell? ⟨gd + 1, 1, none⟩ = some (.bool false) := by simp [World.cell?, hod]
  have d2 : Wf.cell? ⟨gd + 1, 2, none⟩ = some (.int .i64 1) := by simp [World.cell?, hod]
  have d3 : Wf.cell? ⟨gd + 1, 3, none⟩ = some (.int .u64 0) := by simp [World.cell?, hod]
  have d4 : Wf.cell? ⟨gd + 1, 4, none⟩ = some (.slice none 0 0) := by simp [World.cell?, hod]
  have e0 : Wf.cell? ⟨ge + 1, 0, none⟩ = some (.int .i64 0) := by simp [World.cell?, hoe]
  have e1 : Wf.cell? ⟨ge + 1, 1, none⟩ = some (.bool false) := by simp [World.cell?, hoe]
  have e2 : Wf.cell? ⟨ge + 1, 2, none⟩ = some (.int .i64 0) := by simp [World.cell?, hoe]
  have e3 : Wf.cell? ⟨ge + 1, 3, none⟩ = some (.int .u64 0) := by simp [World.cell?, hoe]
  have e4 : Wf.cell? ⟨ge + 1, 4, none⟩ = some (.slice none 0 0) := by simp [World.cell?, hoe]
  obtain ⟨aY, rfl, hqY, hcY⟩ := hVf.word (by rw [HYL.out]; omega)
  rw [HYL.out] at hqY
  have hc9 := hcY 9 (by omega)
  rw [show (((9 : Nat)) : Int) = 9 from rfl, HYA.out, show aY.add 9 = ⟨aY.block, aY.off + 9, none⟩ from rfl] at hc9
  have hfq : ¬ (fq : Int) < 10 := by omega
  have hfq9 : (9 : Int) < (fq : Int) := by omega
  clear hqY hcY
  go_wp2
  go_ret
  exact ⟨rfl, hW⟩
end Go.Proofs.Ytjokaginolpbeaa

namespace Go.Proofs.Ytjokaginolpbeaa
open Go.RowKit

/-! What operations on epochs do, stepping alone: an epoch, what is free, three limbos, pins. -/
structure EpS where
  e : Nat
  pile : List Int
  L : Nat → List Int
  P : Nat → Int
def EpS.all (S : EpS) : List Int := S.pile ++ (S.L 0 ++ (S.L 1 ++ S.L 2))
structure EpK (X : WldK) (t c : Nat) (S : EpS) : Prop where
  pool : PoolK X t c S.pile
  lim : ∀ i : Nat, i < 3 → ChainW X t c (S.L i) (firstF (X.at (4 + (i : Int))))
  nodup : S.all.Nodup
  ep : X.at 3 = (S.e : Int)
  pins : ∀ i : Nat, i < t → X.at (8 + (i : Int)) = S.P i
theorem EpK.dim {X : WldK} {t c : Nat} {S : EpS} (h : EpK X t c S) : Dim X t c := h.pool.dim
theorem at_ge (X : WldK) {t c : Nat} (h : Dim X t c) : 15 + t ≤ X.ws.length + 7 ∧ 8 + t ≤ X.ws.length := by rw [h.len]; unfold memL; omega
theorem Goes.cast {α : Type} {me : Int} {T : PT α} {X X' : WldK} {j j' : Nat} {a : α} (h : Goes me T X j a X') (e : j = j') : Goes me T X j' a X' := e ▸ h
/-! Draining a chain. -/
def drainX (X : WldK) (t : Nat) (l : List Int) : WldK := l.foldl (fun X x => pushX X t x) X
theorem drain_cons (X : WldK) (t : Nat) (x : Int) (l : List Int) : drainX X t (x :: l) = drainX (pushX X t x) t l := rfl
theorem pushX_at {X : WldK} {t : Nat} {x j : Int} (h1 : j.toNat ≠ 1) (h2 : j.toNat ≠ (linkI t x).toNat) : (pushX X t x).at j = X.at j := by
  unfold pushX
  rw [at_put_other (by omega), at_put_other h2]
theorem drain_at {t : Nat} {j : Int} (h1 : j.toNat ≠ 1) : ∀ (l : List Int) (X : WldK), (∀ x ∈ l, j.toNat ≠ (linkI t x).toNat) → (drainX X t l).at j = X.at j
  | [], X, _ => rfl
  | x :: l, X, h => by rw [drain_cons, drain_at h1 l _ (fun y hy => h y (by simp [hy])), pushX_at h1 (h x (by simp))]
theorem chain_drain {me : Int} {t c f : Nat} : ∀ (l : List Int) (X : WldK) (r : Int) (pile : List Int) (g : Nat), PoolK X t c pile → ChainW X t c l r → (l ++ pile).Nodup → l.length < g →
    Goes me (chainT t (f + 1) g r) X (4 * l.length) 0 (drainX X t l) ∧ PoolK (drainX X t l) t c (l.reverse ++ pile)
  | [], X, r, pile, g, hp, hc, _, hg => by
    obtain ⟨g, rfl⟩ : ∃ m, g = m + 1 := ⟨g - 1, by simp at hg; omega⟩
    have h0 : r = 0 := hc
    refine ⟨?_, hp⟩
    unfold chainT
    rw [if_pos h0]
    exact Goes.ret _ _
  | x :: l, X, r, pile, g, hp, hc, hn, hg => by
    obtain ⟨g, rfl⟩ : ∃ m, g = m + 1 := ⟨g - 1, by simp at hg; omega⟩
    obtain ⟨hr, h1, h2, h3⟩ := hc
    have hl := link_in (t := t) h1 h2
    have hq := link_pos t h1
    rw [List.cons_append, List.nodup_cons] at hn
    have hxp : x ∉ pile := fun hm => hn.1 (by simp [hm])
    have hxl : x ∉ l := fun hm => hn.1 (by simp [hm])
    have hpp := push_pool hp h1 h2 hxp
    have hcl : ChainW (pushX X t x) t c l (firstF (X.at (linkI t x))) := h3.keep fun y hy hy1 => by
      have hy0 := link_pos t hy1
      exact pushX_at (by omega) (link_ne hy1 h1 (fun e => hxl (e ▸ hy)))
    have hnd : (l ++ x :: pile).Nodup := by
      rw [List.nodup_append] at hn ⊢
      refine ⟨hn.2.1, List.nodup_cons.2 ⟨hxp, hn.2.2.1⟩, fun a ha b hb => ?_⟩
      rcases List.mem_cons.1 hb with rfl | hb
      · intro e; subst e; exact hxl ha
      · exact hn.2.2.2 a ha b hb
    obtain ⟨ih1, ih2⟩ := chain_drain (me := me) (f := f) l (pushX X t x) _ (x :: pile) g hpp.1 hcl hnd (by simp at hg; omega)
    rw [drain_cons]
    refine ⟨?_, by simpa using ih2⟩
    unfold chainT
    rw [if_neg (by omega), hr]
    have hsum : 4 * (x :: l).length = (3 + 4 * l.length) + 1 := by simp; omega
    rw [hsum]
    refine goes_load (by omega) (by rw [hp.dim.len]; omega) ?_
    exact Goes.bind (push_goes hp.dim h1 h2 me f) ih1
/-! Apart: what lies in one row lies in no other. -/
theorem EpS.apart {S : EpS} (h : S.all.Nodup) : S.pile.Nodup ∧ (∀ i, i < 3 → (S.L i).Nodup) ∧ (∀ i, i < 3 → ∀ x ∈ S.L i, x ∉ S.pile) ∧ (∀ i, i < 3 → ∀ j, j < 3 → i ≠ j → ∀ x ∈ S.L i, x ∉ S.L j) := by
  unfold EpS.all at h
  simp only [List.nodup_append] at h
  obtain ⟨h1, ⟨h2, ⟨h3, h4, h5⟩, h6⟩, h7⟩ := h
  refine ⟨h1, ?_, ?_, ?_⟩
  · intro i hi
    obtain rfl | rfl | rfl : i = 0 ∨ i = 1 ∨ i = 2 := by omega
    · exact h2
    · exact h3
    · exact h4
  · intro i hi x hx hp
    obtain rfl | rfl | rfl : i = 0 ∨ i = 1 ∨ i = 2 := by omega
    · exact h7 x hp x (by simp [hx]) rfl
    · exact h7 x hp x (by simp [hx]) rfl
    · exact h7 x hp x (by simp [hx]) rfl
  · intro i hi j hj hij x hx hy
    obtain rfl | rfl | rfl : i = 0 ∨ i = 1 ∨ i = 2 := by omega
    · obtain rfl | rfl : j = 1 ∨ j = 2 := by omega
      · exact h6 x hx x (by simp [hy]) rfl
      · exact h6 x hx x (by simp [hy]) rfl
    · obtain rfl | rfl : j = 0 ∨ j = 2 := by omega
      · exact h6 x hy x (by simp [hx]) rfl
      · exact h5 x hx x hy rfl
    · obtain rfl | rfl : j = 0 ∨ j = 1 := by omega
      · exact h6 x hy x (by simp [hx]) rfl
      · exact h5 x hy x hx rfl
theorem EpS.mem_all {S : EpS} {x : Int} : x ∈ S.all ↔ x ∈ S.pile ∨ x ∈ S.L 0 ∨ x ∈ S.L 1 ∨ x ∈ S.L 2 := by
  unfold EpS.all; simp
theorem EpK.rng {X : WldK} {t c : Nat} {S : EpS} (h : EpK X t c S) : ∀ x ∈ S.all, 1 ≤ x ∧ x ≤ (c : Int) := fun x hx => by
  rcases EpS.mem_all.1 hx with hx | hx | hx | hx
  · exact h.pool.chain.mem x hx
  · exact (h.lim 0 (by omega)).mem x hx
  · exact (h.lim 1 (by omega)).mem x hx
  · exact (h.lim 2 (by omega)).mem x hx
theorem EpK.lim_len {X : WldK} {t c : Nat} {S : EpS} (h : EpK X t c S) {i : Nat} (hi : i < 3) : (S.L i).length ≤ c := nodup_len c _ ((EpS.apart h.nodup).2.1 i hi) (h.lim i hi).mem
/-! The operations. -/
def EpS.pin (S : EpS) (me : Nat) (v : Int) : EpS := { S with P := fun i => if i = me then v else S.P i }
def EpS.retire (S : EpS) (x : Int) : EpS := { S with L := fun i => if i = S.e % 3 then x :: S.L i else S.L i }
def EpS.drain (S : EpS) : EpS := ⟨S.e + 1, (S.L ((S.e + 2) % 3)).reverse ++ S.pile, fun i => if i = (S.e + 2) % 3 then [] else S.L i, S.P⟩
def EpS.okP (S : EpS) (t : Nat) : Prop := ∀ i, i < t → S.P i = 0 ∨ S.P i = (S.e : Int) + 1
instance (S : EpS) (t : Nat) : Decidable (S.okP t) := inferInstanceAs (Decidable (∀ i, i < t → S.P i = 0 ∨ S.P i = (S.e : Int) + 1))
def EpS.adv (S : EpS) (t : Nat) : EpS := if S.okP t then S.drain else S
def EpS.pop (S : EpS) : EpS := { S with pile := S.pile.tail }
def allocS (t me : Nat) : Nat → EpS → Int → EpS × Int
  | 0, S, r => (S, r)
  | k + 1, S, r => if r = 0 then allocS t me k (((S.pin me ((S.e : Int) + 1)).adv t).pop) (((S.pin me ((S.e : Int) + 1)).adv t).pile.headD 0) else (S, r)
def EpS.alloc (S : EpS) (t me : Nat) : EpS × Int := allocS t me 3 S.pop (S.pile.headD 0)
theorem inc_nat {e : Nat} (h : e ≤ 1000000) : incW (e : Int) = (e : Int) + 1 := by unfold incW; omega
/-- a cell that no chain of the operations reads: pins, the epoch -/
theorem pin_goes {X : WldK} {t c : Nat} {S : EpS} (h : EpK X t c S) (he : S.e ≤ 1000000) {me : Nat} (hme : me < t) : ∃ X', Goes (me : Int) (pinT me) X 2 0 X' ∧ EpK X' t c (S.pin me ((S.e : Int) + 1)) := by
  obtain ⟨-, hlen⟩ := at_ge X h.dim
  refine ⟨X.put (8 + (me : Int)) ((S.e : Int) + 1), ?_, ?_⟩
  · refine goes_load (by omega) (by omega) ?_
    rw [h.ep, inc_nat he]
    refine goes_store (by omega) (by omega) ?_
    exact Goes.ret _ _
  · have hu : U64 ((S.e : Int) + 1) := by unfold U64; omega
    have hk : ∀ l r, ChainW X t c l r → ChainW (X.put (8 + (me : Int)) ((S.e : Int) + 1)) t c l r := fun l r hc => hc.keep fun y _ hy => at_put_other (by have := link_pos t hy; omega)
    refine ⟨⟨h.dim.put hu, ?_, h.pool.nodup⟩, ?_, h.nodup, ?_, ?_⟩
    · rw [at_put_other (by omega)]; exact hk _ _ h.pool.chain
    · intro i hi
      rw [at_put_other (by omega)]; exact hk _ _ (h.lim i hi)
    · rw [at_put_other (by omega)]; exact h.ep
    · intro i hi
      by_cases e : i = me
      · subst e
        rw [at_put_same (by omega)]; simp [EpS.pin]
      · rw [at_put_other (by omega), h.pins i hi]; simp [EpS.pin, e]
theorem retire_all {S : EpS} {x : Int} : (S.retire x).all.Perm (x :: S.all) := by
  rw [List.perm_iff_count]
  intro a
  have hlt : S.e % 3 < 3 := Nat.mod_lt _ (by omega)
  unfold EpS.all EpS.retire
  obtain h | h | h : S.e % 3 = 0 ∨ S.e % 3 = 1 ∨ S.e % 3 = 2 := by omega
  all_goals
    simp only [h, List.count_append, List.count_cons]
    simp [List.count_cons]
    omega
theorem drain_all (S : EpS) : S.drain.all.Perm S.all := by
  rw [List.perm_iff_count]
  intro a
  unfold EpS.all EpS.drain
  obtain h | h | h : (S.e + 2) % 3 = 0 ∨ (S.e + 2) % 3 = 1 ∨ (S.e + 2) % 3 = 2 := by omega
  all_goals
    simp only [h, List.count_append, List.count_reverse]
    simp
    omega
theorem limbo_nat (e : Nat) : limboI (e : Int) = 4 + ((e % 3 : Nat) : Int) := by unfold limboI; omega
theorem pins_goes {X : WldK} {t c : Nat} {S : EpS} (h : EpK X t c S) (he : S.e ≤ 1000000) (me : Int) : ∀ (n i : Nat), i + n = t → ∃ j b, j ≤ n ∧ Goes me (pinsT (S.e : Int) n (i : Int)) X j b X ∧ (b = true ↔ ∀ k, i ≤ k → k < t → S.P k = 0 ∨ S.P k = (S.e : Int) + 1)
  | 0, i, hi => ⟨0, true, Nat.le_refl _, Goes.ret _ _, by simp; intro k h1 h2; omega⟩
  | n + 1, i, hi => by
    obtain ⟨-, hlen⟩ := at_ge X h.dim
    have hP := h.pins i (by omega)
    by_cases hg : S.P i = 0 ∨ S.P i = (S.e : Int) + 1
    · obtain ⟨j, b, hj, hgo, hb⟩ := pins_goes h he me n (i + 1) (by omega)
      refine ⟨j + 1, b, by omega, ?_, ?_⟩
      · refine goes_load (by omega) (by omega) ?_
        rw [hP, inc_nat he, if_pos hg]
        exact hgo
      · rw [hb]
        refine ⟨fun hk k h1 h2 => ?_, fun hk k h1 h2 => hk k (by omega) h2⟩
        rcases Nat.lt_or_ge i k with h3 | h3
        · exact hk k (by omega) h2
        · obtain rfl : k = i := by omega
          exact hg
    · refine ⟨1, false, by omega, ?_, ?_⟩
      · refine goes_load (by omega) (by omega) ?_
        rw [hP, inc_nat he, if_neg hg]
        exact Goes.ret _ _
      · simp only [Bool.false_eq_true, false_iff]
        intro hk
        exact hg (hk i (Nat.le_refl _) (by omega))
theorem Dim.three {X : WldK} {t c : Nat} (h : Dim X t c) : (7 : Int) < (X.ws.length : Int) := by have := at_ge X h; have := h.t1; omega
theorem adv_goes {X : WldK} {t c : Nat} {S : EpS} (h : EpK X t c S) (he : S.e ≤ 1000000) (me : Int) (f : Nat) (hf : c ≤ f) : ∃ X' j, j ≤ 3 + t + 4 * c ∧ Goes me (advT t (f + 1)) X j (decide (S.okP t)) X' ∧ EpK X' t c (S.adv t) := by
  have hlen := h.dim.three
  have ht := h.dim.t1
  obtain ⟨j, b, hj, hgo, hb⟩ := pins_goes h he me t 0 (by omega)
  have hb2 : b = decide (S.okP t) := by
    rw [Bool.eq_iff_iff, hb, decide_eq_true_iff]
    exact ⟨fun hk i hi => hk i (Nat.zero_le _) hi, fun hk i _ hi => hk i hi⟩
  by_cases hok : S.okP t
  · have hbt : b = true := by rw [hb2]; exact decide_eq_true hok
    subst hbt
    obtain ⟨d, hd⟩ : ∃ d, d = (S.e + 2) % 3 := ⟨_, rfl⟩
    have hd3 : d < 3 := by rw [hd]; exact Nat.mod_lt _ (by omega)
    have hld := h.lim_len hd3
    have hap := EpS.apart h.nodup
    obtain ⟨X1, hX1⟩ : ∃ X1, X1 = X.put 3 ((S.e : Int) + 1) := ⟨_, rfl⟩
    obtain ⟨X2, hX2⟩ : ∃ X2, X2 = X1.put (4 + (d : Int)) 0 := ⟨_, rfl⟩
    have hu : U64 ((S.e : Int) + 1) := by unfold U64; omega
    have hl1 : X1.ws.length = X.ws.length := by rw [hX1, put_len]
    have hl2 : X2.ws.length = X.ws.length := by rw [hX2, put_len, hl1]
    have hat : ∀ j : Int, j.toNat ≠ 3 → j.toNat ≠ (4 + (d : Int)).toNat → X2.at j = X.at j := fun j h1 h2 => by
      rw [hX2, at_put_other h2, hX1, at_put_other (by omega)]
    have hk : ∀ l r, ChainW X t c l r → ChainW X2 t c l r := fun l r hc => hc.keep fun y _ hy => by
      have := link_pos t hy
      exact hat _ (by omega) (by omega)
    have hD2 : Dim X2 t c := by rw [hX2, hX1]; exact (h.dim.put hu).put u64_zero
    have hp2 : PoolK X2 t c S.pile := ⟨hD2, by rw [hat 1 (by omega) (by omega)]; exact hk _ _ h.pool.chain, h.pool.nodup⟩
    have hnd : (S.L d ++ S.pile).Nodup := by
      rw [List.nodup_append]
      refine ⟨hap.2.1 d hd3, hap.1, fun a ha b hb e => ?_⟩
      subst e
      exact hap.2.2.1 d hd3 a ha hb
    obtain ⟨hg3, hp3⟩ := chain_drain (me := me) (f := f) (S.L d) X2 (firstF (X.at (4 + (d : Int)))) S.pile (f + 1) hp2 (hk _ _ (h.lim d hd3)) hnd (by omega)
    refine ⟨drainX X2 t (S.L d), 1 + (j + (1 + (1 + (4 * (S.L d).length + 0)))), by omega, ?_, ?_⟩
    · rw [decide_eq_true hok, show 1 + (j + (1 + (1 + (4 * (S.L d).length + 0)))) = (j + (1 + (1 + (4 * (S.L d).length + 0)))) + 1 by omega]
      refine goes_load (by omega) (by omega) ?_
      rw [h.ep, Int.toNat_natCast]
      refine Goes.bind hgo ?_
      rw [if_pos rfl, show 1 + (1 + (4 * (S.L d).length + 0)) = (1 + (4 * (S.L d).length + 0)) + 1 by omega]
      refine goes_cas (by omega) (by omega) h.ep ?_
      rw [if_pos rfl, inc_nat he, ← hX1, show ((S.e : Int) + 2) % 18446744073709551616 = ((S.e + 2 : Nat) : Int) by omega, limbo_nat, ← hd, show 1 + (4 * (S.L d).length + 0) = (4 * (S.L d).length + 0) + 1 by omega]
      refine goes_swap (by omega) (by rw [hl1]; omega) ?_
      rw [← hX2, show X1.at (4 + (d : Int)) = X.at (4 + (d : Int)) by rw [hX1, at_put_other (by omega)]]
      exact Goes.cast (Goes.bind hg3 (Goes.ret true _)) (Nat.add_zero _)
    · have hS : S.adv t = S.drain := by unfold EpS.adv; rw [if_pos hok]
      have hlk : ∀ (j : Int), 0 ≤ j → j < 15 + (t : Int) → ∀ x ∈ S.L d, j.toNat ≠ (linkI t x).toNat := fun j h0 h1 x hx => by
        have := link_pos t ((h.lim d hd3).mem x hx).1
        omega
      rw [hS]
      refine ⟨?_, ?_, ?_, ?_, ?_⟩
      · show PoolK _ t c ((S.L ((S.e + 2) % 3)).reverse ++ S.pile)
        rw [← hd]; exact hp3
      · intro i hi
        rw [drain_at (by omega) _ _ (hlk _ (by omega) (by omega))]
        by_cases e : i = d
        · subst e
          have hlL : S.drain.L i = [] := by simp only [EpS.drain]; rw [if_pos hd]
          rw [hlL, hX2, at_put_same (by omega)]
          rfl
        · have hlL : S.drain.L i = S.L i := by simp only [EpS.drain]; rw [if_neg (by omega)]
          rw [hlL, hat _ (by omega) (by omega)]
          refine (hk _ _ (h.lim i hi)).keep fun y hy hy1 => drain_at (by have := link_pos t hy1; omega) _ _ fun x hx => ?_
          exact link_ne hy1 ((h.lim d hd3).mem x hx).1 (fun e2 => hap.2.2.2 d hd3 i hi (fun e3 => e e3.symm) x hx (e2 ▸ hy))
      · rw [(drain_all S).nodup_iff]; exact h.nodup
      · rw [drain_at (by omega) _ _ (hlk _ (by omega) (by omega)), hX2, at_put_other (by omega), hX1, at_put_same (by omega)]
        simp [EpS.drain]
      · intro i hi
        rw [drain_at (by omega) _ _ (hlk _ (by omega) (by omega)), hat _ (by omega) (by omega)]
        exact h.pins i hi
  · have hbf : b = false := by rw [hb2]; exact decide_eq_false hok
    subst hbf
    refine ⟨X, 1 + (j + 0), by omega, ?_, by unfold EpS.adv; rw [if_neg hok]; exact h⟩
    rw [decide_eq_false hok, show 1 + (j + 0) = (j + 0) + 1 by omega]
    refine goes_load (by omega) (by omega) ?_
    rw [h.ep, Int.toNat_natCast]
    refine Goes.cast (Goes.bind hgo ?_) (Nat.add_zero _)
    simp only [Bool.false_eq_true, if_false]
    exact Goes.ret _ _
/-! The operations, stepping alone: what 'alone' answers. -/
theorem ep_alone {t me f most : Nat} {k u : Int} {X X' : WldK} {j : Nat} {o : OutN} (hg : Goes (me : Int) (epochT t me k u f) X j o X') (hj : j ≤ most) : aloneN (nextT (epochT t me k u f)) me (most + 1) X [] = (X', o, true) :=
  alone_goes (T0 := epochT t me k u f) hg (fun _ _ => rfl) (by cases epochT t me k u f <;> rfl) (by cases epochT t me k u f <;> trivial) (by omega)
theorem epin_alone {X : WldK} {t c : Nat} {S : EpS} (h : EpK X t c S) (he : S.e ≤ 1000000) {me : Nat} (hme : me < t) (u : Int) (f : Nat) (most : Nat) (hm : 2 ≤ most) : ∃ X', aloneN (nextT (epochT t me 3 u f)) me (most + 1) X [] = (X', ⟨0, false, 0, 0⟩, true) ∧ EpK X' t c (S.pin me ((S.e : Int) + 1)) := by
  obtain ⟨X', g, h'⟩ := pin_goes h he hme
  refine ⟨X', ep_alone (j := 2) ?_ hm, h'⟩
  unfold epochT; rw [if_pos (by omega)]
  exact Goes.cast (Goes.bind g (Goes.ret _ _)) (Nat.add_zero _)
theorem eadv_alone {X : WldK} {t c : Nat} {S : EpS} (h : EpK X t c S) (he : S.e ≤ 1000000) (me : Nat) (u : Int) (f : Nat) (hf : c ≤ f) (most : Nat) (hm : 3 + t + 4 * c ≤ most) : ∃ X', aloneN (nextT (epochT t me 19 u (f + 1))) me (most + 1) X [] = (X', ⟨0, decide (S.okP t), 0, 0⟩, true) ∧ EpK X' t c (S.adv t) := by
  obtain ⟨X', j, hj, g, h'⟩ := adv_goes h he (me : Int) f hf
  refine ⟨X', ep_alone (j := j) ?_ (by omega), h'⟩
  unfold epochT; rw [if_neg (by omega), if_neg (by omega), if_neg (by omega), if_pos (by omega)]
  exact Goes.cast (Goes.bind g (Goes.ret _ _)) (Nat.add_zero _)
end Go.Proofs.Ytjokaginolpbeaa

namespace Go.Proofs.Ytjokaginolpbeaa
open Go.RowKit

/-! What an allocation takes, and leaves. -/
/-- no other thread is pinned -/
def EpS.lone (S : EpS) (t me : Nat) : Prop := ∀ i, i < t → i ≠ me → S.P i = 0
/-- the limbos behind are empty -/
def EpS.behind (S : EpS) (k : Nat) : Prop := ∀ j, k ≤ j → j < 3 → S.L ((S.e + 2 + j) % 3) = []
/-- what is free, or retired, and what is had: all records, each once -/
structure HE (N : Nat) (S : EpS) (held : List Int) : Prop where
  nodup : (S.all ++ held).Nodup
  rng : ∀ x ∈ S.all ++ held, 1 ≤ x ∧ x ≤ (N : Int)
  len : S.all.length + held.length = N
theorem HE.hk {N : Nat} {S : EpS} {held : List Int} (h : HE N S held) : HK N S.all held := ⟨h.nodup, fun x hx => h.rng x (by simp [hx]), h.len⟩
theorem HE.take {N : Nat} {S S' : EpS} {held : List Int} {x : Int} (h : HE N S held) (hp : S.all.Perm (x :: S'.all)) : HE N S' (held ++ [x]) := by
  have hq : (S'.all ++ (held ++ [x])).Perm (S.all ++ held) := by
    rw [List.perm_iff_count] at hp ⊢
    intro a
    have := hp a
    simp only [List.count_append, List.count_cons, List.count_nil] at this ⊢
    omega
  refine ⟨hq.nodup_iff.2 h.nodup, fun y hy => h.rng y (hq.mem_iff.1 hy), ?_⟩
  have := hq.length_eq
  have h3 := h.len
  simp only [List.length_append] at this ⊢
  omega
theorem HE.back {N : Nat} {S : EpS} {h1 h2 : List Int} {x : Int} (h : HE N S (h1 ++ x :: h2)) : HE N (S.retire x) (h1 ++ h2) ∧ x ∉ S.all ∧ 1 ≤ x ∧ x ≤ (N : Int) := by
  have hr := h.rng x (by simp)
  have hn := h.nodup
  rw [List.nodup_append] at hn
  have hx : x ∉ S.all := fun hm => hn.2.2 x hm x (by simp) rfl
  have hq : ((S.retire x).all ++ (h1 ++ h2)).Perm (S.all ++ (h1 ++ x :: h2)) := by
    have hp := retire_all (S := S) (x := x)
    rw [List.perm_iff_count] at hp ⊢
    intro a
    have := hp a
    simp only [List.count_append, List.count_cons] at this ⊢
    omega
  refine ⟨⟨hq.nodup_iff.2 h.nodup, fun y hy => h.rng y (hq.mem_iff.1 hy), ?_⟩, hx, hr.1, hr.2⟩
  have := hq.length_eq
  have h3 := h.len
  simp only [List.length_append, List.length_cons] at this h3 ⊢
  omega
def newS (c : Nat) : EpS := ⟨0, upFrom 1 c, fun _ => [], fun _ => 0⟩
theorem newS_all (c : Nat) : (newS c).all = upFrom 1 c := by simp [newS, EpS.all]
theorem newF_low {t c r i : Nat} (h1 : i ≠ 1) (h2 : i < 15 + t) : newF t c r i = 0 := by
  unfold newF
  rw [if_neg h1, if_neg (by omega)]
theorem newS_k {t c : Nat} (t1 : 1 ≤ t) (t2 : t ≤ 64) (hc : c ≤ 65536) : EpK (newW t c) t c (newS c) := by
  have hp := new_pool (t := t) (c := c) t1 t2 hc
  have hlow : ∀ i : Nat, i ≠ 1 → i < 8 + t → (newW t c).at (i : Int) = 0 := fun i h1 h2 => by
    rw [new_at t c i (by unfold memL; omega)]
    exact newF_low h1 (by omega)
  refine ⟨hp, fun i hi => ?_, by rw [newS_all]; exact upFrom_nodup _ _, ?_, fun i hi => ?_⟩
  · have := hlow (4 + i) (by omega) (by omega)
    rw [show (4 : Int) + (i : Int) = ((4 + i : Nat) : Int) by omega, this]
    rfl
  · have := hlow 3 (by omega) (by omega)
    exact this
  · have := hlow (8 + i) (by omega) (by omega)
    rw [show (8 : Int) + (i : Int) = ((8 + i : Nat) : Int) by omega, this]
    rfl
/-! Pins, and what three epochs give back. -/
theorem okP_zero {S : EpS} {t : Nat} (h : ∀ i, S.P i = 0) : S.okP t := fun i _ => .inl (h i)
theorem adv_ok {S : EpS} {t : Nat} (h : S.okP t) : S.adv t = S.drain := by unfold EpS.adv; rw [if_pos h]
/-! The contracts of 'alone'. -/
theorem eal_pin {X : WldK} {t c : Nat} {S : EpS} (h : EpK X t c S) (hX : WOk X) {me : Nat} (hme : me < t) (he : S.e ≤ 1000000) (most : Nat) (hm : 2 ≤ most) (hm9 : most ≤ 900) : ∃ X', EpK X' t c (S.pin me ((S.e : Int) + 1)) ∧ WOk X' ∧ ∀ (wv : Value) (v d : Int) (w : World), WldV w wv X →
    Calls Try.prog 22 #[wv, .int .i64 (me : Int), .agg #[.int .i64 3, .int .i64 0, .int .i64 v, .int .u64 d], .int .i64 (most : Int)] w fun e w' => ∃ v', e = .returned (.tuple #[v', .agg #[.int .i64 0, .bool false, .int .i64 0, .int .u64 0, .slice none 0 0], .bool true]) ∧ WldV w' v' X' ∧ Ext w w' := by
  obtain ⟨X', ha, hk⟩ := epin_alone h he hme 0 (most + 1) most hm
  have hT := h.dim.T
  have ht2 := h.dim.t2
  have hw := (aloneN_ok (P := nextT (epochT t me 3 0 (most + 1))) (me := (me : Int)) (fun ns x h3 hx3 => epochN_ok _ _ _ _ _ (fun h5 => by unfold U64; omega) ns x h3 hx3) (most + 1) X [] hX (fun m hm => by cases hm)).1
  refine ⟨X', hk, ?_, fun wv v d w hV => ?_⟩
  · have ha2 := ha
    have e : (aloneN (nextT (epochT t me 3 0 (most + 1))) (me : Int) (most + 1) X []).1 = X' := by
      first
        | rw [ha2]
        | exact congrArg Prod.fst ha2
    rw [e] at hw; exact hw
  · have h1 := eal_any (most + 1) X t hT ht2 hX wv me 3 0 v d (most : Int) (by omega) (by omega) (by omega) most rfl (by omega) hm9 w hV
    have ha2 := ha
    rw [ha2] at h1
    exact h1
theorem eal_adv {X : WldK} {t c : Nat} {S : EpS} (h : EpK X t c S) (hX : WOk X) {me : Nat} (hme : me < t) (he : S.e ≤ 1000000) (most : Nat) (hm : 3 + t + 4 * c ≤ most) (hm9 : most ≤ 900) : ∃ X', EpK X' t c (S.adv t) ∧ WOk X' ∧ ∀ (wv : Value) (v d : Int) (w : World), WldV w wv X →
    Calls Try.prog 22 #[wv, .int .i64 (me : Int), .agg #[.int .i64 19, .int .i64 0, .int .i64 v, .int .u64 d], .int .i64 (most : Int)] w fun e w' => ∃ v', e = .returned (.tuple #[v', .agg #[.int .i64 0, .bool (decide (S.okP t)), .int .i64 0, .int .u64 0, .slice none 0 0], .bool true]) ∧ WldV w' v' X' ∧ Ext w w' := by
  obtain ⟨X', ha, hk⟩ := eadv_alone h he me 0 most (by omega) most hm
  have hT := h.dim.T
  have ht2 := h.dim.t2
  have hw := (aloneN_ok (P := nextT (epochT t me 19 0 (most + 1))) (me := (me : Int)) (fun ns x h3 hx3 => epochN_ok _ _ _ _ _ (fun h5 => by unfold U64; omega) ns x h3 hx3) (most + 1) X [] hX (fun m hm => by cases hm)).1
  refine ⟨X', hk, ?_, fun wv v d w hV => ?_⟩
  · have ha2 := ha
    have e : (aloneN (nextT (epochT t me 19 0 (most + 1))) (me : Int) (most + 1) X []).1 = X' := by
      first
        | rw [ha2]
        | exact congrArg Prod.fst ha2
    rw [e] at hw; exact hw
  · have h1 := eal_any (most + 1) X t hT ht2 hX wv me 19 0 v d (most : Int) (by omega) (by omega) (by omega) most rfl (by omega) hm9 w hV
    have ha2 := ha
    rw [ha2] at h1
    exact h1
end Go.Proofs.Ytjokaginolpbeaa

namespace Go.Proofs.Ytjokaginolpbeaa
open Go.RowKit

/-! SAFE, in plain: thread 0 is pinned; whatever the two others do, step by step, what they share stays as this says. -/
def nxK (n k : Nat) : Int := if k < n then (k : Int) + 1 else 0
structure Shr (n E0 : Nat) (τ0 : Int) (X : WldK) (k : Nat) : Prop where
  dim : Dim X 3 n
  kn : k ≤ n
  first : firstF (X.at 1) = nxK n k
  tag : tagF (X.at 1) = (τ0 + (k : Int)) % 17592186044416
  link : ∀ r : Nat, k < r → r ≤ n → firstF (X.at (linkI 3 r)) = nxK n r
  pin0 : X.at 8 = (E0 : Int) + 1
  ep : X.at 3 = (E0 : Int) ∨ X.at 3 = (E0 : Int) + 1
  lim : firstF (X.at (4 + (((E0 + 2) % 3 : Nat) : Int))) = 0
theorem Shr.len {n E0 : Nat} {τ0 : Int} {X : WldK} {k : Nat} (h : Shr n E0 τ0 X k) : X.ws.length = 11 + 8 * n := by rw [h.dim.len]; unfold memL; omega
/-- a word that none of it reads -/
theorem Shr.put {n E0 : Nat} {τ0 : Int} {X : WldK} {k : Nat} (h : Shr n E0 τ0 X k) {i a : Int} (ha : U64 a) (h1 : i.toNat ≠ 1) (h8 : i.toNat ≠ 8) (h3 : i.toNat ≠ 3) (hl : i.toNat ≠ 4 + (E0 + 2) % 3) (hr : ∀ r : Nat, k < r → r ≤ n → i.toNat ≠ (linkI 3 r).toNat) : Shr n E0 τ0 (X.put i a) k :=
  ⟨h.dim.put ha, h.kn, by rw [at_put_other (by omega)]; exact h.first, by rw [at_put_other (by omega)]; exact h.tag, fun r h1 h2 => by rw [at_put_other (fun e => hr r h1 h2 e.symm)]; exact h.link r h1 h2,
    by rw [at_put_other (by omega)]; exact h.pin0, by rw [at_put_other (by omega)]; exact h.ep, by rw [at_put_other (by omega)]; exact h.lim⟩
/-- what a program does, whatever the others did in between: how many records have been taken (at least km), and the one that it has -/
def Saf {α : Type} (n E0 : Nat) (τ0 me : Int) (pp : Prop) (Q : α → Nat → Int → Prop) : PT α → Nat → Int → Prop
  | .ret a, km, own => Q a km own
  | .out, _, _ => True
  | .ask x c, km, own => ∀ X k, km ≤ k → Shr n E0 τ0 X k → ∃ k' own', ((k' = k ∧ own' = own) ∨ (pp ∧ own = 0 ∧ k' = k + 1 ∧ own' = (k : Int) + 1)) ∧ Shr n E0 τ0 (doK X me x.K false) k' ∧ U64 (doR X x.K false).N ∧ Saf n E0 τ0 me pp Q (c (doR X x.K false).N) k' own'
section
variable {n E0 : Nat} {τ0 me : Int} {pp : Prop}
theorem Saf.bind {α β : Type} {f : α → PT β} {Q : β → Nat → Int → Prop} : ∀ {T : PT α} {km : Nat} {own : Int}, Saf n E0 τ0 me pp (fun a km own => Saf n E0 τ0 me pp Q (f a) km own) T km own → Saf n E0 τ0 me pp Q (T.bind f) km own
  | .ret a, km, own, h => h
  | .out, km, own, h => trivial
  | .ask x c, km, own, h => fun X k hk hs => by
    obtain ⟨k', own', h1, h2, h3, h4⟩ := h X k hk hs
    exact ⟨k', own', h1, h2, h3, Saf.bind h4⟩
theorem Saf.mono {α : Type} {Q Q' : α → Nat → Int → Prop} (hQ : ∀ a km own, Q a km own → Q' a km own) : ∀ {T : PT α} {km : Nat} {own : Int}, Saf n E0 τ0 me pp Q T km own → Saf n E0 τ0 me pp Q' T km own
  | .ret a, km, own, h => hQ _ _ _ h
  | .out, km, own, h => trivial
  | .ask x c, km, own, h => fun X k hk hs => by
    obtain ⟨k', own', h1, h2, h3, h4⟩ := h X k hk hs
    exact ⟨k', own', h1, h2, h3, Saf.mono hQ h4⟩
variable {α : Type} {Q : α → Nat → Int → Prop} {c : Int → PT α} {km : Nat} {own i a b : Int}
theorem saf_load (hi : 0 ≤ i) (hl : i < 11 + 8 * (n : Int)) (h : ∀ X k, km ≤ k → Shr n E0 τ0 X k → Saf n E0 τ0 me pp Q (c (X.at i)) k own) : Saf n E0 τ0 me pp Q (.ask (askL i) c) km own := fun X k hk hs => by
  have hlen := hs.len
  rw [doR_ask (x := askL i) (by simp [askL]) (by simp [askL]) hi (by simp only [askL]; omega), doK_ask (x := askL i) (by simp [askL]) (by simp [askL]) hi (by simp only [askL]; omega)]
  have e : X.put (askL i).cell (turnX (askL i).kind (X.at (askL i).cell) (askL i).a (askL i).b) = X := by
    have e2 : turnX (askL i).kind (X.at (askL i).cell) (askL i).a (askL i).b = X.at i := by simp [askL, turnX]
    rw [e2]; exact put_self X i
  rw [e]
  have e3 : turnN (askL i).kind (X.at (askL i).cell) (askL i).a = X.at i := by simp [askL, turnN]
  rw [e3]
  exact ⟨k, own, .inl ⟨rfl, rfl⟩, hs, hs.dim.u i, h X k hk hs⟩
theorem saf_store (hi : 0 ≤ i) (hl : i < 11 + 8 * (n : Int)) (h : ∀ X k, km ≤ k → Shr n E0 τ0 X k → Shr n E0 τ0 (X.put i a) k ∧ Saf n E0 τ0 me pp Q (c 0) k own) : Saf n E0 τ0 me pp Q (.ask (askS i a) c) km own := fun X k hk hs => by
  have hlen := hs.len
  rw [doR_ask (x := askS i a) (by simp [askS]) (by simp [askS]) hi (by simp only [askS]; omega), doK_ask (x := askS i a) (by simp [askS]) (by simp [askS]) hi (by simp only [askS]; omega)]
  have e2 : turnX (askS i a).kind (X.at (askS i a).cell) (askS i a).a (askS i a).b = a := by simp [askS, turnX]
  have e3 : turnN (askS i a).kind (X.at (askS i a).cell) (askS i a).a = 0 := by simp [askS, turnN]
  rw [e2, e3]
  obtain ⟨h1, h2⟩ := h X k hk hs
  exact ⟨k, own, .inl ⟨rfl, rfl⟩, h1, u64_zero, h2⟩
theorem saf_swap (hi : 0 ≤ i) (hl : i < 11 + 8 * (n : Int)) (h : ∀ X k, km ≤ k → Shr n E0 τ0 X k → Shr n E0 τ0 (X.put i a) k ∧ Saf n E0 τ0 me pp Q (c (X.at i)) k own) : Saf n E0 τ0 me pp Q (.ask (askX i a) c) km own := fun X k hk hs => by
  have hlen := hs.len
  rw [doR_ask (x := askX i a) (by simp [askX]) (by simp [askX]) hi (by simp only [askX]; omega), doK_ask (x := askX i a) (by simp [askX]) (by simp [askX]) hi (by simp only [askX]; omega)]
  have e2 : turnX (askX i a).kind (X.at (askX i a).cell) (askX i a).a (askX i a).b = a := by simp [askX, turnX]
  have e3 : turnN (askX i a).kind (X.at (askX i a).cell) (askX i a).a = X.at i := by simp [askX, turnN]
  rw [e2, e3]
  obtain ⟨h1, h2⟩ := h X k hk hs
  exact ⟨k, own, .inl ⟨rfl, rfl⟩, h1, hs.dim.u i, h2⟩
theorem saf_cas (hi : 0 ≤ i) (hl : i < 11 + 8 * (n : Int)) (h : ∀ X k, km ≤ k → Shr n E0 τ0 X k →
    (X.at i = a → ∃ k' own', ((k' = k ∧ own' = own) ∨ (pp ∧ own = 0 ∧ k' = k + 1 ∧ own' = (k : Int) + 1)) ∧ Shr n E0 τ0 (X.put i b) k' ∧ Saf n E0 τ0 me pp Q (c 1) k' own') ∧
    (X.at i ≠ a → Saf n E0 τ0 me pp Q (c 0) k own)) : Saf n E0 τ0 me pp Q (.ask (askC i a b) c) km own := fun X k hk hs => by
  have hlen := hs.len
  rw [doR_ask (x := askC i a b) (by simp [askC]) (by simp [askC]) hi (by simp only [askC]; omega), doK_ask (x := askC i a b) (by simp [askC]) (by simp [askC]) hi (by simp only [askC]; omega)]
  obtain ⟨h1, h2⟩ := h X k hk hs
  by_cases he : X.at i = a
  · have e2 : turnX (askC i a b).kind (X.at (askC i a b).cell) (askC i a b).a (askC i a b).b = b := by simp [askC, turnX, he]
    have e3 : turnN (askC i a b).kind (X.at (askC i a b).cell) (askC i a b).a = 1 := by simp [askC, turnN, he]
    rw [e2, e3]
    obtain ⟨k', own', g1, g2, g3⟩ := h1 he
    exact ⟨k', own', g1, g2, by unfold U64; omega, g3⟩
  · have e2 : turnX (askC i a b).kind (X.at (askC i a b).cell) (askC i a b).a (askC i a b).b = X.at i := by simp [askC, turnX, he]
    have e3 : turnN (askC i a b).kind (X.at (askC i a b).cell) (askC i a b).a = 0 := by simp [askC, turnN, he]
    rw [e2, e3]
    refine ⟨k, own, .inl ⟨rfl, rfl⟩, ?_, u64_zero, h2 he⟩
    have e4 : X.put (askC i a b).cell (X.at i) = X := put_self X i
    rw [e4]; exact hs
end
section
variable {n E0 : Nat} {τ0 me : Int} {pp : Prop} (hn : n ≤ 5) (he : E0 ≤ 100)
include hn
theorem nx_small (k : Nat) : 0 ≤ nxK n k ∧ nxK n k ≤ 5 := by unfold nxK; split <;> omega
theorem popT_saf (hp : pp) : ∀ (f km : Nat), Saf n E0 τ0 me pp (fun r _ own => r = own) (popT 3 f) km 0
  | 0, _ => trivial
  | f + 1, km => by
    refine saf_load (by omega) (by omega) fun X k hk hs => ?_
    have hF := hs.first
    have hT := hs.tag
    by_cases h0 : firstF (X.at 1) = 0
    · rw [if_pos h0]; exact rfl
    · rw [if_neg h0]
      have hkn : k < n := by
        rcases Nat.lt_or_ge k n with h | h
        · exact h
        · rw [hF] at h0; unfold nxK at h0; rw [if_neg (by omega)] at h0; exact absurd rfl h0
      have hw : firstF (X.at 1) = ((k + 1 : Nat) : Int) := by rw [hF]; unfold nxK; rw [if_pos hkn]; omega
      generalize X.at 1 = w at *
      rw [hw]
      refine saf_load (by unfold linkI; omega) (by unfold linkI; omega) fun X2 k2 hk2 hs2 => ?_
      have hL : k2 = k → firstF (X2.at (linkI 3 ((k + 1 : Nat) : Int))) = nxK n (k + 1) := fun e => hs2.link (k + 1) (by omega) (by omega)
      have hw2 := hs2.dim.u (linkI 3 ((k + 1 : Nat) : Int))
      generalize X2.at (linkI 3 ((k + 1 : Nat) : Int)) = m at *
      refine saf_cas (by omega) (by omega) fun X3 k3 hk3 hs3 => ⟨fun e => ?_, fun _ => ?_⟩
      · have hT3 := hs3.tag
        rw [e, hT] at hT3
        have hk3n := hs3.kn
        obtain rfl : k3 = k := by omega
        obtain rfl : k2 = k3 := by omega
        have hm := hL rfl
        have hu := hs3.dim.u 1
        have hlen := hs3.len
        have hsm := nx_small hn (k2 + 1)
        rw [e] at hu
        rw [hm]
        refine ⟨k2 + 1, (k2 : Int) + 1, .inr ⟨hp, rfl, rfl, rfl⟩, ?_, ?_⟩
        · refine ⟨hs3.dim.put (topN_u _ _), by omega, ?_, ?_, ?_, ?_, ?_, ?_⟩
          · rw [at_put_same (by omega), topN_first (by omega) (by omega)]
          · rw [at_put_same (by omega), topN_tag (by omega) (by omega) hu, hT]; omega
          · intro r h1 h2
            rw [at_put_other (by unfold linkI; omega)]
            exact hs3.link r (by omega) h2
          · rw [at_put_other (by omega)]; exact hs3.pin0
          · rw [at_put_other (by omega)]; exact hs3.ep
          · rw [at_put_other (by omega)]; exact hs3.lim
        · rw [if_pos rfl]
          show ((k2 + 1 : Nat) : Int) = (k2 : Int) + 1
          omega
      · rw [if_neg (by omega)]
        exact popT_saf hp f k3
theorem pinT_saf (hm : 1 ≤ me ∧ me ≤ 2) (hn1 : 1 ≤ n) (km : Nat) (own : Int) : Saf n E0 τ0 me pp (fun _ _ o => o = own) (pinT me) km own := by
  refine saf_load (by omega) (by omega) fun X k hk hs => ?_
  refine saf_store (by omega) (by omega) fun X2 k2 hk2 hs2 => ⟨?_, rfl⟩
  exact hs2.put (incW_u _) (by omega) (by omega) (by omega) (by omega) (fun r _ _ => by unfold linkI; omega)
theorem unpinT_saf (hm : 1 ≤ me ∧ me ≤ 2) (hn1 : 1 ≤ n) (km : Nat) (own : Int) : Saf n E0 τ0 me pp (fun _ _ o => o = own) (unpinT me) km own := by
  refine saf_store (by omega) (by omega) fun X2 k2 hk2 hs2 => ⟨?_, rfl⟩
  exact hs2.put u64_zero (by omega) (by omega) (by omega) (by omega) (fun r _ _ => by unfold linkI; omega)
theorem retireL_saf {r : Nat} (hr : 1 ≤ r ∧ r ≤ n) {at_ : Int} (ha : 4 ≤ at_ ∧ at_ ≤ 6 ∧ at_.toNat ≠ 4 + (E0 + 2) % 3) : ∀ (f km : Nat), r ≤ km → Saf n E0 τ0 me pp (fun _ _ o => o = (r : Int)) (retireL 3 r at_ f) km (r : Int)
  | 0, _, _ => trivial
  | f + 1, km, hk => by
    refine saf_load (by omega) (by omega) fun X k hk1 hs => ?_
    have hu := hs.dim.u at_
    generalize X.at at_ = h at *
    refine saf_store (by unfold linkI; omega) (by unfold linkI; omega) fun X2 k2 hk2 hs2 => ⟨?_, ?_⟩
    · exact hs2.put hu (by unfold linkI; omega) (by unfold linkI; omega) (by unfold linkI; omega) (by unfold linkI; omega) (fun q h1 _ => by unfold linkI; omega)
    · refine saf_cas (by omega) (by omega) fun X3 k3 hk3 hs3 => ⟨fun e => ?_, fun _ => ?_⟩
      · refine ⟨k3, (r : Int), .inl ⟨rfl, rfl⟩, ?_, by rw [if_pos rfl]; exact rfl⟩
        exact hs3.put (by unfold U64; omega) (by omega) (by omega) (by omega) ha.2.2 (fun q h1 _ => by unfold linkI; omega)
      · rw [if_neg (by omega)]
        exact retireL_saf hr ha f k3 (by omega)
theorem retireT_saf {r : Nat} (hr : 1 ≤ r ∧ r ≤ n) (f km : Nat) (hk : r ≤ km) : Saf n E0 τ0 me pp (fun _ _ o => o = (r : Int)) (retireT 3 r f) km (r : Int) := by
  refine saf_load (by omega) (by omega) fun X k hk1 hs => ?_
  refine retireL_saf hn hr ?_ f k (by omega)
  rcases hs.ep with e | e
  · rw [e]; unfold limboI; omega
  · rw [e]; unfold limboI; omega
theorem pinsT_saf (e own : Int) (hn1 : 1 ≤ n) : ∀ (m : Nat) (i : Nat) (km : Nat), i + m ≤ 3 → Saf n E0 τ0 me pp (fun _ _ o => o = own) (pinsT e m (i : Int)) km own
  | 0, i, km, _ => rfl
  | m + 1, i, km, hi => by
    refine saf_load (by omega) (by omega) fun X k hk hs => ?_
    split
    · exact pinsT_saf e own hn1 m (i + 1) k (by omega)
    · exact rfl
include he
theorem advT_saf (hn1 : 1 ≤ n) (f km : Nat) (own : Int) : Saf n E0 τ0 me pp (fun _ _ o => o = own) (advT 3 f) km own := by
  refine saf_load (by omega) (by omega) fun X k hk hs => ?_
  have hep := hs.ep
  generalize X.at 3 = e at *
  refine Saf.bind ?_
  show Saf n E0 τ0 me pp _ (pinsT e (2 + 1) 0) k own
  refine saf_load (by omega) (by omega) fun X1 k1 hk1 hs1 => ?_
  rw [show (8 : Int) + 0 = 8 by omega, hs1.pin0]
  rcases hep with rfl | rfl
  · rw [if_pos (.inr (by unfold incW; omega))]
    refine (pinsT_saf hn (E0 : Int) own hn1 2 1 k1 (by omega)).mono fun ok k2 o ho => ?_
    subst ho
    cases ok
    · exact rfl
    · show Saf n E0 τ0 me pp _ (.ask (askC 3 _ _) _) k2 o
      refine saf_cas (by omega) (by omega) fun X3 k3 hk3 hs3 => ⟨fun e3 => ?_, fun _ => by rw [if_neg (by omega)]; exact rfl⟩
      have hlen := hs3.len
      refine ⟨k3, o, .inl ⟨rfl, rfl⟩, ?_, ?_⟩
      · refine ⟨hs3.dim.put (incW_u _), hs3.kn, by rw [at_put_other (by omega)]; exact hs3.first, by rw [at_put_other (by omega)]; exact hs3.tag, fun r h1 h2 => by rw [at_put_other (by unfold linkI; omega)]; exact hs3.link r h1 h2,
          by rw [at_put_other (by omega)]; exact hs3.pin0, .inr (by rw [at_put_same (by omega)]; unfold incW; omega), by rw [at_put_other (by omega)]; exact hs3.lim⟩
      · rw [if_pos rfl]
        have hlb : limboI (((E0 : Int) + 2) % 18446744073709551616) = 4 + (((E0 + 2) % 3 : Nat) : Int) := by unfold limboI; omega
        rw [hlb]
        refine saf_swap (by omega) (by omega) fun X4 k4 hk4 hs4 => ⟨?_, ?_⟩
        · have hlen4 := hs4.len
          exact ⟨hs4.dim.put u64_zero, hs4.kn, by rw [at_put_other (by omega)]; exact hs4.first, by rw [at_put_other (by omega)]; exact hs4.tag, fun r h1 h2 => by rw [at_put_other (by unfold linkI; omega)]; exact hs4.link r h1 h2,
            by rw [at_put_other (by omega)]; exact hs4.pin0, by rw [at_put_other (by omega)]; exact hs4.ep, by rw [at_put_same (by omega)]; unfold firstF; omega⟩
        · have hlim := hs4.lim
          generalize X4.at (4 + (((E0 + 2) % 3 : Nat) : Int)) = hh at *
          show Saf n E0 τ0 me pp _ ((chainT 3 f f (firstF hh)).bind _) k4 o
          rw [hlim]
          cases f with
          | zero => exact trivial
          | succ f =>
            unfold chainT
            rw [if_pos rfl]
            exact rfl
  · rw [if_neg (by unfold incW; omega)]
    exact rfl
theorem allocL_saf (hp : pp) (hm : 1 ≤ me ∧ me ≤ 2) (hn1 : 1 ≤ n) (f : Nat) : ∀ (j km : Nat) (r : Int), Saf n E0 τ0 me pp (fun r _ o => r = o) (allocL 3 me f j r) km r
  | 0, km, r => rfl
  | j + 1, km, r => by
    unfold allocL
    split
    · rename_i h0
      subst h0
      refine Saf.bind ((pinT_saf hn hm hn1 km 0).mono fun _ k1 o ho => ?_)
      subst ho
      refine Saf.bind ((advT_saf hn he hn1 f k1 0).mono fun _ k2 o ho => ?_)
      subst ho
      refine Saf.bind ((popT_saf hn hp f k2).mono fun r' k3 o ho => ?_)
      subst ho
      exact allocL_saf hp hm hn1 f j k3 r'
    · exact rfl
/-- what an operation of a thread leaves: an allocation answers what the thread has then; the others leave it -/
def PostS (kind own : Int) (o : OutN) (_ : Nat) (own' : Int) : Prop := (kind = 6 → o.n = own') ∧ (kind ≠ 6 → own' = own)
theorem epochT_saf (hm : 1 ≤ me ∧ me ≤ 2) (hn1 : 1 ≤ n) (f km : Nat) (kind own : Int) (hk : kind = 3 ∨ kind = 4 ∨ kind = 5 ∨ kind = 6) (h6 : kind = 6 → own = 0) (h5 : kind = 5 → 1 ≤ own ∧ own ≤ (n : Int) ∧ own ≤ (km : Int)) :
    Saf n E0 τ0 me (kind = 6) (PostS kind own) (epochT 3 me kind own f) km own := by
  unfold epochT
  rcases hk with rfl | rfl | rfl | rfl
  · rw [if_pos rfl]
    exact Saf.bind ((pinT_saf hn hm hn1 km own).mono fun _ _ o ho => ⟨fun h => by omega, fun _ => ho⟩)
  · rw [if_neg (by omega), if_pos rfl]
    exact Saf.bind ((unpinT_saf hn hm hn1 km own).mono fun _ _ o ho => ⟨fun h => by omega, fun _ => ho⟩)
  · rw [if_neg (by omega), if_neg (by omega), if_pos rfl]
    obtain ⟨h1, h2, h3⟩ := h5 rfl
    obtain ⟨r, rfl⟩ := Int.eq_ofNat_of_zero_le (show 0 ≤ own by omega)
    exact Saf.bind ((retireT_saf hn (r := r) (by omega) f km (by omega)).mono fun _ _ o ho => ⟨fun h => by omega, fun _ => ho⟩)
  · rw [if_neg (by omega), if_neg (by omega), if_neg (by omega), if_neg (by omega), if_pos rfl]
    obtain rfl := h6 rfl
    refine Saf.bind (Saf.bind ((popT_saf hn rfl f km).mono fun r k1 o ho => ?_))
    subst ho
    exact (allocL_saf hn he rfl hm hn1 f 3 k1 r).mono fun r' _ o ho => ⟨fun _ => ho, fun h => absurd rfl h⟩
end
/-! How it begins. -/
theorem chain_up {X : WldK} {t c : Nat} : ∀ (m r : Nat) (v : Int), ChainW X t c (upFrom r m) v → v = (if m = 0 then 0 else (r : Int)) ∧ ∀ q : Nat, r ≤ q → q < r + m → firstF (X.at (linkI t q)) = if q + 1 < r + m then (q : Int) + 1 else 0
  | 0, r, v, h => ⟨h, fun q h1 h2 => by omega⟩
  | m + 1, r, v, h => by
    obtain ⟨h1, h2, h3, h4⟩ := h
    obtain ⟨h5, h6⟩ := chain_up m (r + 1) _ h4
    refine ⟨by rw [if_neg (by omega)]; exact h1, fun q hq1 hq2 => ?_⟩
    by_cases e : q = r
    · subst e
      rw [h5]
      by_cases hm : m = 0
      · rw [if_pos hm, if_neg (by omega)]
      · rw [if_neg hm, if_pos (by omega)]; omega
    · rw [h6 q (by omega) (by omega)]
      rw [show r + 1 + m = r + (m + 1) by omega]
theorem shr_new {X : WldK} {n : Nat} {S : EpS} (h : EpK X 3 n S) (hp : S.pile = upFrom 1 n) (hL : ∀ i, i < 3 → S.L i = []) (h0 : S.P 0 = (S.e : Int) + 1) : Shr n S.e (tagF (X.at 1)) X 0 := by
  have hc := h.pool.chain
  rw [hp] at hc
  obtain ⟨h1, h2⟩ := chain_up n 1 _ hc
  refine ⟨h.dim, Nat.zero_le _, ?_, ?_, ?_, ?_, .inl h.ep, ?_⟩
  · rw [h1]; unfold nxK; split <;> split <;> omega
  · have := h.dim.u 1
    have h3 := this.1; have h4 := this.2
    unfold tagF; omega
  · intro r hr1 hr2
    have h3 := h2 r (by omega) (by omega)
    rw [show linkI ((3 : Nat) : Int) (r : Int) = linkI 3 (r : Int) from rfl] at h3
    rw [h3]
    unfold nxK; split <;> split <;> omega
  · have := h.pins 0 (by omega)
    rw [h0] at this
    exact this
  · have hd : (S.e + 2) % 3 < 3 := Nat.mod_lt _ (by omega)
    have := h.lim _ hd
    rw [hL _ hd] at this
    exact this
/-! The threads. -/
def kindS : Nat → Int
  | 0 => 3
  | 1 => 6
  | 2 => 5
  | _ => 4
def FS : Nat := 300
/-- a thread: its stage, what it holds, what it was told, how many records have been taken, what it has -/
structure Thr (n E0 : Nat) (τ0 me : Int) (st : Nat) (h : Int) (ns : List Int) (k : Nat) (own : Int) : Prop where
  st4 : st < 4
  tree : (st = 2 → h ≠ 0) → ∃ km, km ≤ k ∧ (epochT 3 me (kindS st) h FS).Deep ns ∧ Saf n E0 τ0 me (kindS st = 6) (PostS (kindS st) h) ((epochT 3 me (kindS st) h FS).after ns) km own
  h0 : st ≠ 2 → h = 0
  eq : st ≠ 1 → own = h
  rng : 0 ≤ own ∧ own ≤ (k : Int)
  log : st = 2 → h = 0 → ns = []
theorem after_nil {α : Type} (T : PT α) : T.after [] = T := by cases T <;> rfl
theorem deep_nil {α : Type} (T : PT α) : T.Deep [] := by cases T <;> trivial
section
variable {n E0 : Nat} {τ0 me : Int}
theorem Thr.mono {st k k' : Nat} {h own : Int} {ns : List Int} (t : Thr n E0 τ0 me st h ns k own) (hk : k ≤ k') : Thr n E0 τ0 me st h ns k' own :=
  ⟨t.st4, fun hs => let ⟨km, h1, h2, h3⟩ := t.tree hs; ⟨km, by omega, h2, h3⟩, t.h0, t.eq, ⟨t.rng.1, by have := t.rng.2; omega⟩, t.log⟩
theorem Thr.hrng {st k : Nat} {h own : Int} {ns : List Int} (t : Thr n E0 τ0 me st h ns k own) : 0 ≤ h ∧ h ≤ (k : Int) := by
  by_cases e : st = 1
  · have := t.h0 (by omega); omega
  · have := t.eq e; have := t.rng; omega
theorem Thr.new (hn : n ≤ 5) (he : E0 ≤ 100) (hm : 1 ≤ me ∧ me ≤ 2) (hn1 : 1 ≤ n) {st k : Nat} {h : Int} (hst : st < 4) (h0 : st ≠ 2 → h = 0) (h1 : 0 ≤ h) (h2 : h ≤ (k : Int)) (hk : k ≤ n) : Thr n E0 τ0 me st h [] k h :=
  ⟨hst, fun hs => ⟨k, Nat.le_refl _, deep_nil _, by
    rw [after_nil]
    refine epochT_saf hn he hm hn1 FS k (kindS st) h ?_ ?_ ?_
    · obtain rfl | rfl | rfl | rfl : st = 0 ∨ st = 1 ∨ st = 2 ∨ st = 3 := by omega
      all_goals simp [kindS]
    · intro h6
      refine h0 fun e => ?_
      subst e
      simp [kindS] at h6
    · intro h5
      have e : st = 2 := by
        obtain rfl | rfl | rfl | rfl : st = 0 ∨ st = 1 ∨ st = 2 ∨ st = 3 := by omega
        all_goals simp [kindS] at h5 ⊢
      have := hs e
      omega⟩, h0, fun _ => rfl, ⟨h1, h2⟩, fun _ _ => rfl⟩
theorem fed_deep {α : Type} : ∀ {T : PT α} {l : List Int} {m : Nat}, T.Fed m → T.Deep l → l.length ≤ m → T.after l ≠ .out
  | .ret a, [], m, _, _, _ => by simp [PT.after]
  | .ret a, _ :: _, m, _, hd, _ => hd.elim
  | .out, l, m, h, _, _ => by cases m <;> exact h.elim
  | .ask x k, [], m, _, _, _ => by simp [PT.after]
  | .ask x k, v :: l, 0, _, _, hl => by simp at hl
  | .ask x k, v :: l, m + 1, h, hd, hl => by
    simp only [PT.after]
    exact fed_deep (T := k v) (l := l) (m := m) (h v) hd (by simpa using hl)
/-- what a thread asks next, or answers -/
theorem Thr.step {st k : Nat} {h own : Int} {ns : List Int} {X : WldK} (t : Thr n E0 τ0 me st h ns k own) (hs : st = 2 → h ≠ 0) (hX : Shr n E0 τ0 X k) (hl : ns.length < FS) (hu : U64s ns) :
    (∃ o, nextT (epochT 3 me (kindS st) h FS) ns = .done o ∧ (st = 1 → o.n = own)) ∨
    (∃ (a : Ask) (k' : Nat) (own' : Int), nextT (epochT 3 me (kindS st) h FS) ns = .stop a.acc ∧ a.Ok ∧ ((k' = k ∧ own' = own) ∨ (st = 1 ∧ own = 0 ∧ k' = k + 1 ∧ own' = (k : Int) + 1)) ∧ U64 (doR X a.K false).N ∧ Shr n E0 τ0 (doK X me a.K false) k' ∧ Thr n E0 τ0 me st h (ns ++ [(doR X a.K false).N]) k' own') := by
  obtain ⟨km, hkm, hd, hsaf⟩ := t.tree hs
  have hok := epochT_ok 3 me (kindS st) h FS (fun _ => by have := t.hrng; have := hX.kn; have := hX.dim.c2; unfold U64; omega)
  have hfed := epochT_fed 3 me (kindS st) h FS ns.length hl
  cases ha : (epochT 3 me (kindS st) h FS).after ns with
  | ret o =>
    left
    rw [ha] at hsaf
    refine ⟨o, ?_, fun e => ?_⟩
    · unfold nextT; rw [PT.run_deep hd ha]
    · subst e
      exact hsaf.1 rfl
  | out => exact absurd ha (fed_deep hfed hd (Nat.le_refl _))
  | ask x c =>
    right
    have hrun := PT.run_after ha
    rw [ha] at hsaf
    obtain ⟨k', own', h1, h2, h3, h4⟩ := hsaf X k hkm hX
    have h1' : (k' = k ∧ own' = own) ∨ (st = 1 ∧ own = 0 ∧ k' = k + 1 ∧ own' = (k : Int) + 1) := by
      rcases h1 with h1 | ⟨h6, h1⟩
      · exact .inl h1
      · refine .inr ⟨?_, h1⟩
        have := t.st4
        obtain rfl | rfl | rfl | rfl : st = 0 ∨ st = 1 ∨ st = 2 ∨ st = 3 := by omega
        all_goals simp [kindS] at h6 ⊢
    refine ⟨x, k', own', ?_, hok.stop hu hrun, h1', h3, h2, ?_⟩
    · unfold nextT; rw [hrun]
    · have hk2 : (k' = k ∨ k' = k + 1) := by omega
      have hq : (st ≠ 1 → own' = h) ∧ 0 ≤ own' ∧ own' ≤ (k' : Int) := by
        have hr := t.rng
        rcases h1' with ⟨rfl, rfl⟩ | ⟨e1, e0, rfl, rfl⟩
        · exact ⟨t.eq, hr⟩
        · exact ⟨fun e => absurd e1 e, by omega, by omega⟩
      refine ⟨t.st4, fun _ => ⟨k', Nat.le_refl _, PT.deep_snoc _ hd ha, ?_⟩, t.h0, hq.1, hq.2, fun e1 e2 => absurd e2 (hs e1)⟩
      rw [PT.after_snoc _ ha]
      exact h4
end
end Go.Proofs.Ytjokaginolpbeaa

namespace Go.Proofs.Ytjokaginolpbeaa
open Go.RowKit

/-! SAFE, in plain: two threads, step by step. -/
def up {α : Type} (f : Nat → α) (i : Nat) (v : α) : Nat → α := fun k => if k = i then v else f k
theorem up_same {α : Type} (f : Nat → α) (i : Nat) (v : α) : up f i v i = v := by simp [up]
theorem up_other {α : Type} (f : Nat → α) {i k : Nat} (v : α) (h : k ≠ i) : up f i v k = f k := by simp [up, h]
theorem up_comp {α β : Type} (F : α → β) (f : Nat → α) (i : Nat) (v : α) : up (fun k => F (f k)) i (F v) = fun k => F (up f i v k) := by
  funext k; unfold up; split <;> rfl
structure SafeP (n E0 : Nat) (τ0 : Int) (X : WldK) (k : Nat) (st : Nat → Nat) (hv own : Nat → Int) (ns : Nat → List Int) (R : List Int) (j : Nat) : Prop where
  shr : Shr n E0 τ0 X k
  thr : ∀ a : Nat, 1 ≤ a → a ≤ 2 → Thr n E0 τ0 (a : Int) (st a) (hv a) (ns a) k (own a)
  len : ∀ a : Nat, (ns a).length ≤ j
  u : ∀ a : Nat, U64s (ns a)
  ne : ∀ a b : Nat, 1 ≤ a → a ≤ 2 → 1 ≤ b → b ≤ 2 → a ≠ b → own a = own b → own a = 0
  ret : ∀ x ∈ R, 1 ≤ x ∧ x ≤ (k : Int)
  fly : ∀ a : Nat, 1 ≤ a → a ≤ 2 → st a = 1 → own a ≠ 0 → own a ∉ R
section
variable {n E0 : Nat} {τ0 : Int} {X : WldK} {k : Nat} {st : Nat → Nat} {hv own : Nat → Int} {ns : Nat → List Int} {R : List Int} {j : Nat} (hn : n ≤ 5) (hn1 : 1 ≤ n) (he : E0 ≤ 100)
include hn hn1 he
/-- a thread's state anew, with no log -/
theorem SafeP.fresh (h : SafeP n E0 τ0 X k st hv own ns R j) {me : Nat} (h1 : 1 ≤ me) (h2 : me ≤ 2) {s' : Nat} {x : Int} (hs : s' < 4) (h0 : s' ≠ 2 → x = 0) (hx0 : 0 ≤ x) (hxk : x ≤ (k : Int)) (hxo : x = 0 ∨ x = own me) : SafeP n E0 τ0 X k (up st me s') (up hv me x) (up own me x) (up ns me []) R j := by
  refine ⟨h.shr, fun a ha1 ha2 => ?_, fun a => ?_, fun a => ?_, fun a b ha1 ha2 hb1 hb2 hab he2 => ?_, h.ret, fun a ha1 ha2 hs1 ho => ?_⟩
  · by_cases e : a = me
    · subst e
      rw [up_same, up_same, up_same, up_same]
      exact Thr.new hn he (by omega) hn1 hs h0 hx0 hxk h.shr.kn
    · rw [up_other _ _ e, up_other _ _ e, up_other _ _ e, up_other _ _ e]
      exact h.thr a ha1 ha2
  · by_cases e : a = me
    · subst e; rw [up_same]; simp
    · rw [up_other _ _ e]; exact h.len a
  · by_cases e : a = me
    · subst e; rw [up_same]; intro y hy; cases hy
    · rw [up_other _ _ e]; exact h.u a
  · by_cases ea : a = me
    · subst ea
      rw [up_same] at he2 ⊢
      rw [up_other _ _ (fun e => hab e.symm)] at he2
      rcases hxo with hxo | hxo
      · exact hxo
      · rw [hxo] at he2 ⊢; exact h.ne a b ha1 ha2 hb1 hb2 hab he2
    · rw [up_other _ _ ea] at he2 ⊢
      by_cases eb : b = me
      · subst eb
        rw [up_same] at he2
        rcases hxo with hxo | hxo
        · rw [he2]; exact hxo
        · rw [hxo] at he2; exact h.ne a b ha1 ha2 hb1 hb2 hab he2
      · rw [up_other _ _ eb] at he2
        exact h.ne a b ha1 ha2 hb1 hb2 hab he2
  · by_cases e : a = me
    · subst e
      rw [up_same] at hs1 ho ⊢
      exact absurd (h0 (by omega)) ho
    · rw [up_other _ _ e] at hs1 ho ⊢
      exact h.fly a ha1 ha2 hs1 ho
/-- nothing to give back: the next stage -/
theorem SafeP.skip (h : SafeP n E0 τ0 X k st hv own ns R j) {me : Nat} (h1 : 1 ≤ me) (h2 : me ≤ 2) (hs : st me = 2) (hh : hv me = 0) : SafeP n E0 τ0 X k (up st me 3) hv own ns R j := by
  have ht := h.thr me h1 h2
  have hl := ht.log hs hh
  have ho := ht.eq (by omega)
  have h3 := h.fresh hn hn1 he h1 h2 (s' := 3) (x := 0) (by omega) (fun _ => rfl) (by omega) (by omega) (.inl rfl)
  have e1 : up hv me 0 = hv := by funext a; unfold up; split; (rename_i e; rw [e, hh]); rfl
  have e2 : up own me 0 = own := by funext a; unfold up; split; (rename_i e; rw [e, ho, hh]); rfl
  have e3 : up ns me [] = ns := by funext a; unfold up; split; (rename_i e; rw [e, hl]); rfl
  rw [e1, e2, e3] at h3
  exact h3
/-- an operation has answered -/
theorem SafeP.done (h : SafeP n E0 τ0 X k st hv own ns R j) {me : Nat} (h1 : 1 ≤ me) (h2 : me ≤ 2) (hs : st me = 2 → hv me ≠ 0) {o : OutN} (hl : (ns me).length < FS)
    (hd : nextT (epochT 3 (me : Int) (kindS (st me)) (hv me) FS) (ns me) = .done o) :
    (st me = 1 → 0 ≤ o.n ∧ o.n ≤ (n : Int) ∧ o.n ∉ R ∧ (0 < o.n → up hv me o.n 1 ≠ up hv me o.n 2) ∧ SafeP n E0 τ0 X k (up st me 2) (up hv me o.n) (up own me o.n) (up ns me []) R j) ∧
    (st me = 2 → SafeP n E0 τ0 X k (up st me 3) (up hv me 0) (up own me 0) (up ns me []) R j) ∧
    (st me = 0 ∨ st me = 3 → SafeP n E0 τ0 X k (up st me ((st me + 1) % 4)) hv (up own me 0) (up ns me []) R j) := by
  have ht := h.thr me h1 h2
  have hr := ht.rng
  have hkn := h.shr.kn
  rcases ht.step hs h.shr hl (h.u me) with ⟨o', hd', ho⟩ | ⟨a, k', own', hst, -⟩
  · rw [hd] at hd'
    obtain rfl := NextE.done.inj hd'
    refine ⟨fun e => ?_, fun e => ?_, fun e => ?_⟩
    · have hon := ho e
      refine ⟨by omega, by omega, fun hm => ?_, fun hp he2 => ?_, ?_⟩
      · rw [hon] at hm
        have := h.ret _ hm
        exact h.fly me h1 h2 e (by omega) hm
      · -- the other one's
        have hb : ∃ b, 1 ≤ b ∧ b ≤ 2 ∧ b ≠ me ∧ hv b = o.n := by
          obtain rfl | rfl : me = 1 ∨ me = 2 := by omega
          · refine ⟨2, by omega, by omega, by omega, ?_⟩
            rw [up_same, up_other _ _ (by omega)] at he2; exact he2.symm
          · refine ⟨1, by omega, by omega, by omega, ?_⟩
            rw [up_same, up_other _ _ (by omega)] at he2; exact he2
        obtain ⟨b, hb1, hb2, hbm, hbv⟩ := hb
        have htb := h.thr b hb1 hb2
        by_cases eb : st b = 1
        · have := htb.h0 (by omega)
          omega
        · have := htb.eq eb
          have h9 := h.ne me b h1 h2 hb1 hb2 (fun e => hbm e.symm) (by omega)
          omega
      · exact h.fresh hn hn1 he h1 h2 (by omega) (fun h => absurd rfl h) (by omega) (by omega) (.inr hon)
    · exact h.fresh hn hn1 he h1 h2 (by omega) (fun _ => rfl) (by omega) (by omega) (.inl rfl)
    · have h0 := ht.h0 (by omega)
      have h3 := h.fresh hn hn1 he h1 h2 (s' := (st me + 1) % 4) (x := 0) (by omega) (fun _ => rfl) (by omega) (by omega) (.inl rfl)
      have e1 : up hv me 0 = hv := by funext a; unfold up; split; (rename_i e; rw [e, h0]); rfl
      rw [e1] at h3; exact h3
  · rw [hd] at hst; cases hst
end
section
variable {n E0 : Nat} {τ0 : Int} {X : WldK} {k : Nat} {st : Nat → Nat} {hv own : Nat → Int} {ns : Nat → List Int} {R : List Int} {j : Nat}
/-- an access of a thread -/
theorem SafeP.stop (h : SafeP n E0 τ0 X k st hv own ns R j) {me : Nat} (h1 : 1 ≤ me) (h2 : me ≤ 2) (hs : st me = 2 → hv me ≠ 0) {x : Acc} (hl : (ns me).length < FS)
    (hd : nextT (epochT 3 (me : Int) (kindS (st me)) (hv me) FS) (ns me) = .stop x) :
    ∃ (a : Ask) (k' : Nat) (own' : Int), x = a.acc ∧ a.Ok ∧ U64 (doR X a.K false).N ∧
      SafeP n E0 τ0 (doK X (me : Int) a.K false) k' st hv (up own me own') (up ns me (ns me ++ [(doR X a.K false).N])) R (j + 1) ∧
      (st me = 2 → SafeP n E0 τ0 (doK X (me : Int) a.K false) k' st hv (up own me own') (up ns me (ns me ++ [(doR X a.K false).N])) (R ++ [hv me]) (j + 1)) := by
  have ht := h.thr me h1 h2
  have hkn := h.shr.kn
  rcases ht.step hs h.shr hl (h.u me) with ⟨o', hd', -⟩ | ⟨a, k', own', hst, hok, hrel, hu, hshr, hthr⟩
  · rw [hd] at hd'; cases hd'
  · rw [hd] at hst
    have hx := NextE.stop.inj hst
    have hk' : k ≤ k' := by rcases hrel with ⟨rfl, -⟩ | ⟨-, -, rfl, -⟩ <;> omega
    have hP : ∀ R', (∀ y ∈ R', 1 ≤ y ∧ y ≤ (k : Int)) → (∀ b, 1 ≤ b → b ≤ 2 → st b = 1 → own b ≠ 0 → own b ∉ R') → SafeP n E0 τ0 (doK X (me : Int) a.K false) k' st hv (up own me own') (up ns me (ns me ++ [(doR X a.K false).N])) R' (j + 1) := fun R' hR hF => by
      refine ⟨hshr, fun b hb1 hb2 => ?_, fun b => ?_, fun b => ?_, fun b c hb1 hb2 hc1 hc2 hbc he2 => ?_, fun y hy => by have := hR y hy; omega, fun b hb1 hb2 hs1 ho => ?_⟩
      · by_cases e : b = me
        · subst e; rw [up_same, up_same]; exact hthr
        · rw [up_other _ _ e, up_other _ _ e]; exact (h.thr b hb1 hb2).mono hk'
      · by_cases e : b = me
        · subst e; rw [up_same]; have := h.len b; simp; omega
        · rw [up_other _ _ e]; have := h.len b; omega
      · by_cases e : b = me
        · subst e; rw [up_same]
          intro y hy
          rcases List.mem_append.1 hy with hy | hy
          · exact h.u b y hy
          · rw [List.mem_singleton.1 hy]; exact hu
        · rw [up_other _ _ e]; exact h.u b
      · have key : ∀ c, 1 ≤ c → c ≤ 2 → c ≠ me → own' = own c → own' = 0 := fun c hc1 hc2 hcm hoc => by
          rcases hrel with ⟨-, e⟩ | ⟨-, -, -, e⟩
          · rw [e] at hoc ⊢; exact h.ne me c h1 h2 hc1 hc2 (fun e => hcm e.symm) hoc
          · have := (h.thr c hc1 hc2).rng
            omega
        by_cases eb : b = me
        · subst eb
          rw [up_same] at he2 ⊢
          rw [up_other _ _ (fun e => hbc e.symm)] at he2
          exact key c hc1 hc2 (fun e => hbc e.symm) he2
        · rw [up_other _ _ eb] at he2 ⊢
          by_cases ec : c = me
          · subst ec
            rw [up_same] at he2
            have := key b hb1 hb2 eb he2.symm
            omega
          · rw [up_other _ _ ec] at he2
            exact h.ne b c hb1 hb2 hc1 hc2 hbc he2
      · by_cases e : b = me
        · subst e
          rw [up_same] at ho ⊢
          rcases hrel with ⟨-, e⟩ | ⟨-, -, -, e⟩
          · rw [e] at ho ⊢; exact hF b hb1 hb2 hs1 ho
          · intro hm
            have := hR _ hm
            omega
        · rw [up_other _ _ e] at ho ⊢
          exact hF b hb1 hb2 hs1 ho
    refine ⟨a, k', own', hx, hok, hu, hP R h.ret h.fly, fun e => hP _ (fun y hy => ?_) (fun b hb1 hb2 hs1 ho hm => ?_)⟩
    · rcases List.mem_append.1 hy with hy | hy
      · exact h.ret y hy
      · rw [List.mem_singleton.1 hy]
        have := ht.hrng
        have := hs e
        omega
    · rcases List.mem_append.1 hm with hm | hm
      · exact h.fly b hb1 hb2 hs1 ho hm
      · have hm := List.mem_singleton.1 hm
        have h3 := ht.eq (by omega)
        have hbm : b ≠ me := fun e2 => by subst e2; omega
        exact ho (h.ne b me hb1 hb2 h1 h2 hbm (by omega))
end
/-! Boxes of three cells, of which one turns. -/
def C3 (w : World) (g : Nat) (T : TypeId) (f : Nat → Value) : Prop := w.heap[g]? = some (.cells #[f 0, f 1, f 2] T (0, 0))
theorem C3.at {w : World} {g : Nat} {T : TypeId} {f : Nat → Value} (h : C3 w g T f) {i : Nat} (hi : i < 3) : w.cell? ⟨g, i, none⟩ = some (f i) ∧ w.frozen? ⟨g, i, none⟩ = false := by
  unfold C3 at h
  obtain rfl | rfl | rfl : i = 0 ∨ i = 1 ∨ i = 2 := by omega
  all_goals exact ⟨by simp [World.cell?, h], by simp [World.frozen?, h]⟩
theorem C3.keep {w w' : World} {g : Nat} {T : TypeId} {f : Nat → Value} (h : C3 w g T f) (hk : ∀ o, w.heap[g]? = some o → w'.heap[g]? = some o) : C3 w' g T f := hk _ h
theorem C3.ext {w w' : World} {g : Nat} {T : TypeId} {f : Nat → Value} (h : C3 w g T f) (hx : Ext w w') : C3 w' g T f := heap_ext h hx
theorem C3.set {w : World} {g : Nat} {T : TypeId} {f : Nat → Value} (h : C3 w g T f) {i : Nat} (hi : i < 3) (v : Value) : C3 (w.setCell ⟨g, i, none⟩ v) g T (up f i v) := by
  unfold C3 at h ⊢
  have h2 : w.heap[g]? = some (.cells ([f 0, f 1, f 2] : List Value).toArray T (0, 0)) := h
  rw [heap_setCell_at h2]
  obtain rfl | rfl | rfl : i = 0 ∨ i = 1 ∨ i = 2 := by omega
  all_goals simp [up]
theorem C3.ints (w : World) (g : Nat) (T : TypeId) (f : Nat → Int) (h : C3 w g T fun i => .int .i64 (f i)) : ∃ cs : List Value, w.heap[g]? = some (.cells cs.toArray T (0, 0)) ∧ boxish cs = true := ⟨_, h, rfl⟩
theorem SafeP.le {n E0 : Nat} {τ0 : Int} {X : WldK} {k : Nat} {st : Nat → Nat} {hv own : Nat → Int} {ns : Nat → List Int} {R : List Int} {j j' : Nat} (h : SafeP n E0 τ0 X k st hv own ns R j) (hj : j ≤ j') : SafeP n E0 τ0 X k st hv own ns R j' := ⟨h.shr, h.thr, fun a => Nat.le_trans (h.len a) hj, h.u, h.ne, h.ret, h.fly⟩
theorem kinds_at {w : World} {g s : Nat} {T : TypeId} (h : w.heap[g]? = some (.cells #[.int .i64 3, .int .i64 6, .int .i64 5, .int .i64 4] T (0, 0))) (hs : s < 4) : w.cell? ⟨g, s, none⟩ = some (.int .i64 (kindS s)) := by
  obtain rfl | rfl | rfl | rfl : s = 0 ∨ s = 1 ∨ s = 2 ∨ s = 3 := by omega
  all_goals simp [World.cell?, h, kindS]
theorem kind5 {s : Nat} (hs : s < 4) : (kindS s == 5) = decide (s = 2) := by
  obtain rfl | rfl | rfl | rfl : s = 0 ∨ s = 1 ∨ s = 2 ∨ s = 3 := by omega
  all_goals rfl
theorem kind6 {s : Nat} (hs : s < 4) : (kindS s == 6) = decide (s = 1) := by
  obtain rfl | rfl | rfl | rfl : s = 0 ∨ s = 1 ∨ s = 2 ∨ s = 3 := by omega
  all_goals rfl
theorem BoxW.but3 {w w' : World} {g gw : Nat} {X : WldK} (h : BoxW w gw X) (hb : But g w w') {cs : List Value} {T : TypeId} {fr : Nat × Nat} (hg : w.heap[g]? = some (.cells cs.toArray T fr)) (hx : boxish cs = true) (hn : gw ≠ g) (hl : 2 ≤ X.ws.length) : BoxW w' gw X := by
  obtain ⟨v, h1, h2⟩ := h
  exact ⟨v, hb _ _ hn h1, h2.but hl hb hg hx⟩
theorem lg_forms {w : World} {gs : Nat} {lg : Nat → Value} {rs : Nat → List Res} (hl : ∀ a, ResOwn w gs (lg a) (rs a).length (rs a)) : ∀ a, ∃ A n c, lg a = .slice A n c := fun a => by
  rcases (hl a).2 with ⟨e, -⟩ | ⟨q, cap, l, e, -⟩
  · exact ⟨_, _, _, e⟩
  · exact ⟨_, _, _, e⟩
theorem lg_box {w : World} {g : Nat} {T : TypeId} {lg : Nat → Value} (h : C3 w g T lg) (hf : ∀ a, ∃ A n c, lg a = .slice A n c) : ∃ cs : List Value, w.heap[g]? = some (.cells cs.toArray T (0, 0)) ∧ boxish cs = true := by
  obtain ⟨A0, n0, c0, e0⟩ := hf 0
  obtain ⟨A1, n1, c1, e1⟩ := hf 1
  obtain ⟨A2, n2, c2, e2⟩ := hf 2
  unfold C3 at h
  rw [e0, e1, e2] at h
  exact ⟨_, h, rfl⟩
theorem set_ext {w0 w : World} {g i : Nat} {v : Value} (h : Ext w0 w) (hg : w0.heap.size ≤ g) : Ext w0 (w.setCell ⟨g, i, none⟩ v) := setAll_ext (g := g) (vs := [v]) (i := i) h hg
theorem up_map {rs : Nat → List Res} {me : Nat} {l : List Res} : (fun a => (up rs me l a).map Res.n) = up (fun a => (rs a).map Res.n) me (l.map Res.n) := by
  funext a; unfold up; split <;> rfl
theorem log_up {w : World} {gs me : Nat} {lg : Nat → Value} {rs : Nat → List Res} {v : Value} {l : List Res} (h : ∀ a, a ≠ me → ResOwn w gs (lg a) (rs a).length (rs a)) (hv : ResOwn w gs v l.length l) : ∀ a, ResOwn w gs (up lg me v a) (up rs me l a).length (up rs me l a) := fun a => by
  by_cases e : a = me
  · subst e; rw [up_same, up_same]; exact hv
  · rw [up_other _ _ e, up_other _ _ e]; exact h a e
theorem good_up {rs : Nat → List Res} {me : Nat} {l : List Res} (h : ∀ a, GoodR (rs a)) (hl : GoodR l) : ∀ a, GoodR (up rs me l a) := fun a => by
  by_cases e : a = me
  · subst e; rw [up_same]; exact hl
  · rw [up_other _ _ e]; exact h a
theorem ne_up {lg : Nat → Value} {me : Nat} {v : Value} (h : ∀ a b : Nat, a ≠ b → ∀ g, (lg a).ownBlock = some g → (lg b).ownBlock ≠ some g) (hv : ∀ b, b ≠ me → ∀ g, v.ownBlock = some g → (lg b).ownBlock ≠ some g) : ∀ a b : Nat, a ≠ b → ∀ g, (up lg me v a).ownBlock = some g → (up lg me v b).ownBlock ≠ some g := fun a b hab g h1 h2 => by
  by_cases ea : a = me
  · subst ea
    rw [up_same] at h1
    rw [up_other _ _ (fun e => hab e.symm)] at h2
    exact hv b (fun e => hab e.symm) g h1 h2
  · rw [up_other _ _ ea] at h1
    by_cases eb : b = me
    · subst eb
      rw [up_same] at h2
      exact hv a ea g h2 h1
    · rw [up_other _ _ eb] at h2
      exact h a b hab g h1 h2
theorem run_append_res2 {P : Program} {w : World} (base : Nat) (t ty : TypeId) (i : TypeInfo) (ht : P.underlying t = some (.slice 59)) (hi : P.info? 59 = some i) (hz : i.zero = some (.agg #[.int .u64 0, .slice none 0 0, .bool false])) (hsize : i.size = 3) (hby : i.bytes = 40)
    (v : Value) (n : Nat) (rs : List Res) (hown : ResOwn w base v n rs) (a : Addr) (c : Nat) (r : Res) (hnews : ∀ j u, (resCells [r])[j]? = some u → w.cell? (a.add j) = some u) (hn : n + 1 ≤ 1000) (hbase : base ≤ w.heap.size) :
    ∃ v' w', (Builtin.append_ #[t, t] ty #[v, .slice (some a) 1 c]).run P w = .ok v' w' ∧ ResOwn w' base v' (n + 1) (rs ++ [r]) ∧ w.grownBy w' v.ownBlock ∧ (v'.ownBlock = v.ownBlock ∨ v'.ownBlock = some w.heap.size) := by
  have hl1 : (resCells [r]).length = 1 * i.size := by rw [hsize, resCells_length]; rfl
  have h1 := resCells_one [r]
  have hlen : (rs ++ [r]).length = n + 1 := by rw [List.length_append, hown.1]; rfl
  have grown : ∀ (old : Nat), old < n + 1 → ∀ (row : Option Nat),
      ResOwn (w.drew.alloc (.cells ((resCells rs).toArray ++ (resCells [r]).toArray ++ Builtin.zeroCells #[.int .u64 0, .slice none 0 0, .bool false] (grownCap w (n + 1) old 59 - (n + 1))) 59)) base
        (.slice (some ⟨w.heap.size, 0, none⟩) (n + 1) (grownCap w (n + 1) old 59)) (n + 1) (rs ++ [r]) ∧
      w.grownBy (w.drew.alloc (.cells ((resCells rs).toArray ++ (resCells [r]).toArray ++ Builtin.zeroCells #[.int .u64 0, .slice none 0 0, .bool false] (grownCap w (n + 1) old 59 - (n + 1))) 59)) row := by
    intro old ho row
    have hge := grownCap_ge w (n + 1) old 59
    have hcm : grownCap w (n + 1) old 59 ≤ maxLen := grownCap_le_maxLen w (n + 1) old _ (by simp only [maxLen]; omega)
    refine ⟨⟨hlen, .inr ⟨w.heap.size, _, (rs ++ [r]) ++ List.replicate (grownCap w (n + 1) old 59 - (n + 1)) ⟨0, none, 0, 0, false⟩, rfl, hbase, ?_, hge, hcm, ?_, ?_⟩⟩, ⟨rfl, rfl, rfl, by simp, fun k hk _ => heap_alloc_old w.drew _ hk⟩⟩
    · have e : ((resCells rs).toArray ++ (resCells [r]).toArray ++ Builtin.zeroCells #[.int .u64 0, .slice none 0 0, .bool false] (grownCap w (n + 1) old 59 - (n + 1))) = (resCells ((rs ++ [r]) ++ List.replicate (grownCap w (n + 1) old 59 - (n + 1)) ⟨0, none, 0, 0, false⟩)).toArray := by
        rw [resCells_append, resCells_append, ← zero_res]
        simp
      rw [e]
      exact heap_alloc_new w.drew _
    · rw [List.length_append, hlen, List.length_replicate]; omega
    · rw [← hlen]; exact List.take_left
  rcases hown.2 with ⟨rfl, rfl⟩ | ⟨g, cap, l, rfl, hbg, hg, hnc, hcm, hcl, htake⟩
  · have hx : rs = [] := List.eq_nil_of_length_eq_zero hown.1
    subst hx
    have hr := run_append_nil (P := P) w t ty 59 i _ ht hi hz a 1 c (resCells [r]) hl1 hnews (by omega) (by omega) (by rw [hby]; omega)
    have hgr := grown 0 (by omega) (Value.ownBlock (.slice none 0 0))
    simp only [Nat.zero_add, resCells, List.flatMap_nil, Array.empty_append] at hgr hr ⊢
    exact ⟨_, _, hr, hgr.1, hgr.2, .inr rfl⟩
  · by_cases hroom : n + 1 ≤ cap
    · have hfit : n * i.size + (resCells [r]).length ≤ (resCells l).toArray.size := by rw [hl1, hsize, List.size_toArray, resCells_length, hcl]; omega
      have hr := run_append_room (P := P) w t ty 59 i ht hi g n cap _ hg a 1 c (resCells [r]) hl1 hnews h1 hroom hfit
      have e : ((resCells l).take (n * i.size) ++ resCells [r] ++ (resCells l).drop (n * i.size + (resCells [r]).length)) = resCells ((rs ++ [r]) ++ l.drop (n + 1)) := by
        rw [hl1, hsize, show n * 3 + 1 * 3 = (n + 1) * 3 by omega, resCells_take, resCells_drop, htake, resCells_append, resCells_append]
      rw [List.toList_toArray, e] at hr
      refine ⟨_, _, hr, ⟨hlen, .inr ⟨g, cap, _, rfl, hbg, setRow_heap w g _ _ _ _ hg, hroom, hcm, ?_, ?_⟩⟩, ⟨rfl, rfl, rfl, by simp, fun k _ hk => setRow_other w g k _ (fun e => hk (by simp [Value.ownBlock, e]))⟩, .inl rfl⟩
      · rw [List.length_append, hlen, List.length_drop]; omega
      · rw [← hlen]; exact List.take_left
    · have holds : ∀ j u, (resCells rs)[j]? = some u → w.cell? ((⟨g, 0, none⟩ : Addr).add j) = some u := fun j u hj => by
        rw [← htake, ← resCells_take, List.getElem?_take] at hj
        split at hj
        · obtain ⟨a', ha, hc⟩ := cells_heap hg (fun e => by rw [e] at hj; simp at hj)
          cases ha
          exact hc j u hj
        · cases hj
      have hr := run_append_grow (P := P) w t ty 59 i _ ht hi hz ⟨g, 0, none⟩ n cap (resCells rs) (by rw [hsize, resCells_length, hown.1]) holds a 1 c (resCells [r]) hl1 hnews (by omega) (by omega) (growslice_fits (by omega) (by rw [hby]; omega))
      have hgr := grown cap (by omega) (Value.ownBlock (.slice (some ⟨g, 0, none⟩) n cap))
      exact ⟨_, _, hr, hgr.1, hgr.2, .inr rfl⟩
theorem wpList_append_res2 {P : Program} {ops : Array Oper} {rest : List Oper} {o : Oper} {a : Act} {Q : Exit → Act → World → Prop} {w : World} (hgd : o.guard = none) (s x : Operand) (t : TypeId)
    (ho : o.op = .call { callee := .builtin .append, args := #[s, x], argTypes := #[t, t] }) (base : Nat) (i : TypeInfo) (ht : P.underlying t = some (.slice 59)) (hi : P.info? 59 = some i) (hz : i.zero = some (.agg #[.int .u64 0, .slice none 0 0, .bool false])) (hsize : i.size = 3) (hby : i.bytes = 40)
    (v : Value) (n : Nat) (rs : List Res) (hs : a.eval s = v) (hown : ResOwn w base v n rs) (ad : Addr) (c : Nat) (r : Res) (hx : a.eval x = .slice (some ad) 1 c) (hnews : ∀ j u, (resCells [r])[j]? = some u → w.cell? (ad.add j) = some u) (hn : n + 1 ≤ 1000) (hbase : base ≤ w.heap.size)
    (h : ∀ v' w', ResOwn w' base v' (n + 1) (rs ++ [r]) → w.grownBy w' v.ownBlock → (v'.ownBlock = v.ownBlock ∨ v'.ownBlock = some w.heap.size) → wpList P ops Q rest (a.put o.dst v') w') : wpList P ops Q (o :: rest) a w := by
  obtain ⟨v', w', hr, h2, h3, h4⟩ := run_append_res2 (P := P) (w := w) base t o.type i ht hi hz hsize hby v n rs hown ad c r hnews hn hbase
  refine wpList_plain hgd fun _ hK => ?_
  unfold Oper.wp execOp
  simp only [ho, resolve, invoke, builtin, Sem.run_bind, Sem.run_pure, Result.andThen_ok, List.map_toArray, List.map_cons, List.map_nil, hs, hx, hr]
  exact hK _ _ (h v' w' h2 h3 h4)
theorem ResOwn.grownO {w w' : World} {base : Nat} {v u : Value} {n : Nat} {rs : List Res} (h : ResOwn w base v n rs) (hg : w.grownBy w' u.ownBlock) (hne : ∀ g, v.ownBlock = some g → u.ownBlock ≠ some g) : ResOwn w' base v n rs := by
  refine ⟨h.1, ?_⟩
  rcases h.2 with h2 | ⟨g, cap, l, e, hb, hh, h3⟩
  · exact .inl h2
  · refine .inr ⟨g, cap, l, e, hb, ?_, h3⟩
    rw [hg.block g (Array.getElem?_eq_some_iff.1 hh).1 (fun e2 => hne g (by rw [e]; rfl) e2.symm)]; exact hh
theorem ResOwn.lt {w : World} {base : Nat} {v : Value} {n : Nat} {rs : List Res} (h : ResOwn w base v n rs) {g : Nat} (hg : v.ownBlock = some g) : base ≤ g ∧ g < w.heap.size := by
  rcases h.2 with ⟨rfl, _⟩ | ⟨q, cap, l, rfl, hb, hh, _⟩
  · simp [Value.ownBlock] at hg
  · simp only [Value.ownBlock] at hg; injection hg with hg; subst hg; exact ⟨hb, (Array.getElem?_eq_some_iff.1 hh).1⟩
/-- a row of ints past one of results that grows -/
theorem IntOwn.past {w w' : World} {base : Nat} {v u : Value} {n : Nat} {l : List Int} {m : Nat} {rs : List Res} (h : IntOwn w base v n l) (hr : ResOwn w base u m rs) (hg : w.grownBy w' u.ownBlock) : IntOwn w' base v n l := by
  refine h.grown hg fun g h1 h2 => ?_
  rcases hr.2 with ⟨rfl, _⟩ | ⟨q, cap, k, rfl, hb, hh, _⟩
  · simp [Value.ownBlock] at h2
  · simp only [Value.ownBlock] at h2; injection h2 with h2; subst h2
    exact h.ne_box hh (by decide) h1
/-- a row of results past one of ints that grows -/
theorem ResOwn.past {w w' : World} {base : Nat} {v u : Value} {n : Nat} {rs : List Res} {m : Nat} {l : List Int} (h : ResOwn w base v n rs) (hi : IntOwn w base u m l) (hg : w.grownBy w' u.ownBlock) : ResOwn w' base v n rs := by
  refine h.grownO hg fun g h1 h2 => ?_
  rcases h.2 with ⟨rfl, _⟩ | ⟨q, cap, k, rfl, hb, hh, _⟩
  · simp [Value.ownBlock] at h1
  · simp only [Value.ownBlock] at h1; injection h1 with h1; subst h1
    exact hi.ne_box hh (by decide) h2
end Go.Proofs.Ytjokaginolpbeaa

namespace Go.Proofs.Ytjokaginolpbeaa
open Go.RowKit

/-! wealdref13.In: is a number in a row? -/
set_option maxRecDepth 100000 in
theorem rin_any (l : List Int) (A : Option Addr) (n c : Nat) (x : Int) (w : World) (hl : l.length = n) (hn : n ≤ 1000000) (hA : Cells w A (intCells l)) :
    Calls Try.prog 23 #[.slice A n c, .int .i64 x] w fun e w' => e = .returned (.bool (decide (x ∈ l))) ∧ Ext w w' := by
  go_enter Try.func23, Try.ntmps23
  go_wp2
  go_loopw [5] (fun iv wr => ∃ j : Nat, iv = .int .i64 (j : Int) ∧ j ≤ n ∧ (∀ (k : Nat) (y : Int), k < j → l[k]? = some y → y ≠ x) ∧ Ext w wr) (fun iv _ => n - (intOf iv).toNat)
  case atStart => exact ⟨0, rfl, Nat.zero_le _, fun k y hk => by omega, Ext.refl _⟩
  case round =>
    obtain ⟨j, rfl, hj, hall, hx⟩ := hrel
    rcases Nat.lt_or_ge j n with hjn | hjn
    · obtain ⟨y, hy⟩ : ∃ y, l[j]? = some y := ⟨_, List.getElem?_eq_getElem (by omega)⟩
      obtain ⟨a, rfl, hc⟩ := hA (fun e => by
        have := intCells_length l
        rw [e] at this; simp at this; omega)
      have hcj := hx.cell (hc j _ (intCells_at hy))
      have hjI : (j : Int) < (n : Int) := by omega
      have hall2 : y ≠ x → ∀ (k : Nat) (y' : Int), k < j + 1 → l[k]? = some y' → y' ≠ x := fun hne k y' hk hy' => by
        rcases Nat.lt_or_ge k j with h | h
        · exact hall k y' h hy'
        · obtain rfl : k = j := by omega
          rw [hy] at hy'; injection hy' with hy'; subst hy'; exact hne
      have hmem : y = x → x ∈ l := fun e => by subst e; exact List.mem_of_getElem? hy
      clear hall hy hA hc
      by_cases hyx : y = x
      · have hd : decide (x ∈ l) = true := decide_eq_true (hmem hyx)
        clear hmem hall2
        have HD := Lib.hid hd
        clear hd
        subst hyx
        go_wp2
        go_ret
        exact ⟨by rw [HD.out]; rfl, hx⟩
      · have hall3 := hall2 hyx
        clear hmem hall2
        go_wp2
        go_roundw
        case rel => exact ⟨j + 1, by go_num, by omega, hall3, hx⟩
        case measure => simp [intOf]; omega
    · obtain rfl : j = n := by omega
      have hd : decide (x ∈ l) = false := decide_eq_false fun hm => by
        obtain ⟨k, hk⟩ := List.getElem?_of_mem hm
        have hkl := (List.getElem?_eq_some_iff.1 hk).1
        exact hall k x (by omega) hk rfl
      have HD := Lib.hid hd
      clear hd hall hA
      have hjI : ¬ (j : Int) < (j : Int) := by omega
      go_wp2
      go_ret
      exact ⟨by rw [HD.out]; rfl, hx⟩
end Go.Proofs.Ytjokaginolpbeaa

namespace Go.Proofs.Ytjokaginolpbeaa
open Go.RowKit

/-! A region that draws its order, in which several operations that turn nothing may come behind stores of the tail: they are taken first. -/
section
variable {P : Program} {ops : Array Oper} {Q : Exit → Act → World → Prop}
def bitsOf : List Nat → Nat
  | [] => 0
  | L :: r => 2 ^ L ||| bitsOf r
theorem bitsOf_spec : ∀ {l : List Nat} {i : Nat}, (bitsOf l).testBit i = true → i ∈ l
  | [], i, h => by simp [bitsOf] at h
  | L :: r, i, h => by
    simp only [bitsOf, Nat.testBit_or, Bool.or_eq_true] at h
    rcases h with h | h
    · rw [Nat.testBit_two_pow] at h
      rw [of_decide_eq_true h]; simp
    · exact List.mem_cons_of_mem _ (bitsOf_spec h)
def tailMB (M : List Nat) (n : Nat) (LL : List Nat) : Nat → List Row → Bool
  | _, [] => true
  | k, _ :: rs => (decide (k < n) || (M.getD k 0 ||| bitsOf LL) &&& (2 ^ k - 1) == 2 ^ k - 1) && tailMB M n LL (k + 1) rs
/-- of the tail alone: each waits for all of the tail ahead of it -/
def tailTB (M : List Nat) (n : Nat) : Nat → List Row → Bool
  | _, [] => true
  | k, _ :: rs => (decide (k < n) || ((List.range k).all fun i => decide (i < n) || waits M k i)) && tailTB M n (k + 1) rs
def sureMB (S : List Row) (M : List Nat) (n m : Nat) (LL : List Nat) : Bool :=
  decide (n ≤ S.length) && (LL.all fun L => decide (L < n)) && sureB S M S.length m && tailMB M n LL 0 S && tailTB M n 0 S
theorem tailM_spec {M : List Nat} {n : Nat} {LL : List Nat} : ∀ (S : List Row) (k0 : Nat), tailMB M n LL k0 S = true → ∀ k, k < S.length → n ≤ k0 + k → ∀ i, i < k0 + k → waits M (k0 + k) i = true ∨ i ∈ LL
  | [], _, _, k, h => by simp at h
  | x :: S, k0, hB, k, h => by
    simp only [tailMB, Bool.and_eq_true, Bool.or_eq_true, decide_eq_true_eq, beq_iff_eq] at hB
    cases k with
    | zero =>
      intro hn i hi
      rcases hB.1 with h1 | h1
      · omega
      · have h2 := congrArg (fun q => Nat.testBit q i) h1
        simp only [Nat.testBit_and, Nat.testBit_or, Nat.testBit_two_pow_sub_one] at h2
        rw [Nat.add_zero] at hi ⊢
        simp only [hi, decide_true, Bool.and_true, Bool.or_eq_true] at h2
        rcases h2 with h2 | h2
        · exact .inl h2
        · exact .inr (bitsOf_spec h2)
    | succ k =>
      intro hn i hi
      have := tailM_spec S (k0 + 1) hB.2 k (by simpa using h) (by omega) i (by omega)
      rw [show k0 + (k + 1) = k0 + 1 + k by omega]
      exact this
theorem tailT_spec {M : List Nat} {n : Nat} : ∀ (S : List Row) (k0 : Nat), tailTB M n k0 S = true → ∀ k, k < S.length → n ≤ k0 + k → ∀ i, n ≤ i → i < k0 + k → waits M (k0 + k) i = true
  | [], _, _, k, h => by simp at h
  | x :: S, k0, hB, k, h => by
    simp only [tailTB, Bool.and_eq_true, Bool.or_eq_true, decide_eq_true_eq, List.all_eq_true, List.mem_range] at hB
    cases k with
    | zero =>
      intro hn i hi hik
      rcases hB.1 with h1 | h1
      · omega
      · rcases h1 i (by omega) with h2 | h2
        · omega
        · simpa using h2
    | succ k =>
      intro hn i hi hik
      have := tailT_spec S (k0 + 1) hB.2 k (by simpa using h) (by omega) i hi (by omega)
      rw [show k0 + (k + 1) = k0 + 1 + k by omega]
      exact this
theorem wpAny_lates {C : Cfg} {Gs : List Good} {a0 : Act} {w0 : World} {n m : Nat} {LL : List Nat} (S : SureB ops C.M ops.size m) (hnN : n ≤ ops.size) (hLn : ∀ L ∈ LL, L < n) (hW : C.W = []) (hfree : ∀ L ∈ LL, lateFree ops C.M L = true) (hsel : Region.noSelect ops = true)
    (htail : ∀ k i, n ≤ k → k < ops.size → i < k → waits C.M k i = true ∨ i ∈ LL)
    (hS : ops.toList.map rowOf = C.S) (hm : a0.tmps.size = m) (hst : ∀ j v w w', good Gs j v w → Ext w w' → good Gs j v w')
    (hfr : ∀ j, C.F.getD j true = true → ∀ v w w', good Gs j v w → WildR C.E w w' → good Gs j v w')
    (hone : ∀ k o, k < n → ops[k]? = some o → sureOne P C (fun j => Gs.getD j Good.any) a0 w0 k o (Gs.getD k Good.any))
    (hQ : ∀ d v c a w, Q (.panic c) (a.put d v) w → Q (.panic c) a w)
    (hlate : ∀ L ∈ LL, ∀ oL, ops[L]? = some oL → ∀ listed a w, SureInv C ops Gs a0 w0 ops.size listed a w → (∀ j, waits C.M L j = true → listed.getD j false = true) → ∃ v, (∀ w', (execOp a.eval oL).run P w' = .ok (.value v) w') ∧ good Gs L v w)
    (hend : ∀ listed a w, SureInv C ops Gs a0 w0 ops.size listed a w → (∀ t, n ≤ t → listed.getD t false = false) → (∀ i, i < n → listed.getD i false = true) → wpAny P .any ops Q (ops.size - n) listed a w) :
    ∀ (c : Nat) (listed : Array Bool) (a : Act) (w : World), SureInv C ops Gs a0 w0 ops.size listed a w → (∀ t, n ≤ t → listed.getD t false = false) → (List.range n).countP (fun i => !listed.getD i false) = c → wpAny P .any ops Q (c + (ops.size - n)) listed a w
  | 0, listed, a, w, I, hT, hc => by
    rw [Nat.zero_add]
    refine hend listed a w I hT fun i hi => ?_
    have := List.countP_eq_zero.1 hc i (List.mem_range.2 hi)
    simpa using this
  | c + 1, listed, a, w, I, hT, hc => by
    rw [show c + 1 + (ops.size - n) = (c + (ops.size - n)) + 1 by omega]
    have cnt : ∀ k, k < n → listed.getD k false = false → (List.range n).countP (fun i => !(listed.setIfInBounds k true).getD i false) = c := fun k hkn hkun => by
      have hkl : k < listed.size := by rw [I.size]; omega
      have h2 := countP_less (p := fun i => !listed.getD i false) (q := fun i => !(listed.setIfInBounds k true).getD i false) (k := k)
        (by simp only [hkun, Bool.not_false]) (by simp [hkl]) (fun j hj => by simp only [getD_set_ne false (Ne.symm hj)]) n hkn
      omega
    have hT' : ∀ k, k < n → ∀ t, n ≤ t → (listed.setIfInBounds k true).getD t false = false := fun k hk t ht => by rw [getD_set_ne false (by omega)]; exact hT t ht
    by_cases hex : ∃ L, L ∈ LL ∧ L ∈ Region.ready .any ops listed
    · obtain ⟨L, hLL, hLr⟩ := hex
      obtain ⟨hun, o', ho', hall⟩ := mem_ready.1 hLr
      have hLn1 := hLn L hLL
      have dep : ∀ j, waits C.M L j = true → listed.getD j false = true := fun j hw => waits_listed S I.closed L o' ho' hall j hw
      obtain ⟨v, hy, hg⟩ := hlate L hLL o' ho' listed a w I dep
      have hfree1 := hfree L hLL
      simp only [lateFree, ho', Bool.and_eq_true, List.all_eq_true, List.mem_range, Bool.or_eq_true, beq_iff_eq] at hfree1
      have hgd : o'.guard = none := by have := hfree1.1; simpa using this
      refine wpAny_first ho' (Region.noSelect_spec hsel) (hQ o'.dst v) _ listed a w (fun j oj hj hne hunj hno => ?_) hLr (.inl ⟨by simp [Region.wanted, hgd], hy⟩)
        (wpAny_lates S hnN hLn hW hfree hsel htail hS hm hst hfr hone hQ hlate hend c _ _ w (sure_put S hm hW I ho' hLr (by omega) hg) (hT' L hLn1) (cnt L hLn1 (getD_alike hun)))
      have hjs : j < ops.size := (Array.getElem?_eq_some_iff.1 hj).1
      rcases hfree1.2 j hjs with (h1 | h1) | h1
      · exact absurd h1 hne
      · have := getD_alike hunj
        have h2 := dep j h1
        rw [this] at h2; cases h2
      · rw [hj] at h1
        simp only [Bool.or_eq_true] at h1
        rcases h1 with h1 | h1
        · obtain ⟨e, he, hb⟩ := Array.any_eq_true'.1 h1
          simp only [Bool.and_eq_true, beq_iff_eq] at hb
          exact absurd hb.2 (hno e he hb.1)
        · exact h1
    · -- the least one that is still to come
      have hex2 : ∃ i, i < n ∧ listed.getD i false = false ∧ ∀ j, j < i → listed.getD j false = true := by
        have hpos : 0 < (List.range n).countP (fun i => !listed.getD i false) := by omega
        obtain ⟨i, hi, hn⟩ := List.countP_pos_iff.1 hpos
        have key : ∀ i, i < n → listed.getD i false = false → ∃ i, i < n ∧ listed.getD i false = false ∧ ∀ j, j < i → listed.getD j false = true := by
          intro i
          induction i using Nat.strongRecOn with
          | _ i ih =>
            intro h1 h2
            by_cases hall : ∀ j, j < i → listed.getD j false = true
            · exact ⟨i, h1, h2, hall⟩
            · have hne : ∃ j, j < i ∧ listed.getD j false = false := by
                rcases Classical.em (∃ j, j < i ∧ listed.getD j false = false) with h | h
                · exact h
                · exact absurd (fun j hj => by
                    cases hq : listed.getD j false with
                    | true => rfl
                    | false => exact absurd ⟨j, hj, hq⟩ h) hall
              obtain ⟨j, hj, hjf⟩ := hne
              exact ih j hj (by omega) hjf
        exact key i (List.mem_range.1 hi) (by simpa using hn)
      obtain ⟨i, hin, hif, hall⟩ := hex2
      have his : i < ops.size := Nat.lt_of_lt_of_le hin hnN
      have hir : i ∈ Region.ready .any ops listed := by
        refine mem_ready.2 ⟨?_, ops[i], Array.getElem?_eq_getElem his, fun e he hb => hall e.on (S.edge i ops[i] (Array.getElem?_eq_getElem his) e he hb)⟩
        have hil : i < listed.size := by rw [I.size]; exact his
        simp [hil] at hif ⊢; exact hif
      refine ⟨fun h => (by rw [h] at hir; cases hir), fun k hk => ?_⟩
      obtain ⟨hkun, o, ho, hkall⟩ := mem_ready.1 hk
      have hks : k < ops.size := (Array.getElem?_eq_some_iff.1 ho).1
      have hkn : k < n := by
        rcases Nat.lt_or_ge k n with h | h
        · exact h
        · rcases htail k i h hks (by omega) with h2 | h2
          · have h3 := waits_listed S I.closed k o ho hkall i h2
            rw [hif] at h3; cases h3
          · exact absurd ⟨i, h2, hir⟩ hex
      exact wpOp_mono (fun a' w' I' => wpAny_lates S hnN hLn hW hfree hsel htail hS hm hst hfr hone hQ hlate hend c _ a' w' I' (hT' k hkn) (cnt k hkn (getD_alike hkun))) (sure_step S hS hm hst hfr I ho hk (by omega) (hone k o hkn ho))
/-- each of them, wherever it comes -/
def latesOK (P : Program) (S : List Row) (a0 : Act) (l : List Oper) (V : Nat → Good) (w0 : World) : List (Nat × List (Nat × Tmp)) → Prop
  | [] => True
  | q :: r => (∀ w', Ext w0 w' → ∀ ρ, Env ρ → seen V ρ w' q.2 → (∀ t, (S.all fun r => r.1 != some t) = true → ρ (.tmp t) = a0.eval (.tmp t)) → ∀ o, l[q.1]? = some o → ∃ v, (∀ w'', (execOp ρ o).run P w'' = .ok (.value v) w'') ∧ (V q.1).G v w') ∧ latesOK P S a0 l V w0 r
theorem latesOK_at {P : Program} {S : List Row} {a0 : Act} {l : List Oper} {V : Nat → Good} {w0 : World} : ∀ {LJ : List (Nat × List (Nat × Tmp))}, latesOK P S a0 l V w0 LJ → ∀ q ∈ LJ, ∀ w', Ext w0 w' → ∀ ρ, Env ρ → seen V ρ w' q.2 → (∀ t, (S.all fun r => r.1 != some t) = true → ρ (.tmp t) = a0.eval (.tmp t)) → ∀ o, l[q.1]? = some o → ∃ v, (∀ w'', (execOp ρ o).run P w'' = .ok (.value v) w'') ∧ (V q.1).G v w'
  | [], _, q, hq => by cases hq
  | x :: r, h, q, hq => by
    rcases List.mem_cons.1 hq with rfl | hq
    · exact h.1
    · exact latesOK_at h.2 q hq
/-- A REGION THAT DRAWS ITS ORDER, with operations that turn nothing and may come behind stores of the tail -/
theorem wp_region_lates {id : Nat} {a0 : Act} {w : World} {l : List Oper} (LJ : List (Nat × List (Nat × Tmp))) (C : Cfg) (n m : Nat) (js es : List (Nat × Tmp)) (Gs : List Good) (hmix : P.follows .mixedOrders = true)
    (hS : l.map rowOf = C.S) (hB : sureMB C.S C.M n m (LJ.map (·.1)) = true) (hm : a0.tmps.size = m) (hjs : endPairs C.S n = js) (hes : (js.filter fun p => aliveB C p.1) = es) (hF : Gs.map (fun g => g.free C.E) = C.F)
    (hfree : (LJ.all fun q => lateFree l.toArray C.M q.1) = true) (hlook : (LJ.all fun q => q.2.all fun p => waits C.M q.1 p.1 && dstS C.S p.1 == some p.2) = true) (hsel : Region.noSelect l.toArray = true) (hW : C.W = [])
    (hQ : ∀ (d : Tmp) (v : Value) c a w, Q (.panic c) (a.put (some d) v) w → Q (.panic c) a w)
    (hlate : ∀ (V : Nat → Good), places V 0 Gs → latesOK P C.S a0 l V w.drew LJ)
    (h : ∀ (C' : Cfg) (a' : Act) (V : Nat → Good), C' = C → a' = a0 → places V 0 Gs → sureAll P C' V a' w.drew 0 (l.take n))
    (hend : ∀ (xs : Nat → Value) (w' : World), Ext w.drew w' → goods Gs xs w' es → wpList P l.toArray Q (l.drop n) (putAll js xs a0) w') :
    (Code.region id l.toArray true).wp P Q a0 w := by
  have hS' : l.toArray.toList.map rowOf = C.S := by simpa using hS
  simp only [sureMB, Bool.and_eq_true, decide_eq_true_eq] at hB
  obtain ⟨⟨⟨⟨hn1, hLn⟩, hB1⟩, hB2⟩, hB3⟩ := hB
  have hlS : C.S.length = l.toArray.size := by rw [← hS']; simp
  have B := sureB_spec hS' hB1
  rw [hlS] at B
  have hnN : n ≤ l.toArray.size := by omega
  have htail : ∀ k i, n ≤ k → k < l.toArray.size → i < k → waits C.M k i = true ∨ i ∈ LJ.map (·.1) := fun k i h1 h2 h3 => by
    have := tailM_spec C.S 0 hB2 k (by omega) (by omega) i (by omega)
    simpa using this
  have hP0 := places_of Gs Gs 0 (fun j _ => by rw [Nat.zero_add])
  have hone := sureAll_at (l.take n) 0 (h C a0 (fun j => Gs.getD j Good.any) rfl rfl hP0)
  have hst : ∀ j v w w', good Gs j v w → Ext w w' → good Gs j v w' := fun j v w w' h hx => (Gs.getD j Good.any).st v w w' h hx
  have hone' : ∀ k o, k < n → l.toArray[k]? = some o → sureOne P C (fun j => Gs.getD j Good.any) a0 w.drew k o (Gs.getD k Good.any) := fun k o hk ho => by
    have := hone k o (by rw [List.getElem?_take]; simp [hk]; simpa using ho)
    simpa using this
  have hfr : ∀ j, C.F.getD j true = true → ∀ v w w', good Gs j v w → WildR C.E w w' → good Gs j v w' := fun j hj v w w' hg hx => by
    refine (Gs.getD j Good.any).fr C.E ?_ v w w' hg hx
    rw [← hF] at hj
    rcases Nat.lt_or_ge j Gs.length with h' | h'
    · simp [h'] at hj ⊢; exact hj
    · rw [List.getD_eq_getElem?_getD, List.getElem?_eq_none h']; rfl
  refine wp_region_any hmix ?_
  have I0 : SureInv C l.toArray Gs a0 w.drew l.toArray.size (Array.replicate l.toArray.size false) a0 { w with drawn := w.drawn + 1 } := by
    have hf : ∀ j, (Array.replicate l.toArray.size false).getD j false = false := rep_false _
    refine ⟨by simp, fun j oj _ h => (by rw [hf] at h; cases h), fun t _ => hf t, Ext.refl _, rfl, rfl, fun t _ => rfl, fun j h _ => (by rw [hf] at h; cases h)⟩
  have hno : ∀ (listed : Array Bool) (j : Nat), ∀ c, c ∈ C.W → listed.getD c false = true → alive C j c = true := fun _ _ c hc => by rw [hW] at hc; cases hc
  have h := wpAny_lates (Q := Q) B hnN (fun L hL => by simpa using List.all_eq_true.1 hLn L hL) hW (fun L hL => by
      obtain ⟨q, hq, rfl⟩ := List.mem_map.1 hL
      exact List.all_eq_true.1 hfree q hq) hsel htail hS' hm hst hfr hone' (fun d v c a w => by cases d with | none => exact fun h => h | some d => exact hQ d v c a w) (fun L hL oL hoL listed a w' I hdep => by
      obtain ⟨q, hq, rfl⟩ := List.mem_map.1 hL
      refine latesOK_at (hlate (fun j => Gs.getD j Good.any) hP0) q hq w' I.ext a.eval (act_env a) (seen_of fun p hp => ?_) (fun t ht => by
        have hfix := I.frame t (fun j _ hj => by
          rw [← dst_eq hS'] at hj
          obtain ⟨r, hr, hd⟩ := Option.bind_eq_some_iff.1 hj
          have h9 := List.all_eq_true.1 ht r (List.mem_of_getElem? hr)
          simp [hd] at h9)
        simp only [Act.eval, Array.getD_eq_getD_getElem?, hfix]) oL (by simpa using hoL)
      have h2 := List.all_eq_true.1 (List.all_eq_true.1 hlook q hq) p hp
      simp only [Bool.and_eq_true, beq_iff_eq] at h2
      obtain ⟨v, hv, hg⟩ := I.good p.1 (hdep p.1 h2.1) (hno _ _)
      rw [act_eval (hv _ (by rw [← dst_eq hS']; exact h2.2))]
      exact hg) (fun listed a w' I hT hall => by
    have hpairs : ∀ p ∈ endPairs C.S n, p.1 < n ∧ dstOf l.toArray p.1 = some p.2 := fun p hp => by
      obtain ⟨j, hj, e⟩ := List.mem_filterMap.1 hp
      obtain ⟨d, hd, rfl⟩ := Option.map_eq_some_iff.1 e
      rw [dst_eq hS'] at hd
      exact ⟨List.mem_range.1 hj, hd⟩
    let xs : Nat → Value := fun j => match dstOf l.toArray j with | some d => a.tmps.getD d undef | none => undef
    have hxv : ∀ j d, dstOf l.toArray j = some d → a.tmps[d]? = some (xs j) := fun j d hj => by
      have hd : d < a.tmps.size := by rw [I.tsize, hm]; exact B.inside j d hj
      simp only [xs, hj, Array.getD_eq_getD_getElem?, Array.getElem?_eq_getElem hd, Option.getD_some]
    have hxs : ∀ j d, dstOf l.toArray j = some d → listed.getD j false = true → aliveB C j = true → good Gs j (xs j) w' := fun j d hj hl ha => by
      obtain ⟨v, hv, hg⟩ := I.good j hl (fun c hc _ => List.all_eq_true.1 ha c hc)
      have h2 := hv d hj
      have h3 : xs j = v := Option.some.inj ((hxv j d hj).symm.trans h2)
      rw [h3]
      exact hg
    have hgoods : goods Gs xs w' es := goods_mem fun p hp => by
      rw [← hes, ← hjs] at hp
      obtain ⟨hp, hal⟩ := List.mem_filter.1 hp
      obtain ⟨h1, h2⟩ := hpairs p hp
      exact hxs p.1 p.2 h2 (hall _ h1) hal
    have ha : a = putAll js xs a0 := by
      have ht : a.tmps = (putAll js xs a0).tmps := by
        refine Array.ext_getElem? fun t => ?_
        rw [← hjs]
        by_cases hex : ∃ j, j < n ∧ dstOf l.toArray j = some t
        · obtain ⟨j, hj, hd⟩ := hex
          rw [putAll_in (endPairs C.S n) xs a0 j t (List.mem_filterMap.2 ⟨j, List.mem_range.2 hj, by rw [dst_eq hS', hd]; rfl⟩) (fun p hp hpd => by
            obtain ⟨_, h2⟩ := hpairs p hp
            rw [hpd] at h2
            rcases Nat.decEq p.1 j with h | h
            · exact absurd hd (B.apart p.1 j t h h2)
            · exact h) (by rw [hm]; exact B.inside j t hd)]
          exact hxv j t hd
        · rw [putAll_out _ xs a0 t (fun p hp hpd => by
            obtain ⟨h1, h2⟩ := hpairs p hp
            exact hex ⟨p.1, h1, by rw [← hpd]; exact h2⟩)]
          refine I.frame t fun j hl hj => hex ⟨j, ?_, hj⟩
          rcases Nat.lt_or_ge j n with h | h
          · exact h
          · rw [hT j h] at hl; cases hl
      have hd : a.defers = (putAll js xs a0).defers := by rw [putAll_defers]; exact I.defers
      cases a
      cases hq : putAll js xs a0
      rw [hq] at ht hd
      simp only at ht hd
      rw [ht, hd]
    have hlen : l.toArray.size - n = (l.drop n).length := by simp
    rw [hlen, ha]
    exact wpAny_seqL B (n := n) (fun k i h1 h2 h3 => by
      have := tailT_spec C.S 0 hB3 k (by omega) (by omega) i h1 (by omega)
      simpa using this) (l.drop n) n _ _ _ (Nat.le_refl _) (by simp at hnN ⊢; omega) (fun j => by simp) I.size hall hT (hend xs w' I.ext hgoods)) n (Array.replicate l.toArray.size false) a0 _ I0 (fun t _ => rep_false _ t) (by
      have : (fun i => !(Array.replicate l.toArray.size false).getD i false) = fun _ : Nat => true := by
        funext i
        rw [rep_false]; rfl
      rw [this]
      simp)
  have hsz : n + (l.toArray.size - n) = l.toArray.size := by omega
  rw [hsz] at h
  exact h
end
end Go.Proofs.Ytjokaginolpbeaa
