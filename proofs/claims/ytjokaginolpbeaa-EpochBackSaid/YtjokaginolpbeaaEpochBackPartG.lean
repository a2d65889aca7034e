import Derived.Test.YtjokaginolpbeaaEpochBackPartF
import Derived.Test.YtjokaginolpbeaaEpochBackPartE
import Derived.Test.YtjokaginolpbeaaEpochBackPartA
import Derived.Test.YtjokaginolpbeaaEpochBackPartB
import Derived.Lib.Hide
import Derived.LoopTactic
namespace Go.Proofs.Ytjokaginolpbeaa
open Go.RowKit

/-! The example of chapter 13, in plain. -/
def exP (me k u : Int) : List Int → NextE := nextT (epochT ((2 : Nat) : Int) me k u 100)
def exV : WldK × OutN × Bool := aloneN (exP 0 6 0) 0 (99 + 1) (newW 2 1) []
def exU : WldK × OutN × Bool := aloneN (exP 0 5 1) 0 (99 + 1) exV.1 []
def exX : WldK × OutN × Bool := aloneN (exP 1 6 0) 1 (99 + 1) exU.1 []
def exD : WldK × OutN × Bool := aloneN (exP 0 6 0) 0 (99 + 1) exX.1 []
def exY : WldK × OutN × Bool := aloneN (exP 1 3 0) 1 (9 + 1) (newW 2 1) []
theorem exV_eq : exV.2 = (⟨0, false, 1, 0⟩, true) := by kernel_rfl
theorem exU_eq : exU.2 = (⟨0, false, 0, 0⟩, true) := by kernel_rfl
theorem exX_eq : exX.2 = (⟨0, false, 1, 0⟩, true) := by kernel_rfl
theorem exD_eq : exD.2 = (⟨0, false, 0, 0⟩, true) := by kernel_rfl
theorem exY_eq : exY.2 = (⟨0, false, 0, 0⟩, true) := by kernel_rfl
theorem exY_len : exY.1.ws.length = 18 := by kernel_rfl
theorem exY_at : exY.1.at 9 = 1 := by kernel_rfl
theorem ex0 : WOk (newW 2 1) ∧ (newW 2 1).T = ((2 : Nat) : Int) := ⟨new_wok (by omega) (by omega) (by omega), rfl⟩
theorem ex_ok {X : WldK} (h : WOk X ∧ X.T = ((2 : Nat) : Int)) (me k u : Int) (hu : k = 5 → U64 u) (n : Nat) : WOk (aloneN (exP me k u) me n X []).1 ∧ (aloneN (exP me k u) me n X []).1.T = ((2 : Nat) : Int) := by
  obtain ⟨h1, h2, -⟩ := aloneN_ok (P := exP me k u) (me := me) (fun ns x h hx => epochN_ok _ _ _ _ _ hu ns x h hx) n X [] h.1 (fun m hm => by cases hm)
  exact ⟨h1, h2.trans h.2⟩
theorem exV_ok : WOk exV.1 ∧ exV.1.T = ((2 : Nat) : Int) := ex_ok ex0 0 6 0 (by omega) _
theorem exU_ok : WOk exU.1 ∧ exU.1.T = ((2 : Nat) : Int) := ex_ok exV_ok 0 5 1 (fun _ => by unfold U64; omega) _
theorem exX_ok : WOk exX.1 ∧ exX.1.T = ((2 : Nat) : Int) := ex_ok exU_ok 1 6 0 (by omega) _
theorem exc_V (wv : Value) (w : World) (hV : WldV w wv (newW 2 1)) : Calls Try.prog 22 #[wv, .int .i64 0, .agg #[.int .i64 6, .int .i64 0, .int .i64 0, .int .u64 0], .int .i64 99] w fun e w' => ∃ v', e = .returned (.tuple #[v', .agg #[.int .i64 0, .bool false, .int .i64 1, .int .u64 0, .slice none 0 0], .bool true]) ∧ WldV w' v' exV.1 ∧ Ext w w' := by
  have h := eal_any 100 (newW 2 1) 2 ex0.2 (by omega) ex0.1 wv 0 6 0 0 0 99 (by omega) (by omega) (by omega) 99 rfl (by omega) (by omega) w hV
  rw [show aloneN (nextT (epochT ((2 : Nat) : Int) 0 6 0 100)) 0 (99 + 1) (newW 2 1) [] = exV from rfl, exV_eq] at h
  exact h
theorem exc_U (wv : Value) (w : World) (hV : WldV w wv (exV.1)) : Calls Try.prog 22 #[wv, .int .i64 0, .agg #[.int .i64 5, .int .i64 1, .int .i64 0, .int .u64 0], .int .i64 99] w fun e w' => ∃ v', e = .returned (.tuple #[v', .agg #[.int .i64 0, .bool false, .int .i64 0, .int .u64 0, .slice none 0 0], .bool true]) ∧ WldV w' v' exU.1 ∧ Ext w w' := by
  have h := eal_any 100 (exV.1) 2 exV_ok.2 (by omega) exV_ok.1 wv 0 5 1 0 0 99 (by omega) (by omega) (by omega) 99 rfl (by omega) (by omega) w hV
  rw [show aloneN (nextT (epochT ((2 : Nat) : Int) 0 5 1 100)) 0 (99 + 1) (exV.1) [] = exU from rfl, exU_eq] at h
  exact h
theorem exc_X (wv : Value) (w : World) (hV : WldV w wv (exU.1)) : Calls Try.prog 22 #[wv, .int .i64 1, .agg #[.int .i64 6, .int .i64 0, .int .i64 0, .int .u64 0], .int .i64 99] w fun e w' => ∃ v', e = .returned (.tuple #[v', .agg #[.int .i64 0, .bool false, .int .i64 1, .int .u64 0, .slice none 0 0], .bool true]) ∧ WldV w' v' exX.1 ∧ Ext w w' := by
  have h := eal_any 100 (exU.1) 2 exU_ok.2 (by omega) exU_ok.1 wv 1 6 0 0 0 99 (by omega) (by omega) (by omega) 99 rfl (by omega) (by omega) w hV
  rw [show aloneN (nextT (epochT ((2 : Nat) : Int) 1 6 0 100)) 1 (99 + 1) (exU.1) [] = exX from rfl, exX_eq] at h
  exact h
theorem exc_D (wv : Value) (w : World) (hV : WldV w wv (exX.1)) : Calls Try.prog 22 #[wv, .int .i64 0, .agg #[.int .i64 6, .int .i64 0, .int .i64 0, .int .u64 0], .int .i64 99] w fun e w' => ∃ v', e = .returned (.tuple #[v', .agg #[.int .i64 0, .bool false, .int .i64 0, .int .u64 0, .slice none 0 0], .bool true]) ∧ WldV w' v' exD.1 ∧ Ext w w' := by
  have h := eal_any 100 (exX.1) 2 exX_ok.2 (by omega) exX_ok.1 wv 0 6 0 0 0 99 (by omega) (by omega) (by omega) 99 rfl (by omega) (by omega) w hV
  rw [show aloneN (nextT (epochT ((2 : Nat) : Int) 0 6 0 100)) 0 (99 + 1) (exX.1) [] = exD from rfl, exD_eq] at h
  exact h
theorem exc_Y (wv : Value) (w : World) (hV : WldV w wv (newW 2 1)) : Calls Try.prog 22 #[wv, .int .i64 1, .agg #[.int .i64 3, .int .i64 0, .int .i64 0, .int .u64 0], .int .i64 9] w fun e w' => ∃ v', e = .returned (.tuple #[v', .agg #[.int .i64 0, .bool false, .int .i64 0, .int .u64 0, .slice none 0 0], .bool true]) ∧ WldV w' v' exY.1 ∧ Ext w w' := by
  have h := eal_any 100 (newW 2 1) 2 ex0.2 (by omega) ex0.1 wv 1 3 0 0 0 9 (by omega) (by omega) (by omega) 9 rfl (by omega) (by omega) w hV
  rw [show aloneN (nextT (epochT ((2 : Nat) : Int) 1 3 0 100)) 1 (9 + 1) (newW 2 1) [] = exY from rfl, exY_eq] at h
  exact h
end Go.Proofs.Ytjokaginolpbeaa

namespace Go.Proofs.Ytjokaginolpbeaa
open Go.RowKit

/-! wealdref11: a log that is gone through. -/
def Res.zero : Res := ⟨0, none, 0, 0, false⟩
/-- how far a log is gone through, whether it stopped, and what is asked -/
structure Cu where
  i : Nat
  stop : Bool
  x : Acc
def Cu.told (rs : List Res) (s : Cu) : Res := if s.stop then Res.zero else (rs[s.i]?).getD Res.zero
def Cu.next (rs : List Res) (y : Acc) (s : Cu) : Cu := if s.stop then s else if s.i < rs.length then ⟨s.i + 1, false, s.x⟩ else ⟨s.i, true, y⟩
def curCells (A : Option Addr) (n c : Nat) (s : Cu) : List Value := [.slice A n c, .int .i64 s.i, .bool s.stop, .int .i64 s.x.kind, .int .i64 s.x.cell, .int .u64 s.x.a, .int .u64 s.x.b, .slice s.x.D s.x.dk s.x.dc, .slice s.x.W s.x.wk s.x.wc]
def CurAt (w : World) (g : Nat) (A : Option Addr) (n c : Nat) (s : Cu) : Prop := w.heap[g]? = some (.cells (curCells A n c s).toArray 142 (0, 0))
end Go.Proofs.Ytjokaginolpbeaa

namespace Go.Proofs.Ytjokaginolpbeaa
open Go.RowKit

/-! wealdref11.Cur: Load, Store, Cas. -/
theorem LogV.cur {w w' : World} {g : Nat} {A : Option Addr} {n c : Nat} {rs : List Res} (h : LogV w A n c rs) (hx : ExtB g w w') (hsep : ∀ a, A = some a → 0 < n → a.block ≠ g) : LogV w' A n c rs :=
  ⟨h.len, h.small, fun j r hr => let ⟨a, ha, h1⟩ := h.at_ j r hr; ⟨a, ha, h1.extB hx (hsep a ha (by have := (List.getElem?_eq_some_iff.1 hr).1; have := h.len; omega))⟩⟩
theorem CurAt.ext {w w' : World} {g : Nat} {A : Option Addr} {n c : Nat} {s : Cu} (h : CurAt w g A n c s) (hx : Ext w w') : CurAt w' g A n c s := heap_ext h hx
end Go.Proofs.Ytjokaginolpbeaa

namespace Go.Proofs.Ytjokaginolpbeaa
open Go.RowKit

/-! The document's text (wealdref08), and 'shown'. -/
theorem rfirst_any (n : Int) (h : U64 n) (w : World) :
    Calls Try.prog 52 #[.int .u64 n] w fun e w' => e = .returned (.int .i64 (firstF n)) ∧ w = w' := by
  have h0 := h.1
  have h9 := h.2
  go_enter Try.func52, Try.ntmps52
  go_wp2
  go_ret
  exact ⟨ret_int (by simp [firstF]), rfl⟩
end Go.Proofs.Ytjokaginolpbeaa

namespace Go.Proofs.Ytjokaginolpbeaa
open Go.RowKit

/-! wealdref12.Pop, wealdref12.Push: what popN and pushN say. -/
def Cu.after (rs : List Res) (s : Cu) : ProgE → Cu
  | .stop x => ⟨rs.length, true, x⟩
  | .ret _ k => ⟨k, false, s.x⟩
def ProgE.val : ProgE → Int
  | .stop _ => 0
  | .ret r _ => r
theorem rfieldB_any (t r : Int) (h1 : 0 ≤ t) (h2 : t ≤ 64) (h3 : 0 ≤ r) (h4 : r ≤ 1048576) (w : World) :
    Calls Try.prog 66 #[.int .i64 t, .int .i64 r, .int .i64 7] w fun e w' => e = .returned (.int .i64 (linkI t r)) ∧ w = w' :=
  (rfield_any t r 7 (by omega) (by omega) (by omega) (by omega) (by omega) (by omega) w).mono fun _ _ ⟨he, hw⟩ => ⟨by rw [he]; rfl, hw⟩
theorem Cu.on {rs : List Res} {s : Cu} {y : Acc} {r : Res} {R : List Res} (hs : s.stop = false) (h : rs.drop s.i = r :: R) : s.told rs = r ∧ s.next rs y = ⟨s.i + 1, false, s.x⟩ ∧ rs.drop (s.i + 1) = R := by
  have h1 : s.i < rs.length := by
    rcases Nat.lt_or_ge s.i rs.length with h' | h'
    · exact h'
    · rw [List.drop_eq_nil_of_le h'] at h; cases h
  have h2 : rs[s.i]? = some r := by rw [List.getElem?_eq_getElem h1]; rw [List.drop_eq_getElem_cons h1] at h; injection h with h _; rw [h]
  refine ⟨by simp [Cu.told, hs, h2], by simp [Cu.next, hs, h1], ?_⟩
  rw [show rs.drop (s.i + 1) = (rs.drop s.i).drop 1 by rw [List.drop_drop], h]; rfl
theorem Cu.off {rs : List Res} {s : Cu} {y : Acc} (hs : s.stop = false) (h : rs.drop s.i = []) (hi : s.i ≤ rs.length) : s.told rs = Res.zero ∧ s.next rs y = ⟨rs.length, true, y⟩ := by
  have h1 : s.i = rs.length := by
    rcases Nat.lt_or_ge s.i rs.length with h' | h'
    · rw [List.drop_eq_getElem_cons h'] at h; cases h
    · omega
  refine ⟨by simp [Cu.told, hs, h1], by simp [Cu.next, hs, h1]⟩
theorem Cu.still {rs : List Res} {s : Cu} {y : Acc} (hs : s.stop = true) : s.told rs = Res.zero ∧ s.next rs y = s := by simp [Cu.told, Cu.next, hs]
def curM (g : Nat) (w : World) : Nat := match w.cell? ⟨g, 2, none⟩ with
  | some (.bool true) => 0
  | _ => match w.cell? ⟨g, 1, none⟩ with
    | some (.int _ i) => 65537 - i.toNat
    | _ => 0
theorem CurAt.cells {w : World} {g : Nat} {A : Option Addr} {n c : Nat} {s : Cu} (h : CurAt w g A n c s) : w.cell? ⟨g, 1, none⟩ = some (.int .i64 (s.i : Int)) ∧ w.cell? ⟨g, 2, none⟩ = some (.bool s.stop) := by
  unfold CurAt curCells at h
  simp [World.cell?, h]
theorem CurAt.m {w : World} {g : Nat} {A : Option Addr} {n c : Nat} {s : Cu} (h : CurAt w g A n c s) : curM g w = if s.stop then 0 else 65537 - s.i := by
  obtain ⟨h1, h2⟩ := h.cells
  unfold curM
  rw [h2, h1]
  cases s.stop <;> simp
end Go.Proofs.Ytjokaginolpbeaa

namespace Go.Proofs.Ytjokaginolpbeaa
open Go.RowKit

/-! A row of ints of the call's own, its spare part known too: what is laid onto it turns no world. -/
def intCells (l : List Int) : List Value := l.map (.int .i64)
theorem intCells_append (a b : List Int) : intCells (a ++ b) = intCells a ++ intCells b := by simp [intCells]
theorem intCells_length (l : List Int) : (intCells l).length = l.length := by simp [intCells]
theorem intCells_take (l : List Int) (n : Nat) : (intCells l).take n = intCells (l.take n) := by simp [intCells, List.map_take]
theorem intCells_drop (l : List Int) (n : Nat) : (intCells l).drop n = intCells (l.drop n) := by simp [intCells, List.map_drop]
theorem intCells_at {l : List Int} {i : Nat} {x : Int} (h : l[i]? = some x) : (intCells l)[i]? = some (.int .i64 x) := by simp [intCells, h]
theorem intCells_one (l : List Int) : ∀ u ∈ intCells l, u.oneCell' = true := by
  intro u hu
  obtain ⟨x, _, rfl⟩ := List.mem_map.1 hu
  rfl
theorem info_i64 : (Try.prog.info? 3).map (fun i => (i.zero, i.size, i.bytes)) = some (some (.int .i64 0), 1, 8) := by kernel_rfl
theorem zero_int (k : Nat) : (Builtin.zeroCells (Value.cells (.int .i64 0)) k).toList = intCells (List.replicate k 0) := by
  refine List.ext_getElem? fun x => ?_
  by_cases hx : x < k
  · simp [Builtin.zeroCells, intCells, Value.cells, hx, Nat.mod_one]
  · rw [List.getElem?_eq_none (by simp [Builtin.zeroCells, Value.cells]; omega), List.getElem?_eq_none (by rw [intCells_length]; simp; omega)]
def IntOwn (w : World) (base : Nat) (v : Value) (n : Nat) (l : List Int) : Prop :=
  l.length = n ∧ ((v = .slice none 0 0 ∧ n = 0) ∨ ∃ g cap full, v = .slice (some ⟨g, 0, none⟩) n cap ∧ base ≤ g ∧ w.heap[g]? = some (.cells (intCells full).toArray 3 (0, 0)) ∧ n ≤ cap ∧ cap ≤ maxLen ∧ full.length = cap ∧ full.take n = l)
theorem IntOwn.nil (w : World) (base : Nat) : IntOwn w base (.slice none 0 0) 0 [] := ⟨rfl, .inl ⟨rfl, rfl⟩⟩
theorem IntOwn.kept {w w' : World} {base : Nat} {v : Value} {n : Nat} {l : List Int} (h : IntOwn w base v n l) (hk : ∀ g o, base ≤ g → some g = v.ownBlock → w.heap[g]? = some o → w'.heap[g]? = some o) : IntOwn w' base v n l := by
  refine ⟨h.1, ?_⟩
  rcases h.2 with h2 | ⟨g, cap, full, e, hb, hg, h3⟩
  · exact .inl h2
  · exact .inr ⟨g, cap, full, e, hb, hk g _ hb (by rw [e]; rfl) hg, h3⟩
theorem IntOwn.ext {w w' : World} {base : Nat} {v : Value} {n : Nat} {l : List Int} (h : IntOwn w base v n l) (hx : Ext w w') : IntOwn w' base v n l := h.kept fun _ _ _ _ ho => heap_ext ho hx
/-- another own row grows -/
theorem IntOwn.grown {w w' : World} {base : Nat} {v u : Value} {n : Nat} {l : List Int} (h : IntOwn w base v n l) (hg : w.grownBy w' u.ownBlock) (hne : ∀ g, v.ownBlock = some g → u.ownBlock ≠ some g) : IntOwn w' base v n l :=
  h.kept fun g o _ hv ho => by
    rw [hg.block g (Array.getElem?_eq_some_iff.1 ho).1 (fun e => hne g hv.symm e.symm)]; exact ho
theorem IntOwn.form {w : World} {base : Nat} {v : Value} {n : Nat} {l : List Int} (h : IntOwn w base v n l) : ∃ B c, v = .slice B n c ∧ Cells w B (intCells l) ∧ (B = none → c = 0 ∧ n = 0) ∧ (∀ b, B = some b → ∃ g, b = ⟨g, 0, none⟩ ∧ base ≤ g ∧ v.ownBlock = some g) ∧ n ≤ c ∧ c ≤ maxLen := by
  obtain ⟨hl, h⟩ := h
  rcases h with ⟨rfl, rfl⟩ | ⟨g, cap, full, rfl, hb, hg, h1, h2, h3, rfl⟩
  · have : l = [] := List.eq_nil_of_length_eq_zero hl
    subst this
    exact ⟨none, 0, rfl, Cells.nil _ _, fun _ => ⟨rfl, rfl⟩, (by intro b h; cases h), Nat.le_refl _, by simp only [maxLen]; omega⟩
  · refine ⟨_, _, rfl, fun _ => ⟨_, rfl, fun j u hj => ?_⟩, (by intro h; cases h), (by intro b h; cases h; exact ⟨g, rfl, hb, rfl⟩), h1, h2⟩
    rw [← intCells_take, List.getElem?_take] at hj
    split at hj
    · obtain ⟨a, ha, hc⟩ := cells_heap hg (fun e => by rw [e] at hj; simp at hj)
      cases ha
      exact hc j u hj
    · cases hj
/-- an element of it -/
theorem IntOwn.at {w : World} {base : Nat} {v : Value} {n : Nat} {l : List Int} (h : IntOwn w base v n l) {i : Nat} {x : Int} (hi : l[i]? = some x) : ∃ g c, v = .slice (some ⟨g, 0, none⟩) n c ∧ base ≤ g ∧ n ≤ c ∧ c ≤ maxLen ∧ w.cell? ⟨g, i, none⟩ = some (.int .i64 x) := by
  obtain ⟨hl, h⟩ := h
  rcases h with ⟨rfl, rfl⟩ | ⟨g, cap, full, rfl, hb, hg, h1, h2, h3, rfl⟩
  · have : l = [] := List.eq_nil_of_length_eq_zero hl
    subst this; simp at hi
  · refine ⟨g, cap, rfl, hb, h1, h2, ?_⟩
    rw [List.getElem?_take] at hi
    split at hi
    · have := intCells_at hi
      simp only [World.cell?, hg, Option.isSome_none, Bool.false_eq_true, if_false]
      simpa using this
    · cases hi
/-- the last one taken off -/
theorem IntOwn.pop {w : World} {base : Nat} {g cap n : Nat} {l : List Int} (h : IntOwn w base (.slice (some ⟨g, 0, none⟩) (n + 1) cap) (n + 1) l) : IntOwn w base (.slice (some ⟨g, 0, none⟩) n cap) n l.dropLast := by
  obtain ⟨hl, h⟩ := h
  rcases h with ⟨h, _⟩ | ⟨g', cap', full, e, hb, hg, h1, h2, h3, rfl⟩
  · cases h
  · cases e
    refine ⟨by rw [List.length_dropLast, hl]; omega, .inr ⟨g, cap, full, rfl, hb, hg, by omega, h2, h3, ?_⟩⟩
    rw [List.dropLast_eq_take, List.take_take, hl]
    congr 1; omega
theorem grownI_heap {w w' : World} {base : Nat} {v : Value} {n : Nat} {l : List Int} (h : IntOwn w base v n l) (hg : w.grownBy w' v.ownBlock) {k : Nat} {o : Obj} (hk : v.ownBlock ≠ some k) (ho : w.heap[k]? = some o) : w'.heap[k]? = some o := by
  rw [hg.block k (Array.getElem?_eq_some_iff.1 ho).1 (fun e => hk e.symm)]; exact ho
theorem IntOwn.low {w : World} {base : Nat} {v : Value} {n : Nat} {l : List Int} (h : IntOwn w base v n l) {k : Nat} (hk : k < base) : v.ownBlock ≠ some k := by
  rcases h.2 with ⟨rfl, _⟩ | ⟨g, cap, full, rfl, hb, hh, _⟩
  · simp [Value.ownBlock]
  · simp only [Value.ownBlock]; intro e; injection e with e; omega
theorem IntOwn.lt {w : World} {base : Nat} {v : Value} {n : Nat} {l : List Int} (h : IntOwn w base v n l) {k : Nat} (hk : v.ownBlock = some k) : base ≤ k ∧ k < w.heap.size := by
  rcases h.2 with ⟨rfl, _⟩ | ⟨g, cap, full, rfl, hb, hh, _⟩
  · simp [Value.ownBlock] at hk
  · simp only [Value.ownBlock] at hk; injection hk with hk; subst hk; exact ⟨hb, (Array.getElem?_eq_some_iff.1 hh).1⟩
theorem grownI_ext {w0 w w' : World} {base : Nat} {v : Value} {n : Nat} {l : List Int} (h : IntOwn w base v n l) (hg : w.grownBy w' v.ownBlock) (h0 : Ext w0 w) (hb : w0.heap.size ≤ base) : Ext w0 w' :=
  ⟨hg.os.trans h0.os, hg.tape.trans h0.tape, hg.output.trans h0.output, Nat.le_trans h0.size hg.size, fun k hk => by
    have h1 : k < w.heap.size := Nat.lt_of_lt_of_le hk h0.size
    obtain ⟨o, ho⟩ : ∃ o, w.heap[k]? = some o := ⟨_, Array.getElem?_eq_getElem h1⟩
    rw [grownI_heap h hg (h.low (by omega)) ho, ← ho]
    exact h0.block k hk⟩
/-- a new row, or the old one -/
theorem run_append_int {P : Program} {w : World} (base : Nat) (t ty : TypeId) (i : TypeInfo) (ht : P.underlying t = some (.slice 3)) (hi : P.info? 3 = some i) (hz : i.zero = some (.int .i64 0)) (hsize : i.size = 1) (hby : i.bytes = 8)
    (v : Value) (n : Nat) (l : List Int) (hown : IntOwn w base v n l) (a : Addr) (m c : Nat) (l2 : List Int) (hm : l2.length = m) (h0 : v = .slice none 0 0 → 0 < m) (hnews : ∀ j u, (intCells l2)[j]? = some u → w.cell? (a.add j) = some u) (hn : n + m ≤ 1000000) (hbase : base ≤ w.heap.size) :
    ∃ v' w', (Builtin.append_ #[t, t] ty #[v, .slice (some a) m c]).run P w = .ok v' w' ∧ IntOwn w' base v' (n + m) (l ++ l2) ∧ w.grownBy w' v.ownBlock ∧ (v'.ownBlock = v.ownBlock ∨ v'.ownBlock = some w.heap.size) := by
  have hl1 : (intCells l2).length = m * i.size := by rw [hsize, intCells_length, hm, Nat.mul_one]
  have h1 := intCells_one l2
  have hlen : (l ++ l2).length = n + m := by rw [List.length_append, hown.1, hm]
  have grown : ∀ (old : Nat), old < n + m → ∀ (row : Option Nat),
      IntOwn (w.drew.alloc (.cells ((intCells l).toArray ++ (intCells l2).toArray ++ Builtin.zeroCells (Value.cells (.int .i64 0)) (grownCap w (n + m) old 3 - (n + m))) 3)) base
        (.slice (some ⟨w.heap.size, 0, none⟩) (n + m) (grownCap w (n + m) old 3)) (n + m) (l ++ l2) ∧
      w.grownBy (w.drew.alloc (.cells ((intCells l).toArray ++ (intCells l2).toArray ++ Builtin.zeroCells (Value.cells (.int .i64 0)) (grownCap w (n + m) old 3 - (n + m))) 3)) row := by
    intro old ho row
    have hge := grownCap_ge w (n + m) old 3
    have hcm : grownCap w (n + m) old 3 ≤ maxLen := grownCap_le_maxLen w (n + m) old _ (by simp only [maxLen]; omega)
    refine ⟨⟨hlen, .inr ⟨w.heap.size, _, (l ++ l2) ++ List.replicate (grownCap w (n + m) old 3 - (n + m)) 0, rfl, hbase, ?_, hge, hcm, ?_, ?_⟩⟩, ⟨rfl, rfl, rfl, by simp, fun k hk _ => heap_alloc_old w.drew _ hk⟩⟩
    · have e : ((intCells l).toArray ++ (intCells l2).toArray ++ Builtin.zeroCells (Value.cells (.int .i64 0)) (grownCap w (n + m) old 3 - (n + m))) = (intCells ((l ++ l2) ++ List.replicate (grownCap w (n + m) old 3 - (n + m)) 0)).toArray := by
        rw [intCells_append, intCells_append, ← zero_int]
        simp
      rw [e]
      exact heap_alloc_new w.drew _
    · rw [List.length_append, hlen, List.length_replicate]; omega
    · rw [← hlen]; exact List.take_left
  rcases hown.2 with ⟨rfl, rfl⟩ | ⟨g, cap, full, rfl, hbg, hg, hnc, hcm, hcl, htake⟩
  · have hx : l = [] := List.eq_nil_of_length_eq_zero hown.1
    subst hx
    have hr := run_append_nil (P := P) w t ty 3 i _ ht hi hz a m c (intCells l2) hl1 hnews (h0 rfl) (by omega) (by rw [hby]; omega)
    have hgr := grown 0 (by have := h0 rfl; omega) (Value.ownBlock (.slice none 0 0))
    simp only [Nat.zero_add, intCells, List.map_nil, Array.empty_append] at hgr hr ⊢
    exact ⟨_, _, hr, hgr.1, hgr.2, .inr rfl⟩
  · by_cases hroom : n + m ≤ cap
    · have hfit : n * i.size + (intCells l2).length ≤ (intCells full).toArray.size := by rw [hl1, hsize, List.size_toArray, intCells_length, hcl]; omega
      have hr := run_append_room (P := P) w t ty 3 i ht hi g n cap _ hg a m c (intCells l2) hl1 hnews h1 hroom hfit
      have e : ((intCells full).take (n * i.size) ++ intCells l2 ++ (intCells full).drop (n * i.size + (intCells l2).length)) = intCells ((l ++ l2) ++ full.drop (n + m)) := by
        rw [hl1, hsize, Nat.mul_one, Nat.mul_one, intCells_take, intCells_drop, htake, intCells_append, intCells_append]
      rw [List.toList_toArray, e] at hr
      refine ⟨_, _, hr, ⟨hlen, .inr ⟨g, cap, _, rfl, hbg, setRow_heap w g _ _ _ _ hg, hroom, hcm, ?_, ?_⟩⟩, ⟨rfl, rfl, rfl, by simp, fun k _ hk => setRow_other w g k _ (fun e => hk (by simp [Value.ownBlock, e]))⟩, .inl rfl⟩
      · rw [List.length_append, hlen, List.length_drop]; omega
      · rw [← hlen]; exact List.take_left
    · have holds : ∀ j u, (intCells l)[j]? = some u → w.cell? ((⟨g, 0, none⟩ : Addr).add j) = some u := fun j u hj => by
        rw [← htake, ← intCells_take, List.getElem?_take] at hj
        split at hj
        · obtain ⟨a', ha, hc⟩ := cells_heap hg (fun e => by rw [e] at hj; simp at hj)
          cases ha
          exact hc j u hj
        · cases hj
      have hr := run_append_grow (P := P) w t ty 3 i _ ht hi hz ⟨g, 0, none⟩ n cap (intCells l) (by rw [hsize, intCells_length, hown.1, Nat.mul_one]) holds a m c (intCells l2) hl1 hnews (by omega) (by omega) (growslice_fits (by omega) (by rw [hby]; omega))
      have hgr := grown cap (by omega) (Value.ownBlock (.slice (some ⟨g, 0, none⟩) n cap))
      exact ⟨_, _, hr, hgr.1, hgr.2, .inr rfl⟩
theorem wpList_append_int {P : Program} {ops : Array Oper} {rest : List Oper} {o : Oper} {a : Act} {Q : Exit → Act → World → Prop} {w : World} (hgd : o.guard = none) (s x : Operand) (t : TypeId)
    (ho : o.op = .call { callee := .builtin .append, args := #[s, x], argTypes := #[t, t] }) (base : Nat) (i : TypeInfo) (ht : P.underlying t = some (.slice 3)) (hi : P.info? 3 = some i) (hz : i.zero = some (.int .i64 0)) (hsize : i.size = 1) (hby : i.bytes = 8)
    (v : Value) (n : Nat) (l : List Int) (hs : a.eval s = v) (hown : IntOwn w base v n l) (ad : Addr) (m c : Nat) (l2 : List Int) (hm : l2.length = m) (h0 : v = .slice none 0 0 → 0 < m) (hx : a.eval x = .slice (some ad) m c) (hnews : ∀ j u, (intCells l2)[j]? = some u → w.cell? (ad.add j) = some u) (hn : n + m ≤ 1000000) (hbase : base ≤ w.heap.size)
    (h : ∀ v' w', IntOwn w' base v' (n + m) (l ++ l2) → w.grownBy w' v.ownBlock → (v'.ownBlock = v.ownBlock ∨ v'.ownBlock = some w.heap.size) → wpList P ops Q rest (a.put o.dst v') w') : wpList P ops Q (o :: rest) a w := by
  obtain ⟨v', w', hr, h2, h3, h4⟩ := run_append_int (P := P) (w := w) base t o.type i ht hi hz hsize hby v n l hown ad m c l2 hm h0 hnews hn hbase
  refine wpList_plain hgd fun _ hK => ?_
  unfold Oper.wp execOp
  simp only [ho, resolve, invoke, builtin, Sem.run_bind, Sem.run_pure, Result.andThen_ok, List.map_toArray, List.map_cons, List.map_nil, hs, hx, hr]
  exact hK _ _ (h v' w' h2 h3 h4)
end Go.Proofs.Ytjokaginolpbeaa

namespace Go.Proofs.Ytjokaginolpbeaa
open Go.RowKit

/-! wealdref12.Free: a chain's records. -/
def lenV : Value → Nat
  | .slice _ n _ => n
  | _ => 0
theorem IntOwn.lenV {w : World} {base : Nat} {v : Value} {n : Nat} {l : List Int} (h : IntOwn w base v n l) : lenV v = n := by
  rcases h.2 with ⟨rfl, rfl⟩ | ⟨g, cap, full, rfl, h3⟩ <;> rfl
theorem WldV.words {w : World} {X : WldK} {T C : Int} {A : Option Addr} {q c : Nat} {R : Int} {B C' : Option Addr} {n b n' d : Nat} (h : WldV w (.agg #[.int .i64 T, .int .i64 C, .slice A q c, .int .u64 R, .slice B n b, .slice C' n' d]) X) : WordsV w A q c X.ws := by
  obtain ⟨A2, q2, c2, B2, C2, b2, d2, e, hw, -⟩ := h
  simp only [Value.agg.injEq, Array.mk.injEq, List.cons.injEq, Value.slice.injEq, and_true] at e
  obtain ⟨-, -, ⟨rfl, rfl, rfl⟩, -⟩ := e
  exact hw
theorem nodup_len : ∀ (c : Nat) (l : List Int), l.Nodup → (∀ x ∈ l, 1 ≤ x ∧ x ≤ (c : Int)) → l.length ≤ c
  | 0, l, _, h => by
    cases l with
    | nil => simp
    | cons x l => have := h x (by simp); omega
  | c + 1, l, hd, h => by
    have h1 := nodup_len c (l.erase ((c : Int) + 1)) (hd.erase _) (fun x hx => by
      have hm := List.mem_of_mem_erase hx
      have hne : x ≠ (c : Int) + 1 := fun e => by subst e; exact (List.Nodup.not_mem_erase hd) hx
      have := h x hm
      omega)
    have h2 : l.length ≤ (l.erase ((c : Int) + 1)).length + 1 := by
      by_cases hm : ((c : Int) + 1) ∈ l
      · rw [List.length_erase_of_mem hm]; omega
      · rw [List.erase_of_not_mem hm]; omega
    omega
theorem PoolK.len {X : WldK} {t c : Nat} {pile : List Int} (h : PoolK X t c pile) : pile.length ≤ c := nodup_len c pile h.nodup h.chain.mem
set_option maxRecDepth 100000 in
set_option maxHeartbeats 4000000 in
theorem rfree_any (X : WldK) (t c : Nat) (pile : List Int) (h : PoolK X t c pile) (A : Option Addr) (q cc : Nat) (w : World) (hA : WordsV w A q cc X.ws) :
    Calls Try.prog 25 #[.agg #[.int .i64 X.T, .int .i64 X.C, .slice A q cc]] w fun e w' => ∃ v', e = .returned v' ∧ IntOwn w' w.heap.size v' pile.length pile ∧ Ext w w' := by
  obtain ⟨i0, hi0, hz0, hz1, hz2⟩ := info_parts info_i64
  have hr1 : ∀ (W : World) (a : Int), (Instr.buildSlice 35 1 #[(0, .int .i64 a)]).run Try.prog W = .ok (.slice (some ⟨W.heap.size, 0, none⟩) 1 1) (W.alloc (.cells #[.int .i64 a] 3)) := fun _ _ => by kernel_rfl
  have hq : q = memL t c := by rw [← h.dim.len, hA.len]
  have hlen := h.len
  have hT := h.dim.T
  have hC := h.dim.C
  have ht2 := h.dim.t2
  have hc2 := h.dim.c2
  have hch := h.chain
  have hU := h.dim.u
  have hlt1 : (1 : Int) < (q : Int) := by rw [hq]; unfold memL; omega
  have hq8 : 16 ≤ q ∨ True := .inr trivial
  have HQ := Lib.hid hq
  clear hq8
  have hne : wordsOf X.ws ≠ [] := fun e => by
    have := congrArg List.length e
    rw [wordsOf_length, hA.len, hq] at this
    unfold memL at this; simp at this
  obtain ⟨a, rfl, hcA⟩ := hA.cells hne
  have hcell : ∀ i : Nat, i < q → w.cell? (a.add i) = some (.int .u64 (X.at (i : Int))) := fun i hi => hcA i _ (by
    unfold wordsOf WldK.at
    rw [List.getElem?_map]
    have hi2 : i < X.ws.length := by rw [hA.len]; exact hi
    simp [List.getElem?_eq_getElem hi2, List.getD_eq_getElem?_getD])
  rw [hT, hC]
  clear hq
  have hW0 : Ext w (w.alloc (.cells #[.int .i64 t, .int .i64 c, .slice (some a) q cc] 45)) := (Below.refl _ w).alloc (Nat.le_refl _) _
  have hM := heap_alloc_new w (.cells #[.int .i64 t, .int .i64 c, .slice (some a) q cc] 45)
  go_enter Try.func25, Try.ntmps25
  go_upto_region 1 with (fail)
  generalize w.alloc (.cells #[.int .i64 t, .int .i64 c, .slice (some a) q cc] 45) = W0 at *
  obtain ⟨gm, hgm⟩ : ∃ gm, w.heap.size = gm := ⟨_, rfl⟩
  have hgm2 : w.heap.size ≤ gm := Nat.le_of_eq hgm
  rw [hgm] at hM
  simp only [hgm]
  clear hgm
  have hX : ∀ wx, Ext W0 wx → wx.cell? ⟨gm, 0, none⟩ = some (.int .i64 t) ∧ wx.cell? ⟨gm, 1, none⟩ = some (.int .i64 c) ∧ wx.cell? ⟨gm, 2, none⟩ = some (.slice (some a) q cc) ∧ ∀ i : Nat, i < q → wx.cell? (a.add i) = some (.int .u64 (X.at (i : Int))) := fun wx hx =>
    ⟨hx.cell (by simp [World.cell?, hM]), hx.cell (by simp [World.cell?, hM]), hx.cell (by simp [World.cell?, hM]), fun i hi => (hW0.trans hx).cell (hcell i hi)⟩
  have hlm : gm < W0.heap.size := (Array.getElem?_eq_some_iff.1 hM).1
  clear hM hcell hcA hA hT hC
  obtain ⟨z0, z1, z2, z3⟩ := hX W0 (Ext.refl _)
  have z4 := z3 1 (by omega)
  rw [show (((1 : Nat) : Int)) = 1 from rfl, show a.add 1 = ⟨a.block, a.off + 1, none⟩ from rfl] at z4
  go_wp2_with fail
  refine (rfirst_any _ (hU 1) _).mono ?_
  rintro e w' ⟨rfl, rfl⟩
  clear z0 z1 z2 z3 z4
  generalize hr0 : firstF (X.at 1) = r0 at *
  clear hr0
  have HP := Lib.hid h
  clear h
  go_wp2_with fail
  go_loopw [3, 4] (fun ov rv wr => ∃ (done rest : List Int) (r : Int), rv = .int .i64 r ∧ ChainW X t c rest r ∧ pile = done ++ rest ∧ IntOwn wr W0.heap.size ov done.length done ∧ Ext W0 wr) (fun ov _ _ => c + 1 - lenV ov)
  case atStart => exact ⟨[], pile, r0, rfl, hch, rfl, IntOwn.nil _ _, Ext.refl _⟩
  case round =>
    obtain ⟨done, rest, r, rfl, hcr, hpile, hown, hxr⟩ := hrel
    obtain ⟨z0, z1, z2, z3⟩ := hX _ hxr
    obtain ⟨B, cap, rfl, hB1, hB2, hB3, hB4, hB5⟩ := hown.form
    simp only [maxLen] at hB5
    have hdl : done.length + rest.length = pile.length := by rw [hpile, List.length_append]
    cases rest with
    | nil =>
      obtain rfl : r = 0 := hcr
      have hfin : IntOwn wr w.heap.size (.slice B done.length cap) pile.length pile := by
        have e : pile = done := by rw [hpile, List.append_nil]
        rw [e]
        refine ⟨hown.1, ?_⟩
        rcases hown.2 with h2 | ⟨g, cap, full, e, hb, h3⟩
        · exact .inl h2
        · exact .inr ⟨g, cap, full, e, Nat.le_trans hW0.size hb, h3⟩
      have HF := Lib.hid hfin
      clear hfin hown hB1 hB2 hB3 hX z3
      go_wp2
      go_ret
      exact ⟨_, rfl, HF.out, hW0.trans hxr⟩
    | cons x l =>
      obtain ⟨rfl, hx1, hxc, hcl⟩ := hcr
      have hpos : (0 : Int) < r := by omega
      have hlc : (done.length : Int) ≤ (c : Int) := by simp at hdl; omega
      have hlk1 := link_pos t hx1
      have hlk2 := link_in (t := t) hx1 hxc
      obtain ⟨k, hk⟩ : ∃ k : Nat, linkI t r = (k : Int) := ⟨(linkI t r).toNat, by omega⟩
      have hkq : k < q := by rw [HQ.out]; omega
      have hkI : (k : Int) < (q : Int) := by omega
      have hfield : ∀ W, Calls Try.prog 66 #[.int .i64 t, .int .i64 r, .int .i64 7] W fun e w' => e = .returned (.int .i64 (k : Int)) ∧ W = w' := fun W => by
        have := rfieldB_any t r (by omega) (by omega) (by omega) (by omega) W
        rw [hk] at this; exact this
      rw [hk] at hcl
      have hvU := hU (k : Int)
      have hWn : Ext wr (wr.alloc (.cells #[.int .i64 r] 3)) := (Below.refl _ wr).alloc (Nat.le_refl _) _
      have hcn : ∀ (i : Nat) (u : Value), (intCells [r])[i]? = some u → (wr.alloc (.cells #[.int .i64 r] 3)).cell? ((⟨wr.heap.size, 0, none⟩ : Addr).add i) = some u := heap_cells (heap_alloc_new wr _)
      have hown2 := hown.ext hWn
      have hsz := hxr.size
      clear z3 hB1 hB2 hB3
      go_upto_region 5 with (at_builtin; refine wpList_append_int rfl (.tmp 25) (.tmp 27) _ rfl W0.heap.size i0 Try.underlying35 hi0 hz0 hz1 hz2 _ done.length done rfl hown2 ⟨wr.heap.size, 0, none⟩ 1 1 [r] rfl (by intro _; omega) rfl hcn (by omega) (Nat.le_trans hsz hWn.size) ?_; intro v2 w5 hown5 hg5 hob5)
      have hxr5 : Ext W0 w5 := grownI_ext hown2 hg5 (hxr.trans hWn) (Nat.le_refl _)
      have hX5 : ∀ wx, Ext w5 wx → wx.cell? ⟨gm, 0, none⟩ = some (.int .i64 t) ∧ wx.cell? ⟨gm, 2, none⟩ = some (.slice (some a) q cc) ∧ wx.cell? (a.add k) = some (.int .u64 (X.at (k : Int))) := fun wx hx => by
        obtain ⟨y0, -, y2, y3⟩ := hX wx (hxr5.trans hx)
        exact ⟨y0, y2, y3 k hkq⟩
      have HX := Lib.hid hX
      generalize X.at (k : Int) = z at *
      have HCL := Lib.hid hcl
      have HPI := Lib.hid hpile
      clear hX hcl hpile hk hown hown2 hcn hg5 hob5 z0 z1 z2 hlk1 hlk2
      refine' wp_region_sure_all ⟨((some 29, [], none) :: (some 30, [0], none) :: (some 31, [], none) :: (some 32, [2], none) :: (some 33, [], none) :: (some 34, [3, 4], none) :: (some 35, [1, 5], none) :: (some 36, [6], none) :: (some 37, [7, 5], none) :: (some 4, [8, 8, 0, 1, 2, 3, 4, 5, 6, 7, 8], none) :: []), (0 :: 1 :: 0 :: 4 :: 0 :: 28 :: 63 :: 127 :: 255 :: 511 :: []), (true :: true :: true :: true :: true :: true :: true :: true :: true :: true :: []), [], 0⟩ 10 39 ((0, 29) :: (1, 30) :: (2, 31) :: (3, 32) :: (4, 33) :: (5, 34) :: (6, 35) :: (7, 36) :: (8, 37) :: (9, 4) :: []) ((0, 29) :: (1, 30) :: (2, 31) :: (3, 32) :: (4, 33) :: (5, 34) :: (6, 35) :: (7, 36) :: (8, 37) :: (9, 4) :: []) (.det _ :: .det _ :: .det _ :: .det _ :: .det _ :: .det _ :: .det _ :: .det _ :: .det _ :: .det _ :: []) (by kernel_rfl) (by kernel_rfl) (by kernel_rfl) rfl (by kernel_rfl) (by kernel_rfl) rfl (by kernel_rfl) ?hone ?hend
      case hone =>
        intro CS frS VS hCS ha hV
        have qs1 := slot_val (t := 1) ha rfl
        simp only [List.getElem_toArray, List.getElem_cons_succ, List.getElem_cons_zero] at qs1
        have qs4 := slot_val (t := 4) ha rfl
        simp only [List.getElem_toArray, List.getElem_cons_succ, List.getElem_cons_zero] at qs4
        have HCS := Lib.hid hCS
        have HVS := Lib.hid hV
        clear ha hCS hV
        -- 0: slot 29 := Op.fieldAddr 45 t1 2
        refine sure_det (js := []) (ts := [1]) (gd := none) (place_at HVS.out (k := 0) rfl) (by rw [HCS.out]; kernel_rfl) ?_ ?_
        · intro wx hx ρ hρ hs hf
          have hρc := hρ.const
          have hρf := hρ.func
          obtain ⟨fx1, -⟩ := hf
          rw [qs1] at fx1
          clear hs
          clear HCS HVS qs1 qs4
          refine run_plain ?_
          unfold runs
          go_simp
          exact detK.mk
        -- 1: slot 30 := Op.load 31 t29
        refine sure_det (js := [(0, 29)]) (ts := []) (gd := none) (place_at HVS.out (k := 1) rfl) (by rw [HCS.out]; kernel_rfl) ?_ ?_
        · intro wx hx ρ hρ hs hf
          have hρc := hρ.const
          have hρf := hρ.func
          obtain ⟨sn0, -⟩ := hs
          rw [place_at HVS.out (k := 0) rfl] at sn0
          replace sn0 : ρ (.tmp 29) = _ := sn0
          clear hf
          clear HCS HVS qs1 qs4
          refine run_plain ?_
          obtain ⟨p0, p1, p2⟩ := hX5 wx hx.drawn
          unfold runs
          go_simp
          exact detK.mk
        -- 2: slot 31 := Op.fieldAddr 45 t1 0
        refine sure_det (js := []) (ts := [1]) (gd := none) (place_at HVS.out (k := 2) rfl) (by rw [HCS.out]; kernel_rfl) ?_ ?_
        · intro wx hx ρ hρ hs hf
          have hρc := hρ.const
          have hρf := hρ.func
          obtain ⟨fx1, -⟩ := hf
          rw [qs1] at fx1
          clear hs
          clear HCS HVS qs1 qs4
          refine run_plain ?_
          unfold runs
          go_simp
          exact detK.mk
        -- 3: slot 32 := Op.load 3 t31
        refine sure_det (js := [(2, 31)]) (ts := []) (gd := none) (place_at HVS.out (k := 3) rfl) (by rw [HCS.out]; kernel_rfl) ?_ ?_
        · intro wx hx ρ hρ hs hf
          have hρc := hρ.const
          have hρf := hρ.func
          obtain ⟨sn2, -⟩ := hs
          rw [place_at HVS.out (k := 2) rfl] at sn2
          replace sn2 : ρ (.tmp 31) = _ := sn2
          clear hf
          clear HCS HVS qs1 qs4
          refine run_plain ?_
          obtain ⟨p0, p1, p2⟩ := hX5 wx hx.drawn
          unfold runs
          go_simp
          exact detK.mk
        -- 4: slot 33 := Op.move t4
        refine sure_det (js := []) (ts := [4]) (gd := none) (place_at HVS.out (k := 4) rfl) (by rw [HCS.out]; kernel_rfl) ?_ ?_
        · intro wx hx ρ hρ hs hf
          have hρc := hρ.const
          have hρf := hρ.func
          obtain ⟨fx4, -⟩ := hf
          rw [qs4] at fx4
          clear hs
          clear HCS HVS qs1 qs4
          refine run_plain ?_
          refine op_move rfl fx4 ?_
          exact detK.mk
        -- 5: slot 34 := Op.call { call ( 66), args := #[t32, t33, (i64 7)], argTypes := #[3, 3, 3] }
        refine sure_det (js := [(3, 32), (4, 33)]) (ts := []) (gd := none) (place_at HVS.out (k := 5) rfl) (by rw [HCS.out]; kernel_rfl) ?_ ?_
        · intro wx hx ρ hρ hs hf
          have hρc := hρ.const
          have hρf := hρ.func
          obtain ⟨sn3, sn4, -⟩ := hs
          rw [place_at HVS.out (k := 3) rfl] at sn3
          replace sn3 : ρ (.tmp 32) = _ := sn3
          rw [place_at HVS.out (k := 4) rfl] at sn4
          replace sn4 : ρ (.tmp 33) = _ := sn4
          clear hf
          clear HCS HVS qs1 qs4
          refine run_plain ?_
          refine op_call rfl hρ Try.call66 (map_three sn3 sn4 (hρ.const _)) ?_
          first | (refine Calls.mono (hfield _) ?_; rintro e w' ⟨rfl, rfl⟩; refine ⟨_, rfl, ?_⟩; exact detK.mk) | (refine Calls.mono (rfirst_any _ hvU _) ?_; rintro e w' ⟨rfl, rfl⟩; refine ⟨_, rfl, ?_⟩; exact detK.mk)
        -- 6: slot 35 := Op.indexAddr 31 t30 t34
        refine sure_det (js := [(1, 30), (5, 34)]) (ts := []) (gd := none) (place_at HVS.out (k := 6) rfl) (by rw [HCS.out]; kernel_rfl) ?_ ?_
        · intro wx hx ρ hρ hs hf
          have hρc := hρ.const
          have hρf := hρ.func
          obtain ⟨sn1, sn5, -⟩ := hs
          rw [place_at HVS.out (k := 1) rfl] at sn1
          replace sn1 : ρ (.tmp 30) = _ := sn1
          rw [place_at HVS.out (k := 5) rfl] at sn5
          replace sn5 : ρ (.tmp 34) = _ := sn5
          clear hf
          clear HCS HVS qs1 qs4
          refine run_plain ?_
          unfold runs
          go_simp
          exact detK.mk
        -- 7: slot 36 := Op.load 22 t35
        refine sure_det (js := [(6, 35)]) (ts := []) (gd := none) (place_at HVS.out (k := 7) rfl) (by rw [HCS.out]; kernel_rfl) ?_ ?_
        · intro wx hx ρ hρ hs hf
          have hρc := hρ.const
          have hρf := hρ.func
          obtain ⟨sn6, -⟩ := hs
          rw [place_at HVS.out (k := 6) rfl] at sn6
          replace sn6 : ρ (.tmp 35) = _ := sn6
          clear hf
          clear HCS HVS qs1 qs4
          refine run_plain ?_
          obtain ⟨p0, p1, p2⟩ := hX5 wx hx.drawn
          unfold runs
          go_simp
          exact detK.mk
        -- 8: slot 37 := Op.call { call ( 52), args := #[t36], argTypes := #[22] }
        refine sure_det (js := [(7, 36)]) (ts := []) (gd := none) (place_at HVS.out (k := 8) rfl) (by rw [HCS.out]; kernel_rfl) ?_ ?_
        · intro wx hx ρ hρ hs hf
          have hρc := hρ.const
          have hρf := hρ.func
          obtain ⟨sn7, -⟩ := hs
          rw [place_at HVS.out (k := 7) rfl] at sn7
          replace sn7 : ρ (.tmp 36) = _ := sn7
          clear hf
          clear HCS HVS qs1 qs4
          refine run_plain ?_
          refine op_call rfl hρ Try.call52 (map_one sn7) ?_
          first | (refine Calls.mono (hfield _) ?_; rintro e w' ⟨rfl, rfl⟩; refine ⟨_, rfl, ?_⟩; exact detK.mk) | (refine Calls.mono (rfirst_any _ hvU _) ?_; rintro e w' ⟨rfl, rfl⟩; refine ⟨_, rfl, ?_⟩; exact detK.mk)
        -- 9: slot 4 := Op.assign t37
        refine sure_det (js := [(8, 37)]) (ts := []) (gd := none) (place_at HVS.out (k := 9) rfl) (by rw [HCS.out]; kernel_rfl) ?_ ?_
        · intro wx hx ρ hρ hs hf
          have hρc := hρ.const
          have hρf := hρ.func
          obtain ⟨sn8, -⟩ := hs
          rw [place_at HVS.out (k := 8) rfl] at sn8
          replace sn8 : ρ (.tmp 37) = _ := sn8
          clear hf
          clear HCS HVS qs1 qs4
          refine run_plain ?_
          refine op_assign rfl sn8 ?_
          exact detK.mk
        exact trivial
      case hend =>
        intro xs wx hx hg
        have gk0 : xs 0 = _ := goods_get hg (i := 0) (j := 0) (d := 29) rfl
        have gk1 : xs 1 = _ := goods_get hg (i := 1) (j := 1) (d := 30) rfl
        have gk2 : xs 2 = _ := goods_get hg (i := 2) (j := 2) (d := 31) rfl
        have gk3 : xs 3 = _ := goods_get hg (i := 3) (j := 3) (d := 32) rfl
        have gk4 : xs 4 = _ := goods_get hg (i := 4) (j := 4) (d := 33) rfl
        have gk5 : xs 5 = _ := goods_get hg (i := 5) (j := 5) (d := 34) rfl
        have gk6 : xs 6 = _ := goods_get hg (i := 6) (j := 6) (d := 35) rfl
        have gk7 : xs 7 = _ := goods_get hg (i := 7) (j := 7) (d := 36) rfl
        have gk8 : xs 8 = _ := goods_get hg (i := 8) (j := 8) (d := 37) rfl
        have gk9 : xs 9 = _ := goods_get hg (i := 9) (j := 9) (d := 4) rfl
        clear hg
        simp only [putAll, gk0, gk1, gk2, gk3, gk4, gk5, gk6, gk7, gk8, gk9]
        clear gk0 gk1 gk2 gk3 gk4 gk5 gk6 gk7 gk8 gk9
        clear xs
        simp only [Act.put, List.setIfInBounds_toArray, List.set_cons_zero, List.set_cons_succ]
        go_wp2
        have hxe := hx.drawn
        go_roundw
        case rel => exact ⟨done ++ [r], l, firstF z, rfl, HCL.out, by rw [HPI.out]; simp, by simpa using hown5.ext hxe, hxr5.trans hxe⟩
        case measure => rw [hown5.lenV]; simp only [lenV]; simp at hdl; omega
end Go.Proofs.Ytjokaginolpbeaa

namespace Go.Proofs.Ytjokaginolpbeaa
open Go.RowKit

/-! What the laws of chapter 12 share. -/
theorem bytes_cell {w : World} {A : Option Addr} {n c : Nat} {l : List UInt8} (h : BytesV w A n c l) {i : Nat} (hi : i < n) : ∃ a z, A = some a ∧ w.cell? (a.add i) = some (.int .u8 (z : Nat)) ∧ z < 256 := by
  have hl : i < l.length := by rw [h.len]; exact hi
  obtain ⟨a, ha, hc⟩ := h.cells (fun e => by simp [bytesOf] at e; subst e; simp at hl)
  refine ⟨a, l[i].toNat, ha, hc i _ ?_, l[i].toNat_lt⟩
  simp [bytesOf, hl]
theorem WldV.word {w : World} {X : WldK} {T C : Int} {A : Option Addr} {q c : Nat} {R : Int} {B C' : Option Addr} {n b n' d : Nat} (h : WldV w (.agg #[.int .i64 T, .int .i64 C, .slice A q c, .int .u64 R, .slice B n b, .slice C' n' d]) X) (h2 : 2 ≤ X.ws.length) :
    ∃ a, A = some a ∧ q = X.ws.length ∧ ∀ i : Nat, i < q → w.cell? (a.add i) = some (.int .u64 (X.at (i : Int))) := by
  have hA := h.words
  have hne : wordsOf X.ws ≠ [] := fun e => by
    have := congrArg List.length e
    rw [wordsOf_length, List.length_nil] at this; omega
  obtain ⟨a, rfl, hc⟩ := hA.cells hne
  refine ⟨a, rfl, hA.len.symm, fun i hi => hc i _ ?_⟩
  unfold wordsOf WldK.at
  rw [List.getElem?_map]
  have hi2 : i < X.ws.length := by rw [hA.len]; exact hi
  simp [List.getElem?_eq_getElem hi2, List.getD_eq_getElem?_getD]
/-- what is free, and what is had: all records, each once -/
structure HK (N : Nat) (pile held : List Int) : Prop where
  nodup : (pile ++ held).Nodup
  rng : ∀ x ∈ held, 1 ≤ x ∧ x ≤ (N : Int)
  len : pile.length + held.length = N
theorem HK.new (N : Nat) : HK N (upFrom 1 N) [] := ⟨by rw [List.append_nil]; exact upFrom_nodup _ _, by simp, by
  have : ∀ n r, (upFrom r n).length = n := fun n => by
    induction n with
    | zero => intro r; rfl
    | succ n ih => intro r; simp [upFrom, ih]
  simp [this]⟩
theorem HK.pop {N : Nat} {x : Int} {l held : List Int} (h : HK N (x :: l) held) (hx : 1 ≤ x ∧ x ≤ (N : Int)) : HK N l (held ++ [x]) := by
  have hn : (l ++ (held ++ [x])).Nodup := by
    have h1 : (x :: (l ++ held)).Nodup := h.nodup
    rw [List.nodup_cons] at h1
    rw [← List.append_assoc, List.nodup_append]
    refine ⟨h1.2, by simp, fun a ha b hb => ?_⟩
    rw [List.mem_singleton] at hb
    intro e; subst e; subst hb; exact h1.1 ha
  refine ⟨hn, fun y hy => ?_, by have := h.len; simp at this ⊢; omega⟩
  rcases List.mem_append.1 hy with hy | hy
  · exact h.rng y hy
  · rw [List.mem_singleton.1 hy]; exact hx
end Go.Proofs.Ytjokaginolpbeaa

namespace Go.Proofs.Ytjokaginolpbeaa
open Go.RowKit

/-! The example of chapter 13. -/
set_option maxRecDepth 100000 in
set_option maxHeartbeats 4000000 in
theorem shown13_any (w : World) : Calls Try.prog 15 #[] w fun e w' => e = .returned (.bool true) ∧ Ext w w' := by
  have hb6 : ∀ (W : World), (Instr.build 24 #[(0, .int .i64 6)]).run Try.prog W = .ok (.agg #[.int .i64 6, .int .i64 0, .int .i64 0, .int .u64 0]) W := fun _ => by kernel_rfl
  have hb3 : ∀ (W : World), (Instr.build 24 #[(0, .int .i64 3)]).run Try.prog W = .ok (.agg #[.int .i64 3, .int .i64 0, .int .i64 0, .int .u64 0]) W := fun _ => by kernel_rfl
  have hb5 : ∀ (W : World), (Instr.build 24 #[(0, .int .i64 5), (1, .int .i64 1)]).run Try.prog W = .ok (.agg #[.int .i64 5, .int .i64 1, .int .i64 0, .int .u64 0]) W := fun _ => by kernel_rfl
  have hnew := ranew_yes 2 1 (by omega) (by omega) (by omega) w
  have cV := exc_V
  have cU := exc_U
  have cX := exc_X
  have cD := exc_D
  have cY := exc_Y
  have hyl := exY_len
  have hya := exY_at
  generalize exV.1 = X1 at *
  generalize exU.1 = X2 at *
  generalize exX.1 = X3 at *
  generalize exD.1 = X4 at *
  generalize exY.1 = X5 at *
  generalize newW 2 1 = X0 at *
  have HYL := Lib.hid hyl
  have HYA := Lib.hid hya
  clear hyl hya
  go_enter Try.func15, Try.ntmps15
  have hW : Ext w w := Ext.refl w
  go_wp2_with fail
  refine (hnew).mono ?_
  rintro e w_a ⟨v_, rfl, hVa, hx_⟩
  obtain ⟨aA, aq, ac, aB, ab, aC, ad, rfl⟩ := hVa.form6
  replace hW := hW.trans hx_
  clear hx_
  go_upto_region 2 with (fail)
  have hx_ : Ext w_a (w_a.alloc (.cells #[.int .i64 X0.T, .int .i64 X0.C, .slice aA aq ac, .int .u64 X0.R, .slice aB X0.n ab, .slice aC X0.n ad] 51)) := (Below.refl _ w_a).alloc (Nat.le_refl _) _
  have hba := heap_alloc_new w_a (.cells #[.int .i64 X0.T, .int .i64 X0.C, .slice aA aq ac, .int .u64 X0.R, .slice aB X0.n ab, .slice aC X0.n ad] 51)
  generalize w_a.alloc (.cells #[.int .i64 X0.T, .int .i64 X0.C, .slice aA aq ac, .int .u64 X0.R, .slice aB X0.n ab, .slice aC X0.n ad] 51) = W1 at *
  generalize w_a.heap.size = ga at *
  replace hVa := hVa.ext hx_
  replace hW := hW.trans hx_
  clear hx_
  have z0 : W1.cell? ⟨ga, 0, none⟩ = some (.int .i64 X0.T) := by simp [World.cell?, hba]
  have z1 : W1.cell? ⟨ga, 1, none⟩ = some (.int .i64 X0.C) := by simp [World.cell?, hba]
  have z2 : W1.cell? ⟨ga, 2, none⟩ = some (.slice aA aq ac) := by simp [World.cell?, hba]
  have z3 : W1.cell? ⟨ga, 3, none⟩ = some (.int .u64 X0.R) := by simp [World.cell?, hba]
  have z4 : W1.cell? ⟨ga, 4, none⟩ = some (.slice aB X0.n ab) := by simp [World.cell?, hba]
  have z5 : W1.cell? ⟨ga, 5, none⟩ = some (.slice aC X0.n ad) := by simp [World.cell?, hba]
  go_wp2_with fail
  refine (cV _ _ hVa).mono ?_
  rintro e w_b ⟨v_, rfl, hVb, hx_⟩
  obtain ⟨bA, bq, bc, bB, bb, bC, bd, rfl⟩ := hVb.form6
  clear z0 z1 z2 z3 z4 z5
  replace hba := heap_ext hba hx_
  replace hVa := hVa.ext hx_
  replace hW := hW.trans hx_
  clear hx_
  go_upto_region 3 with (fail)
  obtain ⟨hx_, hbb, hob⟩ := two_boxes7 w_b (.cells #[.int .i64 X1.T, .int .i64 X1.C, .slice bA bq bc, .int .u64 X1.R, .slice bB X1.n bb, .slice bC X1.n bd] 51) (.cells #[.int .i64 0, .bool false, .int .i64 1, .int .u64 0, .slice none 0 0] 37)
  generalize (w_b.alloc (.cells #[.int .i64 X1.T, .int .i64 X1.C, .slice bA bq bc, .int .u64 X1.R, .slice bB X1.n bb, .slice bC X1.n bd] 51)).alloc (.cells #[.int .i64 0, .bool false, .int .i64 1, .int .u64 0, .slice none 0 0] 37) = Wb at *
  generalize w_b.heap.size = gb at *
  replace hba := heap_ext hba hx_
  replace hVa := hVa.ext hx_
  replace hVb := hVb.ext hx_
  replace hW := hW.trans hx_
  clear hx_
  have z0 : Wb.cell? ⟨gb, 0, none⟩ = some (.int .i64 X1.T) := by simp [World.cell?, hbb]
  have z1 : Wb.cell? ⟨gb, 1, none⟩ = some (.int .i64 X1.C) := by simp [World.cell?, hbb]
  have z2 : Wb.cell? ⟨gb, 2, none⟩ = some (.slice bA bq bc) := by simp [World.cell?, hbb]
  have z3 : Wb.cell? ⟨gb, 3, none⟩ = some (.int .u64 X1.R) := by simp [World.cell?, hbb]
  have z4 : Wb.cell? ⟨gb, 4, none⟩ = some (.slice bB X1.n bb) := by simp [World.cell?, hbb]
  have z5 : Wb.cell? ⟨gb, 5, none⟩ = some (.slice bC X1.n bd) := by simp [World.cell?, hbb]
  go_wp2_with fail
  refine (cU _ _ hVb).mono ?_
  rintro e w_c ⟨v_, rfl, hVc, hx_⟩
  obtain ⟨cA, cq, cc, cB, cb, cC, cd, rfl⟩ := hVc.form6
  clear z0 z1 z2 z3 z4 z5
  replace hba := heap_ext hba hx_
  replace hbb := heap_ext hbb hx_
  replace hob := heap_ext hob hx_
  replace hVa := hVa.ext hx_
  replace hVb := hVb.ext hx_
  replace hW := hW.trans hx_
  clear hx_
  go_upto_region 4 with (fail)
  obtain ⟨hx_, hbc, hoc⟩ := two_boxes7 w_c (.cells #[.int .i64 X2.T, .int .i64 X2.C, .slice cA cq cc, .int .u64 X2.R, .slice cB X2.n cb, .slice cC X2.n cd] 51) (.cells #[.int .i64 0, .bool false, .int .i64 0, .int .u64 0, .slice none 0 0] 37)
  generalize (w_c.alloc (.cells #[.int .i64 X2.T, .int .i64 X2.C, .slice cA cq cc, .int .u64 X2.R, .slice cB X2.n cb, .slice cC X2.n cd] 51)).alloc (.cells #[.int .i64 0, .bool false, .int .i64 0, .int .u64 0, .slice none 0 0] 37) = Wc at *
  generalize w_c.heap.size = gc at *
  replace hba := heap_ext hba hx_
  replace hbb := heap_ext hbb hx_
  replace hob := heap_ext hob hx_
  replace hVa := hVa.ext hx_
  replace hVb := hVb.ext hx_
  replace hVc := hVc.ext hx_
  replace hW := hW.trans hx_
  clear hx_
  clear hbb hVb
  have z0 : Wc.cell? ⟨gc, 0, none⟩ = some (.int .i64 X2.T) := by simp [World.cell?, hbc]
  have z1 : Wc.cell? ⟨gc, 1, none⟩ = some (.int .i64 X2.C) := by simp [World.cell?, hbc]
  have z2 : Wc.cell? ⟨gc, 2, none⟩ = some (.slice cA cq cc) := by simp [World.cell?, hbc]
  have z3 : Wc.cell? ⟨gc, 3, none⟩ = some (.int .u64 X2.R) := by simp [World.cell?, hbc]
  have z4 : Wc.cell? ⟨gc, 4, none⟩ = some (.slice cB X2.n cb) := by simp [World.cell?, hbc]
  have z5 : Wc.cell? ⟨gc, 5, none⟩ = some (.slice cC X2.n cd) := by simp [World.cell?, hbc]
  go_wp2_with fail
  refine (cX _ _ hVc).mono ?_
  rintro e w_d ⟨v_, rfl, hVd, hx_⟩
  obtain ⟨dA, dq, dc, dB, db, dC, dd, rfl⟩ := hVd.form6
  clear z0 z1 z2 z3 z4 z5
  replace hba := heap_ext hba hx_
  replace hob := heap_ext hob hx_
  replace hbc := heap_ext hbc hx_
  replace hoc := heap_ext hoc hx_
  replace hVa := hVa.ext hx_
  replace hVc := hVc.ext hx_
  replace hW := hW.trans hx_
  clear hx_
  go_upto_region 5 with (fail)
  obtain ⟨hx_, hbd, hod⟩ := two_boxes7 w_d (.cells #[.int .i64 X3.T, .int .i64 X3.C, .slice dA dq dc, .int .u64 X3.R, .slice dB X3.n db, .slice dC X3.n dd] 51) (.cells #[.int .i64 0, .bool false, .int .i64 1, .int .u64 0, .slice none 0 0] 37)
  generalize (w_d.alloc (.cells #[.int .i64 X3.T, .int .i64 X3.C, .slice dA dq dc, .int .u64 X3.R, .slice dB X3.n db, .slice dC X3.n dd] 51)).alloc (.cells #[.int .i64 0, .bool false, .int .i64 1, .int .u64 0, .slice none 0 0] 37) = Wd at *
  generalize w_d.heap.size = gd at *
  replace hba := heap_ext hba hx_
  replace hob := heap_ext hob hx_
  replace hbc := heap_ext hbc hx_
  replace hoc := heap_ext hoc hx_
  replace hVa := hVa.ext hx_
  replace hVc := hVc.ext hx_
  replace hVd := hVd.ext hx_
  replace hW := hW.trans hx_
  clear hx_
  clear hbc hVc
  have z0 : Wd.cell? ⟨gd, 0, none⟩ = some (.int .i64 X3.T) := by simp [World.cell?, hbd]
  have z1 : Wd.cell? ⟨gd, 1, none⟩ = some (.int .i64 X3.C) := by simp [World.cell?, hbd]
  have z2 : Wd.cell? ⟨gd, 2, none⟩ = some (.slice dA dq dc) := by simp [World.cell?, hbd]
  have z3 : Wd.cell? ⟨gd, 3, none⟩ = some (.int .u64 X3.R) := by simp [World.cell?, hbd]
  have z4 : Wd.cell? ⟨gd, 4, none⟩ = some (.slice dB X3.n db) := by simp [World.cell?, hbd]
  have z5 : Wd.cell? ⟨gd, 5, none⟩ = some (.slice dC X3.n dd) := by simp [World.cell?, hbd]
  go_wp2_with fail
  refine (cD _ _ hVd).mono ?_
  rintro e w_e ⟨v_, rfl, hVe, hx_⟩
  obtain ⟨eA, eq, ec, eB, eb, eC, ed, rfl⟩ := hVe.form6
  clear z0 z1 z2 z3 z4 z5
  replace hba := heap_ext hba hx_
  replace hob := heap_ext hob hx_
  replace hoc := heap_ext hoc hx_
  replace hbd := heap_ext hbd hx_
  replace hod := heap_ext hod hx_
  replace hVa := hVa.ext hx_
  replace hVd := hVd.ext hx_
  replace hW := hW.trans hx_
  clear hx_
  go_upto_region 6 with (fail)
  obtain ⟨hx_, hbe, hoe⟩ := two_boxes7 w_e (.cells #[.int .i64 X4.T, .int .i64 X4.C, .slice eA eq ec, .int .u64 X4.R, .slice eB X4.n eb, .slice eC X4.n ed] 51) (.cells #[.int .i64 0, .bool false, .int .i64 0, .int .u64 0, .slice none 0 0] 37)
  generalize (w_e.alloc (.cells #[.int .i64 X4.T, .int .i64 X4.C, .slice eA eq ec, .int .u64 X4.R, .slice eB X4.n eb, .slice eC X4.n ed] 51)).alloc (.cells #[.int .i64 0, .bool false, .int .i64 0, .int .u64 0, .slice none 0 0] 37) = We at *
  generalize w_e.heap.size = ge at *
  replace hba := heap_ext hba hx_
  replace hob := heap_ext hob hx_
  replace hoc := heap_ext hoc hx_
  replace hbd := heap_ext hbd hx_
  replace hod := heap_ext hod hx_
  replace hVa := hVa.ext hx_
  replace hVd := hVd.ext hx_
  replace hVe := hVe.ext hx_
  replace hW := hW.trans hx_
  clear hx_
  clear hbd hVd
  have z0 : We.cell? ⟨ga, 0, none⟩ = some (.int .i64 X0.T) := by simp [World.cell?, hba]
  have z1 : We.cell? ⟨ga, 1, none⟩ = some (.int .i64 X0.C) := by simp [World.cell?, hba]
  have z2 : We.cell? ⟨ga, 2, none⟩ = some (.slice aA aq ac) := by simp [World.cell?, hba]
  have z3 : We.cell? ⟨ga, 3, none⟩ = some (.int .u64 X0.R) := by simp [World.cell?, hba]
  have z4 : We.cell? ⟨ga, 4, none⟩ = some (.slice aB X0.n ab) := by simp [World.cell?, hba]
  have z5 : We.cell? ⟨ga, 5, none⟩ = some (.slice aC X0.n ad) := by simp [World.cell?, hba]
  go_wp2_with fail
  refine (cY _ _ hVa).mono ?_
  rintro e w_f ⟨v_, rfl, hVf, hx_⟩
  obtain ⟨fA, fq, fc, fB, fb, fC, fd, rfl⟩ := hVf.form6
  clear z0 z1 z2 z3 z4 z5
  replace hba := heap_ext hba hx_
  replace hob := heap_ext hob hx_
  replace hoc := heap_ext hoc hx_
  replace hod := heap_ext hod hx_
  replace hbe := heap_ext hbe hx_
  replace hoe := heap_ext hoe hx_
  replace hVa := hVa.ext hx_
  replace hVe := hVe.ext hx_
  replace hW := hW.trans hx_
  clear hx_
  go_upto_region 7 with (fail)
  obtain ⟨hx_, hbf, hof⟩ := two_boxes7 w_f (.cells #[.int .i64 X5.T, .int .i64 X5.C, .slice fA fq fc, .int .u64 X5.R, .slice fB X5.n fb, .slice fC X5.n fd] 51) (.cells #[.int .i64 0, .bool false, .int .i64 0, .int .u64 0, .slice none 0 0] 37)
  generalize (w_f.alloc (.cells #[.int .i64 X5.T, .int .i64 X5.C, .slice fA fq fc, .int .u64 X5.R, .slice fB X5.n fb, .slice fC X5.n fd] 51)).alloc (.cells #[.int .i64 0, .bool false, .int .i64 0, .int .u64 0, .slice none 0 0] 37) = Wf at *
  generalize w_f.heap.size = gf at *
  replace hba := heap_ext hba hx_
  replace hob := heap_ext hob hx_
  replace hoc := heap_ext hoc hx_
  replace hod := heap_ext hod hx_
  replace hbe := heap_ext hbe hx_
  replace hoe := heap_ext hoe hx_
  replace hVa := hVa.ext hx_
  replace hVe := hVe.ext hx_
  replace hVf := hVf.ext hx_
  replace hW := hW.trans hx_
  clear hx_
  clear hba hVa
  have z0 : Wf.cell? ⟨gf, 0, none⟩ = some (.int .i64 X5.T) := by simp [World.cell?, hbf]
  have z1 : Wf.cell? ⟨gf, 1, none⟩ = some (.int .i64 X5.C) := by simp [World.cell?, hbf]
  have z2 : Wf.cell? ⟨gf, 2, none⟩ = some (.slice fA fq fc) := by simp [World.cell?, hbf]
  have z3 : Wf.cell? ⟨gf, 3, none⟩ = some (.int .u64 X5.R) := by simp [World.cell?, hbf]
  have z4 : Wf.cell? ⟨gf, 4, none⟩ = some (.slice fB X5.n fb) := by simp [World.cell?, hbf]
  have z5 : Wf.cell? ⟨gf, 5, none⟩ = some (.slice fC X5.n fd) := by simp [World.cell?, hbf]
  have b0 : Wf.cell? ⟨gb + 1, 0, none⟩ = some (.int .i64 0) := by simp [World.cell?, hob]
  have b1 : Wf.cell? ⟨gb + 1, 1, none⟩ = some (.bool false) := by simp [World.cell?, hob]
  have b2 : Wf.cell? ⟨gb + 1, 2, none⟩ = some (.int .i64 1) := by simp [World.cell?, hob]
  have b3 : Wf.cell? ⟨gb + 1, 3, none⟩ = some (.int .u64 0) := by simp [World.cell?, hob]
  have b4 : Wf.cell? ⟨gb + 1, 4, none⟩ = some (.slice none 0 0) := by simp [World.cell?, hob]
  have d0 : Wf.cell? ⟨gd + 1, 0, none⟩ = some (.int .i64 0) := by simp [World.cell?, hod]
  have d1 : Wf.cell? ⟨gd + 1, 1, none⟩ = some (.bool false) := by simp [World.cell?, hod]
  have d2 : Wf.cell? ⟨gd + 1, 2, none⟩ = some (.int .i64 1) := by simp [World.cell?, hod]
  have d3 : Wf.cell? ⟨gd + 1, 3, none⟩ = some (.int .u64 0) := by simp [World.cell?, hod]
  have d4 : Wf.cell? ⟨gd + 1, 4, none⟩ = some (.slice none 0 0) := by simp [World.cell?, hod]
  have e0 : Wf.cell? ⟨ge + 1, 0, none⟩ = some (.int .i64 0) := by simp [World.cell?, hoe]
  have e1 : Wf.cell? ⟨ge + 1, 1, none⟩ = some (.bool false) := by simp [World.cell?, hoe]
  have e2 : Wf.cell? ⟨ge + 1, 2, none⟩ = some (.int .i64 0) := by simp [World.cell?, hoe]
  have e3 : Wf.cell? ⟨ge + 1, 3, none⟩ = some (.int .u64 0) := by simp [World.cell?, hoe]
  have e4 : Wf.cell? ⟨ge + 1, 4, none⟩ = some (.slice none 0 0) := by simp [World.cell?, hoe]
  obtain ⟨aY, rfl, hqY, hcY⟩ := hVf.word (by rw [HYL.out]; omega)
  rw [HYL.out] at hqY
  have hc9 := hcY 9 (by omega)
  rw [show (((9 : Nat)) : Int) = 9 from rfl, HYA.out, show aY.add 9 = ⟨aY.block, aY.off + 9, none⟩ from rfl] at hc9
  have hfq : ¬ (fq : Int) < 10 := by omega
  have hfq9 : (9 : Int) < (fq : Int) := by omega
  clear hqY hcY
  go_wp2
  go_ret
  exact ⟨rfl, hW⟩
end Go.Proofs.Ytjokaginolpbeaa

namespace Go.Proofs.Ytjokaginolpbeaa
open Go.RowKit

/-! What operations on epochs do, stepping alone: an epoch, what is free, three limbos, pins. -/
structure EpS where
  e : Nat
  pile : List Int
  L : Nat → List Int
  P : Nat → Int
def EpS.all (S : EpS) : List Int := S.pile ++ (S.L 0 ++ (S.L 1 ++ S.L 2))
structure EpK (X : WldK) (t c : Nat) (S : EpS) : Prop where
  pool : PoolK X t c S.pile
  lim : ∀ i : Nat, i < 3 → ChainW X t c (S.L i) (firstF (X.at (4 + (i : Int))))
  nodup : S.all.Nodup
  ep : X.at 3 = (S.e : Int)
  pins : ∀ i : Nat, i < t → X.at (8 + (i : Int)) = S.P i
theorem EpK.dim {X : WldK} {t c : Nat} {S : EpS} (h : EpK X t c S) : Dim X t c := h.pool.dim
theorem at_ge (X : WldK) {t c : Nat} (h : Dim X t c) : 15 + t ≤ X.ws.length + 7 ∧ 8 + t ≤ X.ws.length := by rw [h.len]; unfold memL; omega
theorem Goes.cast {α : Type} {me : Int} {T : PT α} {X X' : WldK} {j j' : Nat} {a : α} (h : Goes me T X j a X') (e : j = j') : Goes me T X j' a X' := e ▸ h
/-! Draining a chain. -/
def drainX (X : WldK) (t : Nat) (l : List Int) : WldK := l.foldl (fun X x => pushX X t x) X
theorem drain_cons (X : WldK) (t : Nat) (x : Int) (l : List Int) : drainX X t (x :: l) = drainX (pushX X t x) t l := rfl
theorem pushX_at {X : WldK} {t : Nat} {x j : Int} (h1 : j.toNat ≠ 1) (h2 : j.toNat ≠ (linkI t x).toNat) : (pushX X t x).at j = X.at j := by
  unfold pushX
  rw [at_put_other (by omega), at_put_other h2]
theorem drain_at {t : Nat} {j : Int} (h1 : j.toNat ≠ 1) : ∀ (l : List Int) (X : WldK), (∀ x ∈ l, j.toNat ≠ (linkI t x).toNat) → (drainX X t l).at j = X.at j
  | [], X, _ => rfl
  | x :: l, X, h => by rw [drain_cons, drain_at h1 l _ (fun y hy => h y (by simp [hy])), pushX_at h1 (h x (by simp))]
theorem chain_drain {me : Int} {t c f : Nat} : ∀ (l : List Int) (X : WldK) (r : Int) (pile : List Int) (g : Nat), PoolK X t c pile → ChainW X t c l r → (l ++ pile).Nodup → l.length < g →
    Goes me (chainT t (f + 1) g r) X (4 * l.length) 0 (drainX X t l) ∧ PoolK (drainX X t l) t c (l.reverse ++ pile)
  | [], X, r, pile, g, hp, hc, _, hg => by
    obtain ⟨g, rfl⟩ : ∃ m, g = m + 1 := ⟨g - 1, by simp at hg; omega⟩
    have h0 : r = 0 := hc
    refine ⟨?_, hp⟩
    unfold chainT
    rw [if_pos h0]
    exact Goes.ret _ _
  | x :: l, X, r, pile, g, hp, hc, hn, hg => by
    obtain ⟨g, rfl⟩ : ∃ m, g = m + 1 := ⟨g - 1, by simp at hg; omega⟩
    obtain ⟨hr, h1, h2, h3⟩ := hc
    have hl := link_in (t := t) h1 h2
    have hq := link_pos t h1
    rw [List.cons_append, List.nodup_cons] at hn
    have hxp : x ∉ pile := fun hm => hn.1 (by simp [hm])
    have hxl : x ∉ l := fun hm => hn.1 (by simp [hm])
    have hpp := push_pool hp h1 h2 hxp
    have hcl : ChainW (pushX X t x) t c l (firstF (X.at (linkI t x))) := h3.keep fun y hy hy1 => by
      have hy0 := link_pos t hy1
      exact pushX_at (by omega) (link_ne hy1 h1 (fun e => hxl (e ▸ hy)))
    have hnd : (l ++ x :: pile).Nodup := by
      rw [List.nodup_append] at hn ⊢
      refine ⟨hn.2.1, List.nodup_cons.2 ⟨hxp, hn.2.2.1⟩, fun a ha b hb => ?_⟩
      rcases List.mem_cons.1 hb with rfl | hb
      · intro e; subst e; exact hxl ha
      · exact hn.2.2.2 a ha b hb
    obtain ⟨ih1, ih2⟩ := chain_drain (me := me) (f := f) l (pushX X t x) _ (x :: pile) g hpp.1 hcl hnd (by simp at hg; omega)
    rw [drain_cons]
    refine ⟨?_, by simpa using ih2⟩
    unfold chainT
    rw [if_neg (by omega), hr]
    have hsum : 4 * (x :: l).length = (3 + 4 * l.length) + 1 := by simp; omega
    rw [hsum]
    refine goes_load (by omega) (by rw [hp.dim.len]; omega) ?_
    exact Goes.bind (push_goes hp.dim h1 h2 me f) ih1
/-! Apart: what lies in one row lies in no other. -/
theorem EpS.apart {S : EpS} (h : S.all.Nodup) : S.pile.Nodup ∧ (∀ i, i < 3 → (S.L i).Nodup) ∧ (∀ i, i < 3 → ∀ x ∈ S.L i, x ∉ S.pile) ∧ (∀ i, i < 3 → ∀ j, j < 3 → i ≠ j → ∀ x ∈ S.L i, x ∉ S.L j) := by
  unfold EpS.all at h
  simp only [List.nodup_append] at h
  obtain ⟨h1, ⟨h2, ⟨h3, h4, h5⟩, h6⟩, h7⟩ := h
  refine ⟨h1, ?_, ?_, ?_⟩
  · intro i hi
    obtain rfl | rfl | rfl : i = 0 ∨ i = 1 ∨ i = 2 := by omega
    · exact h2
    · exact h3
    · exact h4
  · intro i hi x hx hp
    obtain rfl | rfl | rfl : i = 0 ∨ i = 1 ∨ i = 2 := by omega
    · exact h7 x hp x (by simp [hx]) rfl
    · exact h7 x hp x (by simp [hx]) rfl
    · exact h7 x hp x (by simp [hx]) rfl
  · intro i hi j hj hij x hx hy
    obtain rfl | rfl | rfl : i = 0 ∨ i = 1 ∨ i = 2 := by omega
    · obtain rfl | rfl : j = 1 ∨ j = 2 := by omega
      · exact h6 x hx x (by simp [hy]) rfl
      · exact h6 x hx x (by simp [hy]) rfl
    · obtain rfl | rfl : j = 0 ∨ j = 2 := by omega
      · exact h6 x hy x (by simp [hx]) rfl
      · exact h5 x hx x hy rfl
    · obtain rfl | rfl : j = 0 ∨ j = 1 := by omega
      · exact h6 x hy x (by simp [hx]) rfl
      · exact h5 x hy x hx rfl
theorem EpS.mem_all {S : EpS} {x : Int} : x ∈ S.all ↔ x ∈ S.pile ∨ x ∈ S.L 0 ∨ x ∈ S.L 1 ∨ x ∈ S.L 2 := by
  unfold EpS.all; simp
theorem EpS.in_all {S : EpS} {i : Nat} (hi : i < 3) {x : Int} (h : x ∈ S.L i) : x ∈ S.all := by
  rw [EpS.mem_all]
  obtain rfl | rfl | rfl : i = 0 ∨ i = 1 ∨ i = 2 := by omega
  · simp [h]
  · simp [h]
  · simp [h]
theorem EpK.rng {X : WldK} {t c : Nat} {S : EpS} (h : EpK X t c S) : ∀ x ∈ S.all, 1 ≤ x ∧ x ≤ (c : Int) := fun x hx => by
  rcases EpS.mem_all.1 hx with hx | hx | hx | hx
  · exact h.pool.chain.mem x hx
  · exact (h.lim 0 (by omega)).mem x hx
  · exact (h.lim 1 (by omega)).mem x hx
  · exact (h.lim 2 (by omega)).mem x hx
theorem EpK.lim_len {X : WldK} {t c : Nat} {S : EpS} (h : EpK X t c S) {i : Nat} (hi : i < 3) : (S.L i).length ≤ c := nodup_len c _ ((EpS.apart h.nodup).2.1 i hi) (h.lim i hi).mem
/-! The operations. -/
def EpS.pin (S : EpS) (me : Nat) (v : Int) : EpS := { S with P := fun i => if i = me then v else S.P i }
def EpS.retire (S : EpS) (x : Int) : EpS := { S with L := fun i => if i = S.e % 3 then x :: S.L i else S.L i }
def EpS.drain (S : EpS) : EpS := ⟨S.e + 1, (S.L ((S.e + 2) % 3)).reverse ++ S.pile, fun i => if i = (S.e + 2) % 3 then [] else S.L i, S.P⟩
def EpS.okP (S : EpS) (t : Nat) : Prop := ∀ i, i < t → S.P i = 0 ∨ S.P i = (S.e : Int) + 1
instance (S : EpS) (t : Nat) : Decidable (S.okP t) := inferInstanceAs (Decidable (∀ i, i < t → S.P i = 0 ∨ S.P i = (S.e : Int) + 1))
def EpS.adv (S : EpS) (t : Nat) : EpS := if S.okP t then S.drain else S
def EpS.pop (S : EpS) : EpS := { S with pile := S.pile.tail }
def allocS (t me : Nat) : Nat → EpS → Int → EpS × Int
  | 0, S, r => (S, r)
  | k + 1, S, r => if r = 0 then allocS t me k (((S.pin me ((S.e : Int) + 1)).adv t).pop) (((S.pin me ((S.e : Int) + 1)).adv t).pile.headD 0) else (S, r)
def EpS.alloc (S : EpS) (t me : Nat) : EpS × Int := allocS t me 3 S.pop (S.pile.headD 0)
theorem inc_nat {e : Nat} (h : e ≤ 1000000) : incW (e : Int) = (e : Int) + 1 := by unfold incW; omega
/-- a cell that no chain of the operations reads: pins, the epoch -/
theorem pin_goes {X : WldK} {t c : Nat} {S : EpS} (h : EpK X t c S) (he : S.e ≤ 1000000) {me : Nat} (hme : me < t) : ∃ X', Goes (me : Int) (pinT me) X 2 0 X' ∧ EpK X' t c (S.pin me ((S.e : Int) + 1)) := by
  obtain ⟨-, hlen⟩ := at_ge X h.dim
  refine ⟨X.put (8 + (me : Int)) ((S.e : Int) + 1), ?_, ?_⟩
  · refine goes_load (by omega) (by omega) ?_
    rw [h.ep, inc_nat he]
    refine goes_store (by omega) (by omega) ?_
    exact Goes.ret _ _
  · have hu : U64 ((S.e : Int) + 1) := by unfold U64; omega
    have hk : ∀ l r, ChainW X t c l r → ChainW (X.put (8 + (me : Int)) ((S.e : Int) + 1)) t c l r := fun l r hc => hc.keep fun y _ hy => at_put_other (by have := link_pos t hy; omega)
    refine ⟨⟨h.dim.put hu, ?_, h.pool.nodup⟩, ?_, h.nodup, ?_, ?_⟩
    · rw [at_put_other (by omega)]; exact hk _ _ h.pool.chain
    · intro i hi
      rw [at_put_other (by omega)]; exact hk _ _ (h.lim i hi)
    · rw [at_put_other (by omega)]; exact h.ep
    · intro i hi
      by_cases e : i = me
      · subst e
        rw [at_put_same (by omega)]; simp [EpS.pin]
      · rw [at_put_other (by omega), h.pins i hi]; simp [EpS.pin, e]
theorem retire_all {S : EpS} {x : Int} : (S.retire x).all.Perm (x :: S.all) := by
  rw [List.perm_iff_count]
  intro a
  have hlt : S.e % 3 < 3 := Nat.mod_lt _ (by omega)
  unfold EpS.all EpS.retire
  obtain h | h | h : S.e % 3 = 0 ∨ S.e % 3 = 1 ∨ S.e % 3 = 2 := by omega
  all_goals
    simp only [h, List.count_append, List.count_cons]
    simp [List.count_cons]
    omega
theorem drain_all (S : EpS) : S.drain.all.Perm S.all := by
  rw [List.perm_iff_count]
  intro a
  unfold EpS.all EpS.drain
  obtain h | h | h : (S.e + 2) % 3 = 0 ∨ (S.e + 2) % 3 = 1 ∨ (S.e + 2) % 3 = 2 := by omega
  all_goals
    simp only [h, List.count_append, List.count_reverse]
    simp
    omega
theorem limbo_nat (e : Nat) : limboI (e : Int) = 4 + ((e % 3 : Nat) : Int) := by unfold limboI; omega
theorem firstF_small {x : Int} (h0 : 0 ≤ x) (h1 : x < 1048576) : firstF x = x := by unfold firstF; omega
theorem retire_goes {X : WldK} {t c : Nat} {S : EpS} (h : EpK X t c S) (me : Int) {x : Int} (h1 : 1 ≤ x) (h2 : x ≤ (c : Int)) (hx : x ∉ S.all) (f : Nat) : ∃ X', Goes me (retireT t x (f + 1)) X 4 0 X' ∧ EpK X' t c (S.retire x) := by
  obtain ⟨-, hlen⟩ := at_ge X h.dim
  have hl := link_in (t := t) h1 h2
  have hp := link_pos t h1
  have hc2 := h.dim.c2
  have hlt : S.e % 3 < 3 := Nat.mod_lt _ (by omega)
  have hall := retire_all (S := S) (x := x)
  have hap := EpS.apart h.nodup
  obtain ⟨d, hd⟩ : ∃ d, d = S.e % 3 := ⟨_, rfl⟩
  refine ⟨(X.put (linkI t x) (X.at (4 + (d : Int)))).put (4 + (d : Int)) x, ?_, ?_⟩
  · refine goes_load (by omega) (by omega) ?_
    rw [h.ep, limbo_nat, ← hd]
    refine goes_load (by omega) (by omega) ?_
    refine goes_store (by omega) (by rw [h.dim.len]; omega) ?_
    refine goes_cas (by omega) (by rw [put_len]; omega) (at_put_other (by omega)) ?_
    rw [if_pos rfl]
    exact Goes.ret _ _
  · have hu : U64 x := by unfold U64; omega
    have hne : ∀ l r, ChainW X t c l r → x ∉ l → ChainW ((X.put (linkI t x) (X.at (4 + (d : Int)))).put (4 + (d : Int)) x) t c l r := fun l r hc hxl => hc.keep fun y hy hy1 => by
      have := link_pos t hy1
      rw [at_put_other (by omega), at_put_other (link_ne hy1 h1 (fun e => hxl (e ▸ hy)))]
    have hxa : ∀ i, i < 3 → x ∉ S.L i := fun i hi hm => hx (EpS.in_all hi hm)
    have hxp : x ∉ S.pile := fun hm => hx (EpS.mem_all.2 (.inl hm))
    refine ⟨⟨(h.dim.put (h.dim.u _)).put hu, ?_, h.pool.nodup⟩, ?_, ?_, ?_, ?_⟩
    · rw [at_put_other (by omega), at_put_other (by omega)]; exact hne _ _ h.pool.chain hxp
    · intro i hi
      by_cases e : i = d
      · subst e
        rw [at_put_same (by rw [put_len]; omega)]
        have hlL : (S.retire x).L i = x :: S.L i := by simp [EpS.retire, hd]
        rw [hlL, firstF_small (by omega) (by omega)]
        refine ⟨rfl, h1, h2, ?_⟩
        rw [at_put_other (by omega), at_put_same (by rw [h.dim.len]; omega)]
        exact hne _ _ (h.lim i hi) (hxa i hi)
      · have hlL : (S.retire x).L i = S.L i := by simp only [EpS.retire]; rw [if_neg (by omega)]
        rw [hlL, at_put_other (by omega), at_put_other (by omega)]
        exact hne _ _ (h.lim i hi) (hxa i hi)
    · rw [hall.nodup_iff]; exact List.nodup_cons.2 ⟨hx, h.nodup⟩
    · rw [at_put_other (by omega), at_put_other (by omega)]; exact h.ep
    · intro i hi
      rw [at_put_other (by omega), at_put_other (by omega)]; exact h.pins i hi
theorem pins_goes {X : WldK} {t c : Nat} {S : EpS} (h : EpK X t c S) (he : S.e ≤ 1000000) (me : Int) : ∀ (n i : Nat), i + n = t → ∃ j b, j ≤ n ∧ Goes me (pinsT (S.e : Int) n (i : Int)) X j b X ∧ (b = true ↔ ∀ k, i ≤ k → k < t → S.P k = 0 ∨ S.P k = (S.e : Int) + 1)
  | 0, i, hi => ⟨0, true, Nat.le_refl _, Goes.ret _ _, by simp; intro k h1 h2; omega⟩
  | n + 1, i, hi => by
    obtain ⟨-, hlen⟩ := at_ge X h.dim
    have hP := h.pins i (by omega)
    by_cases hg : S.P i = 0 ∨ S.P i = (S.e : Int) + 1
    · obtain ⟨j, b, hj, hgo, hb⟩ := pins_goes h he me n (i + 1) (by omega)
      refine ⟨j + 1, b, by omega, ?_, ?_⟩
      · refine goes_load (by omega) (by omega) ?_
        rw [hP, inc_nat he, if_pos hg]
        exact hgo
      · rw [hb]
        refine ⟨fun hk k h1 h2 => ?_, fun hk k h1 h2 => hk k (by omega) h2⟩
        rcases Nat.lt_or_ge i k with h3 | h3
        · exact hk k (by omega) h2
        · obtain rfl : k = i := by omega
          exact hg
    · refine ⟨1, false, by omega, ?_, ?_⟩
      · refine goes_load (by omega) (by omega) ?_
        rw [hP, inc_nat he, if_neg hg]
        exact Goes.ret _ _
      · simp only [Bool.false_eq_true, false_iff]
        intro hk
        exact hg (hk i (Nat.le_refl _) (by omega))
theorem Dim.three {X : WldK} {t c : Nat} (h : Dim X t c) : (7 : Int) < (X.ws.length : Int) := by have := at_ge X h; have := h.t1; omega
theorem adv_goes {X : WldK} {t c : Nat} {S : EpS} (h : EpK X t c S) (he : S.e ≤ 1000000) (me : Int) (f : Nat) (hf : c ≤ f) : ∃ X' j, j ≤ 3 + t + 4 * c ∧ Goes me (advT t (f + 1)) X j (decide (S.okP t)) X' ∧ EpK X' t c (S.adv t) := by
  have hlen := h.dim.three
  have ht := h.dim.t1
  obtain ⟨j, b, hj, hgo, hb⟩ := pins_goes h he me t 0 (by omega)
  have hb2 : b = decide (S.okP t) := by
    rw [Bool.eq_iff_iff, hb, decide_eq_true_iff]
    exact ⟨fun hk i hi => hk i (Nat.zero_le _) hi, fun hk i _ hi => hk i hi⟩
  by_cases hok : S.okP t
  · have hbt : b = true := by rw [hb2]; exact decide_eq_true hok
    subst hbt
    obtain ⟨d, hd⟩ : ∃ d, d = (S.e + 2) % 3 := ⟨_, rfl⟩
    have hd3 : d < 3 := by rw [hd]; exact Nat.mod_lt _ (by omega)
    have hld := h.lim_len hd3
    have hap := EpS.apart h.nodup
    obtain ⟨X1, hX1⟩ : ∃ X1, X1 = X.put 3 ((S.e : Int) + 1) := ⟨_, rfl⟩
    obtain ⟨X2, hX2⟩ : ∃ X2, X2 = X1.put (4 + (d : Int)) 0 := ⟨_, rfl⟩
    have hu : U64 ((S.e : Int) + 1) := by unfold U64; omega
    have hl1 : X1.ws.length = X.ws.length := by rw [hX1, put_len]
    have hl2 : X2.ws.length = X.ws.length := by rw [hX2, put_len, hl1]
    have hat : ∀ j : Int, j.toNat ≠ 3 → j.toNat ≠ (4 + (d : Int)).toNat → X2.at j = X.at j := fun j h1 h2 => by
      rw [hX2, at_put_other h2, hX1, at_put_other (by omega)]
    have hk : ∀ l r, ChainW X t c l r → ChainW X2 t c l r := fun l r hc => hc.keep fun y _ hy => by
      have := link_pos t hy
      exact hat _ (by omega) (by omega)
    have hD2 : Dim X2 t c := by rw [hX2, hX1]; exact (h.dim.put hu).put u64_zero
    have hp2 : PoolK X2 t c S.pile := ⟨hD2, by rw [hat 1 (by omega) (by omega)]; exact hk _ _ h.pool.chain, h.pool.nodup⟩
    have hnd : (S.L d ++ S.pile).Nodup := by
      rw [List.nodup_append]
      refine ⟨hap.2.1 d hd3, hap.1, fun a ha b hb e => ?_⟩
      subst e
      exact hap.2.2.1 d hd3 a ha hb
    obtain ⟨hg3, hp3⟩ := chain_drain (me := me) (f := f) (S.L d) X2 (firstF (X.at (4 + (d : Int)))) S.pile (f + 1) hp2 (hk _ _ (h.lim d hd3)) hnd (by omega)
    refine ⟨drainX X2 t (S.L d), 1 + (j + (1 + (1 + (4 * (S.L d).length + 0)))), by omega, ?_, ?_⟩
    · rw [decide_eq_true hok, show 1 + (j + (1 + (1 + (4 * (S.L d).length + 0)))) = (j + (1 + (1 + (4 * (S.L d).length + 0)))) + 1 by omega]
      refine goes_load (by omega) (by omega) ?_
      rw [h.ep, Int.toNat_natCast]
      refine Goes.bind hgo ?_
      rw [if_pos rfl, show 1 + (1 + (4 * (S.L d).length + 0)) = (1 + (4 * (S.L d).length + 0)) + 1 by omega]
      refine goes_cas (by omega) (by omega) h.ep ?_
      rw [if_pos rfl, inc_nat he, ← hX1, show ((S.e : Int) + 2) % 18446744073709551616 = ((S.e + 2 : Nat) : Int) by omega, limbo_nat, ← hd, show 1 + (4 * (S.L d).length + 0) = (4 * (S.L d).length + 0) + 1 by omega]
      refine goes_swap (by omega) (by rw [hl1]; omega) ?_
      rw [← hX2, show X1.at (4 + (d : Int)) = X.at (4 + (d : Int)) by rw [hX1, at_put_other (by omega)]]
      exact Goes.cast (Goes.bind hg3 (Goes.ret true _)) (Nat.add_zero _)
    · have hS : S.adv t = S.drain := by unfold EpS.adv; rw [if_pos hok]
      have hlk : ∀ (j : Int), 0 ≤ j → j < 15 + (t : Int) → ∀ x ∈ S.L d, j.toNat ≠ (linkI t x).toNat := fun j h0 h1 x hx => by
        have := link_pos t ((h.lim d hd3).mem x hx).1
        omega
      rw [hS]
      refine ⟨?_, ?_, ?_, ?_, ?_⟩
      · show PoolK _ t c ((S.L ((S.e + 2) % 3)).reverse ++ S.pile)
        rw [← hd]; exact hp3
      · intro i hi
        rw [drain_at (by omega) _ _ (hlk _ (by omega) (by omega))]
        by_cases e : i = d
        · subst e
          have hlL : S.drain.L i = [] := by simp only [EpS.drain]; rw [if_pos hd]
          rw [hlL, hX2, at_put_same (by omega)]
          rfl
        · have hlL : S.drain.L i = S.L i := by simp only [EpS.drain]; rw [if_neg (by omega)]
          rw [hlL, hat _ (by omega) (by omega)]
          refine (hk _ _ (h.lim i hi)).keep fun y hy hy1 => drain_at (by have := link_pos t hy1; omega) _ _ fun x hx => ?_
          exact link_ne hy1 ((h.lim d hd3).mem x hx).1 (fun e2 => hap.2.2.2 d hd3 i hi (fun e3 => e e3.symm) x hx (e2 ▸ hy))
      · rw [(drain_all S).nodup_iff]; exact h.nodup
      · rw [drain_at (by omega) _ _ (hlk _ (by omega) (by omega)), hX2, at_put_other (by omega), hX1, at_put_same (by omega)]
        simp [EpS.drain]
      · intro i hi
        rw [drain_at (by omega) _ _ (hlk _ (by omega) (by omega)), hat _ (by omega) (by omega)]
        exact h.pins i hi
  · have hbf : b = false := by rw [hb2]; exact decide_eq_false hok
    subst hbf
    refine ⟨X, 1 + (j + 0), by omega, ?_, by unfold EpS.adv; rw [if_neg hok]; exact h⟩
    rw [decide_eq_false hok, show 1 + (j + 0) = (j + 0) + 1 by omega]
    refine goes_load (by omega) (by omega) ?_
    rw [h.ep, Int.toNat_natCast]
    refine Goes.cast (Goes.bind hgo ?_) (Nat.add_zero _)
    simp only [Bool.false_eq_true, if_false]
    exact Goes.ret _ _
theorem popS_goes {X : WldK} {t c : Nat} {S : EpS} (h : EpK X t c S) (me : Int) (f : Nat) : ∃ X' j, j ≤ 3 ∧ Goes me (popT t (f + 1)) X j (S.pile.headD 0) X' ∧ EpK X' t c S.pop := by
  cases hp : S.pile with
  | nil =>
    have hpk := h.pool
    rw [hp] at hpk
    refine ⟨X, 1, by omega, pop_none hpk me f, ?_⟩
    have : S.pop = S := by unfold EpS.pop; rw [hp]; cases S; simp_all
    rw [this]; exact h
  | cons x l =>
    have hpk := h.pool
    rw [hp] at hpk
    have hpp := (pop_pool hpk).1
    obtain ⟨hx, h1, h2, h3⟩ := hpk.chain
    have hat : ∀ j : Int, j.toNat ≠ 1 → (popX X t).at j = X.at j := fun j hj => by unfold popX; exact at_put_other (by omega)
    refine ⟨popX X t, 3, by omega, pop_goes hpk me f, ⟨?_, ?_, ?_, ?_, ?_⟩⟩
    · have : S.pop.pile = l := by simp [EpS.pop, hp]
      rw [this]; exact hpp
    · intro i hi
      rw [hat _ (by omega)]
      exact (h.lim i hi).keep fun y _ hy => hat _ (by have := link_pos t hy; omega)
    · have := h.nodup
      unfold EpS.all at this ⊢
      rw [hp, List.cons_append, List.nodup_cons] at this
      simpa [EpS.pop, hp] using this.2
    · rw [hat _ (by omega)]; exact h.ep
    · intro i hi; rw [hat _ (by omega)]; exact h.pins i hi
theorem adv_e (S : EpS) (t : Nat) : (S.adv t).e ≤ S.e + 1 := by
  unfold EpS.adv; split
  · exact Nat.le_refl _
  · exact Nat.le_succ _
theorem allocL_goes {t c : Nat} {me : Nat} (hme : me < t) (f : Nat) (hf : c ≤ f) : ∀ (k : Nat) (X : WldK) (S : EpS) (r : Int), EpK X t c S → S.e + k ≤ 1000000 → ∃ X' j, j ≤ k * (8 + t + 4 * c) ∧ Goes (me : Int) (allocL t me (f + 1) k r) X j (allocS t me k S r).2 X' ∧ EpK X' t c (allocS t me k S r).1
  | 0, X, S, r, h, _ => ⟨X, 0, by omega, Goes.ret _ _, h⟩
  | k + 1, X, S, r, h, he => by
    by_cases hr : r = 0
    · obtain ⟨X1, g1, h1⟩ := pin_goes h (by omega) hme
      have e1 : (S.pin me ((S.e : Int) + 1)).e = S.e := rfl
      obtain ⟨X2, j2, l2, g2, h2⟩ := adv_goes h1 (by omega) (me : Int) f hf
      obtain ⟨X3, j3, l3, g3, h3⟩ := popS_goes h2 (me : Int) f
      have e2 := adv_e (S.pin me ((S.e : Int) + 1)) t
      obtain ⟨X4, j4, l4, g4, h4⟩ := allocL_goes hme f hf k X3 _ (((S.pin me ((S.e : Int) + 1)).adv t).pile.headD 0) h3 (by
        show ((S.pin me ((S.e : Int) + 1)).adv t).e + k ≤ 1000000
        omega)
      refine ⟨X4, 2 + (j2 + (j3 + j4)), ?_, ?_, ?_⟩
      · rw [Nat.succ_mul]; omega
      · unfold allocL allocS
        rw [if_pos hr, if_pos hr]
        exact Goes.bind g1 (Goes.bind g2 (Goes.bind g3 g4))
      · unfold allocS; rw [if_pos hr]; exact h4
    · refine ⟨X, 0, by omega, ?_, by unfold allocS; rw [if_neg hr]; exact h⟩
      unfold allocL allocS
      rw [if_neg hr, if_neg hr]
      exact Goes.ret _ _
theorem alloc_goes {X : WldK} {t c : Nat} {S : EpS} (h : EpK X t c S) {me : Nat} (hme : me < t) (he : S.e + 3 ≤ 1000000) (f : Nat) (hf : c ≤ f) : ∃ X' j, j ≤ 27 + 3 * t + 12 * c ∧ Goes (me : Int) (allocT t me (f + 1)) X j (S.alloc t me).2 X' ∧ EpK X' t c (S.alloc t me).1 := by
  obtain ⟨X1, j1, l1, g1, h1⟩ := popS_goes h (me : Int) f
  obtain ⟨X2, j2, l2, g2, h2⟩ := allocL_goes hme f hf 3 X1 _ (S.pile.headD 0) h1 he
  exact ⟨X2, j1 + j2, by omega, Goes.bind g1 g2, h2⟩
/-! The operations, stepping alone: what 'alone' answers. -/
theorem ep_alone {t me f most : Nat} {k u : Int} {X X' : WldK} {j : Nat} {o : OutN} (hg : Goes (me : Int) (epochT t me k u f) X j o X') (hj : j ≤ most) : aloneN (nextT (epochT t me k u f)) me (most + 1) X [] = (X', o, true) :=
  alone_goes (T0 := epochT t me k u f) hg (fun _ _ => rfl) (by cases epochT t me k u f <;> rfl) (by cases epochT t me k u f <;> trivial) (by omega)
theorem eretire_alone {X : WldK} {t c : Nat} {S : EpS} (h : EpK X t c S) {me x : Nat} (h1 : 1 ≤ x) (h2 : x ≤ c) (hx : (x : Int) ∉ S.all) (f : Nat) (most : Nat) (hm : 4 ≤ most) : ∃ X', aloneN (nextT (epochT t me 5 x (f + 1))) me (most + 1) X [] = (X', ⟨0, false, 0, 0⟩, true) ∧ EpK X' t c (S.retire x) := by
  obtain ⟨X', g, h'⟩ := retire_goes h (me : Int) (x := (x : Int)) (by omega) (by omega) hx f
  refine ⟨X', ep_alone (j := 4) ?_ hm, h'⟩
  unfold epochT; rw [if_neg (by omega), if_neg (by omega), if_pos (by omega)]
  exact Goes.cast (Goes.bind g (Goes.ret _ _)) (Nat.add_zero _)
theorem eadv_alone {X : WldK} {t c : Nat} {S : EpS} (h : EpK X t c S) (he : S.e ≤ 1000000) (me : Nat) (u : Int) (f : Nat) (hf : c ≤ f) (most : Nat) (hm : 3 + t + 4 * c ≤ most) : ∃ X', aloneN (nextT (epochT t me 19 u (f + 1))) me (most + 1) X [] = (X', ⟨0, decide (S.okP t), 0, 0⟩, true) ∧ EpK X' t c (S.adv t) := by
  obtain ⟨X', j, hj, g, h'⟩ := adv_goes h he (me : Int) f hf
  refine ⟨X', ep_alone (j := j) ?_ (by omega), h'⟩
  unfold epochT; rw [if_neg (by omega), if_neg (by omega), if_neg (by omega), if_pos (by omega)]
  exact Goes.cast (Goes.bind g (Goes.ret _ _)) (Nat.add_zero _)
theorem ealloc_alone {X : WldK} {t c : Nat} {S : EpS} (h : EpK X t c S) (he : S.e + 3 ≤ 1000000) {me : Nat} (hme : me < t) (u : Int) (f : Nat) (hf : c ≤ f) (most : Nat) (hm : 27 + 3 * t + 12 * c ≤ most) : ∃ X', aloneN (nextT (epochT t me 6 u (f + 1))) me (most + 1) X [] = (X', ⟨0, false, (S.alloc t me).2, 0⟩, true) ∧ EpK X' t c (S.alloc t me).1 := by
  obtain ⟨X', j, hj, g, h'⟩ := alloc_goes h hme he f hf
  refine ⟨X', ep_alone (j := j) ?_ (by omega), h'⟩
  unfold epochT; rw [if_neg (by omega), if_neg (by omega), if_neg (by omega), if_neg (by omega), if_pos (by omega)]
  exact Goes.cast (Goes.bind g (Goes.ret _ _)) (Nat.add_zero _)
end Go.Proofs.Ytjokaginolpbeaa

namespace Go.Proofs.Ytjokaginolpbeaa
open Go.RowKit

/-! What an allocation takes, and leaves. -/
/-- no other thread is pinned -/
def EpS.lone (S : EpS) (t me : Nat) : Prop := ∀ i, i < t → i ≠ me → S.P i = 0
theorem adv_P (S : EpS) (t : Nat) : (S.adv t).P = S.P := by unfold EpS.adv; split <;> rfl
theorem adv_all (S : EpS) (t : Nat) : (S.adv t).all.Perm S.all := by
  unfold EpS.adv; split
  · exact drain_all S
  · exact List.Perm.refl _
/-- the limbos behind are empty -/
def EpS.behind (S : EpS) (k : Nat) : Prop := ∀ j, k ≤ j → j < 3 → S.L ((S.e + 2 + j) % 3) = []
theorem drain_behind {S : EpS} {k : Nat} (h : S.behind (k + 1)) : S.drain.behind k := fun j h1 h2 => by
  have ee : S.drain.e = S.e + 1 := rfl
  rw [ee]
  have eL : ∀ i, S.drain.L i = if i = (S.e + 2) % 3 then [] else S.L i := fun _ => rfl
  rw [eL]
  by_cases e : (S.e + 1 + 2 + j) % 3 = (S.e + 2) % 3
  · rw [if_pos e]
  · rw [if_neg e]
    have hj : j ≠ 2 := fun e2 => e (by omega)
    have := h (j + 1) (by omega) (by omega)
    rw [show S.e + 1 + 2 + j = S.e + 2 + (j + 1) by omega]
    exact this
theorem allocS_some {t me : Nat} : ∀ (k : Nat) (S : EpS) (r : Int), r ≠ 0 → allocS t me k S r = (S, r)
  | 0, S, r, _ => rfl
  | k + 1, S, r, h => by unfold allocS; rw [if_neg h]
/-- what is free, or retired, and what is had: all records, each once -/
structure HE (N : Nat) (S : EpS) (held : List Int) : Prop where
  nodup : (S.all ++ held).Nodup
  rng : ∀ x ∈ S.all ++ held, 1 ≤ x ∧ x ≤ (N : Int)
  len : S.all.length + held.length = N
theorem HE.hk {N : Nat} {S : EpS} {held : List Int} (h : HE N S held) : HK N S.all held := ⟨h.nodup, fun x hx => h.rng x (by simp [hx]), h.len⟩
theorem HE.perm {N : Nat} {S S' : EpS} {held : List Int} (h : HE N S held) (hp : S'.all.Perm S.all) : HE N S' held :=
  ⟨(hp.append_right held).nodup_iff.2 h.nodup, fun x hx => h.rng x ((hp.append_right held).mem_iff.1 hx), by rw [hp.length_eq]; exact h.len⟩
theorem HE.take {N : Nat} {S S' : EpS} {held : List Int} {x : Int} (h : HE N S held) (hp : S.all.Perm (x :: S'.all)) : HE N S' (held ++ [x]) := by
  have hq : (S'.all ++ (held ++ [x])).Perm (S.all ++ held) := by
    rw [List.perm_iff_count] at hp ⊢
    intro a
    have := hp a
    simp only [List.count_append, List.count_cons, List.count_nil] at this ⊢
    omega
  refine ⟨hq.nodup_iff.2 h.nodup, fun y hy => h.rng y (hq.mem_iff.1 hy), ?_⟩
  have := hq.length_eq
  have h3 := h.len
  simp only [List.length_append] at this ⊢
  omega
theorem HE.back {N : Nat} {S : EpS} {h1 h2 : List Int} {x : Int} (h : HE N S (h1 ++ x :: h2)) : HE N (S.retire x) (h1 ++ h2) ∧ x ∉ S.all ∧ 1 ≤ x ∧ x ≤ (N : Int) := by
  have hr := h.rng x (by simp)
  have hn := h.nodup
  rw [List.nodup_append] at hn
  have hx : x ∉ S.all := fun hm => hn.2.2 x hm x (by simp) rfl
  have hq : ((S.retire x).all ++ (h1 ++ h2)).Perm (S.all ++ (h1 ++ x :: h2)) := by
    have hp := retire_all (S := S) (x := x)
    rw [List.perm_iff_count] at hp ⊢
    intro a
    have := hp a
    simp only [List.count_append, List.count_cons] at this ⊢
    omega
  refine ⟨⟨hq.nodup_iff.2 h.nodup, fun y hy => h.rng y (hq.mem_iff.1 hy), ?_⟩, hx, hr.1, hr.2⟩
  have := hq.length_eq
  have h3 := h.len
  simp only [List.length_append, List.length_cons] at this h3 ⊢
  omega
def newS (c : Nat) : EpS := ⟨0, upFrom 1 c, fun _ => [], fun _ => 0⟩
theorem upFrom_len : ∀ n r, (upFrom r n).length = n
  | 0, _ => rfl
  | n + 1, r => by simp [upFrom, upFrom_len n]
theorem newS_all (c : Nat) : (newS c).all = upFrom 1 c := by simp [newS, EpS.all]
theorem newF_low {t c r i : Nat} (h1 : i ≠ 1) (h2 : i < 15 + t) : newF t c r i = 0 := by
  unfold newF
  rw [if_neg h1, if_neg (by omega)]
theorem newS_k {t c : Nat} (t1 : 1 ≤ t) (t2 : t ≤ 64) (hc : c ≤ 65536) : EpK (newW t c) t c (newS c) := by
  have hp := new_pool (t := t) (c := c) t1 t2 hc
  have hlow : ∀ i : Nat, i ≠ 1 → i < 8 + t → (newW t c).at (i : Int) = 0 := fun i h1 h2 => by
    rw [new_at t c i (by unfold memL; omega)]
    exact newF_low h1 (by omega)
  refine ⟨hp, fun i hi => ?_, by rw [newS_all]; exact upFrom_nodup _ _, ?_, fun i hi => ?_⟩
  · have := hlow (4 + i) (by omega) (by omega)
    rw [show (4 : Int) + (i : Int) = ((4 + i : Nat) : Int) by omega, this]
    rfl
  · have := hlow 3 (by omega) (by omega)
    exact this
  · have := hlow (8 + i) (by omega) (by omega)
    rw [show (8 : Int) + (i : Int) = ((8 + i : Nat) : Int) by omega, this]
    rfl
/-! Pins, and what three epochs give back. -/
theorem okP_zero {S : EpS} {t : Nat} (h : ∀ i, S.P i = 0) : S.okP t := fun i _ => .inl (h i)
theorem adv_ok {S : EpS} {t : Nat} (h : S.okP t) : S.adv t = S.drain := by unfold EpS.adv; rw [if_pos h]
theorem behind_three (S : EpS) : S.behind 3 := fun j h1 h2 => by omega
theorem behind_pile {S : EpS} (h : S.behind 0) : S.all = S.pile := by
  have h0 := h 0 (by omega) (by omega)
  have h1 := h 1 (by omega) (by omega)
  have h2 := h 2 (by omega) (by omega)
  have hL : ∀ i, i < 3 → S.L i = [] := fun i hi => by
    obtain e | e | e : i = (S.e + 2 + 0) % 3 ∨ i = (S.e + 2 + 1) % 3 ∨ i = (S.e + 2 + 2) % 3 := by omega
    · rw [e]; exact h0
    · rw [e]; exact h1
    · rw [e]; exact h2
  unfold EpS.all
  rw [hL 0 (by omega), hL 1 (by omega), hL 2 (by omega)]; simp
theorem nodup_full {n : Nat} {l : List Int} (hn : l.Nodup) (hr : ∀ x ∈ l, 1 ≤ x ∧ x ≤ (n : Int)) (hl : l.length = n) {r : Int} (h1 : 1 ≤ r) (h2 : r ≤ (n : Int)) : r ∈ l := by
  by_cases h : r ∈ l
  · exact h
  · have := nodup_len n (r :: l) (List.nodup_cons.2 ⟨h, hn⟩) (fun x hx => by
      rcases List.mem_cons.1 hx with rfl | hx
      · exact ⟨h1, h2⟩
      · exact hr x hx)
    simp at this; omega
theorem alloc_head {S : EpS} {t me : Nat} {x : Int} {l : List Int} (h : S.pile = x :: l) (hx : 1 ≤ x) : S.alloc t me = (S.pop, x) := by
  unfold EpS.alloc
  rw [h]
  exact allocS_some 3 _ x (by omega)
/-! The contracts of 'alone'. -/
theorem eal_adv {X : WldK} {t c : Nat} {S : EpS} (h : EpK X t c S) (hX : WOk X) {me : Nat} (hme : me < t) (he : S.e ≤ 1000000) (most : Nat) (hm : 3 + t + 4 * c ≤ most) (hm9 : most ≤ 900) : ∃ X', EpK X' t c (S.adv t) ∧ WOk X' ∧ ∀ (wv : Value) (v d : Int) (w : World), WldV w wv X →
    Calls Try.prog 22 #[wv, .int .i64 (me : Int), .agg #[.int .i64 19, .int .i64 0, .int .i64 v, .int .u64 d], .int .i64 (most : Int)] w fun e w' => ∃ v', e = .returned (.tuple #[v', .agg #[.int .i64 0, .bool (decide (S.okP t)), .int .i64 0, .int .u64 0, .slice none 0 0], .bool true]) ∧ WldV w' v' X' ∧ Ext w w' := by
  obtain ⟨X', ha, hk⟩ := eadv_alone h he me 0 most (by omega) most hm
  have hT := h.dim.T
  have ht2 := h.dim.t2
  have hw := (aloneN_ok (P := nextT (epochT t me 19 0 (most + 1))) (me := (me : Int)) (fun ns x h3 hx3 => epochN_ok _ _ _ _ _ (fun h5 => by unfold U64; omega) ns x h3 hx3) (most + 1) X [] hX (fun m hm => by cases hm)).1
  refine ⟨X', hk, ?_, fun wv v d w hV => ?_⟩
  · have ha2 := ha
    have e : (aloneN (nextT (epochT t me 19 0 (most + 1))) (me : Int) (most + 1) X []).1 = X' := by
      first
        | rw [ha2]
        | exact congrArg Prod.fst ha2
    rw [e] at hw; exact hw
  · have h1 := eal_any (most + 1) X t hT ht2 hX wv me 19 0 v d (most : Int) (by omega) (by omega) (by omega) most rfl (by omega) hm9 w hV
    have ha2 := ha
    rw [ha2] at h1
    exact h1
theorem eal_alloc {X : WldK} {t c : Nat} {S : EpS} (h : EpK X t c S) (hX : WOk X) {me : Nat} (hme : me < t) (he : S.e + 3 ≤ 1000000) (most : Nat) (hm : 27 + 3 * t + 12 * c ≤ most) (hm9 : most ≤ 900) : ∃ X', EpK X' t c (S.alloc t me).1 ∧ WOk X' ∧ ∀ (wv : Value) (v d : Int) (w : World), WldV w wv X →
    Calls Try.prog 22 #[wv, .int .i64 (me : Int), .agg #[.int .i64 6, .int .i64 0, .int .i64 v, .int .u64 d], .int .i64 (most : Int)] w fun e w' => ∃ v', e = .returned (.tuple #[v', .agg #[.int .i64 0, .bool false, .int .i64 (S.alloc t me).2, .int .u64 0, .slice none 0 0], .bool true]) ∧ WldV w' v' X' ∧ Ext w w' := by
  obtain ⟨X', ha, hk⟩ := ealloc_alone h he hme 0 most (by omega) most hm
  have hT := h.dim.T
  have ht2 := h.dim.t2
  have hw := (aloneN_ok (P := nextT (epochT t me 6 0 (most + 1))) (me := (me : Int)) (fun ns x h3 hx3 => epochN_ok _ _ _ _ _ (fun h5 => by unfold U64; omega) ns x h3 hx3) (most + 1) X [] hX (fun m hm => by cases hm)).1
  refine ⟨X', hk, ?_, fun wv v d w hV => ?_⟩
  · have ha2 := ha
    have e : (aloneN (nextT (epochT t me 6 0 (most + 1))) (me : Int) (most + 1) X []).1 = X' := by
      first
        | rw [ha2]
        | exact congrArg Prod.fst ha2
    rw [e] at hw; exact hw
  · have h1 := eal_any (most + 1) X t hT ht2 hX wv me 6 0 v d (most : Int) (by omega) (by omega) (by omega) most rfl (by omega) hm9 w hV
    have ha2 := ha
    rw [ha2] at h1
    exact h1
theorem eal_retire {X : WldK} {t c : Nat} {S : EpS} (h : EpK X t c S) (hX : WOk X) {me : Nat} (hme : me < t) {x : Nat} (h1 : 1 ≤ x) (h2 : x ≤ c) (hx : (x : Int) ∉ S.all) (most : Nat) (hm : 4 ≤ most) (hm9 : most ≤ 900) : ∃ X', EpK X' t c (S.retire (x : Int)) ∧ WOk X' ∧ ∀ (wv : Value) (v d : Int) (w : World), WldV w wv X →
    Calls Try.prog 22 #[wv, .int .i64 (me : Int), .agg #[.int .i64 5, .int .i64 (x : Int), .int .i64 v, .int .u64 d], .int .i64 (most : Int)] w fun e w' => ∃ v', e = .returned (.tuple #[v', .agg #[.int .i64 0, .bool false, .int .i64 0, .int .u64 0, .slice none 0 0], .bool true]) ∧ WldV w' v' X' ∧ Ext w w' := by
  obtain ⟨X', ha, hk⟩ := eretire_alone h (me := me) h1 h2 hx most most hm
  have hT := h.dim.T
  have ht2 := h.dim.t2
  have hw := (aloneN_ok (P := nextT (epochT t me 5 (x : Int) (most + 1))) (me := (me : Int)) (fun ns x h3 hx3 => epochN_ok _ _ _ _ _ (fun h5 => by have := h.dim.c2; unfold U64; omega) ns x h3 hx3) (most + 1) X [] hX (fun m hm => by cases hm)).1
  refine ⟨X', hk, ?_, fun wv v d w hV => ?_⟩
  · have ha2 := ha
    have e : (aloneN (nextT (epochT t me 5 (x : Int) (most + 1))) (me : Int) (most + 1) X []).1 = X' := by
      first
        | rw [ha2]
        | exact congrArg Prod.fst ha2
    rw [e] at hw; exact hw
  · have h1 := eal_any (most + 1) X t hT ht2 hX wv me 5 (x : Int) v d (most : Int) (by omega) (by omega) (fun _ => by have := h.dim.c2; omega) most rfl (by omega) hm9 w hV
    have ha2 := ha
    rw [ha2] at h1
    exact h1
end Go.Proofs.Ytjokaginolpbeaa

namespace Go.Proofs.Ytjokaginolpbeaa
open Go.RowKit

/-! wealdref13.In: is a number in a row? -/
set_option maxRecDepth 100000 in
theorem rin_any (l : List Int) (A : Option Addr) (n c : Nat) (x : Int) (w : World) (hl : l.length = n) (hn : n ≤ 1000000) (hA : Cells w A (intCells l)) :
    Calls Try.prog 23 #[.slice A n c, .int .i64 x] w fun e w' => e = .returned (.bool (decide (x ∈ l))) ∧ Ext w w' := by
  go_enter Try.func23, Try.ntmps23
  go_wp2
  go_loopw [5] (fun iv wr => ∃ j : Nat, iv = .int .i64 (j : Int) ∧ j ≤ n ∧ (∀ (k : Nat) (y : Int), k < j → l[k]? = some y → y ≠ x) ∧ Ext w wr) (fun iv _ => n - (intOf iv).toNat)
  case atStart => exact ⟨0, rfl, Nat.zero_le _, fun k y hk => by omega, Ext.refl _⟩
  case round =>
    obtain ⟨j, rfl, hj, hall, hx⟩ := hrel
    rcases Nat.lt_or_ge j n with hjn | hjn
    · obtain ⟨y, hy⟩ : ∃ y, l[j]? = some y := ⟨_, List.getElem?_eq_getElem (by omega)⟩
      obtain ⟨a, rfl, hc⟩ := hA (fun e => by
        have := intCells_length l
        rw [e] at this; simp at this; omega)
      have hcj := hx.cell (hc j _ (intCells_at hy))
      have hjI : (j : Int) < (n : Int) := by omega
      have hall2 : y ≠ x → ∀ (k : Nat) (y' : Int), k < j + 1 → l[k]? = some y' → y' ≠ x := fun hne k y' hk hy' => by
        rcases Nat.lt_or_ge k j with h | h
        · exact hall k y' h hy'
        · obtain rfl : k = j := by omega
          rw [hy] at hy'; injection hy' with hy'; subst hy'; exact hne
      have hmem : y = x → x ∈ l := fun e => by subst e; exact List.mem_of_getElem? hy
      clear hall hy hA hc
      by_cases hyx : y = x
      · have hd : decide (x ∈ l) = true := decide_eq_true (hmem hyx)
        clear hmem hall2
        have HD := Lib.hid hd
        clear hd
        subst hyx
        go_wp2
        go_ret
        exact ⟨by rw [HD.out]; rfl, hx⟩
      · have hall3 := hall2 hyx
        clear hmem hall2
        go_wp2
        go_roundw
        case rel => exact ⟨j + 1, by go_num, by omega, hall3, hx⟩
        case measure => simp [intOf]; omega
    · obtain rfl : j = n := by omega
      have hd : decide (x ∈ l) = false := decide_eq_false fun hm => by
        obtain ⟨k, hk⟩ := List.getElem?_of_mem hm
        have hkl := (List.getElem?_eq_some_iff.1 hk).1
        exact hall k x (by omega) hk rfl
      have HD := Lib.hid hd
      clear hd hall hA
      have hjI : ¬ (j : Int) < (j : Int) := by omega
      go_wp2
      go_ret
      exact ⟨by rw [HD.out]; rfl, hx⟩
end Go.Proofs.Ytjokaginolpbeaa
