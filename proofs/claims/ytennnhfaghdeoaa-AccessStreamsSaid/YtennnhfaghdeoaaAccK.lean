import Derived.Test.YtennnhfaghdeoaaDiskAll
import Derived.Test.YtennnhfaghdeoaaWords
namespace Go.Proofs.Ytennnhfaghdeoaa

/-! Worlds, accesses and results, told by what they hold; what an access does to them. -/
structure WldK where
  T : Int
  C : Int
  ws : List Int
  R : Int
  n : Nat
  K0 : List Key
  K1 : List Key
structure AccK where
  kind : Int
  cell : Int
  a : Int
  b : Int
  data : List UInt8
  word : List Int
structure ResK where
  N : Int
  b : List UInt8
  fail : Bool
def ResK.zero : ResK := ⟨0, [], false⟩
/-- what an access of a word tells, and the word then -/
def turnN (kind old a : Int) : Int := if kind = 0 then old else if kind = 2 then (if old = a then 1 else 0) else if kind = 3 then old else if kind = 4 then old else 0
def turnX (kind old a b : Int) : Int := if kind = 1 then a else if kind = 2 then (if old = a then b else old) else if kind = 3 then (old + a) % 18446744073709551616 else if kind = 4 then a else old
def inW (n : Nat) (A : AccK) : Bool := decide (0 ≤ A.kind) && decide (A.kind ≤ 4) && decide (0 ≤ A.cell) && decide (A.cell < (n : Int))
theorem inW_iff {n : Nat} {A : AccK} : inW n A = true ↔ 0 ≤ A.kind ∧ A.kind ≤ 4 ∧ 0 ≤ A.cell ∧ A.cell < (n : Int) := by simp [inW, and_assoc]
def wordsK (ws : List Int) (A : AccK) : List Int := if inW ws.length A then ws.set A.cell.toNat (turnX A.kind (ws.getD A.cell.toNat 0) A.a A.b) else ws
def wordsR (ws : List Int) (A : AccK) : ResK := if inW ws.length A then ⟨turnN A.kind (ws.getD A.cell.toNat 0) A.a, [], false⟩ else ResK.zero
theorem wordsK_length (ws : List Int) (A : AccK) : (wordsK ws A).length = ws.length := by unfold wordsK; split <;> simp
def diskKind (k : Int) : Bool := decide (5 ≤ k) && decide (k ≤ 12)
/-- a disk behind an access of it -/
def strK0 (R : Int) (n : Nat) (me : Int) (A : AccK) (K0 : List Key) : List Key :=
  if A.kind = 5 then act0 (R % 2) me (appK A.data) K0 else if A.kind = 6 then act0 (R % 2) me synK K0 else if A.kind = 9 then clr0 (1 - R % 2) n K0
  else if A.kind = 10 then act0 (1 - R % 2) 0 (appK A.data) K0 else if A.kind = 11 then act0 (1 - R % 2) 0 synK K0 else K0
def strK1 (R : Int) (n : Nat) (me : Int) (A : AccK) (K1 : List Key) : List Key :=
  if A.kind = 5 then act1 (R % 2) me (appK A.data) K1 else if A.kind = 6 then act1 (R % 2) me synK K1 else if A.kind = 9 then clr1 (1 - R % 2) n K1
  else if A.kind = 10 then act1 (1 - R % 2) 0 (appK A.data) K1 else if A.kind = 11 then act1 (1 - R % 2) 0 synK K1 else K1
def strRoot (R : Int) (A : AccK) : Int := if A.kind = 12 then (R + 1) % 18446744073709551616 else R
def strR (R : Int) (A : AccK) (K0 K1 : List Key) : ResK := if A.kind = 7 then ⟨R, [], false⟩ else if A.kind = 8 then ⟨0, readK (R % 2) A.cell K0 K1, false⟩ else ResK.zero
/-- a world behind an access -/
def doK (X : WldK) (me : Int) (A : AccK) (fail : Bool) : WldK :=
  if diskKind A.kind then (if fail then X else { X with R := strRoot X.R A, K0 := strK0 X.R X.n me A X.K0, K1 := strK1 X.R X.n me A X.K1 })
  else if A.kind = 13 then (if A.word.length = X.ws.length then { X with ws := A.word } else X)
  else { X with ws := wordsK X.ws A }
def doR (X : WldK) (A : AccK) (fail : Bool) : ResK :=
  if diskKind A.kind then (if fail then ⟨0, [], true⟩ else strR X.R A X.K0 X.K1) else if A.kind = 13 then ResK.zero else wordsR X.ws A
/-- values of the program that hold them -/
def WldV (w : World) (v : Value) (X : WldK) : Prop := ∃ (A : Option Addr) (q c : Nat) (A0 A1 : Option Addr) (c0 c1 : Nat), v = .agg #[.int .i64 X.T, .int .i64 X.C, .slice A q c, .int .u64 X.R, .slice A0 X.n c0, .slice A1 X.n c1] ∧
  WordsV w A q c X.ws ∧ DkK w (.agg #[.int .u64 X.R, .slice A0 X.n c0, .slice A1 X.n c1]) X.R X.n X.K0 X.K1
def AccV (w : World) (v : Value) (A : AccK) : Prop := ∃ (D : Option Addr) (m cd : Nat) (B : Option Addr) (q cb : Nat), v = .agg #[.int .i64 A.kind, .int .i64 A.cell, .int .u64 A.a, .int .u64 A.b, .slice D m cd, .slice B q cb] ∧ BytesV w D m cd A.data ∧ WordsV w B q cb A.word ∧ (0 ≤ A.a ∧ A.a < 18446744073709551616) ∧ (0 ≤ A.b ∧ A.b < 18446744073709551616)
def ResV (w : World) (v : Value) (r : ResK) : Prop := ∃ (B : Option Addr) (q c : Nat), v = .agg #[.int .u64 r.N, .slice B q c, .bool r.fail] ∧ BytesV w B q c r.b
theorem WldV.ext {w w' : World} {v : Value} {X : WldK} (h : WldV w v X) (hx : Ext w w') : WldV w' v X := let ⟨A, q, c, A0, A1, c0, c1, e, h1, h2⟩ := h; ⟨A, q, c, A0, A1, c0, c1, e, h1.ext hx, h2.ext hx⟩
theorem AccV.ext {w w' : World} {v : Value} {A : AccK} (h : AccV w v A) (hx : Ext w w') : AccV w' v A := let ⟨D, m, cd, B, q, cb, e, h1, h2, h3⟩ := h; ⟨D, m, cd, B, q, cb, e, h1.ext hx, h2.ext hx, h3⟩
theorem ResV.ext {w w' : World} {v : Value} {r : ResK} (h : ResV w v r) (hx : Ext w w') : ResV w' v r := let ⟨B, q, c, e, h1⟩ := h; ⟨B, q, c, e, h1.ext hx⟩
/-- a world of which accesses may be made, of so many bytes -/
structure Fit (X : WldK) (m : Nat) : Prop where
  pos : 0 < X.n
  le : X.n ≤ 64
  root : 0 ≤ X.R ∧ X.R < 18446744073709551616
  ws : 2 ≤ X.ws.length ∧ X.ws.length ≤ 65536
  k0 : ∀ k ∈ X.K0, k.1.length + m ≤ 65536
  k1 : ∀ k ∈ X.K1, k.1.length + m ≤ 65536
/-- what access.Do answers -/
def DoPost (X : WldK) (r : ResK) (w : World) (e : Ending) (w' : World) : Prop := ∃ v' r', e = .returned (.tuple #[v', r']) ∧ WldV w' v' X ∧ ResV w' r' r ∧ Ext w w'
end Go.Proofs.Ytennnhfaghdeoaa
