/-
  No cell of these rows narrows 'for every input' (looked for: loops, veiled, ifaces, maps, wideKeys, modest, calm, conditions, laid).
  DERIVED. THE GIVEN ROWS OF THIS SEAT. 10 by the template 'for every input the law returns true; each argument reads behind the call as it read before'; 0 by the template 'total and deterministic' (their statements: YthncdpopacdekaaTotals.lean).
  GIVEN WITH THE SEED: the statements are not yours to turn. If you find one false, say at which input.
  Laid BY PROGRAM, IN A SANDBOX (cutbox-rows.mjs): the forced cells as the released guide's own fill.sh prints them over the translation fe5fbb5b805583e7… (all of the seat's roots in one cut). By AI agents, Wed Nov 11 2026. No macro, syntax, notation, axiom, sorry.
-/
import Derived.Test.YthncdpopacdekaaChecked
import GoSem.Claim
import GoSem.ClaimJoined
import GoSem.ClaimMapViews
import Derived.JoinedTies
import Derived.KernelRfl
namespace Go.Proofs.Ythncdpopacdekaa
/- THE CELL 'sum', in the pinned program and in every row, IS THE sha256 OF THE DUMP (.gsa) THAT YthncdpopacdekaaProg.lean LOADS. Nothing in Lean hashes anything: it is a label: what it is worth is what the hold of that sum in a sandbox is worth. -/
noncomputable def Try.pinned : Pinned := { name := "ythncdpopacdekaa", sum := "fe5fbb5b805583e7ced5d0e85ace46cc870d000c0d444625e7d9972c80c177cb", checked := Try.checked }
namespace Rows
def none {H : Type} : Left H := { results := [], args := [] }

/-- 'wealdlaw06.StreamTells': WHATEVER THE INPUT: true; the input reads as it did. -/
def streamTellsSpec : ChangeSpec := { name := "streamTells", fn := fun _ => fun
  | [d1, d2, d3] => { results := [.lit (.bool true)], args := [d1, d2, d3] }
  | _ => none }
def streamTellsRow : OpenClaim := { program := "ythncdpopacdekaa", sum := "fe5fbb5b805583e7ced5d0e85ace46cc870d000c0d444625e7d9972c80c177cb", func := "weald/wealdlaw06.StreamTells", spec := "streamTells", apart := false }
def StreamTellsSaid : Prop := streamTellsRow.holds Try.pinned (OpenSpec.ofChange streamTellsSpec)

/-- ITS FALSE NEIGHBOUR: 'it returns false'. Refute it at one input. -/
def streamTellsWrong : ChangeSpec := { name := "streamTells", fn := fun _ => fun
  | [d1, d2, d3] => { results := [.lit (.bool false)], args := [d1, d2, d3] }
  | _ => none }
def StreamTellsWrongFalsely : Prop := streamTellsRow.holds Try.pinned (OpenSpec.ofChange streamTellsWrong)

/-- 'wealdlaw06.StreamStays': WHATEVER THE INPUT: true; the input reads as it did. -/
def streamStaysSpec : ChangeSpec := { name := "streamStays", fn := fun _ => fun
  | [d1, d2, d3] => { results := [.lit (.bool true)], args := [d1, d2, d3] }
  | _ => none }
def streamStaysRow : OpenClaim := { program := "ythncdpopacdekaa", sum := "fe5fbb5b805583e7ced5d0e85ace46cc870d000c0d444625e7d9972c80c177cb", func := "weald/wealdlaw06.StreamStays", spec := "streamStays", apart := false }
def StreamStaysSaid : Prop := streamStaysRow.holds Try.pinned (OpenSpec.ofChange streamStaysSpec)

/-- ITS FALSE NEIGHBOUR: 'it returns false'. Refute it at one input. -/
def streamStaysWrong : ChangeSpec := { name := "streamStays", fn := fun _ => fun
  | [d1, d2, d3] => { results := [.lit (.bool false)], args := [d1, d2, d3] }
  | _ => none }
def StreamStaysWrongFalsely : Prop := streamStaysRow.holds Try.pinned (OpenSpec.ofChange streamStaysWrong)

/-- 'wealdlaw06.StreamOld': WHATEVER THE INPUT: true; the input reads as it did. -/
def streamOldSpec : ChangeSpec := { name := "streamOld", fn := fun _ => fun
  | [d1, d2, d3] => { results := [.lit (.bool true)], args := [d1, d2, d3] }
  | _ => none }
def streamOldRow : OpenClaim := { program := "ythncdpopacdekaa", sum := "fe5fbb5b805583e7ced5d0e85ace46cc870d000c0d444625e7d9972c80c177cb", func := "weald/wealdlaw06.StreamOld", spec := "streamOld", apart := false }
def StreamOldSaid : Prop := streamOldRow.holds Try.pinned (OpenSpec.ofChange streamOldSpec)

/-- ITS FALSE NEIGHBOUR: 'it returns false'. Refute it at one input. -/
def streamOldWrong : ChangeSpec := { name := "streamOld", fn := fun _ => fun
  | [d1, d2, d3] => { results := [.lit (.bool false)], args := [d1, d2, d3] }
  | _ => none }
def StreamOldWrongFalsely : Prop := streamOldRow.holds Try.pinned (OpenSpec.ofChange streamOldWrong)

/-- 'wealdlaw06.StreamTwice': WHATEVER THE INPUT: true; the input reads as it did. -/
def streamTwiceSpec : ChangeSpec := { name := "streamTwice", fn := fun _ => fun
  | [d1, d2, d3] => { results := [.lit (.bool true)], args := [d1, d2, d3] }
  | _ => none }
def streamTwiceRow : OpenClaim := { program := "ythncdpopacdekaa", sum := "fe5fbb5b805583e7ced5d0e85ace46cc870d000c0d444625e7d9972c80c177cb", func := "weald/wealdlaw06.StreamTwice", spec := "streamTwice", apart := false }
def StreamTwiceSaid : Prop := streamTwiceRow.holds Try.pinned (OpenSpec.ofChange streamTwiceSpec)

/-- ITS FALSE NEIGHBOUR: 'it returns false'. Refute it at one input. -/
def streamTwiceWrong : ChangeSpec := { name := "streamTwice", fn := fun _ => fun
  | [d1, d2, d3] => { results := [.lit (.bool false)], args := [d1, d2, d3] }
  | _ => none }
def StreamTwiceWrongFalsely : Prop := streamTwiceRow.holds Try.pinned (OpenSpec.ofChange streamTwiceWrong)

/-- 'wealdlaw06.StreamParts': WHATEVER THE INPUT: true; the input reads as it did. -/
def streamPartsSpec : ChangeSpec := { name := "streamParts", fn := fun _ => fun
  | [d1, d2, d3] => { results := [.lit (.bool true)], args := [d1, d2, d3] }
  | _ => none }
def streamPartsRow : OpenClaim := { program := "ythncdpopacdekaa", sum := "fe5fbb5b805583e7ced5d0e85ace46cc870d000c0d444625e7d9972c80c177cb", func := "weald/wealdlaw06.StreamParts", spec := "streamParts", apart := false }
def StreamPartsSaid : Prop := streamPartsRow.holds Try.pinned (OpenSpec.ofChange streamPartsSpec)

/-- ITS FALSE NEIGHBOUR: 'it returns false'. Refute it at one input. -/
def streamPartsWrong : ChangeSpec := { name := "streamParts", fn := fun _ => fun
  | [d1, d2, d3] => { results := [.lit (.bool false)], args := [d1, d2, d3] }
  | _ => none }
def StreamPartsWrongFalsely : Prop := streamPartsRow.holds Try.pinned (OpenSpec.ofChange streamPartsWrong)

/-- 'wealdlaw08.WordTells': WHATEVER THE INPUT: true; the input reads as it did. -/
def wordTellsSpec : ChangeSpec := { name := "wordTells", fn := fun _ => fun
  | [d] => { results := [.lit (.bool true)], args := [d] }
  | _ => none }
def wordTellsRow : OpenClaim := { program := "ythncdpopacdekaa", sum := "fe5fbb5b805583e7ced5d0e85ace46cc870d000c0d444625e7d9972c80c177cb", func := "weald/wealdlaw08.WordTells", spec := "wordTells", apart := false }
def WordTellsSaid : Prop := wordTellsRow.holds Try.pinned (OpenSpec.ofChange wordTellsSpec)

/-- ITS FALSE NEIGHBOUR: 'it returns false'. Refute it at one input. -/
def wordTellsWrong : ChangeSpec := { name := "wordTells", fn := fun _ => fun
  | [d] => { results := [.lit (.bool false)], args := [d] }
  | _ => none }
def WordTellsWrongFalsely : Prop := wordTellsRow.holds Try.pinned (OpenSpec.ofChange wordTellsWrong)

/-- 'wealdlaw08.WordBack': WHATEVER THE INPUT: true; the input reads as it did. -/
def wordBackSpec : ChangeSpec := { name := "wordBack", fn := fun _ => fun
  | [d] => { results := [.lit (.bool true)], args := [d] }
  | _ => none }
def wordBackRow : OpenClaim := { program := "ythncdpopacdekaa", sum := "fe5fbb5b805583e7ced5d0e85ace46cc870d000c0d444625e7d9972c80c177cb", func := "weald/wealdlaw08.WordBack", spec := "wordBack", apart := false }
def WordBackSaid : Prop := wordBackRow.holds Try.pinned (OpenSpec.ofChange wordBackSpec)

/-- ITS FALSE NEIGHBOUR: 'it returns false'. Refute it at one input. -/
def wordBackWrong : ChangeSpec := { name := "wordBack", fn := fun _ => fun
  | [d] => { results := [.lit (.bool false)], args := [d] }
  | _ => none }
def WordBackWrongFalsely : Prop := wordBackRow.holds Try.pinned (OpenSpec.ofChange wordBackWrong)

/-- 'wealdlaw08.WordApart': WHATEVER THE INPUT: true; the input reads as it did. -/
def wordApartSpec : ChangeSpec := { name := "wordApart", fn := fun _ => fun
  | [d1, d2, d3] => { results := [.lit (.bool true)], args := [d1, d2, d3] }
  | _ => none }
def wordApartRow : OpenClaim := { program := "ythncdpopacdekaa", sum := "fe5fbb5b805583e7ced5d0e85ace46cc870d000c0d444625e7d9972c80c177cb", func := "weald/wealdlaw08.WordApart", spec := "wordApart", apart := false }
def WordApartSaid : Prop := wordApartRow.holds Try.pinned (OpenSpec.ofChange wordApartSpec)

/-- ITS FALSE NEIGHBOUR: 'it returns false'. Refute it at one input. -/
def wordApartWrong : ChangeSpec := { name := "wordApart", fn := fun _ => fun
  | [d1, d2, d3] => { results := [.lit (.bool false)], args := [d1, d2, d3] }
  | _ => none }
def WordApartWrongFalsely : Prop := wordApartRow.holds Try.pinned (OpenSpec.ofChange wordApartWrong)

/-- 'wealdlaw08.WordRound': WHATEVER THE INPUT: true; the input reads as it did. -/
def wordRoundSpec : ChangeSpec := { name := "wordRound", fn := fun _ => fun
  | [d1, d2] => { results := [.lit (.bool true)], args := [d1, d2] }
  | _ => none }
def wordRoundRow : OpenClaim := { program := "ythncdpopacdekaa", sum := "fe5fbb5b805583e7ced5d0e85ace46cc870d000c0d444625e7d9972c80c177cb", func := "weald/wealdlaw08.WordRound", spec := "wordRound", apart := false }
def WordRoundSaid : Prop := wordRoundRow.holds Try.pinned (OpenSpec.ofChange wordRoundSpec)

/-- ITS FALSE NEIGHBOUR: 'it returns false'. Refute it at one input. -/
def wordRoundWrong : ChangeSpec := { name := "wordRound", fn := fun _ => fun
  | [d1, d2] => { results := [.lit (.bool false)], args := [d1, d2] }
  | _ => none }
def WordRoundWrongFalsely : Prop := wordRoundRow.holds Try.pinned (OpenSpec.ofChange wordRoundWrong)

/-- 'wealdlaw08.WordHas': WHATEVER THE INPUT: true; the input reads as it did. -/
def wordHasSpec : ChangeSpec := { name := "wordHas", fn := fun _ => fun
  | [d1, d2, d3] => { results := [.lit (.bool true)], args := [d1, d2, d3] }
  | _ => none }
def wordHasRow : OpenClaim := { program := "ythncdpopacdekaa", sum := "fe5fbb5b805583e7ced5d0e85ace46cc870d000c0d444625e7d9972c80c177cb", func := "weald/wealdlaw08.WordHas", spec := "wordHas", apart := false }
def WordHasSaid : Prop := wordHasRow.holds Try.pinned (OpenSpec.ofChange wordHasSpec)

/-- ITS FALSE NEIGHBOUR: 'it returns false'. Refute it at one input. -/
def wordHasWrong : ChangeSpec := { name := "wordHas", fn := fun _ => fun
  | [d1, d2, d3] => { results := [.lit (.bool false)], args := [d1, d2, d3] }
  | _ => none }
def WordHasWrongFalsely : Prop := wordHasRow.holds Try.pinned (OpenSpec.ofChange wordHasWrong)

/- THE SECOND FORM. 'bulk': how many values and letters a reading holds, each counted each time it is reached (what is shared counts as often as it is met; a slice's spare places count too). A statement '..UptoSaid' is the law's where the arguments, and the package variables that the reading takes, are together of bulk at most 1048576: NARROWER than '..Said'. Prove '..Said' where nothing that the law and all that it calls make is longer than what came in: it says more and counts as full. Else prove '..UptoSaid'. A law counts once. -/
mutual
def uptoBulk {H : Type} : DataW H → Nat
  | .lit (.string bytes) => bytes.length + 1
  | .lit _ => 1
  | .nil => 1
  | .ptr d => uptoBulk d + 1
  | .slice elems spare => uptoBulkAll elems + uptoBulkAll spare + 1
  | .agg parts => uptoBulkAll parts + 1
  | .iface _ d => uptoBulk d + 1
  | .map entries => uptoBulkEntries entries + 1
  | .held _ => 1
def uptoBulkAll {H : Type} : List (DataW H) → Nat
  | [] => 0
  | d :: r => uptoBulk d + uptoBulkAll r
def uptoBulkEntries {H : Type} : List (Lit × DataW H) → Nat
  | [] => 0
  | x :: r => uptoBulkEntry x + uptoBulkEntries r
def uptoBulkEntry {H : Type} : Lit × DataW H → Nat
  | (.string bytes, d) => bytes.length + uptoBulk d + 1
  | (_, d) => uptoBulk d + 1
 end
def uptoSmall : (H : Type) → List (DataW H) → Bool := fun _ ds => decide (uptoBulkAll ds ≤ 1048576)
def OpenSpec.upto (s : _root_.Go.ChangeSpec) : _root_.Go.OpenSpec := { _root_.Go.OpenSpec.ofChange s with cond := some uptoSmall }

/-- 'wealdlaw06.StreamTells', WHERE WHAT IT READS IS OF BULK AT MOST 1048576: true; the input reads as it did. -/
def streamTellsUptoRow : OpenClaim := { program := "ythncdpopacdekaa", sum := "fe5fbb5b805583e7ced5d0e85ace46cc870d000c0d444625e7d9972c80c177cb", func := "weald/wealdlaw06.StreamTells", spec := "streamTells", apart := false, narrowed := true }
def StreamTellsUptoSaid : Prop := streamTellsUptoRow.holds Try.pinned (OpenSpec.upto streamTellsSpec)

/-- 'wealdlaw06.StreamStays', WHERE WHAT IT READS IS OF BULK AT MOST 1048576: true; the input reads as it did. -/
def streamStaysUptoRow : OpenClaim := { program := "ythncdpopacdekaa", sum := "fe5fbb5b805583e7ced5d0e85ace46cc870d000c0d444625e7d9972c80c177cb", func := "weald/wealdlaw06.StreamStays", spec := "streamStays", apart := false, narrowed := true }
def StreamStaysUptoSaid : Prop := streamStaysUptoRow.holds Try.pinned (OpenSpec.upto streamStaysSpec)

/-- 'wealdlaw06.StreamOld', WHERE WHAT IT READS IS OF BULK AT MOST 1048576: true; the input reads as it did. -/
def streamOldUptoRow : OpenClaim := { program := "ythncdpopacdekaa", sum := "fe5fbb5b805583e7ced5d0e85ace46cc870d000c0d444625e7d9972c80c177cb", func := "weald/wealdlaw06.StreamOld", spec := "streamOld", apart := false, narrowed := true }
def StreamOldUptoSaid : Prop := streamOldUptoRow.holds Try.pinned (OpenSpec.upto streamOldSpec)

/-- 'wealdlaw06.StreamTwice', WHERE WHAT IT READS IS OF BULK AT MOST 1048576: true; the input reads as it did. -/
def streamTwiceUptoRow : OpenClaim := { program := "ythncdpopacdekaa", sum := "fe5fbb5b805583e7ced5d0e85ace46cc870d000c0d444625e7d9972c80c177cb", func := "weald/wealdlaw06.StreamTwice", spec := "streamTwice", apart := false, narrowed := true }
def StreamTwiceUptoSaid : Prop := streamTwiceUptoRow.holds Try.pinned (OpenSpec.upto streamTwiceSpec)

/-- 'wealdlaw06.StreamParts', WHERE WHAT IT READS IS OF BULK AT MOST 1048576: true; the input reads as it did. -/
def streamPartsUptoRow : OpenClaim := { program := "ythncdpopacdekaa", sum := "fe5fbb5b805583e7ced5d0e85ace46cc870d000c0d444625e7d9972c80c177cb", func := "weald/wealdlaw06.StreamParts", spec := "streamParts", apart := false, narrowed := true }
def StreamPartsUptoSaid : Prop := streamPartsUptoRow.holds Try.pinned (OpenSpec.upto streamPartsSpec)

/-- 'wealdlaw08.WordTells', WHERE WHAT IT READS IS OF BULK AT MOST 1048576: true; the input reads as it did. -/
def wordTellsUptoRow : OpenClaim := { program := "ythncdpopacdekaa", sum := "fe5fbb5b805583e7ced5d0e85ace46cc870d000c0d444625e7d9972c80c177cb", func := "weald/wealdlaw08.WordTells", spec := "wordTells", apart := false, narrowed := true }
def WordTellsUptoSaid : Prop := wordTellsUptoRow.holds Try.pinned (OpenSpec.upto wordTellsSpec)

/-- 'wealdlaw08.WordBack', WHERE WHAT IT READS IS OF BULK AT MOST 1048576: true; the input reads as it did. -/
def wordBackUptoRow : OpenClaim := { program := "ythncdpopacdekaa", sum := "fe5fbb5b805583e7ced5d0e85ace46cc870d000c0d444625e7d9972c80c177cb", func := "weald/wealdlaw08.WordBack", spec := "wordBack", apart := false, narrowed := true }
def WordBackUptoSaid : Prop := wordBackUptoRow.holds Try.pinned (OpenSpec.upto wordBackSpec)

/-- 'wealdlaw08.WordApart', WHERE WHAT IT READS IS OF BULK AT MOST 1048576: true; the input reads as it did. -/
def wordApartUptoRow : OpenClaim := { program := "ythncdpopacdekaa", sum := "fe5fbb5b805583e7ced5d0e85ace46cc870d000c0d444625e7d9972c80c177cb", func := "weald/wealdlaw08.WordApart", spec := "wordApart", apart := false, narrowed := true }
def WordApartUptoSaid : Prop := wordApartUptoRow.holds Try.pinned (OpenSpec.upto wordApartSpec)

/-- 'wealdlaw08.WordRound', WHERE WHAT IT READS IS OF BULK AT MOST 1048576: true; the input reads as it did. -/
def wordRoundUptoRow : OpenClaim := { program := "ythncdpopacdekaa", sum := "fe5fbb5b805583e7ced5d0e85ace46cc870d000c0d444625e7d9972c80c177cb", func := "weald/wealdlaw08.WordRound", spec := "wordRound", apart := false, narrowed := true }
def WordRoundUptoSaid : Prop := wordRoundUptoRow.holds Try.pinned (OpenSpec.upto wordRoundSpec)

/-- 'wealdlaw08.WordHas', WHERE WHAT IT READS IS OF BULK AT MOST 1048576: true; the input reads as it did. -/
def wordHasUptoRow : OpenClaim := { program := "ythncdpopacdekaa", sum := "fe5fbb5b805583e7ced5d0e85ace46cc870d000c0d444625e7d9972c80c177cb", func := "weald/wealdlaw08.WordHas", spec := "wordHas", apart := false, narrowed := true }
def WordHasUptoSaid : Prop := wordHasUptoRow.holds Try.pinned (OpenSpec.upto wordHasSpec)

end Rows
end Go.Proofs.Ythncdpopacdekaa
