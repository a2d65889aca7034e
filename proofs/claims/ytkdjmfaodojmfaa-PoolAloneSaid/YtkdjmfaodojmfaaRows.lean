/-
  No cell of these rows narrows 'for every input' (looked for: loops, veiled, ifaces, maps, wideKeys, modest, calm, conditions, laid).
  DERIVED. THE GIVEN ROWS OF THIS SEAT. 12 by the template 'for every input the law returns true; each argument reads behind the call as it read before'; 0 by the template 'total and deterministic' (their statements: YtkdjmfaodojmfaaTotals.lean).
  GIVEN WITH THE SEED: the statements are not yours to turn. If you find one false, say at which input.
  Laid BY PROGRAM, IN A SANDBOX (cutbox-rows.mjs): the forced cells as the released guide's own fill.sh prints them over the translation 04467b5ef445e4a6… (all of the seat's roots in one cut). By AI agents, Wed Nov 11 2026. No macro, syntax, notation, axiom, sorry.
-/
import Derived.Test.YtkdjmfaodojmfaaChecked
import GoSem.Claim
import GoSem.ClaimJoined
import GoSem.ClaimMapViews
import Derived.JoinedTies
import Derived.KernelRfl
namespace Go.Proofs.Ytkdjmfaodojmfaa
/- THE CELL 'sum', in the pinned program and in every row, IS THE sha256 OF THE DUMP (.gsa) THAT YtkdjmfaodojmfaaProg.lean LOADS. Nothing in Lean hashes anything: it is a label: what it is worth is what the hold of that sum in a sandbox is worth. -/
noncomputable def Try.pinned : Pinned := { name := "ytkdjmfaodojmfaa", sum := "04467b5ef445e4a69832867c03d68c3e6a38f14bb931d545e7aab191fac5c33f", checked := Try.checked }
namespace Rows
def none {H : Type} : Left H := { results := [], args := [] }

/-- 'wealdlaw12.PoolNext': WHATEVER THE INPUT: true; the input reads as it did. -/
def poolNextSpec : ChangeSpec := { name := "poolNext", fn := fun _ => fun
  | [d] => { results := [.lit (.bool true)], args := [d] }
  | _ => none }
def poolNextRow : OpenClaim := { program := "ytkdjmfaodojmfaa", sum := "04467b5ef445e4a69832867c03d68c3e6a38f14bb931d545e7aab191fac5c33f", func := "weald/wealdlaw12.PoolNext", spec := "poolNext", unfollowed := true, recurses := true, apart := false }
def PoolNextSaid : Prop := poolNextRow.holds Try.pinned (OpenSpec.ofChange poolNextSpec)

/-- ITS FALSE NEIGHBOUR: 'it returns false'. Refute it at one input. -/
def poolNextWrong : ChangeSpec := { name := "poolNext", fn := fun _ => fun
  | [d] => { results := [.lit (.bool false)], args := [d] }
  | _ => none }
def PoolNextWrongFalsely : Prop := poolNextRow.holds Try.pinned (OpenSpec.ofChange poolNextWrong)

/-- 'wealdlaw12.PoolAlone': WHATEVER THE INPUT: true; the input reads as it did. -/
def poolAloneSpec : ChangeSpec := { name := "poolAlone", fn := fun _ => fun
  | [d1, d2] => { results := [.lit (.bool true)], args := [d1, d2] }
  | _ => none }
def poolAloneRow : OpenClaim := { program := "ytkdjmfaodojmfaa", sum := "04467b5ef445e4a69832867c03d68c3e6a38f14bb931d545e7aab191fac5c33f", func := "weald/wealdlaw12.PoolAlone", spec := "poolAlone", unfollowed := true, recurses := true, apart := false }
def PoolAloneSaid : Prop := poolAloneRow.holds Try.pinned (OpenSpec.ofChange poolAloneSpec)

/-- ITS FALSE NEIGHBOUR: 'it returns false'. Refute it at one input. -/
def poolAloneWrong : ChangeSpec := { name := "poolAlone", fn := fun _ => fun
  | [d1, d2] => { results := [.lit (.bool false)], args := [d1, d2] }
  | _ => none }
def PoolAloneWrongFalsely : Prop := poolAloneRow.holds Try.pinned (OpenSpec.ofChange poolAloneWrong)

/-- 'wealdlaw12.PoolTag': WHATEVER THE INPUT: true; the input reads as it did. -/
def poolTagSpec : ChangeSpec := { name := "poolTag", fn := fun _ => fun
  | [d1, d2] => { results := [.lit (.bool true)], args := [d1, d2] }
  | _ => none }
def poolTagRow : OpenClaim := { program := "ytkdjmfaodojmfaa", sum := "04467b5ef445e4a69832867c03d68c3e6a38f14bb931d545e7aab191fac5c33f", func := "weald/wealdlaw12.PoolTag", spec := "poolTag", unfollowed := true, recurses := true, apart := false }
def PoolTagSaid : Prop := poolTagRow.holds Try.pinned (OpenSpec.ofChange poolTagSpec)

/-- ITS FALSE NEIGHBOUR: 'it returns false'. Refute it at one input. -/
def poolTagWrong : ChangeSpec := { name := "poolTag", fn := fun _ => fun
  | [d1, d2] => { results := [.lit (.bool false)], args := [d1, d2] }
  | _ => none }
def PoolTagWrongFalsely : Prop := poolTagRow.holds Try.pinned (OpenSpec.ofChange poolTagWrong)

/-- 'wealdlaw12.PoolBack': WHATEVER THE INPUT: true; the input reads as it did. -/
def poolBackSpec : ChangeSpec := { name := "poolBack", fn := fun _ => fun
  | [d1, d2] => { results := [.lit (.bool true)], args := [d1, d2] }
  | _ => none }
def poolBackRow : OpenClaim := { program := "ytkdjmfaodojmfaa", sum := "04467b5ef445e4a69832867c03d68c3e6a38f14bb931d545e7aab191fac5c33f", func := "weald/wealdlaw12.PoolBack", spec := "poolBack", unfollowed := true, recurses := true, apart := false }
def PoolBackSaid : Prop := poolBackRow.holds Try.pinned (OpenSpec.ofChange poolBackSpec)

/-- ITS FALSE NEIGHBOUR: 'it returns false'. Refute it at one input. -/
def poolBackWrong : ChangeSpec := { name := "poolBack", fn := fun _ => fun
  | [d1, d2] => { results := [.lit (.bool false)], args := [d1, d2] }
  | _ => none }
def PoolBackWrongFalsely : Prop := poolBackRow.holds Try.pinned (OpenSpec.ofChange poolBackWrong)

/-- 'wealdlaw12.PoolDirect': WHATEVER THE INPUT: true; the input reads as it did. -/
def poolDirectSpec : ChangeSpec := { name := "poolDirect", fn := fun _ => fun
  | [d1, d2] => { results := [.lit (.bool true)], args := [d1, d2] }
  | _ => none }
def poolDirectRow : OpenClaim := { program := "ytkdjmfaodojmfaa", sum := "04467b5ef445e4a69832867c03d68c3e6a38f14bb931d545e7aab191fac5c33f", func := "weald/wealdlaw12.PoolDirect", spec := "poolDirect", unfollowed := true, recurses := true, apart := false }
def PoolDirectSaid : Prop := poolDirectRow.holds Try.pinned (OpenSpec.ofChange poolDirectSpec)

/-- ITS FALSE NEIGHBOUR: 'it returns false'. Refute it at one input. -/
def poolDirectWrong : ChangeSpec := { name := "poolDirect", fn := fun _ => fun
  | [d1, d2] => { results := [.lit (.bool false)], args := [d1, d2] }
  | _ => none }
def PoolDirectWrongFalsely : Prop := poolDirectRow.holds Try.pinned (OpenSpec.ofChange poolDirectWrong)

/-- 'wealdlaw08.WordTells': WHATEVER THE INPUT: true; the input reads as it did. -/
def wordTellsSpec : ChangeSpec := { name := "wordTells", fn := fun _ => fun
  | [d] => { results := [.lit (.bool true)], args := [d] }
  | _ => none }
def wordTellsRow : OpenClaim := { program := "ytkdjmfaodojmfaa", sum := "04467b5ef445e4a69832867c03d68c3e6a38f14bb931d545e7aab191fac5c33f", func := "weald/wealdlaw08.WordTells", spec := "wordTells", apart := false }
def WordTellsSaid : Prop := wordTellsRow.holds Try.pinned (OpenSpec.ofChange wordTellsSpec)

/-- ITS FALSE NEIGHBOUR: 'it returns false'. Refute it at one input. -/
def wordTellsWrong : ChangeSpec := { name := "wordTells", fn := fun _ => fun
  | [d] => { results := [.lit (.bool false)], args := [d] }
  | _ => none }
def WordTellsWrongFalsely : Prop := wordTellsRow.holds Try.pinned (OpenSpec.ofChange wordTellsWrong)

/-- 'wealdlaw11.PlayTells': WHATEVER THE INPUT: true; the input reads as it did. -/
def playTellsSpec : ChangeSpec := { name := "playTells", fn := fun _ => fun
  | [d1, d2] => { results := [.lit (.bool true)], args := [d1, d2] }
  | _ => none }
def playTellsRow : OpenClaim := { program := "ytkdjmfaodojmfaa", sum := "04467b5ef445e4a69832867c03d68c3e6a38f14bb931d545e7aab191fac5c33f", func := "weald/wealdlaw11.PlayTells", spec := "playTells", unfollowed := true, recurses := true, apart := false }
def PlayTellsSaid : Prop := playTellsRow.holds Try.pinned (OpenSpec.ofChange playTellsSpec)

/-- ITS FALSE NEIGHBOUR: 'it returns false'. Refute it at one input. -/
def playTellsWrong : ChangeSpec := { name := "playTells", fn := fun _ => fun
  | [d1, d2] => { results := [.lit (.bool false)], args := [d1, d2] }
  | _ => none }
def PlayTellsWrongFalsely : Prop := playTellsRow.holds Try.pinned (OpenSpec.ofChange playTellsWrong)

/-- 'wealdlaw09.CellTells': WHATEVER THE INPUT: true; the input reads as it did. -/
def cellTellsSpec : ChangeSpec := { name := "cellTells", fn := fun _ => fun
  | [d] => { results := [.lit (.bool true)], args := [d] }
  | _ => none }
def cellTellsRow : OpenClaim := { program := "ytkdjmfaodojmfaa", sum := "04467b5ef445e4a69832867c03d68c3e6a38f14bb931d545e7aab191fac5c33f", func := "weald/wealdlaw09.CellTells", spec := "cellTells", apart := false }
def CellTellsSaid : Prop := cellTellsRow.holds Try.pinned (OpenSpec.ofChange cellTellsSpec)

/-- ITS FALSE NEIGHBOUR: 'it returns false'. Refute it at one input. -/
def cellTellsWrong : ChangeSpec := { name := "cellTells", fn := fun _ => fun
  | [d] => { results := [.lit (.bool false)], args := [d] }
  | _ => none }
def CellTellsWrongFalsely : Prop := cellTellsRow.holds Try.pinned (OpenSpec.ofChange cellTellsWrong)

/-- 'wealdlaw07.DiskTells': WHATEVER THE INPUT: true; the input reads as it did. -/
def diskTellsSpec : ChangeSpec := { name := "diskTells", fn := fun _ => fun
  | [d] => { results := [.lit (.bool true)], args := [d] }
  | _ => none }
def diskTellsRow : OpenClaim := { program := "ytkdjmfaodojmfaa", sum := "04467b5ef445e4a69832867c03d68c3e6a38f14bb931d545e7aab191fac5c33f", func := "weald/wealdlaw07.DiskTells", spec := "diskTells", unfollowed := true, recurses := true, apart := false }
def DiskTellsSaid : Prop := diskTellsRow.holds Try.pinned (OpenSpec.ofChange diskTellsSpec)

/-- ITS FALSE NEIGHBOUR: 'it returns false'. Refute it at one input. -/
def diskTellsWrong : ChangeSpec := { name := "diskTells", fn := fun _ => fun
  | [d] => { results := [.lit (.bool false)], args := [d] }
  | _ => none }
def DiskTellsWrongFalsely : Prop := diskTellsRow.holds Try.pinned (OpenSpec.ofChange diskTellsWrong)

/-- 'wealdlaw06.StreamTells': WHATEVER THE INPUT: true; the input reads as it did. -/
def streamTellsSpec : ChangeSpec := { name := "streamTells", fn := fun _ => fun
  | [d1, d2, d3] => { results := [.lit (.bool true)], args := [d1, d2, d3] }
  | _ => none }
def streamTellsRow : OpenClaim := { program := "ytkdjmfaodojmfaa", sum := "04467b5ef445e4a69832867c03d68c3e6a38f14bb931d545e7aab191fac5c33f", func := "weald/wealdlaw06.StreamTells", spec := "streamTells", apart := false }
def StreamTellsSaid : Prop := streamTellsRow.holds Try.pinned (OpenSpec.ofChange streamTellsSpec)

/-- ITS FALSE NEIGHBOUR: 'it returns false'. Refute it at one input. -/
def streamTellsWrong : ChangeSpec := { name := "streamTells", fn := fun _ => fun
  | [d1, d2, d3] => { results := [.lit (.bool false)], args := [d1, d2, d3] }
  | _ => none }
def StreamTellsWrongFalsely : Prop := streamTellsRow.holds Try.pinned (OpenSpec.ofChange streamTellsWrong)

/-- 'wealdlaw11.PlayDirect': WHATEVER THE INPUT: true; the input reads as it did. -/
def playDirectSpec : ChangeSpec := { name := "playDirect", fn := fun _ => fun
  | [d1, d2] => { results := [.lit (.bool true)], args := [d1, d2] }
  | _ => none }
def playDirectRow : OpenClaim := { program := "ytkdjmfaodojmfaa", sum := "04467b5ef445e4a69832867c03d68c3e6a38f14bb931d545e7aab191fac5c33f", func := "weald/wealdlaw11.PlayDirect", spec := "playDirect", unfollowed := true, recurses := true, apart := false }
def PlayDirectSaid : Prop := playDirectRow.holds Try.pinned (OpenSpec.ofChange playDirectSpec)

/-- ITS FALSE NEIGHBOUR: 'it returns false'. Refute it at one input. -/
def playDirectWrong : ChangeSpec := { name := "playDirect", fn := fun _ => fun
  | [d1, d2] => { results := [.lit (.bool false)], args := [d1, d2] }
  | _ => none }
def PlayDirectWrongFalsely : Prop := playDirectRow.holds Try.pinned (OpenSpec.ofChange playDirectWrong)

/-- 'wealdlaw10.AccessTells': WHATEVER THE INPUT: true; the input reads as it did. -/
def accessTellsSpec : ChangeSpec := { name := "accessTells", fn := fun _ => fun
  | [d] => { results := [.lit (.bool true)], args := [d] }
  | _ => none }
def accessTellsRow : OpenClaim := { program := "ytkdjmfaodojmfaa", sum := "04467b5ef445e4a69832867c03d68c3e6a38f14bb931d545e7aab191fac5c33f", func := "weald/wealdlaw10.AccessTells", spec := "accessTells", unfollowed := true, recurses := true, apart := false }
def AccessTellsSaid : Prop := accessTellsRow.holds Try.pinned (OpenSpec.ofChange accessTellsSpec)

/-- ITS FALSE NEIGHBOUR: 'it returns false'. Refute it at one input. -/
def accessTellsWrong : ChangeSpec := { name := "accessTells", fn := fun _ => fun
  | [d] => { results := [.lit (.bool false)], args := [d] }
  | _ => none }
def AccessTellsWrongFalsely : Prop := accessTellsRow.holds Try.pinned (OpenSpec.ofChange accessTellsWrong)

/- THE SECOND FORM. 'bulk': how many values and letters a reading holds, each counted each time it is reached (what is shared counts as often as it is met; a slice's spare places count too). A statement '..UptoSaid' is the law's where the arguments, and the package variables that the reading takes, are together of bulk at most 1048576: NARROWER than '..Said'. Prove '..Said' where nothing that the law and all that it calls make is longer than what came in: it says more and counts as full. Else prove '..UptoSaid'. A law counts once. -/
mutual
def uptoBulk {H : Type} : DataW H → Nat
  | .lit (.string bytes) => bytes.length + 1
  | .lit _ => 1
  | .nil => 1
  | .ptr d => uptoBulk d + 1
  | .slice elems spare => uptoBulkAll elems + uptoBulkAll spare + 1
  | .agg parts => uptoBulkAll parts + 1
  | .iface _ d => uptoBulk d + 1
  | .map entries => uptoBulkEntries entries + 1
  | .held _ => 1
def uptoBulkAll {H : Type} : List (DataW H) → Nat
  | [] => 0
  | d :: r => uptoBulk d + uptoBulkAll r
def uptoBulkEntries {H : Type} : List (Lit × DataW H) → Nat
  | [] => 0
  | x :: r => uptoBulkEntry x + uptoBulkEntries r
def uptoBulkEntry {H : Type} : Lit × DataW H → Nat
  | (.string bytes, d) => bytes.length + uptoBulk d + 1
  | (_, d) => uptoBulk d + 1
 end
def uptoSmall : (H : Type) → List (DataW H) → Bool := fun _ ds => decide (uptoBulkAll ds ≤ 1048576)
def OpenSpec.upto (s : _root_.Go.ChangeSpec) : _root_.Go.OpenSpec := { _root_.Go.OpenSpec.ofChange s with cond := some uptoSmall }

/-- 'wealdlaw12.PoolNext', WHERE WHAT IT READS IS OF BULK AT MOST 1048576: true; the input reads as it did. -/
def poolNextUptoRow : OpenClaim := { program := "ytkdjmfaodojmfaa", sum := "04467b5ef445e4a69832867c03d68c3e6a38f14bb931d545e7aab191fac5c33f", func := "weald/wealdlaw12.PoolNext", spec := "poolNext", unfollowed := true, recurses := true, apart := false, narrowed := true }
def PoolNextUptoSaid : Prop := poolNextUptoRow.holds Try.pinned (OpenSpec.upto poolNextSpec)

/-- 'wealdlaw12.PoolAlone', WHERE WHAT IT READS IS OF BULK AT MOST 1048576: true; the input reads as it did. -/
def poolAloneUptoRow : OpenClaim := { program := "ytkdjmfaodojmfaa", sum := "04467b5ef445e4a69832867c03d68c3e6a38f14bb931d545e7aab191fac5c33f", func := "weald/wealdlaw12.PoolAlone", spec := "poolAlone", unfollowed := true, recurses := true, apart := false, narrowed := true }
def PoolAloneUptoSaid : Prop := poolAloneUptoRow.holds Try.pinned (OpenSpec.upto poolAloneSpec)

/-- 'wealdlaw12.PoolTag', WHERE WHAT IT READS IS OF BULK AT MOST 1048576: true; the input reads as it did. -/
def poolTagUptoRow : OpenClaim := { program := "ytkdjmfaodojmfaa", sum := "04467b5ef445e4a69832867c03d68c3e6a38f14bb931d545e7aab191fac5c33f", func := "weald/wealdlaw12.PoolTag", spec := "poolTag", unfollowed := true, recurses := true, apart := false, narrowed := true }
def PoolTagUptoSaid : Prop := poolTagUptoRow.holds Try.pinned (OpenSpec.upto poolTagSpec)

/-- 'wealdlaw12.PoolBack', WHERE WHAT IT READS IS OF BULK AT MOST 1048576: true; the input reads as it did. -/
def poolBackUptoRow : OpenClaim := { program := "ytkdjmfaodojmfaa", sum := "04467b5ef445e4a69832867c03d68c3e6a38f14bb931d545e7aab191fac5c33f", func := "weald/wealdlaw12.PoolBack", spec := "poolBack", unfollowed := true, recurses := true, apart := false, narrowed := true }
def PoolBackUptoSaid : Prop := poolBackUptoRow.holds Try.pinned (OpenSpec.upto poolBackSpec)

/-- 'wealdlaw12.PoolDirect', WHERE WHAT IT READS IS OF BULK AT MOST 1048576: true; the input reads as it did. -/
def poolDirectUptoRow : OpenClaim := { program := "ytkdjmfaodojmfaa", sum := "04467b5ef445e4a69832867c03d68c3e6a38f14bb931d545e7aab191fac5c33f", func := "weald/wealdlaw12.PoolDirect", spec := "poolDirect", unfollowed := true, recurses := true, apart := false, narrowed := true }
def PoolDirectUptoSaid : Prop := poolDirectUptoRow.holds Try.pinned (OpenSpec.upto poolDirectSpec)

/-- 'wealdlaw08.WordTells', WHERE WHAT IT READS IS OF BULK AT MOST 1048576: true; the input reads as it did. -/
def wordTellsUptoRow : OpenClaim := { program := "ytkdjmfaodojmfaa", sum := "04467b5ef445e4a69832867c03d68c3e6a38f14bb931d545e7aab191fac5c33f", func := "weald/wealdlaw08.WordTells", spec := "wordTells", apart := false, narrowed := true }
def WordTellsUptoSaid : Prop := wordTellsUptoRow.holds Try.pinned (OpenSpec.upto wordTellsSpec)

/-- 'wealdlaw11.PlayTells', WHERE WHAT IT READS IS OF BULK AT MOST 1048576: true; the input reads as it did. -/
def playTellsUptoRow : OpenClaim := { program := "ytkdjmfaodojmfaa", sum := "04467b5ef445e4a69832867c03d68c3e6a38f14bb931d545e7aab191fac5c33f", func := "weald/wealdlaw11.PlayTells", spec := "playTells", unfollowed := true, recurses := true, apart := false, narrowed := true }
def PlayTellsUptoSaid : Prop := playTellsUptoRow.holds Try.pinned (OpenSpec.upto playTellsSpec)

/-- 'wealdlaw09.CellTells', WHERE WHAT IT READS IS OF BULK AT MOST 1048576: true; the input reads as it did. -/
def cellTellsUptoRow : OpenClaim := { program := "ytkdjmfaodojmfaa", sum := "04467b5ef445e4a69832867c03d68c3e6a38f14bb931d545e7aab191fac5c33f", func := "weald/wealdlaw09.CellTells", spec := "cellTells", apart := false, narrowed := true }
def CellTellsUptoSaid : Prop := cellTellsUptoRow.holds Try.pinned (OpenSpec.upto cellTellsSpec)

/-- 'wealdlaw07.DiskTells', WHERE WHAT IT READS IS OF BULK AT MOST 1048576: true; the input reads as it did. -/
def diskTellsUptoRow : OpenClaim := { program := "ytkdjmfaodojmfaa", sum := "04467b5ef445e4a69832867c03d68c3e6a38f14bb931d545e7aab191fac5c33f", func := "weald/wealdlaw07.DiskTells", spec := "diskTells", unfollowed := true, recurses := true, apart := false, narrowed := true }
def DiskTellsUptoSaid : Prop := diskTellsUptoRow.holds Try.pinned (OpenSpec.upto diskTellsSpec)

/-- 'wealdlaw06.StreamTells', WHERE WHAT IT READS IS OF BULK AT MOST 1048576: true; the input reads as it did. -/
def streamTellsUptoRow : OpenClaim := { program := "ytkdjmfaodojmfaa", sum := "04467b5ef445e4a69832867c03d68c3e6a38f14bb931d545e7aab191fac5c33f", func := "weald/wealdlaw06.StreamTells", spec := "streamTells", apart := false, narrowed := true }
def StreamTellsUptoSaid : Prop := streamTellsUptoRow.holds Try.pinned (OpenSpec.upto streamTellsSpec)

/-- 'wealdlaw11.PlayDirect', WHERE WHAT IT READS IS OF BULK AT MOST 1048576: true; the input reads as it did. -/
def playDirectUptoRow : OpenClaim := { program := "ytkdjmfaodojmfaa", sum := "04467b5ef445e4a69832867c03d68c3e6a38f14bb931d545e7aab191fac5c33f", func := "weald/wealdlaw11.PlayDirect", spec := "playDirect", unfollowed := true, recurses := true, apart := false, narrowed := true }
def PlayDirectUptoSaid : Prop := playDirectUptoRow.holds Try.pinned (OpenSpec.upto playDirectSpec)

/-- 'wealdlaw10.AccessTells', WHERE WHAT IT READS IS OF BULK AT MOST 1048576: true; the input reads as it did. -/
def accessTellsUptoRow : OpenClaim := { program := "ytkdjmfaodojmfaa", sum := "04467b5ef445e4a69832867c03d68c3e6a38f14bb931d545e7aab191fac5c33f", func := "weald/wealdlaw10.AccessTells", spec := "accessTells", unfollowed := true, recurses := true, apart := false, narrowed := true }
def AccessTellsUptoSaid : Prop := accessTellsUptoRow.holds Try.pinned (OpenSpec.upto accessTellsSpec)

end Rows
end Go.Proofs.Ytkdjmfaodojmfaa
