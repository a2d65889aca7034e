/-
  No cell of these rows narrows 'for every input' (looked for: loops, veiled, ifaces, maps, wideKeys, modest, calm, conditions, laid).
  DERIVED. THE GIVEN ROWS OF THIS SEAT. 11 by the template 'for every input the law returns true; each argument reads behind the call as it read before'; 0 by the template 'total and deterministic' (their statements: YtennnhfaghdeoaaTotals.lean).
  GIVEN WITH THE SEED: the statements are not yours to turn. If you find one false, say at which input.
  Laid BY PROGRAM, IN A SANDBOX (cutbox-rows.mjs): the forced cells as the released guide's own fill.sh prints them over the translation 2a9dff52657737cf… (all of the seat's roots in one cut). By AI agents, Wed Nov 11 2026. No macro, syntax, notation, axiom, sorry.
-/
import Derived.Test.YtennnhfaghdeoaaChecked
import GoSem.Claim
import GoSem.ClaimJoined
import GoSem.ClaimMapViews
import Derived.JoinedTies
import Derived.KernelRfl
namespace Go.Proofs.Ytennnhfaghdeoaa
/- THE CELL 'sum', in the pinned program and in every row, IS THE sha256 OF THE DUMP (.gsa) THAT YtennnhfaghdeoaaProg.lean LOADS. Nothing in Lean hashes anything: it is a label: what it is worth is what the hold of that sum in a sandbox is worth. -/
noncomputable def Try.pinned : Pinned := { name := "ytennnhfaghdeoaa", sum := "2a9dff52657737cf7221e6c12f23583515ca8e220263ba781bf1f51efaf01875", checked := Try.checked }
namespace Rows
def none {H : Type} : Left H := { results := [], args := [] }

/-- 'wealdlaw11.PlaySteps': WHATEVER THE INPUT: true; the input reads as it did. -/
def playStepsSpec : ChangeSpec := { name := "playSteps", fn := fun _ => fun
  | [d] => { results := [.lit (.bool true)], args := [d] }
  | _ => none }
def playStepsRow : OpenClaim := { program := "ytennnhfaghdeoaa", sum := "2a9dff52657737cf7221e6c12f23583515ca8e220263ba781bf1f51efaf01875", func := "weald/wealdlaw11.PlaySteps", spec := "playSteps", unfollowed := true, recurses := true, apart := false }
def PlayStepsSaid : Prop := playStepsRow.holds Try.pinned (OpenSpec.ofChange playStepsSpec)

/-- ITS FALSE NEIGHBOUR: 'it returns false'. Refute it at one input. -/
def playStepsWrong : ChangeSpec := { name := "playSteps", fn := fun _ => fun
  | [d] => { results := [.lit (.bool false)], args := [d] }
  | _ => none }
def PlayStepsWrongFalsely : Prop := playStepsRow.holds Try.pinned (OpenSpec.ofChange playStepsWrong)

/-- 'wealdlaw11.PlayDirect': WHATEVER THE INPUT: true; the input reads as it did. -/
def playDirectSpec : ChangeSpec := { name := "playDirect", fn := fun _ => fun
  | [d1, d2] => { results := [.lit (.bool true)], args := [d1, d2] }
  | _ => none }
def playDirectRow : OpenClaim := { program := "ytennnhfaghdeoaa", sum := "2a9dff52657737cf7221e6c12f23583515ca8e220263ba781bf1f51efaf01875", func := "weald/wealdlaw11.PlayDirect", spec := "playDirect", unfollowed := true, recurses := true, apart := false }
def PlayDirectSaid : Prop := playDirectRow.holds Try.pinned (OpenSpec.ofChange playDirectSpec)

/-- ITS FALSE NEIGHBOUR: 'it returns false'. Refute it at one input. -/
def playDirectWrong : ChangeSpec := { name := "playDirect", fn := fun _ => fun
  | [d1, d2] => { results := [.lit (.bool false)], args := [d1, d2] }
  | _ => none }
def PlayDirectWrongFalsely : Prop := playDirectRow.holds Try.pinned (OpenSpec.ofChange playDirectWrong)

/-- 'wealdlaw10.AccessTells': WHATEVER THE INPUT: true; the input reads as it did. -/
def accessTellsSpec : ChangeSpec := { name := "accessTells", fn := fun _ => fun
  | [d] => { results := [.lit (.bool true)], args := [d] }
  | _ => none }
def accessTellsRow : OpenClaim := { program := "ytennnhfaghdeoaa", sum := "2a9dff52657737cf7221e6c12f23583515ca8e220263ba781bf1f51efaf01875", func := "weald/wealdlaw10.AccessTells", spec := "accessTells", unfollowed := true, recurses := true, apart := false }
def AccessTellsSaid : Prop := accessTellsRow.holds Try.pinned (OpenSpec.ofChange accessTellsSpec)

/-- ITS FALSE NEIGHBOUR: 'it returns false'. Refute it at one input. -/
def accessTellsWrong : ChangeSpec := { name := "accessTells", fn := fun _ => fun
  | [d] => { results := [.lit (.bool false)], args := [d] }
  | _ => none }
def AccessTellsWrongFalsely : Prop := accessTellsRow.holds Try.pinned (OpenSpec.ofChange accessTellsWrong)

/-- 'wealdlaw10.AccessOne': WHATEVER THE INPUT: true; the input reads as it did. -/
def accessOneSpec : ChangeSpec := { name := "accessOne", fn := fun _ => fun
  | [d] => { results := [.lit (.bool true)], args := [d] }
  | _ => none }
def accessOneRow : OpenClaim := { program := "ytennnhfaghdeoaa", sum := "2a9dff52657737cf7221e6c12f23583515ca8e220263ba781bf1f51efaf01875", func := "weald/wealdlaw10.AccessOne", spec := "accessOne", unfollowed := true, recurses := true, apart := false }
def AccessOneSaid : Prop := accessOneRow.holds Try.pinned (OpenSpec.ofChange accessOneSpec)

/-- ITS FALSE NEIGHBOUR: 'it returns false'. Refute it at one input. -/
def accessOneWrong : ChangeSpec := { name := "accessOne", fn := fun _ => fun
  | [d] => { results := [.lit (.bool false)], args := [d] }
  | _ => none }
def AccessOneWrongFalsely : Prop := accessOneRow.holds Try.pinned (OpenSpec.ofChange accessOneWrong)

/-- 'wealdlaw10.AccessCas': WHATEVER THE INPUT: true; the input reads as it did. -/
def accessCasSpec : ChangeSpec := { name := "accessCas", fn := fun _ => fun
  | [d] => { results := [.lit (.bool true)], args := [d] }
  | _ => none }
def accessCasRow : OpenClaim := { program := "ytennnhfaghdeoaa", sum := "2a9dff52657737cf7221e6c12f23583515ca8e220263ba781bf1f51efaf01875", func := "weald/wealdlaw10.AccessCas", spec := "accessCas", unfollowed := true, recurses := true, apart := false }
def AccessCasSaid : Prop := accessCasRow.holds Try.pinned (OpenSpec.ofChange accessCasSpec)

/-- ITS FALSE NEIGHBOUR: 'it returns false'. Refute it at one input. -/
def accessCasWrong : ChangeSpec := { name := "accessCas", fn := fun _ => fun
  | [d] => { results := [.lit (.bool false)], args := [d] }
  | _ => none }
def AccessCasWrongFalsely : Prop := accessCasRow.holds Try.pinned (OpenSpec.ofChange accessCasWrong)

/-- 'wealdlaw10.AccessSwaps': WHATEVER THE INPUT: true; the input reads as it did. -/
def accessSwapsSpec : ChangeSpec := { name := "accessSwaps", fn := fun _ => fun
  | [d1, d2, d3] => { results := [.lit (.bool true)], args := [d1, d2, d3] }
  | _ => none }
def accessSwapsRow : OpenClaim := { program := "ytennnhfaghdeoaa", sum := "2a9dff52657737cf7221e6c12f23583515ca8e220263ba781bf1f51efaf01875", func := "weald/wealdlaw10.AccessSwaps", spec := "accessSwaps", unfollowed := true, recurses := true, apart := false }
def AccessSwapsSaid : Prop := accessSwapsRow.holds Try.pinned (OpenSpec.ofChange accessSwapsSpec)

/-- ITS FALSE NEIGHBOUR: 'it returns false'. Refute it at one input. -/
def accessSwapsWrong : ChangeSpec := { name := "accessSwaps", fn := fun _ => fun
  | [d1, d2, d3] => { results := [.lit (.bool false)], args := [d1, d2, d3] }
  | _ => none }
def AccessSwapsWrongFalsely : Prop := accessSwapsRow.holds Try.pinned (OpenSpec.ofChange accessSwapsWrong)

/-- 'wealdlaw10.AccessCounts': WHATEVER THE INPUT: true; the input reads as it did. -/
def accessCountsSpec : ChangeSpec := { name := "accessCounts", fn := fun _ => fun
  | [d1, d2] => { results := [.lit (.bool true)], args := [d1, d2] }
  | _ => none }
def accessCountsRow : OpenClaim := { program := "ytennnhfaghdeoaa", sum := "2a9dff52657737cf7221e6c12f23583515ca8e220263ba781bf1f51efaf01875", func := "weald/wealdlaw10.AccessCounts", spec := "accessCounts", unfollowed := true, recurses := true, apart := false }
def AccessCountsSaid : Prop := accessCountsRow.holds Try.pinned (OpenSpec.ofChange accessCountsSpec)

/-- ITS FALSE NEIGHBOUR: 'it returns false'. Refute it at one input. -/
def accessCountsWrong : ChangeSpec := { name := "accessCounts", fn := fun _ => fun
  | [d1, d2] => { results := [.lit (.bool false)], args := [d1, d2] }
  | _ => none }
def AccessCountsWrongFalsely : Prop := accessCountsRow.holds Try.pinned (OpenSpec.ofChange accessCountsWrong)

/-- 'wealdlaw10.AccessStreams': WHATEVER THE INPUT: true; the input reads as it did. -/
def accessStreamsSpec : ChangeSpec := { name := "accessStreams", fn := fun _ => fun
  | [d1, d2, d3] => { results := [.lit (.bool true)], args := [d1, d2, d3] }
  | _ => none }
def accessStreamsRow : OpenClaim := { program := "ytennnhfaghdeoaa", sum := "2a9dff52657737cf7221e6c12f23583515ca8e220263ba781bf1f51efaf01875", func := "weald/wealdlaw10.AccessStreams", spec := "accessStreams", unfollowed := true, recurses := true, apart := false }
def AccessStreamsSaid : Prop := accessStreamsRow.holds Try.pinned (OpenSpec.ofChange accessStreamsSpec)

/-- ITS FALSE NEIGHBOUR: 'it returns false'. Refute it at one input. -/
def accessStreamsWrong : ChangeSpec := { name := "accessStreams", fn := fun _ => fun
  | [d1, d2, d3] => { results := [.lit (.bool false)], args := [d1, d2, d3] }
  | _ => none }
def AccessStreamsWrongFalsely : Prop := accessStreamsRow.holds Try.pinned (OpenSpec.ofChange accessStreamsWrong)

/-- 'wealdlaw06.StreamTells': WHATEVER THE INPUT: true; the input reads as it did. -/
def streamTellsSpec : ChangeSpec := { name := "streamTells", fn := fun _ => fun
  | [d1, d2, d3] => { results := [.lit (.bool true)], args := [d1, d2, d3] }
  | _ => none }
def streamTellsRow : OpenClaim := { program := "ytennnhfaghdeoaa", sum := "2a9dff52657737cf7221e6c12f23583515ca8e220263ba781bf1f51efaf01875", func := "weald/wealdlaw06.StreamTells", spec := "streamTells", apart := false }
def StreamTellsSaid : Prop := streamTellsRow.holds Try.pinned (OpenSpec.ofChange streamTellsSpec)

/-- ITS FALSE NEIGHBOUR: 'it returns false'. Refute it at one input. -/
def streamTellsWrong : ChangeSpec := { name := "streamTells", fn := fun _ => fun
  | [d1, d2, d3] => { results := [.lit (.bool false)], args := [d1, d2, d3] }
  | _ => none }
def StreamTellsWrongFalsely : Prop := streamTellsRow.holds Try.pinned (OpenSpec.ofChange streamTellsWrong)

/-- 'wealdlaw09.CellTells': WHATEVER THE INPUT: true; the input reads as it did. -/
def cellTellsSpec : ChangeSpec := { name := "cellTells", fn := fun _ => fun
  | [d] => { results := [.lit (.bool true)], args := [d] }
  | _ => none }
def cellTellsRow : OpenClaim := { program := "ytennnhfaghdeoaa", sum := "2a9dff52657737cf7221e6c12f23583515ca8e220263ba781bf1f51efaf01875", func := "weald/wealdlaw09.CellTells", spec := "cellTells", apart := false }
def CellTellsSaid : Prop := cellTellsRow.holds Try.pinned (OpenSpec.ofChange cellTellsSpec)

/-- ITS FALSE NEIGHBOUR: 'it returns false'. Refute it at one input. -/
def cellTellsWrong : ChangeSpec := { name := "cellTells", fn := fun _ => fun
  | [d] => { results := [.lit (.bool false)], args := [d] }
  | _ => none }
def CellTellsWrongFalsely : Prop := cellTellsRow.holds Try.pinned (OpenSpec.ofChange cellTellsWrong)

/-- 'wealdlaw07.DiskTells': WHATEVER THE INPUT: true; the input reads as it did. -/
def diskTellsSpec : ChangeSpec := { name := "diskTells", fn := fun _ => fun
  | [d] => { results := [.lit (.bool true)], args := [d] }
  | _ => none }
def diskTellsRow : OpenClaim := { program := "ytennnhfaghdeoaa", sum := "2a9dff52657737cf7221e6c12f23583515ca8e220263ba781bf1f51efaf01875", func := "weald/wealdlaw07.DiskTells", spec := "diskTells", unfollowed := true, recurses := true, apart := false }
def DiskTellsSaid : Prop := diskTellsRow.holds Try.pinned (OpenSpec.ofChange diskTellsSpec)

/-- ITS FALSE NEIGHBOUR: 'it returns false'. Refute it at one input. -/
def diskTellsWrong : ChangeSpec := { name := "diskTells", fn := fun _ => fun
  | [d] => { results := [.lit (.bool false)], args := [d] }
  | _ => none }
def DiskTellsWrongFalsely : Prop := diskTellsRow.holds Try.pinned (OpenSpec.ofChange diskTellsWrong)

/- THE SECOND FORM. 'bulk': how many values and letters a reading holds, each counted each time it is reached (what is shared counts as often as it is met; a slice's spare places count too). A statement '..UptoSaid' is the law's where the arguments, and the package variables that the reading takes, are together of bulk at most 1048576: NARROWER than '..Said'. Prove '..Said' where nothing that the law and all that it calls make is longer than what came in: it says more and counts as full. Else prove '..UptoSaid'. A law counts once. -/
mutual
def uptoBulk {H : Type} : DataW H → Nat
  | .lit (.string bytes) => bytes.length + 1
  | .lit _ => 1
  | .nil => 1
  | .ptr d => uptoBulk d + 1
  | .slice elems spare => uptoBulkAll elems + uptoBulkAll spare + 1
  | .agg parts => uptoBulkAll parts + 1
  | .iface _ d => uptoBulk d + 1
  | .map entries => uptoBulkEntries entries + 1
  | .held _ => 1
def uptoBulkAll {H : Type} : List (DataW H) → Nat
  | [] => 0
  | d :: r => uptoBulk d + uptoBulkAll r
def uptoBulkEntries {H : Type} : List (Lit × DataW H) → Nat
  | [] => 0
  | x :: r => uptoBulkEntry x + uptoBulkEntries r
def uptoBulkEntry {H : Type} : Lit × DataW H → Nat
  | (.string bytes, d) => bytes.length + uptoBulk d + 1
  | (_, d) => uptoBulk d + 1
 end
def uptoSmall : (H : Type) → List (DataW H) → Bool := fun _ ds => decide (uptoBulkAll ds ≤ 1048576)
def OpenSpec.upto (s : _root_.Go.ChangeSpec) : _root_.Go.OpenSpec := { _root_.Go.OpenSpec.ofChange s with cond := some uptoSmall }

/-- 'wealdlaw11.PlaySteps', WHERE WHAT IT READS IS OF BULK AT MOST 1048576: true; the input reads as it did. -/
def playStepsUptoRow : OpenClaim := { program := "ytennnhfaghdeoaa", sum := "2a9dff52657737cf7221e6c12f23583515ca8e220263ba781bf1f51efaf01875", func := "weald/wealdlaw11.PlaySteps", spec := "playSteps", unfollowed := true, recurses := true, apart := false, narrowed := true }
def PlayStepsUptoSaid : Prop := playStepsUptoRow.holds Try.pinned (OpenSpec.upto playStepsSpec)

/-- 'wealdlaw11.PlayDirect', WHERE WHAT IT READS IS OF BULK AT MOST 1048576: true; the input reads as it did. -/
def playDirectUptoRow : OpenClaim := { program := "ytennnhfaghdeoaa", sum := "2a9dff52657737cf7221e6c12f23583515ca8e220263ba781bf1f51efaf01875", func := "weald/wealdlaw11.PlayDirect", spec := "playDirect", unfollowed := true, recurses := true, apart := false, narrowed := true }
def PlayDirectUptoSaid : Prop := playDirectUptoRow.holds Try.pinned (OpenSpec.upto playDirectSpec)

/-- 'wealdlaw10.AccessTells', WHERE WHAT IT READS IS OF BULK AT MOST 1048576: true; the input reads as it did. -/
def accessTellsUptoRow : OpenClaim := { program := "ytennnhfaghdeoaa", sum := "2a9dff52657737cf7221e6c12f23583515ca8e220263ba781bf1f51efaf01875", func := "weald/wealdlaw10.AccessTells", spec := "accessTells", unfollowed := true, recurses := true, apart := false, narrowed := true }
def AccessTellsUptoSaid : Prop := accessTellsUptoRow.holds Try.pinned (OpenSpec.upto accessTellsSpec)

/-- 'wealdlaw10.AccessOne', WHERE WHAT IT READS IS OF BULK AT MOST 1048576: true; the input reads as it did. -/
def accessOneUptoRow : OpenClaim := { program := "ytennnhfaghdeoaa", sum := "2a9dff52657737cf7221e6c12f23583515ca8e220263ba781bf1f51efaf01875", func := "weald/wealdlaw10.AccessOne", spec := "accessOne", unfollowed := true, recurses := true, apart := false, narrowed := true }
def AccessOneUptoSaid : Prop := accessOneUptoRow.holds Try.pinned (OpenSpec.upto accessOneSpec)

/-- 'wealdlaw10.AccessCas', WHERE WHAT IT READS IS OF BULK AT MOST 1048576: true; the input reads as it did. -/
def accessCasUptoRow : OpenClaim := { program := "ytennnhfaghdeoaa", sum := "2a9dff52657737cf7221e6c12f23583515ca8e220263ba781bf1f51efaf01875", func := "weald/wealdlaw10.AccessCas", spec := "accessCas", unfollowed := true, recurses := true, apart := false, narrowed := true }
def AccessCasUptoSaid : Prop := accessCasUptoRow.holds Try.pinned (OpenSpec.upto accessCasSpec)

/-- 'wealdlaw10.AccessSwaps', WHERE WHAT IT READS IS OF BULK AT MOST 1048576: true; the input reads as it did. -/
def accessSwapsUptoRow : OpenClaim := { program := "ytennnhfaghdeoaa", sum := "2a9dff52657737cf7221e6c12f23583515ca8e220263ba781bf1f51efaf01875", func := "weald/wealdlaw10.AccessSwaps", spec := "accessSwaps", unfollowed := true, recurses := true, apart := false, narrowed := true }
def AccessSwapsUptoSaid : Prop := accessSwapsUptoRow.holds Try.pinned (OpenSpec.upto accessSwapsSpec)

/-- 'wealdlaw10.AccessCounts', WHERE WHAT IT READS IS OF BULK AT MOST 1048576: true; the input reads as it did. -/
def accessCountsUptoRow : OpenClaim := { program := "ytennnhfaghdeoaa", sum := "2a9dff52657737cf7221e6c12f23583515ca8e220263ba781bf1f51efaf01875", func := "weald/wealdlaw10.AccessCounts", spec := "accessCounts", unfollowed := true, recurses := true, apart := false, narrowed := true }
def AccessCountsUptoSaid : Prop := accessCountsUptoRow.holds Try.pinned (OpenSpec.upto accessCountsSpec)

/-- 'wealdlaw10.AccessStreams', WHERE WHAT IT READS IS OF BULK AT MOST 1048576: true; the input reads as it did. -/
def accessStreamsUptoRow : OpenClaim := { program := "ytennnhfaghdeoaa", sum := "2a9dff52657737cf7221e6c12f23583515ca8e220263ba781bf1f51efaf01875", func := "weald/wealdlaw10.AccessStreams", spec := "accessStreams", unfollowed := true, recurses := true, apart := false, narrowed := true }
def AccessStreamsUptoSaid : Prop := accessStreamsUptoRow.holds Try.pinned (OpenSpec.upto accessStreamsSpec)

/-- 'wealdlaw06.StreamTells', WHERE WHAT IT READS IS OF BULK AT MOST 1048576: true; the input reads as it did. -/
def streamTellsUptoRow : OpenClaim := { program := "ytennnhfaghdeoaa", sum := "2a9dff52657737cf7221e6c12f23583515ca8e220263ba781bf1f51efaf01875", func := "weald/wealdlaw06.StreamTells", spec := "streamTells", apart := false, narrowed := true }
def StreamTellsUptoSaid : Prop := streamTellsUptoRow.holds Try.pinned (OpenSpec.upto streamTellsSpec)

/-- 'wealdlaw09.CellTells', WHERE WHAT IT READS IS OF BULK AT MOST 1048576: true; the input reads as it did. -/
def cellTellsUptoRow : OpenClaim := { program := "ytennnhfaghdeoaa", sum := "2a9dff52657737cf7221e6c12f23583515ca8e220263ba781bf1f51efaf01875", func := "weald/wealdlaw09.CellTells", spec := "cellTells", apart := false, narrowed := true }
def CellTellsUptoSaid : Prop := cellTellsUptoRow.holds Try.pinned (OpenSpec.upto cellTellsSpec)

/-- 'wealdlaw07.DiskTells', WHERE WHAT IT READS IS OF BULK AT MOST 1048576: true; the input reads as it did. -/
def diskTellsUptoRow : OpenClaim := { program := "ytennnhfaghdeoaa", sum := "2a9dff52657737cf7221e6c12f23583515ca8e220263ba781bf1f51efaf01875", func := "weald/wealdlaw07.DiskTells", spec := "diskTells", unfollowed := true, recurses := true, apart := false, narrowed := true }
def DiskTellsUptoSaid : Prop := diskTellsUptoRow.holds Try.pinned (OpenSpec.upto diskTellsSpec)

end Rows
end Go.Proofs.Ytennnhfaghdeoaa
