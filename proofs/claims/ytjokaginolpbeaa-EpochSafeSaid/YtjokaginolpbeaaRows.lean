/-
  No cell of these rows narrows 'for every input' (looked for: loops, veiled, ifaces, maps, wideKeys, modest, calm, conditions, laid).
  DERIVED. THE GIVEN ROWS OF THIS SEAT. 12 by the template 'for every input the law returns true; each argument reads behind the call as it read before'; 0 by the template 'total and deterministic' (their statements: YtjokaginolpbeaaTotals.lean).
  GIVEN WITH THE SEED: the statements are not yours to turn. If you find one false, say at which input.
  Laid BY PROGRAM, IN A SANDBOX (cutbox-rows.mjs): the forced cells as the released guide's own fill.sh prints them over the translation 7c80dd4bbdf8f74e… (all of the seat's roots in one cut). By AI agents, Wed Nov 11 2026. No macro, syntax, notation, axiom, sorry.
-/
import Derived.Test.YtjokaginolpbeaaChecked
import GoSem.Claim
import GoSem.ClaimJoined
import GoSem.ClaimMapViews
import Derived.JoinedTies
import Derived.KernelRfl
namespace Go.Proofs.Ytjokaginolpbeaa
/- THE CELL 'sum', in the pinned program and in every row, IS THE sha256 OF THE DUMP (.gsa) THAT YtjokaginolpbeaaProg.lean LOADS. Nothing in Lean hashes anything: it is a label: what it is worth is what the hold of that sum in a sandbox is worth. -/
noncomputable def Try.pinned : Pinned := { name := "ytjokaginolpbeaa", sum := "7c80dd4bbdf8f74ef15cdb2ab4301e22e01708ed94a8a9085826f87a4743c4e7", checked := Try.checked }
namespace Rows
def none {H : Type} : Left H := { results := [], args := [] }

/-- 'wealdlaw13.EpochNext': WHATEVER THE INPUT: true; the input reads as it did. -/
def epochNextSpec : ChangeSpec := { name := "epochNext", fn := fun _ => fun
  | [d] => { results := [.lit (.bool true)], args := [d] }
  | _ => none }
def epochNextRow : OpenClaim := { program := "ytjokaginolpbeaa", sum := "7c80dd4bbdf8f74ef15cdb2ab4301e22e01708ed94a8a9085826f87a4743c4e7", func := "weald/wealdlaw13.EpochNext", spec := "epochNext", unfollowed := true, recurses := true, apart := false }
def EpochNextSaid : Prop := epochNextRow.holds Try.pinned (OpenSpec.ofChange epochNextSpec)

/-- ITS FALSE NEIGHBOUR: 'it returns false'. Refute it at one input. -/
def epochNextWrong : ChangeSpec := { name := "epochNext", fn := fun _ => fun
  | [d] => { results := [.lit (.bool false)], args := [d] }
  | _ => none }
def EpochNextWrongFalsely : Prop := epochNextRow.holds Try.pinned (OpenSpec.ofChange epochNextWrong)

/-- 'wealdlaw13.EpochAlone': WHATEVER THE INPUT: true; the input reads as it did. -/
def epochAloneSpec : ChangeSpec := { name := "epochAlone", fn := fun _ => fun
  | [d1, d2] => { results := [.lit (.bool true)], args := [d1, d2] }
  | _ => none }
def epochAloneRow : OpenClaim := { program := "ytjokaginolpbeaa", sum := "7c80dd4bbdf8f74ef15cdb2ab4301e22e01708ed94a8a9085826f87a4743c4e7", func := "weald/wealdlaw13.EpochAlone", spec := "epochAlone", unfollowed := true, recurses := true, apart := false }
def EpochAloneSaid : Prop := epochAloneRow.holds Try.pinned (OpenSpec.ofChange epochAloneSpec)

/-- ITS FALSE NEIGHBOUR: 'it returns false'. Refute it at one input. -/
def epochAloneWrong : ChangeSpec := { name := "epochAlone", fn := fun _ => fun
  | [d1, d2] => { results := [.lit (.bool false)], args := [d1, d2] }
  | _ => none }
def EpochAloneWrongFalsely : Prop := epochAloneRow.holds Try.pinned (OpenSpec.ofChange epochAloneWrong)

/-- 'wealdlaw13.EpochSafe': WHATEVER THE INPUT: true; the input reads as it did. -/
def epochSafeSpec : ChangeSpec := { name := "epochSafe", fn := fun _ => fun
  | [d1, d2, d3] => { results := [.lit (.bool true)], args := [d1, d2, d3] }
  | _ => none }
def epochSafeRow : OpenClaim := { program := "ytjokaginolpbeaa", sum := "7c80dd4bbdf8f74ef15cdb2ab4301e22e01708ed94a8a9085826f87a4743c4e7", func := "weald/wealdlaw13.EpochSafe", spec := "epochSafe", unfollowed := true, recurses := true, apart := false }
def EpochSafeSaid : Prop := epochSafeRow.holds Try.pinned (OpenSpec.ofChange epochSafeSpec)

/-- ITS FALSE NEIGHBOUR: 'it returns false'. Refute it at one input. -/
def epochSafeWrong : ChangeSpec := { name := "epochSafe", fn := fun _ => fun
  | [d1, d2, d3] => { results := [.lit (.bool false)], args := [d1, d2, d3] }
  | _ => none }
def EpochSafeWrongFalsely : Prop := epochSafeRow.holds Try.pinned (OpenSpec.ofChange epochSafeWrong)

/-- 'wealdlaw13.EpochHeld': WHATEVER THE INPUT: true; the input reads as it did. -/
def epochHeldSpec : ChangeSpec := { name := "epochHeld", fn := fun _ => fun
  | [d1, d2] => { results := [.lit (.bool true)], args := [d1, d2] }
  | _ => none }
def epochHeldRow : OpenClaim := { program := "ytjokaginolpbeaa", sum := "7c80dd4bbdf8f74ef15cdb2ab4301e22e01708ed94a8a9085826f87a4743c4e7", func := "weald/wealdlaw13.EpochHeld", spec := "epochHeld", unfollowed := true, recurses := true, apart := false }
def EpochHeldSaid : Prop := epochHeldRow.holds Try.pinned (OpenSpec.ofChange epochHeldSpec)

/-- ITS FALSE NEIGHBOUR: 'it returns false'. Refute it at one input. -/
def epochHeldWrong : ChangeSpec := { name := "epochHeld", fn := fun _ => fun
  | [d1, d2] => { results := [.lit (.bool false)], args := [d1, d2] }
  | _ => none }
def EpochHeldWrongFalsely : Prop := epochHeldRow.holds Try.pinned (OpenSpec.ofChange epochHeldWrong)

/-- 'wealdlaw13.EpochBack': WHATEVER THE INPUT: true; the input reads as it did. -/
def epochBackSpec : ChangeSpec := { name := "epochBack", fn := fun _ => fun
  | [d1, d2] => { results := [.lit (.bool true)], args := [d1, d2] }
  | _ => none }
def epochBackRow : OpenClaim := { program := "ytjokaginolpbeaa", sum := "7c80dd4bbdf8f74ef15cdb2ab4301e22e01708ed94a8a9085826f87a4743c4e7", func := "weald/wealdlaw13.EpochBack", spec := "epochBack", unfollowed := true, recurses := true, apart := false }
def EpochBackSaid : Prop := epochBackRow.holds Try.pinned (OpenSpec.ofChange epochBackSpec)

/-- ITS FALSE NEIGHBOUR: 'it returns false'. Refute it at one input. -/
def epochBackWrong : ChangeSpec := { name := "epochBack", fn := fun _ => fun
  | [d1, d2] => { results := [.lit (.bool false)], args := [d1, d2] }
  | _ => none }
def EpochBackWrongFalsely : Prop := epochBackRow.holds Try.pinned (OpenSpec.ofChange epochBackWrong)

/-- 'wealdlaw13.EpochDirect': WHATEVER THE INPUT: true; the input reads as it did. -/
def epochDirectSpec : ChangeSpec := { name := "epochDirect", fn := fun _ => fun
  | [d1, d2] => { results := [.lit (.bool true)], args := [d1, d2] }
  | _ => none }
def epochDirectRow : OpenClaim := { program := "ytjokaginolpbeaa", sum := "7c80dd4bbdf8f74ef15cdb2ab4301e22e01708ed94a8a9085826f87a4743c4e7", func := "weald/wealdlaw13.EpochDirect", spec := "epochDirect", unfollowed := true, recurses := true, apart := false }
def EpochDirectSaid : Prop := epochDirectRow.holds Try.pinned (OpenSpec.ofChange epochDirectSpec)

/-- ITS FALSE NEIGHBOUR: 'it returns false'. Refute it at one input. -/
def epochDirectWrong : ChangeSpec := { name := "epochDirect", fn := fun _ => fun
  | [d1, d2] => { results := [.lit (.bool false)], args := [d1, d2] }
  | _ => none }
def EpochDirectWrongFalsely : Prop := epochDirectRow.holds Try.pinned (OpenSpec.ofChange epochDirectWrong)

/-- 'wealdlaw08.WordTells': WHATEVER THE INPUT: true; the input reads as it did. -/
def wordTellsSpec : ChangeSpec := { name := "wordTells", fn := fun _ => fun
  | [d] => { results := [.lit (.bool true)], args := [d] }
  | _ => none }
def wordTellsRow : OpenClaim := { program := "ytjokaginolpbeaa", sum := "7c80dd4bbdf8f74ef15cdb2ab4301e22e01708ed94a8a9085826f87a4743c4e7", func := "weald/wealdlaw08.WordTells", spec := "wordTells", apart := false }
def WordTellsSaid : Prop := wordTellsRow.holds Try.pinned (OpenSpec.ofChange wordTellsSpec)

/-- ITS FALSE NEIGHBOUR: 'it returns false'. Refute it at one input. -/
def wordTellsWrong : ChangeSpec := { name := "wordTells", fn := fun _ => fun
  | [d] => { results := [.lit (.bool false)], args := [d] }
  | _ => none }
def WordTellsWrongFalsely : Prop := wordTellsRow.holds Try.pinned (OpenSpec.ofChange wordTellsWrong)

/-- 'wealdlaw09.CellTells': WHATEVER THE INPUT: true; the input reads as it did. -/
def cellTellsSpec : ChangeSpec := { name := "cellTells", fn := fun _ => fun
  | [d] => { results := [.lit (.bool true)], args := [d] }
  | _ => none }
def cellTellsRow : OpenClaim := { program := "ytjokaginolpbeaa", sum := "7c80dd4bbdf8f74ef15cdb2ab4301e22e01708ed94a8a9085826f87a4743c4e7", func := "weald/wealdlaw09.CellTells", spec := "cellTells", apart := false }
def CellTellsSaid : Prop := cellTellsRow.holds Try.pinned (OpenSpec.ofChange cellTellsSpec)

/-- ITS FALSE NEIGHBOUR: 'it returns false'. Refute it at one input. -/
def cellTellsWrong : ChangeSpec := { name := "cellTells", fn := fun _ => fun
  | [d] => { results := [.lit (.bool false)], args := [d] }
  | _ => none }
def CellTellsWrongFalsely : Prop := cellTellsRow.holds Try.pinned (OpenSpec.ofChange cellTellsWrong)

/-- 'wealdlaw07.DiskTells': WHATEVER THE INPUT: true; the input reads as it did. -/
def diskTellsSpec : ChangeSpec := { name := "diskTells", fn := fun _ => fun
  | [d] => { results := [.lit (.bool true)], args := [d] }
  | _ => none }
def diskTellsRow : OpenClaim := { program := "ytjokaginolpbeaa", sum := "7c80dd4bbdf8f74ef15cdb2ab4301e22e01708ed94a8a9085826f87a4743c4e7", func := "weald/wealdlaw07.DiskTells", spec := "diskTells", unfollowed := true, recurses := true, apart := false }
def DiskTellsSaid : Prop := diskTellsRow.holds Try.pinned (OpenSpec.ofChange diskTellsSpec)

/-- ITS FALSE NEIGHBOUR: 'it returns false'. Refute it at one input. -/
def diskTellsWrong : ChangeSpec := { name := "diskTells", fn := fun _ => fun
  | [d] => { results := [.lit (.bool false)], args := [d] }
  | _ => none }
def DiskTellsWrongFalsely : Prop := diskTellsRow.holds Try.pinned (OpenSpec.ofChange diskTellsWrong)

/-- 'wealdlaw06.StreamTells': WHATEVER THE INPUT: true; the input reads as it did. -/
def streamTellsSpec : ChangeSpec := { name := "streamTells", fn := fun _ => fun
  | [d1, d2, d3] => { results := [.lit (.bool true)], args := [d1, d2, d3] }
  | _ => none }
def streamTellsRow : OpenClaim := { program := "ytjokaginolpbeaa", sum := "7c80dd4bbdf8f74ef15cdb2ab4301e22e01708ed94a8a9085826f87a4743c4e7", func := "weald/wealdlaw06.StreamTells", spec := "streamTells", apart := false }
def StreamTellsSaid : Prop := streamTellsRow.holds Try.pinned (OpenSpec.ofChange streamTellsSpec)

/-- ITS FALSE NEIGHBOUR: 'it returns false'. Refute it at one input. -/
def streamTellsWrong : ChangeSpec := { name := "streamTells", fn := fun _ => fun
  | [d1, d2, d3] => { results := [.lit (.bool false)], args := [d1, d2, d3] }
  | _ => none }
def StreamTellsWrongFalsely : Prop := streamTellsRow.holds Try.pinned (OpenSpec.ofChange streamTellsWrong)

/-- 'wealdlaw11.PlayDirect': WHATEVER THE INPUT: true; the input reads as it did. -/
def playDirectSpec : ChangeSpec := { name := "playDirect", fn := fun _ => fun
  | [d1, d2] => { results := [.lit (.bool true)], args := [d1, d2] }
  | _ => none }
def playDirectRow : OpenClaim := { program := "ytjokaginolpbeaa", sum := "7c80dd4bbdf8f74ef15cdb2ab4301e22e01708ed94a8a9085826f87a4743c4e7", func := "weald/wealdlaw11.PlayDirect", spec := "playDirect", unfollowed := true, recurses := true, apart := false }
def PlayDirectSaid : Prop := playDirectRow.holds Try.pinned (OpenSpec.ofChange playDirectSpec)

/-- ITS FALSE NEIGHBOUR: 'it returns false'. Refute it at one input. -/
def playDirectWrong : ChangeSpec := { name := "playDirect", fn := fun _ => fun
  | [d1, d2] => { results := [.lit (.bool false)], args := [d1, d2] }
  | _ => none }
def PlayDirectWrongFalsely : Prop := playDirectRow.holds Try.pinned (OpenSpec.ofChange playDirectWrong)

/-- 'wealdlaw10.AccessTells': WHATEVER THE INPUT: true; the input reads as it did. -/
def accessTellsSpec : ChangeSpec := { name := "accessTells", fn := fun _ => fun
  | [d] => { results := [.lit (.bool true)], args := [d] }
  | _ => none }
def accessTellsRow : OpenClaim := { program := "ytjokaginolpbeaa", sum := "7c80dd4bbdf8f74ef15cdb2ab4301e22e01708ed94a8a9085826f87a4743c4e7", func := "weald/wealdlaw10.AccessTells", spec := "accessTells", unfollowed := true, recurses := true, apart := false }
def AccessTellsSaid : Prop := accessTellsRow.holds Try.pinned (OpenSpec.ofChange accessTellsSpec)

/-- ITS FALSE NEIGHBOUR: 'it returns false'. Refute it at one input. -/
def accessTellsWrong : ChangeSpec := { name := "accessTells", fn := fun _ => fun
  | [d] => { results := [.lit (.bool false)], args := [d] }
  | _ => none }
def AccessTellsWrongFalsely : Prop := accessTellsRow.holds Try.pinned (OpenSpec.ofChange accessTellsWrong)

/- THE SECOND FORM. 'bulk': how many values and letters a reading holds, each counted each time it is reached (what is shared counts as often as it is met; a slice's spare places count too). A statement '..UptoSaid' is the law's where the arguments, and the package variables that the reading takes, are together of bulk at most 1048576: NARROWER than '..Said'. Prove '..Said' where nothing that the law and all that it calls make is longer than what came in: it says more and counts as full. Else prove '..UptoSaid'. A law counts once. -/
mutual
def uptoBulk {H : Type} : DataW H → Nat
  | .lit (.string bytes) => bytes.length + 1
  | .lit _ => 1
  | .nil => 1
  | .ptr d => uptoBulk d + 1
  | .slice elems spare => uptoBulkAll elems + uptoBulkAll spare + 1
  | .agg parts => uptoBulkAll parts + 1
  | .iface _ d => uptoBulk d + 1
  | .map entries => uptoBulkEntries entries + 1
  | .held _ => 1
def uptoBulkAll {H : Type} : List (DataW H) → Nat
  | [] => 0
  | d :: r => uptoBulk d + uptoBulkAll r
def uptoBulkEntries {H : Type} : List (Lit × DataW H) → Nat
  | [] => 0
  | x :: r => uptoBulkEntry x + uptoBulkEntries r
def uptoBulkEntry {H : Type} : Lit × DataW H → Nat
  | (.string bytes, d) => bytes.length + uptoBulk d + 1
  | (_, d) => uptoBulk d + 1
 end
def uptoSmall : (H : Type) → List (DataW H) → Bool := fun _ ds => decide (uptoBulkAll ds ≤ 1048576)
def OpenSpec.upto (s : _root_.Go.ChangeSpec) : _root_.Go.OpenSpec := { _root_.Go.OpenSpec.ofChange s with cond := some uptoSmall }

/-- 'wealdlaw13.EpochNext', WHERE WHAT IT READS IS OF BULK AT MOST 1048576: true; the input reads as it did. -/
def epochNextUptoRow : OpenClaim := { program := "ytjokaginolpbeaa", sum := "7c80dd4bbdf8f74ef15cdb2ab4301e22e01708ed94a8a9085826f87a4743c4e7", func := "weald/wealdlaw13.EpochNext", spec := "epochNext", unfollowed := true, recurses := true, apart := false, narrowed := true }
def EpochNextUptoSaid : Prop := epochNextUptoRow.holds Try.pinned (OpenSpec.upto epochNextSpec)

/-- 'wealdlaw13.EpochAlone', WHERE WHAT IT READS IS OF BULK AT MOST 1048576: true; the input reads as it did. -/
def epochAloneUptoRow : OpenClaim := { program := "ytjokaginolpbeaa", sum := "7c80dd4bbdf8f74ef15cdb2ab4301e22e01708ed94a8a9085826f87a4743c4e7", func := "weald/wealdlaw13.EpochAlone", spec := "epochAlone", unfollowed := true, recurses := true, apart := false, narrowed := true }
def EpochAloneUptoSaid : Prop := epochAloneUptoRow.holds Try.pinned (OpenSpec.upto epochAloneSpec)

/-- 'wealdlaw13.EpochSafe', WHERE WHAT IT READS IS OF BULK AT MOST 1048576: true; the input reads as it did. -/
def epochSafeUptoRow : OpenClaim := { program := "ytjokaginolpbeaa", sum := "7c80dd4bbdf8f74ef15cdb2ab4301e22e01708ed94a8a9085826f87a4743c4e7", func := "weald/wealdlaw13.EpochSafe", spec := "epochSafe", unfollowed := true, recurses := true, apart := false, narrowed := true }
def EpochSafeUptoSaid : Prop := epochSafeUptoRow.holds Try.pinned (OpenSpec.upto epochSafeSpec)

/-- 'wealdlaw13.EpochHeld', WHERE WHAT IT READS IS OF BULK AT MOST 1048576: true; the input reads as it did. -/
def epochHeldUptoRow : OpenClaim := { program := "ytjokaginolpbeaa", sum := "7c80dd4bbdf8f74ef15cdb2ab4301e22e01708ed94a8a9085826f87a4743c4e7", func := "weald/wealdlaw13.EpochHeld", spec := "epochHeld", unfollowed := true, recurses := true, apart := false, narrowed := true }
def EpochHeldUptoSaid : Prop := epochHeldUptoRow.holds Try.pinned (OpenSpec.upto epochHeldSpec)

/-- 'wealdlaw13.EpochBack', WHERE WHAT IT READS IS OF BULK AT MOST 1048576: true; the input reads as it did. -/
def epochBackUptoRow : OpenClaim := { program := "ytjokaginolpbeaa", sum := "7c80dd4bbdf8f74ef15cdb2ab4301e22e01708ed94a8a9085826f87a4743c4e7", func := "weald/wealdlaw13.EpochBack", spec := "epochBack", unfollowed := true, recurses := true, apart := false, narrowed := true }
def EpochBackUptoSaid : Prop := epochBackUptoRow.holds Try.pinned (OpenSpec.upto epochBackSpec)

/-- 'wealdlaw13.EpochDirect', WHERE WHAT IT READS IS OF BULK AT MOST 1048576: true; the input reads as it did. -/
def epochDirectUptoRow : OpenClaim := { program := "ytjokaginolpbeaa", sum := "7c80dd4bbdf8f74ef15cdb2ab4301e22e01708ed94a8a9085826f87a4743c4e7", func := "weald/wealdlaw13.EpochDirect", spec := "epochDirect", unfollowed := true, recurses := true, apart := false, narrowed := true }
def EpochDirectUptoSaid : Prop := epochDirectUptoRow.holds Try.pinned (OpenSpec.upto epochDirectSpec)

/-- 'wealdlaw08.WordTells', WHERE WHAT IT READS IS OF BULK AT MOST 1048576: true; the input reads as it did. -/
def wordTellsUptoRow : OpenClaim := { program := "ytjokaginolpbeaa", sum := "7c80dd4bbdf8f74ef15cdb2ab4301e22e01708ed94a8a9085826f87a4743c4e7", func := "weald/wealdlaw08.WordTells", spec := "wordTells", apart := false, narrowed := true }
def WordTellsUptoSaid : Prop := wordTellsUptoRow.holds Try.pinned (OpenSpec.upto wordTellsSpec)

/-- 'wealdlaw09.CellTells', WHERE WHAT IT READS IS OF BULK AT MOST 1048576: true; the input reads as it did. -/
def cellTellsUptoRow : OpenClaim := { program := "ytjokaginolpbeaa", sum := "7c80dd4bbdf8f74ef15cdb2ab4301e22e01708ed94a8a9085826f87a4743c4e7", func := "weald/wealdlaw09.CellTells", spec := "cellTells", apart := false, narrowed := true }
def CellTellsUptoSaid : Prop := cellTellsUptoRow.holds Try.pinned (OpenSpec.upto cellTellsSpec)

/-- 'wealdlaw07.DiskTells', WHERE WHAT IT READS IS OF BULK AT MOST 1048576: true; the input reads as it did. -/
def diskTellsUptoRow : OpenClaim := { program := "ytjokaginolpbeaa", sum := "7c80dd4bbdf8f74ef15cdb2ab4301e22e01708ed94a8a9085826f87a4743c4e7", func := "weald/wealdlaw07.DiskTells", spec := "diskTells", unfollowed := true, recurses := true, apart := false, narrowed := true }
def DiskTellsUptoSaid : Prop := diskTellsUptoRow.holds Try.pinned (OpenSpec.upto diskTellsSpec)

/-- 'wealdlaw06.StreamTells', WHERE WHAT IT READS IS OF BULK AT MOST 1048576: true; the input reads as it did. -/
def streamTellsUptoRow : OpenClaim := { program := "ytjokaginolpbeaa", sum := "7c80dd4bbdf8f74ef15cdb2ab4301e22e01708ed94a8a9085826f87a4743c4e7", func := "weald/wealdlaw06.StreamTells", spec := "streamTells", apart := false, narrowed := true }
def StreamTellsUptoSaid : Prop := streamTellsUptoRow.holds Try.pinned (OpenSpec.upto streamTellsSpec)

/-- 'wealdlaw11.PlayDirect', WHERE WHAT IT READS IS OF BULK AT MOST 1048576: true; the input reads as it did. -/
def playDirectUptoRow : OpenClaim := { program := "ytjokaginolpbeaa", sum := "7c80dd4bbdf8f74ef15cdb2ab4301e22e01708ed94a8a9085826f87a4743c4e7", func := "weald/wealdlaw11.PlayDirect", spec := "playDirect", unfollowed := true, recurses := true, apart := false, narrowed := true }
def PlayDirectUptoSaid : Prop := playDirectUptoRow.holds Try.pinned (OpenSpec.upto playDirectSpec)

/-- 'wealdlaw10.AccessTells', WHERE WHAT IT READS IS OF BULK AT MOST 1048576: true; the input reads as it did. -/
def accessTellsUptoRow : OpenClaim := { program := "ytjokaginolpbeaa", sum := "7c80dd4bbdf8f74ef15cdb2ab4301e22e01708ed94a8a9085826f87a4743c4e7", func := "weald/wealdlaw10.AccessTells", spec := "accessTells", unfollowed := true, recurses := true, apart := false, narrowed := true }
def AccessTellsUptoSaid : Prop := accessTellsUptoRow.holds Try.pinned (OpenSpec.upto accessTellsSpec)

end Rows
end Go.Proofs.Ytjokaginolpbeaa
