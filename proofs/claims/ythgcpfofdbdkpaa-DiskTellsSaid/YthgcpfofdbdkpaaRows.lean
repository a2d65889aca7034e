/-
  No cell of these rows narrows 'for every input' (looked for: loops, veiled, ifaces, maps, wideKeys, modest, calm, conditions, laid).
  DERIVED. THE GIVEN ROWS OF THIS SEAT. 12 by the template 'for every input the law returns true; each argument reads behind the call as it read before'; 0 by the template 'total and deterministic' (their statements: YthgcpfofdbdkpaaTotals.lean).
  GIVEN WITH THE SEED: the statements are not yours to turn. If you find one false, say at which input.
  Laid BY PROGRAM, IN A SANDBOX (cutbox-rows.mjs): the forced cells as the released guide's own fill.sh prints them over the translation d5c2fdc46e259d97… (all of the seat's roots in one cut). By AI agents, Wed Nov 11 2026. No macro, syntax, notation, axiom, sorry.
-/
import Derived.Test.YthgcpfofdbdkpaaChecked
import GoSem.Claim
import GoSem.ClaimJoined
import GoSem.ClaimMapViews
import Derived.JoinedTies
import Derived.KernelRfl
namespace Go.Proofs.Ythgcpfofdbdkpaa
/- THE CELL 'sum', in the pinned program and in every row, IS THE sha256 OF THE DUMP (.gsa) THAT YthgcpfofdbdkpaaProg.lean LOADS. Nothing in Lean hashes anything: it is a label: what it is worth is what the hold of that sum in a sandbox is worth. -/
noncomputable def Try.pinned : Pinned := { name := "ythgcpfofdbdkpaa", sum := "d5c2fdc46e259d97349eeadfedca556b9aa1345e1be6fecd850c74674a54f41f", checked := Try.checked }
namespace Rows
def none {H : Type} : Left H := { results := [], args := [] }

/-- 'wealdlaw11.PlayTells': WHATEVER THE INPUT: true; the input reads as it did. -/
def playTellsSpec : ChangeSpec := { name := "playTells", fn := fun _ => fun
  | [d1, d2] => { results := [.lit (.bool true)], args := [d1, d2] }
  | _ => none }
def playTellsRow : OpenClaim := { program := "ythgcpfofdbdkpaa", sum := "d5c2fdc46e259d97349eeadfedca556b9aa1345e1be6fecd850c74674a54f41f", func := "weald/wealdlaw11.PlayTells", spec := "playTells", unfollowed := true, recurses := true, apart := false }
def PlayTellsSaid : Prop := playTellsRow.holds Try.pinned (OpenSpec.ofChange playTellsSpec)

/-- ITS FALSE NEIGHBOUR: 'it returns false'. Refute it at one input. -/
def playTellsWrong : ChangeSpec := { name := "playTells", fn := fun _ => fun
  | [d1, d2] => { results := [.lit (.bool false)], args := [d1, d2] }
  | _ => none }
def PlayTellsWrongFalsely : Prop := playTellsRow.holds Try.pinned (OpenSpec.ofChange playTellsWrong)

/-- 'wealdlaw11.PlayParts': WHATEVER THE INPUT: true; the input reads as it did. -/
def playPartsSpec : ChangeSpec := { name := "playParts", fn := fun _ => fun
  | [d1, d2, d3] => { results := [.lit (.bool true)], args := [d1, d2, d3] }
  | _ => none }
def playPartsRow : OpenClaim := { program := "ythgcpfofdbdkpaa", sum := "d5c2fdc46e259d97349eeadfedca556b9aa1345e1be6fecd850c74674a54f41f", func := "weald/wealdlaw11.PlayParts", spec := "playParts", unfollowed := true, recurses := true, apart := false }
def PlayPartsSaid : Prop := playPartsRow.holds Try.pinned (OpenSpec.ofChange playPartsSpec)

/-- ITS FALSE NEIGHBOUR: 'it returns false'. Refute it at one input. -/
def playPartsWrong : ChangeSpec := { name := "playParts", fn := fun _ => fun
  | [d1, d2, d3] => { results := [.lit (.bool false)], args := [d1, d2, d3] }
  | _ => none }
def PlayPartsWrongFalsely : Prop := playPartsRow.holds Try.pinned (OpenSpec.ofChange playPartsWrong)

/-- 'wealdlaw09.CellTells': WHATEVER THE INPUT: true; the input reads as it did. -/
def cellTellsSpec : ChangeSpec := { name := "cellTells", fn := fun _ => fun
  | [d] => { results := [.lit (.bool true)], args := [d] }
  | _ => none }
def cellTellsRow : OpenClaim := { program := "ythgcpfofdbdkpaa", sum := "d5c2fdc46e259d97349eeadfedca556b9aa1345e1be6fecd850c74674a54f41f", func := "weald/wealdlaw09.CellTells", spec := "cellTells", apart := false }
def CellTellsSaid : Prop := cellTellsRow.holds Try.pinned (OpenSpec.ofChange cellTellsSpec)

/-- ITS FALSE NEIGHBOUR: 'it returns false'. Refute it at one input. -/
def cellTellsWrong : ChangeSpec := { name := "cellTells", fn := fun _ => fun
  | [d] => { results := [.lit (.bool false)], args := [d] }
  | _ => none }
def CellTellsWrongFalsely : Prop := cellTellsRow.holds Try.pinned (OpenSpec.ofChange cellTellsWrong)

/-- 'wealdlaw09.CellApart': WHATEVER THE INPUT: true; the input reads as it did. -/
def cellApartSpec : ChangeSpec := { name := "cellApart", fn := fun _ => fun
  | [d] => { results := [.lit (.bool true)], args := [d] }
  | _ => none }
def cellApartRow : OpenClaim := { program := "ythgcpfofdbdkpaa", sum := "d5c2fdc46e259d97349eeadfedca556b9aa1345e1be6fecd850c74674a54f41f", func := "weald/wealdlaw09.CellApart", spec := "cellApart", apart := false }
def CellApartSaid : Prop := cellApartRow.holds Try.pinned (OpenSpec.ofChange cellApartSpec)

/-- ITS FALSE NEIGHBOUR: 'it returns false'. Refute it at one input. -/
def cellApartWrong : ChangeSpec := { name := "cellApart", fn := fun _ => fun
  | [d] => { results := [.lit (.bool false)], args := [d] }
  | _ => none }
def CellApartWrongFalsely : Prop := cellApartRow.holds Try.pinned (OpenSpec.ofChange cellApartWrong)

/-- 'wealdlaw09.CellFree': WHATEVER THE INPUT: true; the input reads as it did. -/
def cellFreeSpec : ChangeSpec := { name := "cellFree", fn := fun _ => fun
  | [d1, d2] => { results := [.lit (.bool true)], args := [d1, d2] }
  | _ => none }
def cellFreeRow : OpenClaim := { program := "ythgcpfofdbdkpaa", sum := "d5c2fdc46e259d97349eeadfedca556b9aa1345e1be6fecd850c74674a54f41f", func := "weald/wealdlaw09.CellFree", spec := "cellFree", apart := false }
def CellFreeSaid : Prop := cellFreeRow.holds Try.pinned (OpenSpec.ofChange cellFreeSpec)

/-- ITS FALSE NEIGHBOUR: 'it returns false'. Refute it at one input. -/
def cellFreeWrong : ChangeSpec := { name := "cellFree", fn := fun _ => fun
  | [d1, d2] => { results := [.lit (.bool false)], args := [d1, d2] }
  | _ => none }
def CellFreeWrongFalsely : Prop := cellFreeRow.holds Try.pinned (OpenSpec.ofChange cellFreeWrong)

/-- 'wealdlaw09.CellMore': WHATEVER THE INPUT: true; the input reads as it did. -/
def cellMoreSpec : ChangeSpec := { name := "cellMore", fn := fun _ => fun
  | [d] => { results := [.lit (.bool true)], args := [d] }
  | _ => none }
def cellMoreRow : OpenClaim := { program := "ythgcpfofdbdkpaa", sum := "d5c2fdc46e259d97349eeadfedca556b9aa1345e1be6fecd850c74674a54f41f", func := "weald/wealdlaw09.CellMore", spec := "cellMore", apart := false }
def CellMoreSaid : Prop := cellMoreRow.holds Try.pinned (OpenSpec.ofChange cellMoreSpec)

/-- ITS FALSE NEIGHBOUR: 'it returns false'. Refute it at one input. -/
def cellMoreWrong : ChangeSpec := { name := "cellMore", fn := fun _ => fun
  | [d] => { results := [.lit (.bool false)], args := [d] }
  | _ => none }
def CellMoreWrongFalsely : Prop := cellMoreRow.holds Try.pinned (OpenSpec.ofChange cellMoreWrong)

/-- 'wealdlaw09.CellNexts': WHATEVER THE INPUT: true; the input reads as it did. -/
def cellNextsSpec : ChangeSpec := { name := "cellNexts", fn := fun _ => fun
  | [d] => { results := [.lit (.bool true)], args := [d] }
  | _ => none }
def cellNextsRow : OpenClaim := { program := "ythgcpfofdbdkpaa", sum := "d5c2fdc46e259d97349eeadfedca556b9aa1345e1be6fecd850c74674a54f41f", func := "weald/wealdlaw09.CellNexts", spec := "cellNexts", apart := false }
def CellNextsSaid : Prop := cellNextsRow.holds Try.pinned (OpenSpec.ofChange cellNextsSpec)

/-- ITS FALSE NEIGHBOUR: 'it returns false'. Refute it at one input. -/
def cellNextsWrong : ChangeSpec := { name := "cellNexts", fn := fun _ => fun
  | [d] => { results := [.lit (.bool false)], args := [d] }
  | _ => none }
def CellNextsWrongFalsely : Prop := cellNextsRow.holds Try.pinned (OpenSpec.ofChange cellNextsWrong)

/-- 'wealdlaw07.DiskTells': WHATEVER THE INPUT: true; the input reads as it did. -/
def diskTellsSpec : ChangeSpec := { name := "diskTells", fn := fun _ => fun
  | [d] => { results := [.lit (.bool true)], args := [d] }
  | _ => none }
def diskTellsRow : OpenClaim := { program := "ythgcpfofdbdkpaa", sum := "d5c2fdc46e259d97349eeadfedca556b9aa1345e1be6fecd850c74674a54f41f", func := "weald/wealdlaw07.DiskTells", spec := "diskTells", unfollowed := true, recurses := true, apart := false }
def DiskTellsSaid : Prop := diskTellsRow.holds Try.pinned (OpenSpec.ofChange diskTellsSpec)

/-- ITS FALSE NEIGHBOUR: 'it returns false'. Refute it at one input. -/
def diskTellsWrong : ChangeSpec := { name := "diskTells", fn := fun _ => fun
  | [d] => { results := [.lit (.bool false)], args := [d] }
  | _ => none }
def DiskTellsWrongFalsely : Prop := diskTellsRow.holds Try.pinned (OpenSpec.ofChange diskTellsWrong)

/-- 'wealdlaw07.DiskApart': WHATEVER THE INPUT: true; the input reads as it did. -/
def diskApartSpec : ChangeSpec := { name := "diskApart", fn := fun _ => fun
  | [d] => { results := [.lit (.bool true)], args := [d] }
  | _ => none }
def diskApartRow : OpenClaim := { program := "ythgcpfofdbdkpaa", sum := "d5c2fdc46e259d97349eeadfedca556b9aa1345e1be6fecd850c74674a54f41f", func := "weald/wealdlaw07.DiskApart", spec := "diskApart", unfollowed := true, recurses := true, apart := false }
def DiskApartSaid : Prop := diskApartRow.holds Try.pinned (OpenSpec.ofChange diskApartSpec)

/-- ITS FALSE NEIGHBOUR: 'it returns false'. Refute it at one input. -/
def diskApartWrong : ChangeSpec := { name := "diskApart", fn := fun _ => fun
  | [d] => { results := [.lit (.bool false)], args := [d] }
  | _ => none }
def DiskApartWrongFalsely : Prop := diskApartRow.holds Try.pinned (OpenSpec.ofChange diskApartWrong)

/-- 'wealdlaw07.DiskTwice': WHATEVER THE INPUT: true; the input reads as it did. -/
def diskTwiceSpec : ChangeSpec := { name := "diskTwice", fn := fun _ => fun
  | [d1, d2, d3] => { results := [.lit (.bool true)], args := [d1, d2, d3] }
  | _ => none }
def diskTwiceRow : OpenClaim := { program := "ythgcpfofdbdkpaa", sum := "d5c2fdc46e259d97349eeadfedca556b9aa1345e1be6fecd850c74674a54f41f", func := "weald/wealdlaw07.DiskTwice", spec := "diskTwice", unfollowed := true, recurses := true, apart := false }
def DiskTwiceSaid : Prop := diskTwiceRow.holds Try.pinned (OpenSpec.ofChange diskTwiceSpec)

/-- ITS FALSE NEIGHBOUR: 'it returns false'. Refute it at one input. -/
def diskTwiceWrong : ChangeSpec := { name := "diskTwice", fn := fun _ => fun
  | [d1, d2, d3] => { results := [.lit (.bool false)], args := [d1, d2, d3] }
  | _ => none }
def DiskTwiceWrongFalsely : Prop := diskTwiceRow.holds Try.pinned (OpenSpec.ofChange diskTwiceWrong)

/-- 'wealdlaw07.DiskRows': WHATEVER THE INPUT: true; the input reads as it did. -/
def diskRowsSpec : ChangeSpec := { name := "diskRows", fn := fun _ => fun
  | [d] => { results := [.lit (.bool true)], args := [d] }
  | _ => none }
def diskRowsRow : OpenClaim := { program := "ythgcpfofdbdkpaa", sum := "d5c2fdc46e259d97349eeadfedca556b9aa1345e1be6fecd850c74674a54f41f", func := "weald/wealdlaw07.DiskRows", spec := "diskRows", unfollowed := true, recurses := true, apart := false }
def DiskRowsSaid : Prop := diskRowsRow.holds Try.pinned (OpenSpec.ofChange diskRowsSpec)

/-- ITS FALSE NEIGHBOUR: 'it returns false'. Refute it at one input. -/
def diskRowsWrong : ChangeSpec := { name := "diskRows", fn := fun _ => fun
  | [d] => { results := [.lit (.bool false)], args := [d] }
  | _ => none }
def DiskRowsWrongFalsely : Prop := diskRowsRow.holds Try.pinned (OpenSpec.ofChange diskRowsWrong)

/-- 'wealdlaw07.DiskNew': WHATEVER THE INPUT: true; the input reads as it did. -/
def diskNewSpec : ChangeSpec := { name := "diskNew", fn := fun _ => fun
  | [d] => { results := [.lit (.bool true)], args := [d] }
  | _ => none }
def diskNewRow : OpenClaim := { program := "ythgcpfofdbdkpaa", sum := "d5c2fdc46e259d97349eeadfedca556b9aa1345e1be6fecd850c74674a54f41f", func := "weald/wealdlaw07.DiskNew", spec := "diskNew", unfollowed := true, recurses := true, apart := false }
def DiskNewSaid : Prop := diskNewRow.holds Try.pinned (OpenSpec.ofChange diskNewSpec)

/-- ITS FALSE NEIGHBOUR: 'it returns false'. Refute it at one input. -/
def diskNewWrong : ChangeSpec := { name := "diskNew", fn := fun _ => fun
  | [d] => { results := [.lit (.bool false)], args := [d] }
  | _ => none }
def DiskNewWrongFalsely : Prop := diskNewRow.holds Try.pinned (OpenSpec.ofChange diskNewWrong)

/- THE SECOND FORM. 'bulk': how many values and letters a reading holds, each counted each time it is reached (what is shared counts as often as it is met; a slice's spare places count too). A statement '..UptoSaid' is the law's where the arguments, and the package variables that the reading takes, are together of bulk at most 1048576: NARROWER than '..Said'. Prove '..Said' where nothing that the law and all that it calls make is longer than what came in: it says more and counts as full. Else prove '..UptoSaid'. A law counts once. -/
mutual
def uptoBulk {H : Type} : DataW H → Nat
  | .lit (.string bytes) => bytes.length + 1
  | .lit _ => 1
  | .nil => 1
  | .ptr d => uptoBulk d + 1
  | .slice elems spare => uptoBulkAll elems + uptoBulkAll spare + 1
  | .agg parts => uptoBulkAll parts + 1
  | .iface _ d => uptoBulk d + 1
  | .map entries => uptoBulkEntries entries + 1
  | .held _ => 1
def uptoBulkAll {H : Type} : List (DataW H) → Nat
  | [] => 0
  | d :: r => uptoBulk d + uptoBulkAll r
def uptoBulkEntries {H : Type} : List (Lit × DataW H) → Nat
  | [] => 0
  | x :: r => uptoBulkEntry x + uptoBulkEntries r
def uptoBulkEntry {H : Type} : Lit × DataW H → Nat
  | (.string bytes, d) => bytes.length + uptoBulk d + 1
  | (_, d) => uptoBulk d + 1
 end
def uptoSmall : (H : Type) → List (DataW H) → Bool := fun _ ds => decide (uptoBulkAll ds ≤ 1048576)
def OpenSpec.upto (s : _root_.Go.ChangeSpec) : _root_.Go.OpenSpec := { _root_.Go.OpenSpec.ofChange s with cond := some uptoSmall }

/-- 'wealdlaw11.PlayTells', WHERE WHAT IT READS IS OF BULK AT MOST 1048576: true; the input reads as it did. -/
def playTellsUptoRow : OpenClaim := { program := "ythgcpfofdbdkpaa", sum := "d5c2fdc46e259d97349eeadfedca556b9aa1345e1be6fecd850c74674a54f41f", func := "weald/wealdlaw11.PlayTells", spec := "playTells", unfollowed := true, recurses := true, apart := false, narrowed := true }
def PlayTellsUptoSaid : Prop := playTellsUptoRow.holds Try.pinned (OpenSpec.upto playTellsSpec)

/-- 'wealdlaw11.PlayParts', WHERE WHAT IT READS IS OF BULK AT MOST 1048576: true; the input reads as it did. -/
def playPartsUptoRow : OpenClaim := { program := "ythgcpfofdbdkpaa", sum := "d5c2fdc46e259d97349eeadfedca556b9aa1345e1be6fecd850c74674a54f41f", func := "weald/wealdlaw11.PlayParts", spec := "playParts", unfollowed := true, recurses := true, apart := false, narrowed := true }
def PlayPartsUptoSaid : Prop := playPartsUptoRow.holds Try.pinned (OpenSpec.upto playPartsSpec)

/-- 'wealdlaw09.CellTells', WHERE WHAT IT READS IS OF BULK AT MOST 1048576: true; the input reads as it did. -/
def cellTellsUptoRow : OpenClaim := { program := "ythgcpfofdbdkpaa", sum := "d5c2fdc46e259d97349eeadfedca556b9aa1345e1be6fecd850c74674a54f41f", func := "weald/wealdlaw09.CellTells", spec := "cellTells", apart := false, narrowed := true }
def CellTellsUptoSaid : Prop := cellTellsUptoRow.holds Try.pinned (OpenSpec.upto cellTellsSpec)

/-- 'wealdlaw09.CellApart', WHERE WHAT IT READS IS OF BULK AT MOST 1048576: true; the input reads as it did. -/
def cellApartUptoRow : OpenClaim := { program := "ythgcpfofdbdkpaa", sum := "d5c2fdc46e259d97349eeadfedca556b9aa1345e1be6fecd850c74674a54f41f", func := "weald/wealdlaw09.CellApart", spec := "cellApart", apart := false, narrowed := true }
def CellApartUptoSaid : Prop := cellApartUptoRow.holds Try.pinned (OpenSpec.upto cellApartSpec)

/-- 'wealdlaw09.CellFree', WHERE WHAT IT READS IS OF BULK AT MOST 1048576: true; the input reads as it did. -/
def cellFreeUptoRow : OpenClaim := { program := "ythgcpfofdbdkpaa", sum := "d5c2fdc46e259d97349eeadfedca556b9aa1345e1be6fecd850c74674a54f41f", func := "weald/wealdlaw09.CellFree", spec := "cellFree", apart := false, narrowed := true }
def CellFreeUptoSaid : Prop := cellFreeUptoRow.holds Try.pinned (OpenSpec.upto cellFreeSpec)

/-- 'wealdlaw09.CellMore', WHERE WHAT IT READS IS OF BULK AT MOST 1048576: true; the input reads as it did. -/
def cellMoreUptoRow : OpenClaim := { program := "ythgcpfofdbdkpaa", sum := "d5c2fdc46e259d97349eeadfedca556b9aa1345e1be6fecd850c74674a54f41f", func := "weald/wealdlaw09.CellMore", spec := "cellMore", apart := false, narrowed := true }
def CellMoreUptoSaid : Prop := cellMoreUptoRow.holds Try.pinned (OpenSpec.upto cellMoreSpec)

/-- 'wealdlaw09.CellNexts', WHERE WHAT IT READS IS OF BULK AT MOST 1048576: true; the input reads as it did. -/
def cellNextsUptoRow : OpenClaim := { program := "ythgcpfofdbdkpaa", sum := "d5c2fdc46e259d97349eeadfedca556b9aa1345e1be6fecd850c74674a54f41f", func := "weald/wealdlaw09.CellNexts", spec := "cellNexts", apart := false, narrowed := true }
def CellNextsUptoSaid : Prop := cellNextsUptoRow.holds Try.pinned (OpenSpec.upto cellNextsSpec)

/-- 'wealdlaw07.DiskTells', WHERE WHAT IT READS IS OF BULK AT MOST 1048576: true; the input reads as it did. -/
def diskTellsUptoRow : OpenClaim := { program := "ythgcpfofdbdkpaa", sum := "d5c2fdc46e259d97349eeadfedca556b9aa1345e1be6fecd850c74674a54f41f", func := "weald/wealdlaw07.DiskTells", spec := "diskTells", unfollowed := true, recurses := true, apart := false, narrowed := true }
def DiskTellsUptoSaid : Prop := diskTellsUptoRow.holds Try.pinned (OpenSpec.upto diskTellsSpec)

/-- 'wealdlaw07.DiskApart', WHERE WHAT IT READS IS OF BULK AT MOST 1048576: true; the input reads as it did. -/
def diskApartUptoRow : OpenClaim := { program := "ythgcpfofdbdkpaa", sum := "d5c2fdc46e259d97349eeadfedca556b9aa1345e1be6fecd850c74674a54f41f", func := "weald/wealdlaw07.DiskApart", spec := "diskApart", unfollowed := true, recurses := true, apart := false, narrowed := true }
def DiskApartUptoSaid : Prop := diskApartUptoRow.holds Try.pinned (OpenSpec.upto diskApartSpec)

/-- 'wealdlaw07.DiskTwice', WHERE WHAT IT READS IS OF BULK AT MOST 1048576: true; the input reads as it did. -/
def diskTwiceUptoRow : OpenClaim := { program := "ythgcpfofdbdkpaa", sum := "d5c2fdc46e259d97349eeadfedca556b9aa1345e1be6fecd850c74674a54f41f", func := "weald/wealdlaw07.DiskTwice", spec := "diskTwice", unfollowed := true, recurses := true, apart := false, narrowed := true }
def DiskTwiceUptoSaid : Prop := diskTwiceUptoRow.holds Try.pinned (OpenSpec.upto diskTwiceSpec)

/-- 'wealdlaw07.DiskRows', WHERE WHAT IT READS IS OF BULK AT MOST 1048576: true; the input reads as it did. -/
def diskRowsUptoRow : OpenClaim := { program := "ythgcpfofdbdkpaa", sum := "d5c2fdc46e259d97349eeadfedca556b9aa1345e1be6fecd850c74674a54f41f", func := "weald/wealdlaw07.DiskRows", spec := "diskRows", unfollowed := true, recurses := true, apart := false, narrowed := true }
def DiskRowsUptoSaid : Prop := diskRowsUptoRow.holds Try.pinned (OpenSpec.upto diskRowsSpec)

/-- 'wealdlaw07.DiskNew', WHERE WHAT IT READS IS OF BULK AT MOST 1048576: true; the input reads as it did. -/
def diskNewUptoRow : OpenClaim := { program := "ythgcpfofdbdkpaa", sum := "d5c2fdc46e259d97349eeadfedca556b9aa1345e1be6fecd850c74674a54f41f", func := "weald/wealdlaw07.DiskNew", spec := "diskNew", unfollowed := true, recurses := true, apart := false, narrowed := true }
def DiskNewUptoSaid : Prop := diskNewUptoRow.holds Try.pinned (OpenSpec.upto diskNewSpec)

end Rows
end Go.Proofs.Ythgcpfofdbdkpaa
