/-
  No cell of these rows narrows 'for every input' (looked for: loops, veiled, ifaces, maps, wideKeys, modest, calm, conditions, laid).
  DERIVED. THE GIVEN ROWS OF THIS SEAT. 5 by the template 'for every input the law returns true; each argument reads behind the call as it read before'; 0 by the template 'total and deterministic' (their statements: YtcaieepemggedaaTotals.lean).
  GIVEN WITH THE SEED: the statements are not yours to turn. If you find one false, say at which input.
  Laid BY PROGRAM, IN A SANDBOX (cutbox-rows.mjs): the forced cells as the released guide's own fill.sh prints them over the translation 2c54efa6d76b3e03… (all of the seat's roots in one cut). By AI agents, Wed Nov 11 2026. No macro, syntax, notation, axiom, sorry.
-/
import Derived.Test.YtcaieepemggedaaChecked
import GoSem.Claim
import GoSem.ClaimJoined
import GoSem.ClaimMapViews
import Derived.JoinedTies
import Derived.KernelRfl
namespace Go.Proofs.Ytcaieepemggedaa
/- THE CELL 'sum', in the pinned program and in every row, IS THE sha256 OF THE DUMP (.gsa) THAT YtcaieepemggedaaProg.lean LOADS. Nothing in Lean hashes anything: it is a label: what it is worth is what the hold of that sum in a sandbox is worth. -/
noncomputable def Try.pinned : Pinned := { name := "ytcaieepemggedaa", sum := "2c54efa6d76b3e03f06faf4b737cef8092e0ad44dcc62b3b7bed614e85f1a1cd", checked := Try.checked }
namespace Rows
def none {H : Type} : Left H := { results := [], args := [] }

/-- 'signalmanlaw04.StuffParts': WHATEVER THE INPUT: true; the input reads as it did. -/
def stuffPartsSpec : ChangeSpec := { name := "stuffParts", fn := fun _ => fun
  | [d1, d2] => { results := [.lit (.bool true)], args := [d1, d2] }
  | _ => none }
def stuffPartsRow : OpenClaim := { program := "ytcaieepemggedaa", sum := "2c54efa6d76b3e03f06faf4b737cef8092e0ad44dcc62b3b7bed614e85f1a1cd", func := "signalman/signalmanlaw04.StuffParts", spec := "stuffParts", apart := false }
def StuffPartsSaid : Prop := stuffPartsRow.holds Try.pinned (OpenSpec.ofChange stuffPartsSpec)

/-- ITS FALSE NEIGHBOUR: 'it returns false'. Refute it at one input. -/
def stuffPartsWrong : ChangeSpec := { name := "stuffParts", fn := fun _ => fun
  | [d1, d2] => { results := [.lit (.bool false)], args := [d1, d2] }
  | _ => none }
def StuffPartsWrongFalsely : Prop := stuffPartsRow.holds Try.pinned (OpenSpec.ofChange stuffPartsWrong)

/-- 'signalmanlaw04.StuffApart': WHATEVER THE INPUT: true; the input reads as it did. -/
def stuffApartSpec : ChangeSpec := { name := "stuffApart", fn := fun _ => fun
  | [d1, d2, d3] => { results := [.lit (.bool true)], args := [d1, d2, d3] }
  | _ => none }
def stuffApartRow : OpenClaim := { program := "ytcaieepemggedaa", sum := "2c54efa6d76b3e03f06faf4b737cef8092e0ad44dcc62b3b7bed614e85f1a1cd", func := "signalman/signalmanlaw04.StuffApart", spec := "stuffApart", apart := false }
def StuffApartSaid : Prop := stuffApartRow.holds Try.pinned (OpenSpec.ofChange stuffApartSpec)

/-- ITS FALSE NEIGHBOUR: 'it returns false'. Refute it at one input. -/
def stuffApartWrong : ChangeSpec := { name := "stuffApart", fn := fun _ => fun
  | [d1, d2, d3] => { results := [.lit (.bool false)], args := [d1, d2, d3] }
  | _ => none }
def StuffApartWrongFalsely : Prop := stuffApartRow.holds Try.pinned (OpenSpec.ofChange stuffApartWrong)

/-- 'signalmanlaw04.StuffGrows': WHATEVER THE INPUT: true; the input reads as it did. -/
def stuffGrowsSpec : ChangeSpec := { name := "stuffGrows", fn := fun _ => fun
  | [d1, d2] => { results := [.lit (.bool true)], args := [d1, d2] }
  | _ => none }
def stuffGrowsRow : OpenClaim := { program := "ytcaieepemggedaa", sum := "2c54efa6d76b3e03f06faf4b737cef8092e0ad44dcc62b3b7bed614e85f1a1cd", func := "signalman/signalmanlaw04.StuffGrows", spec := "stuffGrows", apart := false }
def StuffGrowsSaid : Prop := stuffGrowsRow.holds Try.pinned (OpenSpec.ofChange stuffGrowsSpec)

/-- ITS FALSE NEIGHBOUR: 'it returns false'. Refute it at one input. -/
def stuffGrowsWrong : ChangeSpec := { name := "stuffGrows", fn := fun _ => fun
  | [d1, d2] => { results := [.lit (.bool false)], args := [d1, d2] }
  | _ => none }
def StuffGrowsWrongFalsely : Prop := stuffGrowsRow.holds Try.pinned (OpenSpec.ofChange stuffGrowsWrong)

/-- 'signalmanlaw04.StuffTakes': WHATEVER THE INPUT: true; the input reads as it did. -/
def stuffTakesSpec : ChangeSpec := { name := "stuffTakes", fn := fun _ => fun
  | [d1, d2] => { results := [.lit (.bool true)], args := [d1, d2] }
  | _ => none }
def stuffTakesRow : OpenClaim := { program := "ytcaieepemggedaa", sum := "2c54efa6d76b3e03f06faf4b737cef8092e0ad44dcc62b3b7bed614e85f1a1cd", func := "signalman/signalmanlaw04.StuffTakes", spec := "stuffTakes", apart := false }
def StuffTakesSaid : Prop := stuffTakesRow.holds Try.pinned (OpenSpec.ofChange stuffTakesSpec)

/-- ITS FALSE NEIGHBOUR: 'it returns false'. Refute it at one input. -/
def stuffTakesWrong : ChangeSpec := { name := "stuffTakes", fn := fun _ => fun
  | [d1, d2] => { results := [.lit (.bool false)], args := [d1, d2] }
  | _ => none }
def StuffTakesWrongFalsely : Prop := stuffTakesRow.holds Try.pinned (OpenSpec.ofChange stuffTakesWrong)

/-- 'signalmanlaw04.StuffPuts': WHATEVER THE INPUT: true; the input reads as it did. -/
def stuffPutsSpec : ChangeSpec := { name := "stuffPuts", fn := fun _ => fun
  | [d1, d2] => { results := [.lit (.bool true)], args := [d1, d2] }
  | _ => none }
def stuffPutsRow : OpenClaim := { program := "ytcaieepemggedaa", sum := "2c54efa6d76b3e03f06faf4b737cef8092e0ad44dcc62b3b7bed614e85f1a1cd", func := "signalman/signalmanlaw04.StuffPuts", spec := "stuffPuts", apart := false }
def StuffPutsSaid : Prop := stuffPutsRow.holds Try.pinned (OpenSpec.ofChange stuffPutsSpec)

/-- ITS FALSE NEIGHBOUR: 'it returns false'. Refute it at one input. -/
def stuffPutsWrong : ChangeSpec := { name := "stuffPuts", fn := fun _ => fun
  | [d1, d2] => { results := [.lit (.bool false)], args := [d1, d2] }
  | _ => none }
def StuffPutsWrongFalsely : Prop := stuffPutsRow.holds Try.pinned (OpenSpec.ofChange stuffPutsWrong)

/- THE SECOND FORM. 'bulk': how many values and letters a reading holds, each counted each time it is reached (what is shared counts as often as it is met; a slice's spare places count too). A statement '..UptoSaid' is the law's where the arguments, and the package variables that the reading takes, are together of bulk at most 1048576: NARROWER than '..Said'. Prove '..Said' where nothing that the law and all that it calls make is longer than what came in: it says more and counts as full. Else prove '..UptoSaid'. A law counts once. -/
mutual
def uptoBulk {H : Type} : DataW H → Nat
  | .lit (.string bytes) => bytes.length + 1
  | .lit _ => 1
  | .nil => 1
  | .ptr d => uptoBulk d + 1
  | .slice elems spare => uptoBulkAll elems + uptoBulkAll spare + 1
  | .agg parts => uptoBulkAll parts + 1
  | .iface _ d => uptoBulk d + 1
  | .map entries => uptoBulkEntries entries + 1
  | .held _ => 1
def uptoBulkAll {H : Type} : List (DataW H) → Nat
  | [] => 0
  | d :: r => uptoBulk d + uptoBulkAll r
def uptoBulkEntries {H : Type} : List (Lit × DataW H) → Nat
  | [] => 0
  | x :: r => uptoBulkEntry x + uptoBulkEntries r
def uptoBulkEntry {H : Type} : Lit × DataW H → Nat
  | (.string bytes, d) => bytes.length + uptoBulk d + 1
  | (_, d) => uptoBulk d + 1
 end
def uptoSmall : (H : Type) → List (DataW H) → Bool := fun _ ds => decide (uptoBulkAll ds ≤ 1048576)
def OpenSpec.upto (s : _root_.Go.ChangeSpec) : _root_.Go.OpenSpec := { _root_.Go.OpenSpec.ofChange s with cond := some uptoSmall }

/-- 'signalmanlaw04.StuffParts', WHERE WHAT IT READS IS OF BULK AT MOST 1048576: true; the input reads as it did. -/
def stuffPartsUptoRow : OpenClaim := { program := "ytcaieepemggedaa", sum := "2c54efa6d76b3e03f06faf4b737cef8092e0ad44dcc62b3b7bed614e85f1a1cd", func := "signalman/signalmanlaw04.StuffParts", spec := "stuffParts", apart := false, narrowed := true }
def StuffPartsUptoSaid : Prop := stuffPartsUptoRow.holds Try.pinned (OpenSpec.upto stuffPartsSpec)

/-- 'signalmanlaw04.StuffApart', WHERE WHAT IT READS IS OF BULK AT MOST 1048576: true; the input reads as it did. -/
def stuffApartUptoRow : OpenClaim := { program := "ytcaieepemggedaa", sum := "2c54efa6d76b3e03f06faf4b737cef8092e0ad44dcc62b3b7bed614e85f1a1cd", func := "signalman/signalmanlaw04.StuffApart", spec := "stuffApart", apart := false, narrowed := true }
def StuffApartUptoSaid : Prop := stuffApartUptoRow.holds Try.pinned (OpenSpec.upto stuffApartSpec)

/-- 'signalmanlaw04.StuffGrows', WHERE WHAT IT READS IS OF BULK AT MOST 1048576: true; the input reads as it did. -/
def stuffGrowsUptoRow : OpenClaim := { program := "ytcaieepemggedaa", sum := "2c54efa6d76b3e03f06faf4b737cef8092e0ad44dcc62b3b7bed614e85f1a1cd", func := "signalman/signalmanlaw04.StuffGrows", spec := "stuffGrows", apart := false, narrowed := true }
def StuffGrowsUptoSaid : Prop := stuffGrowsUptoRow.holds Try.pinned (OpenSpec.upto stuffGrowsSpec)

/-- 'signalmanlaw04.StuffTakes', WHERE WHAT IT READS IS OF BULK AT MOST 1048576: true; the input reads as it did. -/
def stuffTakesUptoRow : OpenClaim := { program := "ytcaieepemggedaa", sum := "2c54efa6d76b3e03f06faf4b737cef8092e0ad44dcc62b3b7bed614e85f1a1cd", func := "signalman/signalmanlaw04.StuffTakes", spec := "stuffTakes", apart := false, narrowed := true }
def StuffTakesUptoSaid : Prop := stuffTakesUptoRow.holds Try.pinned (OpenSpec.upto stuffTakesSpec)

/-- 'signalmanlaw04.StuffPuts', WHERE WHAT IT READS IS OF BULK AT MOST 1048576: true; the input reads as it did. -/
def stuffPutsUptoRow : OpenClaim := { program := "ytcaieepemggedaa", sum := "2c54efa6d76b3e03f06faf4b737cef8092e0ad44dcc62b3b7bed614e85f1a1cd", func := "signalman/signalmanlaw04.StuffPuts", spec := "stuffPuts", apart := false, narrowed := true }
def StuffPutsUptoSaid : Prop := stuffPutsUptoRow.holds Try.pinned (OpenSpec.upto stuffPutsSpec)

end Rows
end Go.Proofs.Ytcaieepemggedaa
