/-
  No cell of these rows narrows 'for every input' (looked for: loops, veiled, ifaces, maps, wideKeys, modest, calm, conditions, laid).
  DERIVED. THE GIVEN ROWS OF THIS SEAT. 6 by the template 'for every input the law returns true; each argument reads behind the call as it read before'; 0 by the template 'total and deterministic' (their statements: YtonhgiclaieamaaTotals.lean).
  GIVEN WITH THE SEED: the statements are not yours to turn. If you find one false, say at which input.
  Laid BY PROGRAM, IN A SANDBOX (cutbox-rows.mjs): the forced cells as the released guide's own fill.sh prints them over the translation b9978648326fdf31… (all of the seat's roots in one cut). By AI agents, Wed Nov 11 2026. No macro, syntax, notation, axiom, sorry.
-/
import Derived.Test.YtonhgiclaieamaaChecked
import GoSem.Claim
import GoSem.ClaimJoined
import GoSem.ClaimMapViews
import Derived.JoinedTies
import Derived.KernelRfl
namespace Go.Proofs.Ytonhgiclaieamaa
/- THE CELL 'sum', in the pinned program and in every row, IS THE sha256 OF THE DUMP (.gsa) THAT YtonhgiclaieamaaProg.lean LOADS. Nothing in Lean hashes anything: it is a label: what it is worth is what the hold of that sum in a sandbox is worth. -/
noncomputable def Try.pinned : Pinned := { name := "ytonhgiclaieamaa", sum := "b9978648326fdf3150575d4fbe33c0424b8f96654eb60848fc1fffea5b70629f", checked := Try.checked }
namespace Rows
def none {H : Type} : Left H := { results := [], args := [] }

/-- 'signalmanlaw05.FlagFrames': WHATEVER THE INPUT: true; the input reads as it did. -/
def flagFramesSpec : ChangeSpec := { name := "flagFrames", fn := fun _ => fun
  | [d1, d2] => { results := [.lit (.bool true)], args := [d1, d2] }
  | _ => none }
def flagFramesRow : OpenClaim := { program := "ytonhgiclaieamaa", sum := "b9978648326fdf3150575d4fbe33c0424b8f96654eb60848fc1fffea5b70629f", func := "signalman/signalmanlaw05.FlagFrames", spec := "flagFrames", apart := false }
def FlagFramesSaid : Prop := flagFramesRow.holds Try.pinned (OpenSpec.ofChange flagFramesSpec)

/-- ITS FALSE NEIGHBOUR: 'it returns false'. Refute it at one input. -/
def flagFramesWrong : ChangeSpec := { name := "flagFrames", fn := fun _ => fun
  | [d1, d2] => { results := [.lit (.bool false)], args := [d1, d2] }
  | _ => none }
def FlagFramesWrongFalsely : Prop := flagFramesRow.holds Try.pinned (OpenSpec.ofChange flagFramesWrong)

/-- 'signalmanlaw05.FlagJudges': WHATEVER THE INPUT: true; the input reads as it did. -/
def flagJudgesSpec : ChangeSpec := { name := "flagJudges", fn := fun _ => fun
  | [d1, d2, d3, d4, d5] => { results := [.lit (.bool true)], args := [d1, d2, d3, d4, d5] }
  | _ => none }
def flagJudgesRow : OpenClaim := { program := "ytonhgiclaieamaa", sum := "b9978648326fdf3150575d4fbe33c0424b8f96654eb60848fc1fffea5b70629f", func := "signalman/signalmanlaw05.FlagJudges", spec := "flagJudges", apart := false }
def FlagJudgesSaid : Prop := flagJudgesRow.holds Try.pinned (OpenSpec.ofChange flagJudgesSpec)

/-- ITS FALSE NEIGHBOUR: 'it returns false'. Refute it at one input. -/
def flagJudgesWrong : ChangeSpec := { name := "flagJudges", fn := fun _ => fun
  | [d1, d2, d3, d4, d5] => { results := [.lit (.bool false)], args := [d1, d2, d3, d4, d5] }
  | _ => none }
def FlagJudgesWrongFalsely : Prop := flagJudgesRow.holds Try.pinned (OpenSpec.ofChange flagJudgesWrong)

/-- 'signalmanlaw05.FlagHears': WHATEVER THE INPUT: true; the input reads as it did. -/
def flagHearsSpec : ChangeSpec := { name := "flagHears", fn := fun _ => fun
  | [d1, d2, d3] => { results := [.lit (.bool true)], args := [d1, d2, d3] }
  | _ => none }
def flagHearsRow : OpenClaim := { program := "ytonhgiclaieamaa", sum := "b9978648326fdf3150575d4fbe33c0424b8f96654eb60848fc1fffea5b70629f", func := "signalman/signalmanlaw05.FlagHears", spec := "flagHears", apart := false }
def FlagHearsSaid : Prop := flagHearsRow.holds Try.pinned (OpenSpec.ofChange flagHearsSpec)

/-- ITS FALSE NEIGHBOUR: 'it returns false'. Refute it at one input. -/
def flagHearsWrong : ChangeSpec := { name := "flagHears", fn := fun _ => fun
  | [d1, d2, d3] => { results := [.lit (.bool false)], args := [d1, d2, d3] }
  | _ => none }
def FlagHearsWrongFalsely : Prop := flagHearsRow.holds Try.pinned (OpenSpec.ofChange flagHearsWrong)

/-- 'signalmanlaw05.FlagCuts': WHATEVER THE INPUT: true; the input reads as it did. -/
def flagCutsSpec : ChangeSpec := { name := "flagCuts", fn := fun _ => fun
  | [d1, d2, d3, d4] => { results := [.lit (.bool true)], args := [d1, d2, d3, d4] }
  | _ => none }
def flagCutsRow : OpenClaim := { program := "ytonhgiclaieamaa", sum := "b9978648326fdf3150575d4fbe33c0424b8f96654eb60848fc1fffea5b70629f", func := "signalman/signalmanlaw05.FlagCuts", spec := "flagCuts", apart := false }
def FlagCutsSaid : Prop := flagCutsRow.holds Try.pinned (OpenSpec.ofChange flagCutsSpec)

/-- ITS FALSE NEIGHBOUR: 'it returns false'. Refute it at one input. -/
def flagCutsWrong : ChangeSpec := { name := "flagCuts", fn := fun _ => fun
  | [d1, d2, d3, d4] => { results := [.lit (.bool false)], args := [d1, d2, d3, d4] }
  | _ => none }
def FlagCutsWrongFalsely : Prop := flagCutsRow.holds Try.pinned (OpenSpec.ofChange flagCutsWrong)

/-- 'signalmanlaw05.FlagUnits': WHATEVER THE INPUT: true; the input reads as it did. -/
def flagUnitsSpec : ChangeSpec := { name := "flagUnits", fn := fun _ => fun
  | [d1, d2] => { results := [.lit (.bool true)], args := [d1, d2] }
  | _ => none }
def flagUnitsRow : OpenClaim := { program := "ytonhgiclaieamaa", sum := "b9978648326fdf3150575d4fbe33c0424b8f96654eb60848fc1fffea5b70629f", func := "signalman/signalmanlaw05.FlagUnits", spec := "flagUnits", apart := false }
def FlagUnitsSaid : Prop := flagUnitsRow.holds Try.pinned (OpenSpec.ofChange flagUnitsSpec)

/-- ITS FALSE NEIGHBOUR: 'it returns false'. Refute it at one input. -/
def flagUnitsWrong : ChangeSpec := { name := "flagUnits", fn := fun _ => fun
  | [d1, d2] => { results := [.lit (.bool false)], args := [d1, d2] }
  | _ => none }
def FlagUnitsWrongFalsely : Prop := flagUnitsRow.holds Try.pinned (OpenSpec.ofChange flagUnitsWrong)

/-- 'signalmanlaw05.FlagLong': WHATEVER THE INPUT: true; the input reads as it did. -/
def flagLongSpec : ChangeSpec := { name := "flagLong", fn := fun _ => fun
  | [d] => { results := [.lit (.bool true)], args := [d] }
  | _ => none }
def flagLongRow : OpenClaim := { program := "ytonhgiclaieamaa", sum := "b9978648326fdf3150575d4fbe33c0424b8f96654eb60848fc1fffea5b70629f", func := "signalman/signalmanlaw05.FlagLong", spec := "flagLong", apart := false }
def FlagLongSaid : Prop := flagLongRow.holds Try.pinned (OpenSpec.ofChange flagLongSpec)

/-- ITS FALSE NEIGHBOUR: 'it returns false'. Refute it at one input. -/
def flagLongWrong : ChangeSpec := { name := "flagLong", fn := fun _ => fun
  | [d] => { results := [.lit (.bool false)], args := [d] }
  | _ => none }
def FlagLongWrongFalsely : Prop := flagLongRow.holds Try.pinned (OpenSpec.ofChange flagLongWrong)

/- THE SECOND FORM. 'bulk': how many values and letters a reading holds, each counted each time it is reached (what is shared counts as often as it is met; a slice's spare places count too). A statement '..UptoSaid' is the law's where the arguments, and the package variables that the reading takes, are together of bulk at most 1048576: NARROWER than '..Said'. Prove '..Said' where nothing that the law and all that it calls make is longer than what came in: it says more and counts as full. Else prove '..UptoSaid'. A law counts once. -/
mutual
def uptoBulk {H : Type} : DataW H → Nat
  | .lit (.string bytes) => bytes.length + 1
  | .lit _ => 1
  | .nil => 1
  | .ptr d => uptoBulk d + 1
  | .slice elems spare => uptoBulkAll elems + uptoBulkAll spare + 1
  | .agg parts => uptoBulkAll parts + 1
  | .iface _ d => uptoBulk d + 1
  | .map entries => uptoBulkEntries entries + 1
  | .held _ => 1
def uptoBulkAll {H : Type} : List (DataW H) → Nat
  | [] => 0
  | d :: r => uptoBulk d + uptoBulkAll r
def uptoBulkEntries {H : Type} : List (Lit × DataW H) → Nat
  | [] => 0
  | x :: r => uptoBulkEntry x + uptoBulkEntries r
def uptoBulkEntry {H : Type} : Lit × DataW H → Nat
  | (.string bytes, d) => bytes.length + uptoBulk d + 1
  | (_, d) => uptoBulk d + 1
 end
def uptoSmall : (H : Type) → List (DataW H) → Bool := fun _ ds => decide (uptoBulkAll ds ≤ 1048576)
def OpenSpec.upto (s : _root_.Go.ChangeSpec) : _root_.Go.OpenSpec := { _root_.Go.OpenSpec.ofChange s with cond := some uptoSmall }

/-- 'signalmanlaw05.FlagFrames', WHERE WHAT IT READS IS OF BULK AT MOST 1048576: true; the input reads as it did. -/
def flagFramesUptoRow : OpenClaim := { program := "ytonhgiclaieamaa", sum := "b9978648326fdf3150575d4fbe33c0424b8f96654eb60848fc1fffea5b70629f", func := "signalman/signalmanlaw05.FlagFrames", spec := "flagFrames", apart := false, narrowed := true }
def FlagFramesUptoSaid : Prop := flagFramesUptoRow.holds Try.pinned (OpenSpec.upto flagFramesSpec)

/-- 'signalmanlaw05.FlagJudges', WHERE WHAT IT READS IS OF BULK AT MOST 1048576: true; the input reads as it did. -/
def flagJudgesUptoRow : OpenClaim := { program := "ytonhgiclaieamaa", sum := "b9978648326fdf3150575d4fbe33c0424b8f96654eb60848fc1fffea5b70629f", func := "signalman/signalmanlaw05.FlagJudges", spec := "flagJudges", apart := false, narrowed := true }
def FlagJudgesUptoSaid : Prop := flagJudgesUptoRow.holds Try.pinned (OpenSpec.upto flagJudgesSpec)

/-- 'signalmanlaw05.FlagHears', WHERE WHAT IT READS IS OF BULK AT MOST 1048576: true; the input reads as it did. -/
def flagHearsUptoRow : OpenClaim := { program := "ytonhgiclaieamaa", sum := "b9978648326fdf3150575d4fbe33c0424b8f96654eb60848fc1fffea5b70629f", func := "signalman/signalmanlaw05.FlagHears", spec := "flagHears", apart := false, narrowed := true }
def FlagHearsUptoSaid : Prop := flagHearsUptoRow.holds Try.pinned (OpenSpec.upto flagHearsSpec)

/-- 'signalmanlaw05.FlagCuts', WHERE WHAT IT READS IS OF BULK AT MOST 1048576: true; the input reads as it did. -/
def flagCutsUptoRow : OpenClaim := { program := "ytonhgiclaieamaa", sum := "b9978648326fdf3150575d4fbe33c0424b8f96654eb60848fc1fffea5b70629f", func := "signalman/signalmanlaw05.FlagCuts", spec := "flagCuts", apart := false, narrowed := true }
def FlagCutsUptoSaid : Prop := flagCutsUptoRow.holds Try.pinned (OpenSpec.upto flagCutsSpec)

/-- 'signalmanlaw05.FlagUnits', WHERE WHAT IT READS IS OF BULK AT MOST 1048576: true; the input reads as it did. -/
def flagUnitsUptoRow : OpenClaim := { program := "ytonhgiclaieamaa", sum := "b9978648326fdf3150575d4fbe33c0424b8f96654eb60848fc1fffea5b70629f", func := "signalman/signalmanlaw05.FlagUnits", spec := "flagUnits", apart := false, narrowed := true }
def FlagUnitsUptoSaid : Prop := flagUnitsUptoRow.holds Try.pinned (OpenSpec.upto flagUnitsSpec)

/-- 'signalmanlaw05.FlagLong', WHERE WHAT IT READS IS OF BULK AT MOST 1048576: true; the input reads as it did. -/
def flagLongUptoRow : OpenClaim := { program := "ytonhgiclaieamaa", sum := "b9978648326fdf3150575d4fbe33c0424b8f96654eb60848fc1fffea5b70629f", func := "signalman/signalmanlaw05.FlagLong", spec := "flagLong", apart := false, narrowed := true }
def FlagLongUptoSaid : Prop := flagLongUptoRow.holds Try.pinned (OpenSpec.upto flagLongSpec)

end Rows
end Go.Proofs.Ytonhgiclaieamaa
