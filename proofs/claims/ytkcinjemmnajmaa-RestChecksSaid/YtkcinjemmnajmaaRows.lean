/-
  No cell of these rows narrows 'for every input' (looked for: loops, veiled, ifaces, maps, wideKeys, modest, calm, conditions, laid).
  DERIVED. THE GIVEN ROWS OF THIS SEAT. 4 by the template 'for every input the law returns true; each argument reads behind the call as it read before'; 0 by the template 'total and deterministic' (their statements: YtkcinjemmnajmaaTotals.lean).
  GIVEN WITH THE SEED: the statements are not yours to turn. If you find one false, say at which input.
  Laid BY PROGRAM, IN A SANDBOX (cutbox-rows.mjs): the forced cells as the released guide's own fill.sh prints them over the translation b512a306b8e35006… (all of the seat's roots in one cut). By AI agents, Wed Nov 11 2026. No macro, syntax, notation, axiom, sorry.
-/
import Derived.Test.YtkcinjemmnajmaaChecked
import GoSem.Claim
import GoSem.ClaimJoined
import GoSem.ClaimMapViews
import Derived.JoinedTies
import Derived.KernelRfl
namespace Go.Proofs.Ytkcinjemmnajmaa
/- THE CELL 'sum', in the pinned program and in every row, IS THE sha256 OF THE DUMP (.gsa) THAT YtkcinjemmnajmaaProg.lean LOADS. Nothing in Lean hashes anything: it is a label: what it is worth is what the hold of that sum in a sandbox is worth. -/
noncomputable def Try.pinned : Pinned := { name := "ytkcinjemmnajmaa", sum := "b512a306b8e35006c5560d8c6b428a2368ef5e65491df2623f89d4b3ef4cf2c9", checked := Try.checked }
namespace Rows
def none {H : Type} : Left H := { results := [], args := [] }

/-- 'signalmanlaw03.RestSteps': WHATEVER THE INPUT: true; the input reads as it did. -/
def restStepsSpec : ChangeSpec := { name := "restSteps", fn := fun _ => fun
  | [d1, d2] => { results := [.lit (.bool true)], args := [d1, d2] }
  | _ => none }
def restStepsRow : OpenClaim := { program := "ytkcinjemmnajmaa", sum := "b512a306b8e35006c5560d8c6b428a2368ef5e65491df2623f89d4b3ef4cf2c9", func := "signalman/signalmanlaw03.RestSteps", spec := "restSteps", apart := false }
def RestStepsSaid : Prop := restStepsRow.holds Try.pinned (OpenSpec.ofChange restStepsSpec)

/-- ITS FALSE NEIGHBOUR: 'it returns false'. Refute it at one input. -/
def restStepsWrong : ChangeSpec := { name := "restSteps", fn := fun _ => fun
  | [d1, d2] => { results := [.lit (.bool false)], args := [d1, d2] }
  | _ => none }
def RestStepsWrongFalsely : Prop := restStepsRow.holds Try.pinned (OpenSpec.ofChange restStepsWrong)

/-- 'signalmanlaw03.RestJudges': WHATEVER THE INPUT: true; the input reads as it did. -/
def restJudgesSpec : ChangeSpec := { name := "restJudges", fn := fun _ => fun
  | [d] => { results := [.lit (.bool true)], args := [d] }
  | _ => none }
def restJudgesRow : OpenClaim := { program := "ytkcinjemmnajmaa", sum := "b512a306b8e35006c5560d8c6b428a2368ef5e65491df2623f89d4b3ef4cf2c9", func := "signalman/signalmanlaw03.RestJudges", spec := "restJudges", apart := false }
def RestJudgesSaid : Prop := restJudgesRow.holds Try.pinned (OpenSpec.ofChange restJudgesSpec)

/-- ITS FALSE NEIGHBOUR: 'it returns false'. Refute it at one input. -/
def restJudgesWrong : ChangeSpec := { name := "restJudges", fn := fun _ => fun
  | [d] => { results := [.lit (.bool false)], args := [d] }
  | _ => none }
def RestJudgesWrongFalsely : Prop := restJudgesRow.holds Try.pinned (OpenSpec.ofChange restJudgesWrong)

/-- 'signalmanlaw03.RestBursts': WHATEVER THE INPUT: true; the input reads as it did. -/
def restBurstsSpec : ChangeSpec := { name := "restBursts", fn := fun _ => fun
  | [d1, d2, d3] => { results := [.lit (.bool true)], args := [d1, d2, d3] }
  | _ => none }
def restBurstsRow : OpenClaim := { program := "ytkcinjemmnajmaa", sum := "b512a306b8e35006c5560d8c6b428a2368ef5e65491df2623f89d4b3ef4cf2c9", func := "signalman/signalmanlaw03.RestBursts", spec := "restBursts", apart := false }
def RestBurstsSaid : Prop := restBurstsRow.holds Try.pinned (OpenSpec.ofChange restBurstsSpec)

/-- ITS FALSE NEIGHBOUR: 'it returns false'. Refute it at one input. -/
def restBurstsWrong : ChangeSpec := { name := "restBursts", fn := fun _ => fun
  | [d1, d2, d3] => { results := [.lit (.bool false)], args := [d1, d2, d3] }
  | _ => none }
def RestBurstsWrongFalsely : Prop := restBurstsRow.holds Try.pinned (OpenSpec.ofChange restBurstsWrong)

/-- 'signalmanlaw03.RestChecks': WHATEVER THE INPUT: true; the input reads as it did. -/
def restChecksSpec : ChangeSpec := { name := "restChecks", fn := fun _ => fun
  | [d] => { results := [.lit (.bool true)], args := [d] }
  | _ => none }
def restChecksRow : OpenClaim := { program := "ytkcinjemmnajmaa", sum := "b512a306b8e35006c5560d8c6b428a2368ef5e65491df2623f89d4b3ef4cf2c9", func := "signalman/signalmanlaw03.RestChecks", spec := "restChecks", apart := false }
def RestChecksSaid : Prop := restChecksRow.holds Try.pinned (OpenSpec.ofChange restChecksSpec)

/-- ITS FALSE NEIGHBOUR: 'it returns false'. Refute it at one input. -/
def restChecksWrong : ChangeSpec := { name := "restChecks", fn := fun _ => fun
  | [d] => { results := [.lit (.bool false)], args := [d] }
  | _ => none }
def RestChecksWrongFalsely : Prop := restChecksRow.holds Try.pinned (OpenSpec.ofChange restChecksWrong)

/- THE SECOND FORM. 'bulk': how many values and letters a reading holds, each counted each time it is reached (what is shared counts as often as it is met; a slice's spare places count too). A statement '..UptoSaid' is the law's where the arguments, and the package variables that the reading takes, are together of bulk at most 1048576: NARROWER than '..Said'. Prove '..Said' where nothing that the law and all that it calls make is longer than what came in: it says more and counts as full. Else prove '..UptoSaid'. A law counts once. -/
mutual
def uptoBulk {H : Type} : DataW H → Nat
  | .lit (.string bytes) => bytes.length + 1
  | .lit _ => 1
  | .nil => 1
  | .ptr d => uptoBulk d + 1
  | .slice elems spare => uptoBulkAll elems + uptoBulkAll spare + 1
  | .agg parts => uptoBulkAll parts + 1
  | .iface _ d => uptoBulk d + 1
  | .map entries => uptoBulkEntries entries + 1
  | .held _ => 1
def uptoBulkAll {H : Type} : List (DataW H) → Nat
  | [] => 0
  | d :: r => uptoBulk d + uptoBulkAll r
def uptoBulkEntries {H : Type} : List (Lit × DataW H) → Nat
  | [] => 0
  | x :: r => uptoBulkEntry x + uptoBulkEntries r
def uptoBulkEntry {H : Type} : Lit × DataW H → Nat
  | (.string bytes, d) => bytes.length + uptoBulk d + 1
  | (_, d) => uptoBulk d + 1
 end
def uptoSmall : (H : Type) → List (DataW H) → Bool := fun _ ds => decide (uptoBulkAll ds ≤ 1048576)
def OpenSpec.upto (s : _root_.Go.ChangeSpec) : _root_.Go.OpenSpec := { _root_.Go.OpenSpec.ofChange s with cond := some uptoSmall }

/-- 'signalmanlaw03.RestSteps', WHERE WHAT IT READS IS OF BULK AT MOST 1048576: true; the input reads as it did. -/
def restStepsUptoRow : OpenClaim := { program := "ytkcinjemmnajmaa", sum := "b512a306b8e35006c5560d8c6b428a2368ef5e65491df2623f89d4b3ef4cf2c9", func := "signalman/signalmanlaw03.RestSteps", spec := "restSteps", apart := false, narrowed := true }
def RestStepsUptoSaid : Prop := restStepsUptoRow.holds Try.pinned (OpenSpec.upto restStepsSpec)

/-- 'signalmanlaw03.RestJudges', WHERE WHAT IT READS IS OF BULK AT MOST 1048576: true; the input reads as it did. -/
def restJudgesUptoRow : OpenClaim := { program := "ytkcinjemmnajmaa", sum := "b512a306b8e35006c5560d8c6b428a2368ef5e65491df2623f89d4b3ef4cf2c9", func := "signalman/signalmanlaw03.RestJudges", spec := "restJudges", apart := false, narrowed := true }
def RestJudgesUptoSaid : Prop := restJudgesUptoRow.holds Try.pinned (OpenSpec.upto restJudgesSpec)

/-- 'signalmanlaw03.RestBursts', WHERE WHAT IT READS IS OF BULK AT MOST 1048576: true; the input reads as it did. -/
def restBurstsUptoRow : OpenClaim := { program := "ytkcinjemmnajmaa", sum := "b512a306b8e35006c5560d8c6b428a2368ef5e65491df2623f89d4b3ef4cf2c9", func := "signalman/signalmanlaw03.RestBursts", spec := "restBursts", apart := false, narrowed := true }
def RestBurstsUptoSaid : Prop := restBurstsUptoRow.holds Try.pinned (OpenSpec.upto restBurstsSpec)

/-- 'signalmanlaw03.RestChecks', WHERE WHAT IT READS IS OF BULK AT MOST 1048576: true; the input reads as it did. -/
def restChecksUptoRow : OpenClaim := { program := "ytkcinjemmnajmaa", sum := "b512a306b8e35006c5560d8c6b428a2368ef5e65491df2623f89d4b3ef4cf2c9", func := "signalman/signalmanlaw03.RestChecks", spec := "restChecks", apart := false, narrowed := true }
def RestChecksUptoSaid : Prop := restChecksUptoRow.holds Try.pinned (OpenSpec.upto restChecksSpec)

end Rows
end Go.Proofs.Ytkcinjemmnajmaa
