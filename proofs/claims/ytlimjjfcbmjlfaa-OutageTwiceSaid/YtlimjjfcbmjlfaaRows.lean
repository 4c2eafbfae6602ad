/-
  No cell of these rows narrows 'for every input' (looked for: loops, veiled, ifaces, maps, wideKeys, modest, calm, conditions, laid).
  DERIVED. THE GIVEN ROWS OF THIS SEAT. 3 by the template 'for every input the law returns true; each argument reads behind the call as it read before'; 0 by the template 'total and deterministic' (their statements: YtlimjjfcbmjlfaaTotals.lean).
  GIVEN WITH THE SEED: the statements are not yours to turn. If you find one false, say at which input.
  Laid BY PROGRAM, IN A SANDBOX (cutbox-rows.mjs): the forced cells as the released guide's own fill.sh prints them over the translation fe5e429c6d6369df… (all of the seat's roots in one cut). By AI agents, Wed Nov 11 2026. No macro, syntax, notation, axiom, sorry.
-/
import Derived.Test.YtlimjjfcbmjlfaaChecked
import GoSem.Claim
import GoSem.ClaimJoined
import GoSem.ClaimMapViews
import Derived.JoinedTies
import Derived.KernelRfl
namespace Go.Proofs.Ytlimjjfcbmjlfaa
/- THE CELL 'sum', in the pinned program and in every row, IS THE sha256 OF THE DUMP (.gsa) THAT YtlimjjfcbmjlfaaProg.lean LOADS. Nothing in Lean hashes anything: it is a label: what it is worth is what the hold of that sum in a sandbox is worth. -/
noncomputable def Try.pinned : Pinned := { name := "ytlimjjfcbmjlfaa", sum := "fe5e429c6d6369df437c087ed3acf83b372ad3e2f30b2c8344cdde1ae0bc6912", checked := Try.checked }
namespace Rows
def none {H : Type} : Left H := { results := [], args := [] }

/-- 'signalmanlaw15.OutageSteps': WHATEVER THE INPUT: true; the input reads as it did. -/
def outageStepsSpec : ChangeSpec := { name := "outageSteps", fn := fun _ => fun
  | [d1, d2] => { results := [.lit (.bool true)], args := [d1, d2] }
  | _ => none }
def outageStepsRow : OpenClaim := { program := "ytlimjjfcbmjlfaa", sum := "fe5e429c6d6369df437c087ed3acf83b372ad3e2f30b2c8344cdde1ae0bc6912", func := "signalman/signalmanlaw15.OutageSteps", spec := "outageSteps", apart := false }
def OutageStepsSaid : Prop := outageStepsRow.holds Try.pinned (OpenSpec.ofChange outageStepsSpec)

/-- ITS FALSE NEIGHBOUR: 'it returns false'. Refute it at one input. -/
def outageStepsWrong : ChangeSpec := { name := "outageSteps", fn := fun _ => fun
  | [d1, d2] => { results := [.lit (.bool false)], args := [d1, d2] }
  | _ => none }
def OutageStepsWrongFalsely : Prop := outageStepsRow.holds Try.pinned (OpenSpec.ofChange outageStepsWrong)

/-- 'signalmanlaw15.OutagePlays': WHATEVER THE INPUT: true; the input reads as it did. -/
def outagePlaysSpec : ChangeSpec := { name := "outagePlays", fn := fun _ => fun
  | [d] => { results := [.lit (.bool true)], args := [d] }
  | _ => none }
def outagePlaysRow : OpenClaim := { program := "ytlimjjfcbmjlfaa", sum := "fe5e429c6d6369df437c087ed3acf83b372ad3e2f30b2c8344cdde1ae0bc6912", func := "signalman/signalmanlaw15.OutagePlays", spec := "outagePlays", apart := false }
def OutagePlaysSaid : Prop := outagePlaysRow.holds Try.pinned (OpenSpec.ofChange outagePlaysSpec)

/-- ITS FALSE NEIGHBOUR: 'it returns false'. Refute it at one input. -/
def outagePlaysWrong : ChangeSpec := { name := "outagePlays", fn := fun _ => fun
  | [d] => { results := [.lit (.bool false)], args := [d] }
  | _ => none }
def OutagePlaysWrongFalsely : Prop := outagePlaysRow.holds Try.pinned (OpenSpec.ofChange outagePlaysWrong)

/-- 'signalmanlaw15.OutageTwice': WHATEVER THE INPUT: true; the input reads as it did. -/
def outageTwiceSpec : ChangeSpec := { name := "outageTwice", fn := fun _ => fun
  | [d1, d2] => { results := [.lit (.bool true)], args := [d1, d2] }
  | _ => none }
def outageTwiceRow : OpenClaim := { program := "ytlimjjfcbmjlfaa", sum := "fe5e429c6d6369df437c087ed3acf83b372ad3e2f30b2c8344cdde1ae0bc6912", func := "signalman/signalmanlaw15.OutageTwice", spec := "outageTwice", apart := false }
def OutageTwiceSaid : Prop := outageTwiceRow.holds Try.pinned (OpenSpec.ofChange outageTwiceSpec)

/-- ITS FALSE NEIGHBOUR: 'it returns false'. Refute it at one input. -/
def outageTwiceWrong : ChangeSpec := { name := "outageTwice", fn := fun _ => fun
  | [d1, d2] => { results := [.lit (.bool false)], args := [d1, d2] }
  | _ => none }
def OutageTwiceWrongFalsely : Prop := outageTwiceRow.holds Try.pinned (OpenSpec.ofChange outageTwiceWrong)

/- THE SECOND FORM. 'bulk': how many values and letters a reading holds, each counted each time it is reached (what is shared counts as often as it is met; a slice's spare places count too). A statement '..UptoSaid' is the law's where the arguments, and the package variables that the reading takes, are together of bulk at most 1048576: NARROWER than '..Said'. Prove '..Said' where nothing that the law and all that it calls make is longer than what came in: it says more and counts as full. Else prove '..UptoSaid'. A law counts once. -/
mutual
def uptoBulk {H : Type} : DataW H → Nat
  | .lit (.string bytes) => bytes.length + 1
  | .lit _ => 1
  | .nil => 1
  | .ptr d => uptoBulk d + 1
  | .slice elems spare => uptoBulkAll elems + uptoBulkAll spare + 1
  | .agg parts => uptoBulkAll parts + 1
  | .iface _ d => uptoBulk d + 1
  | .map entries => uptoBulkEntries entries + 1
  | .held _ => 1
def uptoBulkAll {H : Type} : List (DataW H) → Nat
  | [] => 0
  | d :: r => uptoBulk d + uptoBulkAll r
def uptoBulkEntries {H : Type} : List (Lit × DataW H) → Nat
  | [] => 0
  | x :: r => uptoBulkEntry x + uptoBulkEntries r
def uptoBulkEntry {H : Type} : Lit × DataW H → Nat
  | (.string bytes, d) => bytes.length + uptoBulk d + 1
  | (_, d) => uptoBulk d + 1
 end
def uptoSmall : (H : Type) → List (DataW H) → Bool := fun _ ds => decide (uptoBulkAll ds ≤ 1048576)
def OpenSpec.upto (s : _root_.Go.ChangeSpec) : _root_.Go.OpenSpec := { _root_.Go.OpenSpec.ofChange s with cond := some uptoSmall }

/-- 'signalmanlaw15.OutageSteps', WHERE WHAT IT READS IS OF BULK AT MOST 1048576: true; the input reads as it did. -/
def outageStepsUptoRow : OpenClaim := { program := "ytlimjjfcbmjlfaa", sum := "fe5e429c6d6369df437c087ed3acf83b372ad3e2f30b2c8344cdde1ae0bc6912", func := "signalman/signalmanlaw15.OutageSteps", spec := "outageSteps", apart := false, narrowed := true }
def OutageStepsUptoSaid : Prop := outageStepsUptoRow.holds Try.pinned (OpenSpec.upto outageStepsSpec)

/-- 'signalmanlaw15.OutagePlays', WHERE WHAT IT READS IS OF BULK AT MOST 1048576: true; the input reads as it did. -/
def outagePlaysUptoRow : OpenClaim := { program := "ytlimjjfcbmjlfaa", sum := "fe5e429c6d6369df437c087ed3acf83b372ad3e2f30b2c8344cdde1ae0bc6912", func := "signalman/signalmanlaw15.OutagePlays", spec := "outagePlays", apart := false, narrowed := true }
def OutagePlaysUptoSaid : Prop := outagePlaysUptoRow.holds Try.pinned (OpenSpec.upto outagePlaysSpec)

/-- 'signalmanlaw15.OutageTwice', WHERE WHAT IT READS IS OF BULK AT MOST 1048576: true; the input reads as it did. -/
def outageTwiceUptoRow : OpenClaim := { program := "ytlimjjfcbmjlfaa", sum := "fe5e429c6d6369df437c087ed3acf83b372ad3e2f30b2c8344cdde1ae0bc6912", func := "signalman/signalmanlaw15.OutageTwice", spec := "outageTwice", apart := false, narrowed := true }
def OutageTwiceUptoSaid : Prop := outageTwiceUptoRow.holds Try.pinned (OpenSpec.upto outageTwiceSpec)

end Rows
end Go.Proofs.Ytlimjjfcbmjlfaa
