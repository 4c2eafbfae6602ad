/-
  No cell of these rows narrows 'for every input' (looked for: loops, veiled, ifaces, maps, wideKeys, modest, calm, conditions, laid).
  DERIVED. THE GIVEN ROWS OF THIS SEAT. 5 by the template 'for every input the law returns true; each argument reads behind the call as it read before'; 0 by the template 'total and deterministic' (their statements: YtjaenbcboecdbaaTotals.lean).
  GIVEN WITH THE SEED: the statements are not yours to turn. If you find one false, say at which input.
  Laid BY PROGRAM, IN A SANDBOX (cutbox-rows.mjs): the forced cells as the released guide's own fill.sh prints them over the translation c611dcbb8f68fa5e… (all of the seat's roots in one cut). By AI agents, Wed Nov 11 2026. No macro, syntax, notation, axiom, sorry.
-/
import Derived.Test.YtjaenbcboecdbaaChecked
import GoSem.Claim
import GoSem.ClaimJoined
import GoSem.ClaimMapViews
import Derived.JoinedTies
import Derived.KernelRfl
namespace Go.Proofs.Ytjaenbcboecdbaa
/- THE CELL 'sum', in the pinned program and in every row, IS THE sha256 OF THE DUMP (.gsa) THAT YtjaenbcboecdbaaProg.lean LOADS. Nothing in Lean hashes anything: it is a label: what it is worth is what the hold of that sum in a sandbox is worth. -/
noncomputable def Try.pinned : Pinned := { name := "ytjaenbcboecdbaa", sum := "c611dcbb8f68fa5e7ef7d004703028ea0203c167eb5c3bbd5e3775259a3dae4a", checked := Try.checked }
namespace Rows
def none {H : Type} : Left H := { results := [], args := [] }

/-- 'signalmanlaw02.TapeOctets': WHATEVER THE INPUT: true; the input reads as it did. -/
def tapeOctetsSpec : ChangeSpec := { name := "tapeOctets", fn := fun _ => fun
  | [d1, d2] => { results := [.lit (.bool true)], args := [d1, d2] }
  | _ => none }
def tapeOctetsRow : OpenClaim := { program := "ytjaenbcboecdbaa", sum := "c611dcbb8f68fa5e7ef7d004703028ea0203c167eb5c3bbd5e3775259a3dae4a", func := "signalman/signalmanlaw02.TapeOctets", spec := "tapeOctets", apart := false }
def TapeOctetsSaid : Prop := tapeOctetsRow.holds Try.pinned (OpenSpec.ofChange tapeOctetsSpec)

/-- ITS FALSE NEIGHBOUR: 'it returns false'. Refute it at one input. -/
def tapeOctetsWrong : ChangeSpec := { name := "tapeOctets", fn := fun _ => fun
  | [d1, d2] => { results := [.lit (.bool false)], args := [d1, d2] }
  | _ => none }
def TapeOctetsWrongFalsely : Prop := tapeOctetsRow.holds Try.pinned (OpenSpec.ofChange tapeOctetsWrong)

/-- 'signalmanlaw02.TapeSame': WHATEVER THE INPUT: true; the input reads as it did. -/
def tapeSameSpec : ChangeSpec := { name := "tapeSame", fn := fun _ => fun
  | [d1, d2, d3] => { results := [.lit (.bool true)], args := [d1, d2, d3] }
  | _ => none }
def tapeSameRow : OpenClaim := { program := "ytjaenbcboecdbaa", sum := "c611dcbb8f68fa5e7ef7d004703028ea0203c167eb5c3bbd5e3775259a3dae4a", func := "signalman/signalmanlaw02.TapeSame", spec := "tapeSame", apart := false }
def TapeSameSaid : Prop := tapeSameRow.holds Try.pinned (OpenSpec.ofChange tapeSameSpec)

/-- ITS FALSE NEIGHBOUR: 'it returns false'. Refute it at one input. -/
def tapeSameWrong : ChangeSpec := { name := "tapeSame", fn := fun _ => fun
  | [d1, d2, d3] => { results := [.lit (.bool false)], args := [d1, d2, d3] }
  | _ => none }
def TapeSameWrongFalsely : Prop := tapeSameRow.holds Try.pinned (OpenSpec.ofChange tapeSameWrong)

/-- 'signalmanlaw02.TapeTexts': WHATEVER THE INPUT: true; the input reads as it did. -/
def tapeTextsSpec : ChangeSpec := { name := "tapeTexts", fn := fun _ => fun
  | [d1, d2] => { results := [.lit (.bool true)], args := [d1, d2] }
  | _ => none }
def tapeTextsRow : OpenClaim := { program := "ytjaenbcboecdbaa", sum := "c611dcbb8f68fa5e7ef7d004703028ea0203c167eb5c3bbd5e3775259a3dae4a", func := "signalman/signalmanlaw02.TapeTexts", spec := "tapeTexts", apart := false }
def TapeTextsSaid : Prop := tapeTextsRow.holds Try.pinned (OpenSpec.ofChange tapeTextsSpec)

/-- ITS FALSE NEIGHBOUR: 'it returns false'. Refute it at one input. -/
def tapeTextsWrong : ChangeSpec := { name := "tapeTexts", fn := fun _ => fun
  | [d1, d2] => { results := [.lit (.bool false)], args := [d1, d2] }
  | _ => none }
def TapeTextsWrongFalsely : Prop := tapeTextsRow.holds Try.pinned (OpenSpec.ofChange tapeTextsWrong)

/-- 'signalmanlaw02.TapeRuns': WHATEVER THE INPUT: true; the input reads as it did. -/
def tapeRunsSpec : ChangeSpec := { name := "tapeRuns", fn := fun _ => fun
  | [d1, d2] => { results := [.lit (.bool true)], args := [d1, d2] }
  | _ => none }
def tapeRunsRow : OpenClaim := { program := "ytjaenbcboecdbaa", sum := "c611dcbb8f68fa5e7ef7d004703028ea0203c167eb5c3bbd5e3775259a3dae4a", func := "signalman/signalmanlaw02.TapeRuns", spec := "tapeRuns", apart := false }
def TapeRunsSaid : Prop := tapeRunsRow.holds Try.pinned (OpenSpec.ofChange tapeRunsSpec)

/-- ITS FALSE NEIGHBOUR: 'it returns false'. Refute it at one input. -/
def tapeRunsWrong : ChangeSpec := { name := "tapeRuns", fn := fun _ => fun
  | [d1, d2] => { results := [.lit (.bool false)], args := [d1, d2] }
  | _ => none }
def TapeRunsWrongFalsely : Prop := tapeRunsRow.holds Try.pinned (OpenSpec.ofChange tapeRunsWrong)

/-- 'signalmanlaw02.TapeTurns': WHATEVER THE INPUT: true; the input reads as it did. -/
def tapeTurnsSpec : ChangeSpec := { name := "tapeTurns", fn := fun _ => fun
  | [d1, d2, d3] => { results := [.lit (.bool true)], args := [d1, d2, d3] }
  | _ => none }
def tapeTurnsRow : OpenClaim := { program := "ytjaenbcboecdbaa", sum := "c611dcbb8f68fa5e7ef7d004703028ea0203c167eb5c3bbd5e3775259a3dae4a", func := "signalman/signalmanlaw02.TapeTurns", spec := "tapeTurns", apart := false }
def TapeTurnsSaid : Prop := tapeTurnsRow.holds Try.pinned (OpenSpec.ofChange tapeTurnsSpec)

/-- ITS FALSE NEIGHBOUR: 'it returns false'. Refute it at one input. -/
def tapeTurnsWrong : ChangeSpec := { name := "tapeTurns", fn := fun _ => fun
  | [d1, d2, d3] => { results := [.lit (.bool false)], args := [d1, d2, d3] }
  | _ => none }
def TapeTurnsWrongFalsely : Prop := tapeTurnsRow.holds Try.pinned (OpenSpec.ofChange tapeTurnsWrong)

/- THE SECOND FORM. 'bulk': how many values and letters a reading holds, each counted each time it is reached (what is shared counts as often as it is met; a slice's spare places count too). A statement '..UptoSaid' is the law's where the arguments, and the package variables that the reading takes, are together of bulk at most 1048576: NARROWER than '..Said'. Prove '..Said' where nothing that the law and all that it calls make is longer than what came in: it says more and counts as full. Else prove '..UptoSaid'. A law counts once. -/
mutual
def uptoBulk {H : Type} : DataW H → Nat
  | .lit (.string bytes) => bytes.length + 1
  | .lit _ => 1
  | .nil => 1
  | .ptr d => uptoBulk d + 1
  | .slice elems spare => uptoBulkAll elems + uptoBulkAll spare + 1
  | .agg parts => uptoBulkAll parts + 1
  | .iface _ d => uptoBulk d + 1
  | .map entries => uptoBulkEntries entries + 1
  | .held _ => 1
def uptoBulkAll {H : Type} : List (DataW H) → Nat
  | [] => 0
  | d :: r => uptoBulk d + uptoBulkAll r
def uptoBulkEntries {H : Type} : List (Lit × DataW H) → Nat
  | [] => 0
  | x :: r => uptoBulkEntry x + uptoBulkEntries r
def uptoBulkEntry {H : Type} : Lit × DataW H → Nat
  | (.string bytes, d) => bytes.length + uptoBulk d + 1
  | (_, d) => uptoBulk d + 1
 end
def uptoSmall : (H : Type) → List (DataW H) → Bool := fun _ ds => decide (uptoBulkAll ds ≤ 1048576)
def OpenSpec.upto (s : _root_.Go.ChangeSpec) : _root_.Go.OpenSpec := { _root_.Go.OpenSpec.ofChange s with cond := some uptoSmall }

/-- 'signalmanlaw02.TapeOctets', WHERE WHAT IT READS IS OF BULK AT MOST 1048576: true; the input reads as it did. -/
def tapeOctetsUptoRow : OpenClaim := { program := "ytjaenbcboecdbaa", sum := "c611dcbb8f68fa5e7ef7d004703028ea0203c167eb5c3bbd5e3775259a3dae4a", func := "signalman/signalmanlaw02.TapeOctets", spec := "tapeOctets", apart := false, narrowed := true }
def TapeOctetsUptoSaid : Prop := tapeOctetsUptoRow.holds Try.pinned (OpenSpec.upto tapeOctetsSpec)

/-- 'signalmanlaw02.TapeSame', WHERE WHAT IT READS IS OF BULK AT MOST 1048576: true; the input reads as it did. -/
def tapeSameUptoRow : OpenClaim := { program := "ytjaenbcboecdbaa", sum := "c611dcbb8f68fa5e7ef7d004703028ea0203c167eb5c3bbd5e3775259a3dae4a", func := "signalman/signalmanlaw02.TapeSame", spec := "tapeSame", apart := false, narrowed := true }
def TapeSameUptoSaid : Prop := tapeSameUptoRow.holds Try.pinned (OpenSpec.upto tapeSameSpec)

/-- 'signalmanlaw02.TapeTexts', WHERE WHAT IT READS IS OF BULK AT MOST 1048576: true; the input reads as it did. -/
def tapeTextsUptoRow : OpenClaim := { program := "ytjaenbcboecdbaa", sum := "c611dcbb8f68fa5e7ef7d004703028ea0203c167eb5c3bbd5e3775259a3dae4a", func := "signalman/signalmanlaw02.TapeTexts", spec := "tapeTexts", apart := false, narrowed := true }
def TapeTextsUptoSaid : Prop := tapeTextsUptoRow.holds Try.pinned (OpenSpec.upto tapeTextsSpec)

/-- 'signalmanlaw02.TapeRuns', WHERE WHAT IT READS IS OF BULK AT MOST 1048576: true; the input reads as it did. -/
def tapeRunsUptoRow : OpenClaim := { program := "ytjaenbcboecdbaa", sum := "c611dcbb8f68fa5e7ef7d004703028ea0203c167eb5c3bbd5e3775259a3dae4a", func := "signalman/signalmanlaw02.TapeRuns", spec := "tapeRuns", apart := false, narrowed := true }
def TapeRunsUptoSaid : Prop := tapeRunsUptoRow.holds Try.pinned (OpenSpec.upto tapeRunsSpec)

/-- 'signalmanlaw02.TapeTurns', WHERE WHAT IT READS IS OF BULK AT MOST 1048576: true; the input reads as it did. -/
def tapeTurnsUptoRow : OpenClaim := { program := "ytjaenbcboecdbaa", sum := "c611dcbb8f68fa5e7ef7d004703028ea0203c167eb5c3bbd5e3775259a3dae4a", func := "signalman/signalmanlaw02.TapeTurns", spec := "tapeTurns", apart := false, narrowed := true }
def TapeTurnsUptoSaid : Prop := tapeTurnsUptoRow.holds Try.pinned (OpenSpec.upto tapeTurnsSpec)

end Rows
end Go.Proofs.Ytjaenbcboecdbaa
