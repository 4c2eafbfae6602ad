/-
  No cell of these rows narrows 'for every input' (looked for: loops, veiled, ifaces, maps, wideKeys, modest, calm, conditions, laid).
  DERIVED. THE GIVEN ROWS OF THIS SEAT. 3 by the template 'for every input the law returns true; each argument reads behind the call as it read before'; 0 by the template 'total and deterministic' (their statements: YtjbijdmcceloaaaGreatTotals.lean).
  GIVEN WITH THE SEED: the statements are not yours to turn. If you find one false, say at which input.
  Laid BY PROGRAM, IN A SANDBOX (cutbox-rows.mjs): the forced cells as the released guide's own fill.sh prints them over the translation 505c7fa12602c683… (all of the seat's roots in one cut). By AI agents, Wed Nov 11 2026. No macro, syntax, notation, axiom, sorry.
-/
import Derived.Test.YtjbijdmcceloaaaGreatChecked
import GoSem.Claim
import GoSem.ClaimJoined
import GoSem.ClaimMapViews
import Derived.JoinedTies
import Derived.KernelRfl
namespace Go.Proofs.YtjbijdmcceloaaaGreat
/- THE CELL 'sum', in the pinned program and in every row, IS THE sha256 OF THE DUMP (.gsa) THAT YtjbijdmcceloaaaGreatProg.lean LOADS. Nothing in Lean hashes anything: it is a label: what it is worth is what the hold of that sum in a sandbox is worth. -/
noncomputable def Tryz.pinned : Pinned := { name := "ytjbijdmcceloaaagreat", sum := "505c7fa12602c683a29ec1f1e9df100fa16982f508598463e8110ce36fe44a9d", checked := Tryz.checked }
namespace Rows
def none {H : Type} : Left H := { results := [], args := [] }

/-- 'signalmantop.TopProved': WHATEVER THE INPUT: true; the input reads as it did. -/
def topProvedSpec : ChangeSpec := { name := "topProved", fn := fun _ => fun
  | [d1, d2, d3, d4, d5] => { results := [.lit (.bool true)], args := [d1, d2, d3, d4, d5] }
  | _ => none }
def topProvedRow : OpenClaim := { program := "ytjbijdmcceloaaagreat", sum := "505c7fa12602c683a29ec1f1e9df100fa16982f508598463e8110ce36fe44a9d", func := "signalman/signalmantop.TopProved", spec := "topProved", unfollowed := true, recurses := true, apart := false }
def TopProvedSaid : Prop := topProvedRow.holds Tryz.pinned (OpenSpec.ofChange topProvedSpec)

/-- ITS FALSE NEIGHBOUR: 'it returns false'. Refute it at one input. -/
def topProvedWrong : ChangeSpec := { name := "topProved", fn := fun _ => fun
  | [d1, d2, d3, d4, d5] => { results := [.lit (.bool false)], args := [d1, d2, d3, d4, d5] }
  | _ => none }
def TopProvedWrongFalsely : Prop := topProvedRow.holds Tryz.pinned (OpenSpec.ofChange topProvedWrong)

/-- 'signalmantop.TopTotal': WHATEVER THE INPUT: true; the input reads as it did. -/
def topTotalSpec : ChangeSpec := { name := "topTotal", fn := fun _ => fun
  | [d1, d2, d3] => { results := [.lit (.bool true)], args := [d1, d2, d3] }
  | _ => none }
def topTotalRow : OpenClaim := { program := "ytjbijdmcceloaaagreat", sum := "505c7fa12602c683a29ec1f1e9df100fa16982f508598463e8110ce36fe44a9d", func := "signalman/signalmantop.TopTotal", spec := "topTotal", unfollowed := true, recurses := true, apart := false }
def TopTotalSaid : Prop := topTotalRow.holds Tryz.pinned (OpenSpec.ofChange topTotalSpec)

/-- ITS FALSE NEIGHBOUR: 'it returns false'. Refute it at one input. -/
def topTotalWrong : ChangeSpec := { name := "topTotal", fn := fun _ => fun
  | [d1, d2, d3] => { results := [.lit (.bool false)], args := [d1, d2, d3] }
  | _ => none }
def TopTotalWrongFalsely : Prop := topTotalRow.holds Tryz.pinned (OpenSpec.ofChange topTotalWrong)

/-- 'signalmantop.TopServes': WHATEVER THE INPUT: true; the input reads as it did. -/
def topServesSpec : ChangeSpec := { name := "topServes", fn := fun _ => fun
  | [d1, d2, d3, d4] => { results := [.lit (.bool true)], args := [d1, d2, d3, d4] }
  | _ => none }
def topServesRow : OpenClaim := { program := "ytjbijdmcceloaaagreat", sum := "505c7fa12602c683a29ec1f1e9df100fa16982f508598463e8110ce36fe44a9d", func := "signalman/signalmantop.TopServes", spec := "topServes", unfollowed := true, recurses := true, apart := false }
def TopServesSaid : Prop := topServesRow.holds Tryz.pinned (OpenSpec.ofChange topServesSpec)

/-- ITS FALSE NEIGHBOUR: 'it returns false'. Refute it at one input. -/
def topServesWrong : ChangeSpec := { name := "topServes", fn := fun _ => fun
  | [d1, d2, d3, d4] => { results := [.lit (.bool false)], args := [d1, d2, d3, d4] }
  | _ => none }
def TopServesWrongFalsely : Prop := topServesRow.holds Tryz.pinned (OpenSpec.ofChange topServesWrong)

/- THE SECOND FORM. 'bulk': how many values and letters a reading holds, each counted each time it is reached (what is shared counts as often as it is met; a slice's spare places count too). A statement '..UptoSaid' is the law's where the arguments, and the package variables that the reading takes, are together of bulk at most 1048576: NARROWER than '..Said'. Prove '..Said' where nothing that the law and all that it calls make is longer than what came in: it says more and counts as full. Else prove '..UptoSaid'. A law counts once. -/
mutual
def uptoBulk {H : Type} : DataW H → Nat
  | .lit (.string bytes) => bytes.length + 1
  | .lit _ => 1
  | .nil => 1
  | .ptr d => uptoBulk d + 1
  | .slice elems spare => uptoBulkAll elems + uptoBulkAll spare + 1
  | .agg parts => uptoBulkAll parts + 1
  | .iface _ d => uptoBulk d + 1
  | .map entries => uptoBulkEntries entries + 1
  | .held _ => 1
def uptoBulkAll {H : Type} : List (DataW H) → Nat
  | [] => 0
  | d :: r => uptoBulk d + uptoBulkAll r
def uptoBulkEntries {H : Type} : List (Lit × DataW H) → Nat
  | [] => 0
  | x :: r => uptoBulkEntry x + uptoBulkEntries r
def uptoBulkEntry {H : Type} : Lit × DataW H → Nat
  | (.string bytes, d) => bytes.length + uptoBulk d + 1
  | (_, d) => uptoBulk d + 1
 end
def uptoSmall : (H : Type) → List (DataW H) → Bool := fun _ ds => decide (uptoBulkAll ds ≤ 1048576)
def OpenSpec.upto (s : _root_.Go.ChangeSpec) : _root_.Go.OpenSpec := { _root_.Go.OpenSpec.ofChange s with cond := some uptoSmall }

/-- 'signalmantop.TopProved', WHERE WHAT IT READS IS OF BULK AT MOST 1048576: true; the input reads as it did. -/
def topProvedUptoRow : OpenClaim := { program := "ytjbijdmcceloaaagreat", sum := "505c7fa12602c683a29ec1f1e9df100fa16982f508598463e8110ce36fe44a9d", func := "signalman/signalmantop.TopProved", spec := "topProved", unfollowed := true, recurses := true, apart := false, narrowed := true }
def TopProvedUptoSaid : Prop := topProvedUptoRow.holds Tryz.pinned (OpenSpec.upto topProvedSpec)

/-- 'signalmantop.TopTotal', WHERE WHAT IT READS IS OF BULK AT MOST 1048576: true; the input reads as it did. -/
def topTotalUptoRow : OpenClaim := { program := "ytjbijdmcceloaaagreat", sum := "505c7fa12602c683a29ec1f1e9df100fa16982f508598463e8110ce36fe44a9d", func := "signalman/signalmantop.TopTotal", spec := "topTotal", unfollowed := true, recurses := true, apart := false, narrowed := true }
def TopTotalUptoSaid : Prop := topTotalUptoRow.holds Tryz.pinned (OpenSpec.upto topTotalSpec)

/-- 'signalmantop.TopServes', WHERE WHAT IT READS IS OF BULK AT MOST 1048576: true; the input reads as it did. -/
def topServesUptoRow : OpenClaim := { program := "ytjbijdmcceloaaagreat", sum := "505c7fa12602c683a29ec1f1e9df100fa16982f508598463e8110ce36fe44a9d", func := "signalman/signalmantop.TopServes", spec := "topServes", unfollowed := true, recurses := true, apart := false, narrowed := true }
def TopServesUptoSaid : Prop := topServesUptoRow.holds Tryz.pinned (OpenSpec.upto topServesSpec)

end Rows
end Go.Proofs.YtjbijdmcceloaaaGreat
