/- A part of the proof of the given statement that each law names; no condition. Written by a program of this session's own (wip/tools/myprint.py, over the kit's print); Lean checks it. -/
import Derived.Test.YtaiallgcobpkaaaProg
import Derived.Below
import Derived.Deep.Draws
import Derived.Deep.AppendLies
import Derived.Maps.AppendAt
import Derived.OwnWalk
import Derived.Laws.BytesArg
import Derived.Laws.MakeOwn
import Derived.Laws.OwnMore
import Derived.Deep.OwnRows
import Derived.Tactics
import Derived.Lib.ConvBytes
import Derived.Laws.Slices
import Derived.WalkKit
import Derived.KernelRfl
import Derived.RowKit3
import Derived.Deep.LoopGhost
import Derived.Deep.QuietTactic
import Derived.BigQuiet
import Derived.WideLaws
import Derived.Deep.DeepCutAuto
import Derived.Deep.CutBlock
import Derived.Deep.RegionHeld3
import Derived.Laws.Rows
import Derived.Lib.AppendStr
import Derived.ArgAppend
import Derived.Laws.IdiomCopy
import Derived.OrdersHeld
import Derived.Laws.BitsLemmas
import Derived.RowKit
import Derived.Lib.SlBytesConst
import Derived.Laws.BitsAllLaws
import Derived.Laws.RangeAny
import Derived.Lib.OthersKept
import Derived.Laws.CopyOwn
import Derived.Test.YtaiallgcobpkaaaCrc
import Derived.Test.YtaiallgcobpkaaaWireAwake
import Derived.Test.YtaiallgcobpkaaaWireTrio
import Derived.Test.YtaiallgcobpkaaaWWords
import Derived.Test.YtaiallgcobpkaaaWLast
import Derived.Test.YtaiallgcobpkaaaWTab
import Derived.Test.YtaiallgcobpkaaaWFour
import Derived.Test.YtaiallgcobpkaaaWQPut
import Derived.Test.YtaiallgcobpkaaaWApart
import Derived.Test.YtaiallgcobpkaaaWArr
import Derived.Test.YtaiallgcobpkaaaWZeros
import Derived.Test.YtaiallgcobpkaaaWFoot
import Derived.Test.YtaiallgcobpkaaaWKept
import Derived.Test.YtaiallgcobpkaaaWShare
import Derived.Test.YtaiallgcobpkaaaWN
import Derived.Test.YtaiallgcobpkaaaWFootNe
import Derived.Test.YtaiallgcobpkaaaWAt
import Derived.Test.YtaiallgcobpkaaaWEqStruct
import Derived.Test.YtaiallgcobpkaaaWRepsOne
import Derived.Test.YtaiallgcobpkaaaWInv
import Derived.Test.YtaiallgcobpkaaaWInvWords
import Derived.Test.YtaiallgcobpkaaaWGuard
import Derived.Test.YtaiallgcobpkaaaWNEv
import Derived.Test.YtaiallgcobpkaaaWMore
namespace Go.Proofs.Ytaiallgcobpkaaa.MWirePlays
open Go.RowKit Go.Proofs.Ytaiallgcobpkaaa Go.Proofs.YtaiallgcobpkaaaW.PrintWords Go.Proofs.YtaiallgcobpkaaaW.PrintLast Go.Proofs.YtaiallgcobpkaaaW.PrintMore
attribute [local go_sem] max2_int min2_int max_two min_two max_three min_three max_four min_four   -- for this text's walks alone
set_option linter.unusedVariables false
set_option linter.unusedSimpArgs false



theorem own_len (A : Option Addr) (n m c : Nat) : (Value.slice A n c).ownBlock = (Value.slice A m c).ownBlock := by cases A <;> rfl
def errW : Option Int → Value
  | none => .nilIface
  | some c => .iface 0 (.int .i64 c)
theorem errW_none : errW none = .nilIface := rfl
theorem errW_some (c : Int) : errW (some c) = .iface 0 (.int .i64 c) := rfl

theorem info4 : (Try.prog.info? 4).map (fun i => (i.zero, i.size, i.bytes)) = some (some (.bool false), 1, 1) := by kernel_rfl
theorem info39 : (Try.prog.info? 39).map (fun i => (i.zero, i.size, i.bytes)) = some (some (.agg #[(.int .u8 0), (.int .u8 0), (.slice none 0 0)]), 3, 32) := by kernel_rfl
-- the values' own types

end Go.Proofs.Ytaiallgcobpkaaa.MWirePlays
