/- A part of the proof of the given statement that each law names; no condition. Written by a program of this session's own (wip/tools/myprint.py, over the kit's print); Lean checks it. -/
import Derived.Test.YtlimjjfcbmjlfaaProg
import Derived.Below
import Derived.Deep.Draws
import Derived.Deep.AppendLies
import Derived.Maps.AppendAt
import Derived.OwnWalk
import Derived.Laws.BytesArg
import Derived.Laws.MakeOwn
import Derived.Laws.OwnMore
import Derived.Deep.OwnRows
import Derived.Tactics
import Derived.Lib.ConvBytes
import Derived.Laws.Slices
import Derived.WalkKit
import Derived.KernelRfl
import Derived.RowKit3
import Derived.Deep.LoopGhost
import Derived.Deep.QuietTactic
import Derived.BigQuiet
import Derived.WideLaws
import Derived.Deep.DeepCutAuto
import Derived.Deep.CutBlock
import Derived.Deep.RegionHeld3
import Derived.Laws.Rows
import Derived.Lib.AppendStr
import Derived.ArgAppend
import Derived.Laws.IdiomCopy
import Derived.OrdersHeld
import Derived.Laws.BitsLemmas
import Derived.RowKit
import Derived.Lib.SlBytesConst
import Derived.Laws.BitsAllLaws
import Derived.Laws.RangeAny
import Derived.Lib.OthersKept
import Derived.Laws.CopyOwn
import Derived.Test.YtlimjjfcbmjlfaaWWords
import Derived.Test.YtlimjjfcbmjlfaaWLast
import Derived.Test.YtlimjjfcbmjlfaaWTab
import Derived.Test.YtlimjjfcbmjlfaaWFour
import Derived.Test.YtlimjjfcbmjlfaaWQPut
import Derived.Test.YtlimjjfcbmjlfaaWApart
import Derived.Test.YtlimjjfcbmjlfaaWArr
import Derived.Test.YtlimjjfcbmjlfaaWZeros
import Derived.Test.YtlimjjfcbmjlfaaWFoot
import Derived.Test.YtlimjjfcbmjlfaaWKept
import Derived.Test.YtlimjjfcbmjlfaaWShare
import Derived.Test.YtlimjjfcbmjlfaaWN
import Derived.Test.YtlimjjfcbmjlfaaWFootNe
import Derived.Test.YtlimjjfcbmjlfaaWAt
import Derived.Test.YtlimjjfcbmjlfaaWEqStruct
import Derived.Test.YtlimjjfcbmjlfaaWRepsOne
import Derived.Test.YtlimjjfcbmjlfaaWInv
import Derived.Test.YtlimjjfcbmjlfaaWInvWords
import Derived.Test.YtlimjjfcbmjlfaaWGuard
import Derived.Test.YtlimjjfcbmjlfaaWNEv
import Derived.Test.YtlimjjfcbmjlfaaWMore
namespace Go.Proofs.Ytlimjjfcbmjlfaa.MOutageTwice
open Go.RowKit Go.Proofs.Ytlimjjfcbmjlfaa Go.Proofs.YtlimjjfcbmjlfaaW.PrintWords Go.Proofs.YtlimjjfcbmjlfaaW.PrintLast Go.Proofs.YtlimjjfcbmjlfaaW.PrintMore
attribute [local go_sem] max2_int min2_int max_two min_two max_three min_three max_four min_four   -- for this text's walks alone
set_option linter.unusedVariables false
set_option linter.unusedSimpArgs false



theorem own_len (A : Option Addr) (n m c : Nat) : (Value.slice A n c).ownBlock = (Value.slice A m c).ownBlock := by cases A <;> rfl
def errW : Option Int → Value
  | none => .nilIface
  | some c => .iface 0 (.int .i64 c)
theorem errW_none : errW none = .nilIface := rfl
theorem errW_some (c : Int) : errW (some c) = .iface 0 (.int .i64 c) := rfl

-- the values' own types

end Go.Proofs.Ytlimjjfcbmjlfaa.MOutageTwice
