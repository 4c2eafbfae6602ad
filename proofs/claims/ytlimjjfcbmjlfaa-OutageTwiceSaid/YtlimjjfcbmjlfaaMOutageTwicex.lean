/- A part of the proof of the given statement that each law names; no condition. Written by a program of this session's own (wip/tools/myprint.py, over the kit's print); Lean checks it. -/
import Derived.Test.YtlimjjfcbmjlfaaMOutageTwicex0
import Derived.Test.YtlimjjfcbmjlfaaMOutageTwicex1
import Derived.Test.YtlimjjfcbmjlfaaMOutageTwicex2
import Derived.Test.YtlimjjfcbmjlfaaMOutageTwicex3
namespace Go.Proofs.Ytlimjjfcbmjlfaa.MOutageTwice
open Go.RowKit Go.Proofs.Ytlimjjfcbmjlfaa Go.Proofs.YtlimjjfcbmjlfaaW.PrintWords Go.Proofs.YtlimjjfcbmjlfaaW.PrintLast Go.Proofs.YtlimjjfcbmjlfaaW.PrintMore
attribute [local go_sem] max2_int min2_int max_two min_two max_three min_three max_four min_four   -- for this text's walks alone
set_option linter.unusedVariables false
set_option linter.unusedSimpArgs false

end Go.Proofs.Ytlimjjfcbmjlfaa.MOutageTwice
