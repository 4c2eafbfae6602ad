/- A part of the proof of the given statement that each law names; no condition. Written by a program of this session's own (wip/tools/myprint.py, over the kit's print); Lean checks it. -/
import Derived.Test.YtonhgiclaieamaaMFlagCutsx0
import Derived.Test.YtonhgiclaieamaaMFlagCutsx1
import Derived.Test.YtonhgiclaieamaaMFlagCutsx2
import Derived.Test.YtonhgiclaieamaaMFlagCutsx3
import Derived.Test.YtonhgiclaieamaaMFlagCutsx4
import Derived.Test.YtonhgiclaieamaaMFlagCutsx5
import Derived.Test.YtonhgiclaieamaaMFlagCutsx6
import Derived.Test.YtonhgiclaieamaaMFlagCutsx7
import Derived.Test.YtonhgiclaieamaaMFlagCutsx8
namespace Go.Proofs.Ytonhgiclaieamaa.MFlagCuts
open Go.RowKit Go.Proofs.Ytonhgiclaieamaa Go.Proofs.YtonhgiclaieamaaW.PrintWords Go.Proofs.YtonhgiclaieamaaW.PrintLast Go.Proofs.YtonhgiclaieamaaW.PrintMore
attribute [local go_sem] max2_int min2_int max_two min_two max_three min_three max_four min_four   -- for this text's walks alone
set_option linter.unusedVariables false
set_option linter.unusedSimpArgs false

end Go.Proofs.Ytonhgiclaieamaa.MFlagCuts
