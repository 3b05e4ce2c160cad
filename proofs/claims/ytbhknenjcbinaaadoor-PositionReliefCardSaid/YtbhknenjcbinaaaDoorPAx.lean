-- Written by a program of this claim (wip/tools: mkprint.py, pr.sh) out of the translation: plain functions and their contracts. Lean checks every line.
import Derived.Test.YtbhknenjcbinaaaDoorPAx0
import Derived.Test.YtbhknenjcbinaaaDoorPAx1
import Derived.Test.YtbhknenjcbinaaaDoorPAx2
namespace Go.Proofs.YtbhknenjcbinaaaDoor.PA
open Go.RowKit Go.Proofs.YtbhknenjcbinaaaDoorW.PrintWords Go.Proofs.YtbhknenjcbinaaaDoorW.PrintLast Go.Proofs.YtbhknenjcbinaaaDoorW.PrintMore
attribute [local go_sem] max2_int min2_int max_two min_two max_three min_three max_four min_four   -- for this text's walks alone
set_option linter.unusedVariables false
set_option linter.unusedSimpArgs false

end Go.Proofs.YtbhknenjcbinaaaDoor.PA
