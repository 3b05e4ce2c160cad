/- What 'Of' answers inside its bounds. -/
import Derived.Test.YtbhknenjcbinaaaDoorE1
namespace Go.Proofs.YtbhknenjcbinaaaDoor.E
set_option linter.unusedVariables false
set_option linter.unusedSimpArgs false
open Go.RowKit Go.Proofs.YtbhknenjcbinaaaDoorW.PrintWords Go.Proofs.YtbhknenjcbinaaaDoorW.PrintLast Go.Proofs.YtbhknenjcbinaaaDoorW.PrintMore Go.Proofs.YtbhknenjcbinaaaDoor.PA Go.Proofs.YtbhknenjcbinaaaDoor.G Go.Proofs.YtbhknenjcbinaaaDoor.PB

/-- What 'Of' answers inside its bounds. -/
theorem of_in (p d r : Int) (h1 : 1 ≤ p) (h2 : p ≤ 13) (d0 : 0 ≤ d) (d1 : d ≤ 64000000000000) (r0 : 0 ≤ r) (r1 : r ≤ 1000000000000) :
    position_Of.f p d r = some (if cls p = 1 then (d - sec p d r, sec p d r, 0, 0, 0) else if cls p = 3 then (0, 0, d, 0, 0) else if cls p = 4 then (0, 0, 0, d, 0) else (d, 0, 0, 0, 0)) := by
  unfold position_Of.f
  rw [if_neg (by unfold outside; omega)]
  (repeat' split) <;> rfl

end Go.Proofs.YtbhknenjcbinaaaDoor.E
