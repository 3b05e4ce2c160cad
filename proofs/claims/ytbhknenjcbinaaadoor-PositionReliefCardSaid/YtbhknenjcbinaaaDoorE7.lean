/- What the given rows lay at package level, as the contracts by hand ask for it. -/
import Derived.Test.YtbhknenjcbinaaaDoorRows
import Derived.Test.YtbhknenjcbinaaaDoorG1
import Derived.Lib.LaidTab
import Derived.OpenShut
import Derived.ProofKit
import Derived.LaidMore
namespace Go.Proofs.YtbhknenjcbinaaaDoor.E
set_option linter.unusedVariables false
set_option linter.unusedSimpArgs false
open Go.RowKit Go.Proofs.YtbhknenjcbinaaaDoor.G

theorem gLens : Tryd.prog.globalNamed "customs/calendar.lengths" = some 1 := by kernel_rfl
theorem tLens : (Tryd.prog.globals[1]?).map (·.type) = some 66 := by kernel_rfl
theorem gl_of_met {W : World} {rest : List (String × DataW Unit)} (h : laidMet Tryd.prog (("customs/calendar.lengths", Lib.tabData .i64 lens) :: rest) W) : GL W := by
  have ht := Lib.tabIs_of_head (e := 3) (n := 12) gLens tLens Tryd.underlying66 Tryd.underlying3 (by kernel_rfl) (by kernel_rfl) h
  exact ⟨fun i hi => ht.cell gLens i (by simpa [lens] using hi)⟩
theorem gl_1 {W : World} (h : laidMetH Tryd.prog [("customs/calendar.lengths", Rows.laid_customs_calendar_lengths)] W) : GL W := by
  rw [MakeChecks.laidMetH_plain _ _ _ (by kernel_rfl)] at h
  exact gl_of_met (rest := []) h

end Go.Proofs.YtbhknenjcbinaaaDoor.E
