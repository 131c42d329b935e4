/- The example of the chapter. -/
import Derived.Test.YtfnagbpaolklgaaGreatRest
set_option linter.unusedVariables false
noncomputable section
namespace Go.Ph
theorem awake_ev : e6.spec [] ⟨[], 0⟩ Bool boolK = some true := by kernel_rfl
noncomputable def k6 : Entry := ⟨6, constS true, true, true, noIter, false⟩
theorem ok6k : EntryOk Go.Proofs.Tryz.prog k6 := ⟨const_ok ok6.1 awake_ev, noIter_ok _ _⟩
end Go.Ph
end
