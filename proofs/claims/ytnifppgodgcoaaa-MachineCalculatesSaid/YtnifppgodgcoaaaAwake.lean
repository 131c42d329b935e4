/- The example of the chapter. -/
import Derived.Test.YtnifppgodgcoaaaTab
set_option linter.unusedVariables false
namespace Go.Ph
theorem awake_ev : e10.spec [] ⟨[], 0⟩ Bool boolK = some true := by kernel_rfl
noncomputable def k10 : Entry := ⟨10, constS true, true, true⟩
theorem ok10k : EntryOk Go.Proofs.Try.prog k10 := const_ok ok10 awake_ev
end Go.Ph
