/- MachineNone: what it comes to. -/
import Derived.Test.YtnifppgodgcoaaaAwake
set_option linter.unusedVariables false
namespace Go.Ph
/- pluginhost/pluginhostlaw23.MachineNone -/
noncomputable def e7 : Entry := aloneE Go.Proofs.Try.prog fuel 7 [some .bool] [e15, e11, e16, e17, e12, e14, k10] [] Go.Proofs.Try.f7
theorem ok7 : EntryOk Go.Proofs.Try.prog e7 := single_ok mixed (.cons ok15 (.cons ok11 (.cons ok16 (.cons ok17 (.cons ok12 (.cons ok14 (.cons ok10k .nil))))))) Go.Proofs.Try.func7 (by kernel_rfl)
theorem none_ev (fuel trap v : Int) : e7.spec [.int .i64 fuel, .int .i64 trap, .int .u64 v] ⟨[], 0⟩ Bool boolK = some true := by kernel_rfl
end Go.Ph
