/- MachineDeep: up to the run. -/
import Derived.Test.YtnifppgodgcoaaaDeepG
set_option linter.unusedVariables false
noncomputable section
namespace Go.Ph.Deep
open Go.Ph
theorem pre_6 (S : Spec) (u0 u13 u14 u15 u17 u18 : AV) (depth : Int) (d m : Nat) : runCode (c6 S) nid fuel 15 tail6 (jb6 (ja6 (ini6 u0 (.int .u8 depth)) u13 u14 u15 (.ofNat (m + 1))) u17 u18 (.ofNat d)) ⟨[], 0⟩ K6 =
    cond ((decide (Int.ofNat (m + 1) > 256)) == false) (runCode (c6 S) nid fuel 255 rest6 (L6 u0 u13 u14 u15 u17 u18 depth (.ofNat (m + 1)) (.ofNat d)) (H6 (.ofNat (m + 1)) (.ofNat d)) K6) (some false) := by kernel_rfl
end Go.Ph.Deep
end
