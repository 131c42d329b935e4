/- MachineCalculates: what some operations come to. -/
import Derived.Test.YtnifppgodgcoaaaCalcA
set_option linter.unusedVariables false
namespace Go.Ph
theorem g15 (u0 u2 u3 u16 u17 u18 u19 u20 u21 u22 u23 u24 : AV) (a b : Nat) : G5 (st5 (ini5 u0 (.int .u64 (.ofNat a)) u2 u3) u16 u17 u18 u19 u20 (.int .u64 (.ofNat b)) u21 u22 u23 u24 (.int .i64 15)) = cond ((Int.ofNat b == 0) == true) (R5 15 (.ofNat a) (.ofNat b)) (R5 15 (.ofNat a) (.ofNat b)) := by kernel_rfl
theorem g16 (u0 u2 u3 u16 u17 u18 u19 u20 u21 u22 u23 u24 : AV) (a b : Nat) : G5 (st5 (ini5 u0 (.int .u64 (.ofNat a)) u2 u3) u16 u17 u18 u19 u20 (.int .u64 (.ofNat b)) u21 u22 u23 u24 (.int .i64 16)) = cond ((Int.ofNat b == 0) == true) (R5 16 (.ofNat a) (.ofNat b)) (R5 16 (.ofNat a) (.ofNat b)) := by kernel_rfl
theorem g17 (u0 u2 u3 u16 u17 u18 u19 u20 u21 u22 u23 u24 : AV) (a b : Nat) : G5 (st5 (ini5 u0 (.int .u64 (.ofNat a)) u2 u3) u16 u17 u18 u19 u20 (.int .u64 (.ofNat b)) u21 u22 u23 u24 (.int .i64 17)) = cond ((Int.ofNat b == 0) == true) (R5 17 (.ofNat a) (.ofNat b)) (R5 17 (.ofNat a) (.ofNat b)) := by kernel_rfl
end Go.Ph
