/- MachineCalculates: what some operations come to. -/
import Derived.Test.YtnifppgodgcoaaaCalcA
set_option linter.unusedVariables false
namespace Go.Ph
theorem g6 (u0 u2 u3 u16 u17 u18 u19 u20 u21 u22 u23 u24 : AV) (a b : Nat) : G5 (st5 (ini5 u0 (.int .u64 (.ofNat a)) u2 u3) u16 u17 u18 u19 u20 (.int .u64 (.ofNat b)) u21 u22 u23 u24 (.int .i64 6)) = cond ((Int.ofNat b == 0) == true) (R5 6 (.ofNat a) (.ofNat b)) (R5 6 (.ofNat a) (.ofNat b)) := by kernel_rfl
theorem g7 (u0 u2 u3 u16 u17 u18 u19 u20 u21 u22 u23 u24 : AV) (a b : Nat) : G5 (st5 (ini5 u0 (.int .u64 (.ofNat a)) u2 u3) u16 u17 u18 u19 u20 (.int .u64 (.ofNat b)) u21 u22 u23 u24 (.int .i64 7)) = cond ((Int.ofNat b == 0) == true) (R5 7 (.ofNat a) (.ofNat b)) (R5 7 (.ofNat a) (.ofNat b)) := by kernel_rfl
theorem g8 (u0 u2 u3 u16 u17 u18 u19 u20 u21 u22 u23 u24 : AV) (a b : Nat) : G5 (st5 (ini5 u0 (.int .u64 (.ofNat a)) u2 u3) u16 u17 u18 u19 u20 (.int .u64 (.ofNat b)) u21 u22 u23 u24 (.int .i64 8)) = cond ((Int.ofNat b == 0) == true) (R5 8 (.ofNat a) (.ofNat b)) (R5 8 (.ofNat a) (.ofNat b)) := by kernel_rfl
theorem g13 (u0 u2 u3 u16 u17 u18 u19 u20 u21 u22 u23 u24 : AV) (a b : Nat) : G5 (st5 (ini5 u0 (.int .u64 (.ofNat a)) u2 u3) u16 u17 u18 u19 u20 (.int .u64 (.ofNat b)) u21 u22 u23 u24 (.int .i64 13)) = cond ((Int.ofNat b == 0) == true) (R5 13 (.ofNat a) (.ofNat b)) (R5 13 (.ofNat a) (.ofNat b)) := by kernel_rfl
end Go.Ph
