/- MachineCalculates: what some operations come to. -/
import Derived.Test.YtnifppgodgcoaaaCalcA
set_option linter.unusedVariables false
namespace Go.Ph
theorem g9z (u0 u2 u3 u16 u17 u18 u19 u20 u21 u22 u23 u24 : AV) (a : Nat) : G5 (st5 (ini5 u0 (.int .u64 (.ofNat a)) u2 u3) u16 u17 u18 u19 u20 (.int .u64 (.ofNat 0)) u21 u22 u23 u24 (.int .i64 9)) = some true := by kernel_rfl
theorem g9s (u0 u2 u3 u16 u17 u18 u19 u20 u21 u22 u23 u24 : AV) (a n : Nat) : G5 (st5 (ini5 u0 (.int .u64 (.ofNat a)) u2 u3) u16 u17 u18 u19 u20 (.int .u64 (.ofNat (n + 1))) u21 u22 u23 u24 (.int .i64 9)) = R5 9 (.ofNat a) (.ofNat (n + 1)) := by kernel_rfl
theorem g10z (u0 u2 u3 u16 u17 u18 u19 u20 u21 u22 u23 u24 : AV) (a : Nat) : G5 (st5 (ini5 u0 (.int .u64 (.ofNat a)) u2 u3) u16 u17 u18 u19 u20 (.int .u64 (.ofNat 0)) u21 u22 u23 u24 (.int .i64 10)) = some true := by kernel_rfl
theorem g10s (u0 u2 u3 u16 u17 u18 u19 u20 u21 u22 u23 u24 : AV) (a n : Nat) : G5 (st5 (ini5 u0 (.int .u64 (.ofNat a)) u2 u3) u16 u17 u18 u19 u20 (.int .u64 (.ofNat (n + 1))) u21 u22 u23 u24 (.int .i64 10)) = R5 10 (.ofNat a) (.ofNat (n + 1)) := by kernel_rfl
end Go.Ph
