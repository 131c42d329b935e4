/- LifecycleNone: what it comes to. -/
import Derived.Test.YtfnagbpaolklgaaGreatAwake
import Derived.Below
set_option linter.unusedVariables false
noncomputable section
namespace Go.Ph
open Go.RowKit
/- pluginhost/pluginhostref24.SameCalls -/
noncomputable def e31 : Entry := aloneE Go.Proofs.Tryz.prog fuel 31 [some .bool] [] [] Go.Proofs.Tryz.f31
theorem ok31 : EntryOk Go.Proofs.Tryz.prog e31 := single_ok mixed .nil Go.Proofs.Tryz.func31 (by kernel_rfl)
/- pluginhost/pluginhostref24.SameStep -/
noncomputable def e7 : Entry := aloneE Go.Proofs.Tryz.prog fuel 7 [some .bool] [e31] [] Go.Proofs.Tryz.f7
theorem ok7 : EntryOk Go.Proofs.Tryz.prog e7 := single_ok mixed (.cons ok31 .nil) Go.Proofs.Tryz.func7 (by kernel_rfl)
/- (*pluginhost/machine.Machine).Stop -/
noncomputable def e35 : Entry := plainE Go.Proofs.Tryz.prog fuel 35 [e76] [] Go.Proofs.Tryz.f35
theorem ok35 : EntryOk Go.Proofs.Tryz.prog e35 := plain_ok mixed (.cons ok76 .nil) Go.Proofs.Tryz.func35 (by kernel_rfl)
/- (*pluginhost/lifecycle.Plugin).Stop -/
noncomputable def e9 : Entry := plainE Go.Proofs.Tryz.prog fuel 9 [e35] [] Go.Proofs.Tryz.f9
theorem ok9 : EntryOk Go.Proofs.Tryz.prog e9 := plain_ok mixed (.cons ok35 .nil) Go.Proofs.Tryz.func9 (by kernel_rfl)
/- (*pluginhost/lifecycle.Plugin).Status -/
noncomputable def e11 : Entry := plainE Go.Proofs.Tryz.prog fuel 11 [e30, e34] [] Go.Proofs.Tryz.f11
theorem ok11 : EntryOk Go.Proofs.Tryz.prog e11 := plain_ok mixed (.cons ok30 (.cons ok34 .nil)) Go.Proofs.Tryz.func11 (by kernel_rfl)
/- (*pluginhost/lifecycle.Plugin).Tags -/
noncomputable def e12 : Entry := plainE Go.Proofs.Tryz.prog fuel 12 [e36] [] Go.Proofs.Tryz.f12
theorem ok12 : EntryOk Go.Proofs.Tryz.prog e12 := plain_ok mixed (.cons ok36 .nil) Go.Proofs.Tryz.func12 (by kernel_rfl)
/- pluginhost/pluginhostlaw25.LifecycleNone -/
noncomputable def e3 : Entry := aloneE Go.Proofs.Tryz.prog fuel 3 [some .bool] [k6, e7, e8, e9, e10, e11, e12] [] Go.Proofs.Tryz.f3
theorem ok3 : EntryOk Go.Proofs.Tryz.prog e3 := single_ok mixed (.cons ok6k (.cons ok7 (.cons ok8 (.cons ok9 (.cons ok10 (.cons ok11 (.cons ok12 .nil))))))) Go.Proofs.Tryz.func3 (by kernel_rfl)
theorem none_cond (fuel trap : Int) (l : List Int) : e3.spec [.int .i64 fuel, .int .i64 trap, .fz (.int .u64) l false] ⟨[], 0⟩ Bool boolK = cond (decide ((l.length : Int) > 20)) (some true) (some true) := by kernel_rfl
theorem none_ev (fuel trap : Int) (l : List Int) : e3.spec [.int .i64 fuel, .int .i64 trap, .fz (.int .u64) l false] ⟨[], 0⟩ Bool boolK = some true := by
  rw [none_cond]
  cases decide ((l.length : Int) > 20) <;> rfl

/-- What was there lies as it lay. -/
theorem spec_below {P : Program} {f : Nat} {S : Spec} {q t c : Bool} (hS : SpecTo P f S q t c) {args : List AV} {b : Bool} (hk : S args ⟨[], 0⟩ Bool boolK = some b) (vs : Array Value) (w : World) (hv : VCells (Old w) (fun _ => none) 0 w args vs.toList) :
    Calls P f vs w fun e w' => e = .returned (.bool b) ∧ Below w.heap.size w w' := by
  obtain ⟨r, h', hz, _, _, _, hf⟩ := hS.to_ _ _ _ _ _ hk
  cases r with
  | bool b' =>
    simp only [boolK, Option.some.injEq] at hz
    subst hz
    refine (hf (fun _ => False) (fun _ => none) w vs (rel_empty w) hv).mono ?_
    rintro e w' ⟨φ', v, rfl, g, hs⟩
    cases hs
    exact ⟨rfl, g.evo.os, g.evo.tape, g.evo.output, g.evo.size, fun b hb => g.evo.keep b hb fun id l h => (by cases h)⟩
  | _ => cases hz
end Go.Ph
end
