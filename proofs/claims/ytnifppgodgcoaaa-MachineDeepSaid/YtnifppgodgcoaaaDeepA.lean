/- MachineDeep: the loop of Run. -/
import Derived.Test.YtnifppgodgcoaaaDeepTab
set_option linter.unusedVariables false
noncomputable section
namespace Go.Ph

def fstC : Code → Code
  | .seq a _ => a
  | c => c

def sndC : Code → Code
  | .seq _ b => b
  | c => c

def inC : Code → Code
  | .block _ c => c
  | .loop c => c
  | .cond _ a _ => a
  | c => c

theorem seq_run {Z : Type} {C : Ctx} {norm : Nat → Norm} {fl p p1 p2 : Nat} {x y : Code} {a a' : Act'} {h h' : AH} {k : Ex → Act' → AH → Option Z} (h1 : p1 = 2 * p) (h2 : p2 = 2 * p + 1)
    (hx : ∀ k : Ex → Act' → AH → Option Z, runCode C norm fl p1 x a h k = k .normal a' h') : runCode C norm fl p (.seq x y) a h k = runCode C norm fl p2 y a' h' k := by
  subst h1; subst h2
  simp only [runCode, hx]

theorem cond_run {Z : Type} {C : Ctx} {norm : Nat → Norm} {fl p p1 p2 : Nat} {c : Operand} {b : Bool} {x y : Code} {a : Act'} {h : AH} {k : Ex → Act' → AH → Option Z} (h1 : p1 = 2 * p) (h2 : p2 = 2 * p + 1)
    (hc : evalA a c = .bool b) : runCode C norm fl p (.cond c x y) a h k = cond b (runCode C norm fl p1 x a h k) (runCode C norm fl p2 y a h k) := by
  subst h1; subst h2
  simp only [runCode, hc]

theorem skip_run {Z : Type} {C : Ctx} {norm : Nat → Norm} {fl p : Nat} {a : Act'} {h : AH} {k : Ex → Act' → AH → Option Z} : runCode C norm fl p .skip a h k = k .normal a h := by
  simp only [runCode]

noncomputable abbrev c11 : Ctx := ctxOf Go.Proofs.Try.prog [e25, e26, e27, e28] []
def nrm11 : Nat → Norm := fun _ => canon 3 [0, 1, 4, 5]
noncomputable def run11 : Spec := runFn c11 (fun n0 _ => canon n0 [0, 1, 4, 5]) fuel Go.Proofs.Try.f11
theorem run11_ok : SpecTo Go.Proofs.Try.prog 11 run11 false false :=
  norm_fn_ok mixed (.cons ok25 (.cons ok26 (.cons ok27 (.cons ok28 .nil)))) Go.Proofs.Try.func11 (by kernel_rfl) (fun n _ => canon_ok n _)

noncomputable def body11 : Code := Go.Proofs.Try.f11.body.getD .skip
noncomputable def loop11 : Code := inC (inC (fstC (sndC (sndC body11))))

/-- What comes behind a round. -/
def nextK {Z : Type} (norm : Norm) (go : Act' → AH → Option Z) (k : Ex → Act' → AH → Option Z) : Ex → Act' → AH → Option Z := fun e a h => match e with
  | .normal => (match norm a h with
    | some (a, h) => go a h
    | none => none)
  | e => k e a h

/-- A round, and those behind it. -/
def roundK {Z : Type} (C : Ctx) (norm : Nat → Norm) (fl p : Nat) (c : Code) : Nat → Act' → AH → (Ex → Act' → AH → Option Z) → Option Z
  | 0, a, h, k => runCode C norm fl (2 * p) c a h fun e a h => match e with
    | .normal => none
    | e => k e a h
  | n + 1, a, h, k => runCode C norm fl (2 * p) c a h (nextK (norm p) (fun a h => roundK C norm fl p c n a h k) k)

theorem iter_round {Z : Type} {C : Ctx} {norm : Nat → Norm} {fl p : Nat} {c : Code} {k : Ex → Act' → AH → Option Z} : ∀ (n : Nat) (a : Act') (h : AH),
    iter (fun a h k => runCode C norm fl (2 * p) c a h k) (norm p) (n + 1) a h k = match norm p a h with
      | some (a, h) => roundK C norm fl p c n a h k
      | none => none
  | 0, a, h => by
    simp only [iter, roundK]
    rfl
  | n + 1, a, h => by
    rw [iter]
    have : (fun (e : Ex) (a : Act') (h : AH) => match e with
        | .normal => iter (fun a h k => runCode C norm fl (2 * p) c a h k) (norm p) (n + 1) a h k
        | e => k e a h) = nextK (norm p) (fun a h => roundK C norm fl p c n a h k) k := by
      funext e a h
      cases e with
      | normal => exact iter_round n a h
      | _ => rfl
    cases hn : norm p a h with
    | none => rfl
    | some x =>
      simp only [roundK]
      exact congrArg (runCode C norm fl (2 * p) c x.1 x.2) this

theorem round_step {Z : Type} {C : Ctx} {norm : Nat → Norm} {fl p : Nat} {c : Code} {k : Ex → Act' → AH → Option Z} {n : Nat} {a a' : Act'} {h h' : AH}
    (hs : ∀ (go : Act' → AH → Option Z) (k : Ex → Act' → AH → Option Z), runCode C norm fl (2 * p) c a h (nextK (norm p) go k) = go a' h') : roundK C norm fl p c (n + 1) a h k = roundK C norm fl p c n a' h' k := by
  simp only [roundK, hs]

abbrev FT : Ty := .pair (.int .i64) (.pair (.int .i64) (.pair (.int .i64) (.int .i64)))
abbrev UT : Ty := .int .u64
abbrev TT : Ty := .pair (.int .i64) (.sl (.pair (.int .i64) (.int .i64)))
abbrev CT : Ty := .pair (.int .i64) (.pair (.int .i64) (.pair (.int .i64) (.sl (.pair (.int .i64) (.int .u64)))))

/-- The functions of the law's module. -/
abbrev code_ (d : Int) : List CT.D := [(0, 0, 1, [(1, d), (21, 1), (3, 0), (25, 0)]), (1, 1, 0, [(2, 0), (20, 7), (2, 0), (1, 1), (7, 0), (21, 1), (22, 0), (1, 9), (22, 0)])]

/-- The machine's own cells. -/
abbrev mach (n d state trap : Int) (fr st : Nat) : Row := .raw [.fz TT [] false, .fz CT (code_ d) false, .int .i64 n, .int .i64 1000, .int .i64 state, .int .i64 trap, .own fr, .own st, .int .i64 0, .nils]
abbrev act (used : Int) : Act' := ⟨((((PT.mk_ .dead 9).put (.ptr 0 0 0) 0).put (.int .i64 10000) 1).put (.int .i64 0) 4).put (.int .i64 used) 5, 46⟩
abbrev heap0 (n d : Int) : AH := ⟨[(0, mach n d 1 0 1 2), (1, .typ FT [(0, 0, 0, 1)]), (2, .typ UT [0])], 3⟩
abbrev heap1 (n d : Int) : AH := ⟨[(0, mach n d 1 0 1 3), (1, .typ FT [(0, 1, 0, 1)]), (3, .typ UT [0, d])], 4⟩
abbrev heapD (n d state trap : Int) (fr : List FT.D) (st : List Int) : AH := ⟨[(0, mach n d state trap 3 4), (3, .typ FT fr), (4, .typ UT st)], 5⟩

section
variable (n d : Int) {Z : Type} (go : Act' → AH → Option Z) (k : Ex → Act' → AH → Option Z)
theorem s0 : runCode c11 nrm11 fuel 56 loop11 (act 0) (heap0 n d) (nextK (nrm11 28) go k) = go (act 1) (heap1 n d) := by kernel_rfl
end
end Go.Ph
end
