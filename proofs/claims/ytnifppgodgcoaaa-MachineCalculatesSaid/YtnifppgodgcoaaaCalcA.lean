/- MachineCalculates: the law's text, cut where the operation is known. -/
import Derived.Test.YtnifppgodgcoaaaAwake
set_option linter.unusedVariables false
namespace Go.Ph
/- pluginhost/pluginhostlaw23.MachineCalculates -/
noncomputable def e5 : Entry := plainE Go.Proofs.Try.prog fuel 5 [e9, e11, e12, k10] [] Go.Proofs.Try.f5
theorem ok5 : EntryOk Go.Proofs.Try.prog e5 := plain_ok mixed (.cons ok9 (.cons ok11 (.cons ok12 (.cons ok10k .nil)))) Go.Proofs.Try.func5 (by kernel_rfl)
noncomputable abbrev c5 : Ctx := ctxOf Go.Proofs.Try.prog [e9, e11, e12, k10] []

def fstC : Code → Code
  | .seq a _ => a
  | c => c

def sndC : Code → Code
  | .seq _ b => b
  | c => c

def thenC : Code → Code
  | .cond _ a _ => a
  | c => c

def endK (P : Program) (fn : Func) : Ex → Act' → AH → Option Bool := fun e a h' => match e with
  | .exit _ => none
  | _ => match resK P fn a h' with
    | some r => bif Nat.ble 0 h'.next then boolK r h' else none
    | none => none

noncomputable def body5 : Code := Go.Proofs.Try.f5.body.getD .skip
noncomputable def rest5 : Code := sndC (sndC (sndC body5))

abbrev ini5 (u0 u1 u2 u3 : AV) : Act' := [u0, u1, u2, u3] ++ List.replicate 221 .dead
abbrev ja5 (L : Act') (u16 u17 u18 : AV) : Act' := putA (putA (putA (putA L (some 8) (.bool false)) (some 16) u16) (some 17) u17) (some 18) u18
abbrev jb5 (L : Act') (u19 u20 u2 : AV) : Act' := putA (putA (putA L (some 19) u19) (some 20) u20) (some 2) u2
abbrev jc5 (L : Act') (u21 u22 u23 u24 u9 : AV) : Act' := putA (putA (putA (putA (putA L (some 21) u21) (some 22) u22) (some 23) u23) (some 24) u24) (some 9) u9

/-- The rest, once the operation and the second number are known. -/
noncomputable def G5 (L : Act') : Option Bool := runCode c5 (fun _ a h => some (a, h)) fuel 15 rest5 L ⟨[], 0⟩ (endK Go.Proofs.Try.prog Go.Proofs.Try.f5)

abbrev opK5 (op : Int) : Int := IntKind.i64.wrap (6 + IntKind.i64.wrap (op.tmod 12))

theorem seq_run {Z : Type} {C : Ctx} {norm : Nat → Norm} {fl p p1 p2 : Nat} {x y : Code} {a a' : Act'} {h h' : AH} {k : Ex → Act' → AH → Option Z} (h1 : p1 = 2 * p) (h2 : p2 = 2 * p + 1)
    (hx : ∀ k : Ex → Act' → AH → Option Z, runCode C norm fl p1 x a h k = k .normal a' h') : runCode C norm fl p (.seq x y) a h k = runCode C norm fl p2 y a' h' k := by
  subst h1; subst h2
  simp only [runCode, hx]

theorem cond_run {Z : Type} {C : Ctx} {norm : Nat → Norm} {fl p p1 p2 : Nat} {c : Operand} {b : Bool} {x y : Code} {a : Act'} {h : AH} {k : Ex → Act' → AH → Option Z} (h1 : p1 = 2 * p) (h2 : p2 = 2 * p + 1)
    (hc : evalA a c = .bool b) : runCode C norm fl p (.cond c x y) a h k = cond b (runCode C norm fl p1 x a h k) (runCode C norm fl p2 y a h k) := by
  subst h1; subst h2
  simp only [runCode, hc]

theorem skip_run {Z : Type} {C : Ctx} {norm : Nat → Norm} {fl p : Nat} {a : Act'} {h : AH} {k : Ex → Act' → AH → Option Z} : runCode C norm fl p .skip a h k = k .normal a h := by
  simp only [runCode]

section
variable (k : Ex → Act' → AH → Option Bool)
theorem r0_5 (L : Act') (h : AH) : runCode c5 (fun _ a h => some (a, h)) fuel 2 (fstC body5) L h k = k .normal (putA L (some 8) (.bool false)) h := by kernel_rfl
theorem r1_5 (u0 u1 u2 : AV) (near : Int) (h : AH) : runCode c5 (fun _ a h => some (a, h)) fuel 12 (fstC (fstC (sndC body5))) (putA (ini5 u0 u1 u2 (.int .u8 near)) (some 8) (.bool false)) h k =
    k .normal (ja5 (ini5 u0 u1 u2 (.int .u8 near)) (.int .u8 near) (.int .u8 (near.tmod 3)) (.bool (near.tmod 3 == 0))) h := by kernel_rfl
theorem r2_5 (u0 u1 u3 u16 u17 u18 : AV) (b : Int) (h : AH) : runCode c5 (fun _ a h => some (a, h)) fuel 26 (thenC (sndC (fstC (sndC body5)))) (ja5 (ini5 u0 u1 (.int .u64 b) u3) u16 u17 u18) h k =
    k .normal (jb5 (ja5 (ini5 u0 u1 (.int .u64 b) u3) u16 u17 u18) (.int .u64 b) (.int .u64 (b.tmod 70)) (.int .u64 (b.tmod 70))) h := by kernel_rfl
theorem r3_5 (u1 u2 u2' u3 u16 u17 u18 u19 u20 : AV) (op : Int) (h : AH) : runCode c5 (fun _ a h => some (a, h)) fuel 14 (fstC (sndC (sndC body5))) (jb5 (ja5 (ini5 (.int .u8 op) u1 u2 u3) u16 u17 u18) u19 u20 u2') h k =
    k .normal (jc5 (jb5 (ja5 (ini5 (.int .u8 op) u1 u2 u3) u16 u17 u18) u19 u20 u2') (.int .u8 op) (.int .u8 (op.tmod 12)) (.int .i64 (IntKind.i64.wrap (op.tmod 12))) (.int .i64 (opK5 op)) (.int .i64 (opK5 op))) h := by kernel_rfl
end

theorem putA_self (L : Act') (i : Nat) (h : i < L.length) : putA L (some i) (AV.at_ L i) = L := by
  simp only [putA, AV.at_]
  apply List.ext_getElem?
  intro j
  rw [List.getElem?_set]
  split
  · rename_i hj
    subst hj
    simp [h]
  · rfl

/-- The rest's start. -/
abbrev st5 (L : Act') (u16 u17 u18 u19 u20 u2 u21 u22 u23 u24 u9 : AV) : Act' := jc5 (jb5 (ja5 L u16 u17 u18) u19 u20 u2) u21 u22 u23 u24 u9

theorem start5 (op a b near : Int) : e5.spec [.int .u8 op, .int .u64 a, .int .u64 b, .int .u8 near] ⟨[], 0⟩ Bool boolK =
    runCode c5 (fun _ a h => some (a, h)) fuel 1 body5 (ini5 (.int .u8 op) (.int .u64 a) (.int .u64 b) (.int .u8 near)) ⟨[], 0⟩ (endK Go.Proofs.Try.prog Go.Proofs.Try.f5) := by kernel_rfl

theorem body5_eq : body5 = .seq (fstC body5) (.seq (.seq (fstC (fstC (sndC body5))) (.cond (.tmp 18) (thenC (sndC (fstC (sndC body5)))) .skip)) (.seq (fstC (sndC (sndC body5))) rest5)) := by kernel_rfl

theorem near5 (op a b near : Int) : evalA (ja5 (ini5 (.int .u8 op) (.int .u64 a) (.int .u64 b) (.int .u8 near)) (.int .u8 near) (.int .u8 (near.tmod 3)) (.bool (near.tmod 3 == 0))) (.tmp 18) = .bool (near.tmod 3 == 0) := by kernel_rfl

theorem len5 (op a b near : Int) (u : AV) : (ja5 (ini5 (.int .u8 op) (.int .u64 a) (.int .u64 b) (.int .u8 near)) (.int .u8 near) (.int .u8 (near.tmod 3)) u).length = 225 := by kernel_rfl
theorem at19 (op a b near : Int) (u : AV) : AV.at_ (ja5 (ini5 (.int .u8 op) (.int .u64 a) (.int .u64 b) (.int .u8 near)) (.int .u8 near) (.int .u8 (near.tmod 3)) u) 19 = .dead := by kernel_rfl
theorem at20 (op a b near : Int) (u : AV) : AV.at_ (ja5 (ini5 (.int .u8 op) (.int .u64 a) (.int .u64 b) (.int .u8 near)) (.int .u8 near) (.int .u8 (near.tmod 3)) u) 20 = .dead := by kernel_rfl
theorem at2 (op a b near : Int) (u : AV) : AV.at_ (ja5 (ini5 (.int .u8 op) (.int .u64 a) (.int .u64 b) (.int .u8 near)) (.int .u8 near) (.int .u8 (near.tmod 3)) u) 2 = .int .u64 b := by kernel_rfl

theorem pad5 {L : Act'} {b : Int} (hlen : L.length = 225) (h19 : AV.at_ L 19 = .dead) (h20 : AV.at_ L 20 = .dead) (h2 : AV.at_ L 2 = .int .u64 b) : jb5 L .dead .dead (.int .u64 b) = L := by
  have q1 : putA L (some 19) .dead = L := by rw [← h19]; exact putA_self L 19 (by omega)
  have q2 : putA L (some 20) .dead = L := by rw [← h20]; exact putA_self L 20 (by omega)
  have q3 : putA L (some 2) (.int .u64 b) = L := by rw [← h2]; exact putA_self L 2 (by omega)
  show putA (putA (putA L (some 19) .dead) (some 20) .dead) (some 2) (.int .u64 b) = L
  rw [q1, q2, q3]

theorem G5_eq (L : Act') : G5 L = runCode c5 (fun _ a h => some (a, h)) fuel 15 rest5 L ⟨[], 0⟩ (endK Go.Proofs.Try.prog Go.Proofs.Try.f5) := by
  unfold G5
  exact Eq.refl _

theorem cut5 (op a b near : Int) : ∃ u2 u16 u17 u18 u19 u20 u21 u22 u23 u24 : AV, e5.spec [.int .u8 op, .int .u64 a, .int .u64 b, .int .u8 near] ⟨[], 0⟩ Bool boolK =
    G5 (st5 (ini5 (.int .u8 op) (.int .u64 a) u2 (.int .u8 near)) u16 u17 u18 u19 u20 (.int .u64 (if near.tmod 3 = 0 then b.tmod 70 else b)) u21 u22 u23 u24 (.int .i64 (opK5 op))) := by
  rw [start5, body5_eq]
  rw [seq_run (p1 := 2) (p2 := 3) rfl rfl (fun k => r0_5 k _ _)]
  by_cases hn : near.tmod 3 = 0
  · rw [if_pos hn]
    have hb : (near.tmod 3 == 0) = true := by simp [hn]
    refine ⟨.int .u64 b, .int .u8 near, .int .u8 (near.tmod 3), .bool (near.tmod 3 == 0), .int .u64 b, .int .u64 (b.tmod 70), .int .u8 op, .int .u8 (op.tmod 12), .int .i64 (IntKind.i64.wrap (op.tmod 12)), .int .i64 (opK5 op), ?_⟩
    rw [G5_eq]
    refine (seq_run (p1 := 6) (p2 := 7) rfl rfl (a' := jb5 (ja5 (ini5 (.int .u8 op) (.int .u64 a) (.int .u64 b) (.int .u8 near)) (.int .u8 near) (.int .u8 (near.tmod 3)) (.bool (near.tmod 3 == 0))) (.int .u64 b) (.int .u64 (b.tmod 70)) (.int .u64 (b.tmod 70))) (h' := ⟨[], 0⟩) fun k => ?_).trans ?_
    · refine (seq_run (p1 := 12) (p2 := 13) rfl rfl fun k => r1_5 k _ _ _ _ _).trans ?_
      refine (cond_run (p1 := 26) (p2 := 27) rfl rfl (near5 op a b near)).trans ?_
      rw [hb]
      simp only [cond_true]
      rw [← hb]
      exact r2_5 k _ _ _ _ _ _ _ _
    · exact seq_run (p1 := 14) (p2 := 15) rfl rfl fun k => r3_5 k _ _ _ _ _ _ _ _ _ _ _
  · rw [if_neg hn]
    have hb : (near.tmod 3 == 0) = false := by simp [hn]
    refine ⟨.int .u64 b, .int .u8 near, .int .u8 (near.tmod 3), .bool (near.tmod 3 == 0), .dead, .dead, .int .u8 op, .int .u8 (op.tmod 12), .int .i64 (IntKind.i64.wrap (op.tmod 12)), .int .i64 (opK5 op), ?_⟩
    rw [G5_eq]
    refine (seq_run (p1 := 6) (p2 := 7) rfl rfl (a' := jb5 (ja5 (ini5 (.int .u8 op) (.int .u64 a) (.int .u64 b) (.int .u8 near)) (.int .u8 near) (.int .u8 (near.tmod 3)) (.bool (near.tmod 3 == 0))) .dead .dead (.int .u64 b)) (h' := ⟨[], 0⟩) fun k => ?_).trans ?_
    · refine (seq_run (p1 := 12) (p2 := 13) rfl rfl fun k => r1_5 k _ _ _ _ _).trans ?_
      refine (cond_run (p1 := 26) (p2 := 27) rfl rfl (near5 op a b near)).trans ?_
      rw [hb]
      simp only [cond_false]
      rw [← hb, skip_run, pad5 (len5 op a b near _) (at19 op a b near _) (at20 op a b near _) (at2 op a b near _)]
    · exact seq_run (p1 := 14) (p2 := 15) rfl rfl fun k => r3_5 k _ _ _ _ _ _ _ _ _ _ _


abbrev notW (x : Int) : Int := IntKind.u64.wrap (BitVec.ofInt 64 (if IntKind.u64.signed then -1 else IntKind.u64.max) ^^^ BitVec.ofInt 64 x).toNat

/-- What the law makes of the result. -/
def R5 (k : Nat) (a b : Int) : Option Bool :=
  match k with
  | 6 => some (IntKind.u64.wrap (binV 6 a b - a) == b)
  | 7 => some (IntKind.u64.wrap (binV 7 a b + b) == a)
  | 8 => some (binV 8 a b == IntKind.u64.wrap (a * b))
  | 9 => some (binV 9 a b == IntKind.u64.wrap (a.tdiv b))
  | 10 => cond (decide (binV 10 a b < b) == true) (cond (((IntKind.u64.wrap (a - binV 10 a b)).tmod b == 0) == true) (some (decide (binV 10 a b ≤ a))) (some false)) (some false)
  | 11 => some (binV 11 a b == notW (IntKind.u64.wrap (BitVec.ofInt 64 (notW a) ||| BitVec.ofInt 64 (notW b)).toNat))
  | 12 => some (binV 12 a b == notW (IntKind.u64.wrap (BitVec.ofInt 64 (notW a) &&& ~~~ BitVec.ofInt 64 b).toNat))
  | 13 => some (IntKind.u64.wrap (BitVec.ofInt 64 (binV 13 a b) ^^^ BitVec.ofInt 64 b).toNat == a)
  | 14 => cond (decide (b < 64)) (some (binV 14 a b == IntKind.u64.wrap (a * 2 ^ (min b.toNat 64)))) (some (binV 14 a b == 0))
  | 15 => cond (decide (b < 64)) (some (binV 15 a b == a.fdiv (2 ^ (min b.toNat 64)))) (some (binV 15 a b == 0))
  | 16 => cond (a == b) (some (binV 16 a b == 1)) (some (binV 16 a b == 0))
  | _ => cond (decide (a < b)) (some (binV 17 a b == 1)) (some (binV 17 a b == 0))
end Go.Ph
