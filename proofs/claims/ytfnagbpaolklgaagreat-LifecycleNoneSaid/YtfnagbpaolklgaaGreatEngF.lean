/- An evaluator of the given program's form, and that it is sound: part 6. -/
import Derived.Test.YtfnagbpaolklgaaGreatEngE
import Derived.RangeFuncIn
import Derived.RangeFuncLeaves
set_option linter.unusedVariables false
noncomputable section
/- Code. -/
namespace Go.Ph
open Go.RowKit

/-- The functions that code calls. -/
def callsOf : Code → List Nat
  | .region _ ops _ => ops.toList.filterMap fun o => match o.op with
    | .call { callee := .value (.func f), .. } => some f
    | _ => none
  | .seq a b => callsOf a ++ callsOf b
  | .cond _ a b => callsOf a ++ callsOf b
  | .block _ c => callsOf c
  | .loop c => callsOf c
  | .rangeFunc _ _ a b => callsOf a ++ callsOf b
  | _ => []

theorem calls_region {C : Ctx} {G : GG} (hY : YldOk C.P C.yld G) {id : Nat} {ops : Array Oper} {d : Bool} (hd : ∀ f, hasBody C.P f = true → EnvOk C f) (h : ∀ f ∈ callsOf (.region id ops d), EnvOk C f) : ∀ o ∈ ops.toList, callsOk C G o := by
  intro o ho
  refine ⟨⟨fun f args argTypes he => ?_, hd⟩, hY⟩
  refine h f ?_
  simp only [callsOf, List.mem_filterMap]
  exact ⟨o, ho, by rw [he]⟩

theorem idN_ok (n p : Nat) : NormOk n (idN p) := by
  intro a h a1 h1 hn Bad φ0 h0 w0 φ w y h0n g ha
  simp only [idN, Option.some.injEq, Prod.mk.injEq] at hn
  obtain ⟨rfl, rfl⟩ := hn
  exact ⟨φ, g, ha⟩

def Ex.exit_ : Ex → Exit
  | .normal => .normal
  | .exit id => .exit id
  | .ret => .ret

/-- What the evaluator says of a piece of code, is so. -/
def CodeTo (P : Program) (G : GG) (n0 : Nat) (inR : Bool) (c : Code) (a : Act') (h : AH) (e : Ex) (aF : Act') (hF : AH) : Prop :=
  ∀ (r : Option Nat) (n : Nat) (Bad : Nat → Prop) (φ0 : Map) (h0 : AH) (w0 : World) (φ : Map) (w : World) (y : Act) (Q : Exit → Act → World → Prop), (inR = false → r = none) → h0.next = n0 → G Bad φ0 h0 w0 → Goes Bad φ0 h0 w0 φ h w → ActSim (Imm Bad φ w) φ h.next w a y →
    (∀ φ' w' y', Goes Bad φ0 h0 w0 φ' hF w' → ActSim (Imm Bad φ' w') φ' hF.next w' aF y' → Q e.exit_ y' w') → c.wpIn (FR r) n P Q y w

theorem iter_to {Z : Type} {P : Program} {G : GG} {n0 : Nat} {inR : Bool} {norm : Norm} (hnorm : NormOk n0 norm) {c : Code} {body : Act' → AH → (Ex → Act' → AH → Option Z) → Option Z}
    (hbody : ∀ a h k z, body a h k = some z → ∃ e aF hF, k e aF hF = some z ∧ CodeTo P G n0 inR c a h e aF hF) :
    ∀ (fuel : Nat) (a : Act') (h : AH) (k : Ex → Act' → AH → Option Z) (z : Z), iter body norm fuel a h k = some z → ∃ e aF hF, k e aF hF = some z ∧
      ∀ (r : Option Nat) (n : Nat) (Bad : Nat → Prop) (φ0 : Map) (h0 : AH) (w0 : World) (φ : Map) (w : World) (y : Act) (Q : Exit → Act → World → Prop), (inR = false → r = none) → h0.next = n0 → G Bad φ0 h0 w0 → Goes Bad φ0 h0 w0 φ h w → ActSim (Imm Bad φ w) φ h.next w a y →
        (∀ φ' w' y', Goes Bad φ0 h0 w0 φ' hF w' → ActSim (Imm Bad φ' w') φ' hF.next w' aF y' → Q e.exit_ y' w') → Code.roundsIn (FR r) n P c Q fuel y w := by
  intro fuel
  induction fuel with
  | zero => intro a h k z hk; cases hk
  | succ fuel ih =>
    intro a h k z hk
    simp only [iter] at hk
    split at hk
    · rename_i a1 h1 hn
      obtain ⟨e, a2, h2, hk2, hto⟩ := hbody a1 h1 _ z hk
      cases e with
      | normal =>
        simp only at hk2
        obtain ⟨e, aF, hF, hz, hrest⟩ := ih a2 h2 k z hk2
        refine ⟨e, aF, hF, hz, fun r n Bad φ0 h0 w0 φ w y Q hin h0n hG g ha hQ => ?_⟩
        obtain ⟨φ1, g1, ha1⟩ := hnorm a h a1 h1 hn Bad φ0 h0 w0 φ w y h0n g ha
        show c.wpIn (FR r) n P (Exit.then (Code.roundsIn (FR r) n P c Q fuel) Q) y w
        exact hto r n Bad φ0 h0 w0 φ1 w y _ hin h0n hG g1 ha1 fun φ' w' y' g' ha' =>
          hrest r n Bad φ0 h0 w0 φ' w' y' Q hin h0n hG g' ha' hQ
      | exit id =>
        refine ⟨.exit id, a2, h2, hk2, fun r n Bad φ0 h0 w0 φ w y Q hin h0n hG g ha hQ => ?_⟩
        obtain ⟨φ1, g1, ha1⟩ := hnorm a h a1 h1 hn Bad φ0 h0 w0 φ w y h0n g ha
        show c.wpIn (FR r) n P (Exit.then (Code.roundsIn (FR r) n P c Q fuel) Q) y w
        exact hto r n Bad φ0 h0 w0 φ1 w y _ hin h0n hG g1 ha1 hQ
      | ret =>
        refine ⟨.ret, a2, h2, hk2, fun r n Bad φ0 h0 w0 φ w y Q hin h0n hG g ha hQ => ?_⟩
        obtain ⟨φ1, g1, ha1⟩ := hnorm a h a1 h1 hn Bad φ0 h0 w0 φ w y h0n g ha
        show c.wpIn (FR r) n P (Exit.then (Code.roundsIn (FR r) n P c Q fuel) Q) y w
        exact hto r n Bad φ0 h0 w0 φ1 w y _ hin h0n hG g1 ha1 hQ
    · cases hk

/-- How a function that is ranged over is run, is so. -/
def IterOk (P : Program) (g : Nat) (R : Iter) : Prop :=
  ∀ (Y : Env) (G : GG), Shut G → YldOk P Y G → ∀ (args : List AV) (h : AH) (Z : Type) (k : AH → Option Z) (z : Z), R Y args h Z k = some z → ∃ h', k h' = some z ∧ h.next ≤ h'.next ∧
    ∀ (Bad : Nat → Prop) (φ : Map) (w : World) (vs : Array Value), G Bad φ h w → Rel Bad φ h w → VCells (Imm Bad φ w) φ h.next w args vs.toList → Calls P g vs w fun e w' => ∃ φ' v, e = .returned v ∧ Goes Bad φ h w φ' h' w'

theorem get_loop {Bad : Nat → Prop} {φ φ' : Map} {h h' : AH} {w w' : World} (g : Goes Bad φ h w φ' h' w') {L : Nat} {lc : Loc} (hl : φ L = some lc) {b : Nat} (hat : lc.at_ = some (b, 0)) {lp : Loop} (hlp : lc.lp = some lp) (hlt : L < h.next) {st : LoopState} {pe : Option Code} (hg : h'.get L = some (.lp st pe)) :
    φ' L = some lc ∧ w'.heap[b]? = some (.loop { lp with state := st, pending := pe }) := by
  obtain ⟨l1, h1, hf⟩ := g.rel.live L _ hg
  have e : l1 = lc := by
    rcases g.evo.old L hlt with h2 | h2
    · rw [h2, hl] at h1
      simpa using h1.symm
    · rw [h2] at h1; cases h1
  subst e
  obtain ⟨r, h3, h4⟩ := hf.there b 0 hat
  rw [hlp] at h3
  simp only [Option.some.injEq] at h3
  subst h3
  exact ⟨h1, h4⟩

/-- A loop's record is written. -/
theorem loop_put {Bad : Nat → Prop} {φ : Map} {h : AH} {w : World} (hr : Rel Bad φ h w) {L : Nat} {lc : Loc} (hl : φ L = some lc) {b : Nat} (hat : lc.at_ = some (b, 0)) {lp : Loop} (hlp : lc.lp = some lp) {st st' : LoopState} {pe pe' : Option Code} (hg : h.get L = some (.lp st pe))
    (hb : w.heap[b]? = some (.loop { lp with state := st, pending := pe })) : Goes Bad φ h w φ (h.put L (.lp st' pe')) (putO w b (.loop { lp with state := st', pending := pe' })) :=
  hr.setRow hg hl hat hb (fun _ _ _ h => by cases h) rfl rfl rfl ⟨lp, hlp, putO_same (o := .loop { lp with state := st, pending := pe }) (obj_lt hb) _⟩

theorem roundA_sim {N : Nat → Prop} {φ : Map} {nx : Nat} {w : World} {a : Act'} {x : Act} (h : ActSim N φ nx w a x) : ∀ (ps : List Nat) (cs : List AV) (vs : List Value), VCells N φ nx w cs vs → ps.length = cs.length →
    ActSim N φ nx w (roundA a ps cs) { tmps := (ps.zip vs).foldl (fun t p => t.setIfInBounds p.1 p.2) x.tmps, defers := [] } := by
  intro ps cs vs hv hlen
  have key : ∀ (ps : List Nat) (cs : List AV) (vs : List Value) (a : Act') (x : Act), VCells N φ nx w cs vs → ActSim N φ nx w a x → x.defers = [] →
      ActSim N φ nx w ((ps.zip cs).foldl (fun a p => putA a (some p.1) p.2) a) { tmps := (ps.zip vs).foldl (fun t p => t.setIfInBounds p.1 p.2) x.tmps, defers := [] } := by
    intro ps
    induction ps with
    | nil =>
      intro cs vs a x _ ha hd
      simp only [List.zip_nil_left, List.foldl_nil]
      have : ({ tmps := x.tmps, defers := [] } : Act) = x := by cases x; simp_all
      rw [this]
      exact ha
    | cons p ps ih =>
      intro cs vs a x hv ha hd
      cases cs with
      | nil =>
        have : vs = [] := by
          have := hv.1
          simp at this
          exact List.eq_nil_of_length_eq_zero this.symm
        subst this
        simp only [List.zip_nil_right, List.foldl_nil]
        have : ({ tmps := x.tmps, defers := [] } : Act) = x := by cases x; simp_all
        rw [this]
        exact ha
      | cons c cs =>
        obtain ⟨v, us, rfl, h1, h2⟩ := VCells.tail hv
        simp only [List.zip_cons_cons, List.foldl_cons]
        have := ih cs us (putA a (some p) c) (x.put (some p) v) h2 (ha.put (some p) h1) hd
        simpa [Act.put] using this
  refine key ps cs vs ⟨a.t, Nat.add a.n 0, []⟩ { tmps := x.tmps, defers := [] } hv ⟨rfl, h.size, fun t => h.tmps t⟩ rfl

/-- The states in a loop over a function. -/
def LoopG (G : GG) (n0 : Nat) (a : Act') (hL : AH) (L : Nat) (ps : Array Nat) (x y : Code) : GG := fun Bad φ h w =>
  ∃ φ0 h0 w0 φL wL yL lc b lp, h0.next = n0 ∧ G Bad φ0 h0 w0 ∧ Goes Bad φ0 h0 w0 φL hL wL ∧ ActSim (Imm Bad φL wL) φL hL.next wL a yL ∧ φL L = some lc ∧ lc.at_ = some (b, 0) ∧ lc.lp = some lp ∧
    lp.state = .ready ∧ lp.pending = none ∧ lp.tmps = yL.tmps ∧ lp.params = ps ∧ lp.assign = x ∧ lp.body = y ∧ Goes Bad φL hL wL φ h w

theorem loopG_shut (G : GG) (n0 : Nat) (a : Act') (hL : AH) (L : Nat) (ps : Array Nat) (x y : Code) : Shut (LoopG G n0 a hL L ps x y) := by
  rintro Bad φ h w φ' h' w' ⟨φ0, h0, w0, φL, wL, yL, lc, b, lp, h1, h2, h3, h4, h5, h6, h7, h8, h9, h10, h11, h12, h13, g⟩ g'
  exact ⟨φ0, h0, w0, φL, wL, yL, lc, b, lp, h1, h2, h3, h4, h5, h6, h7, h8, h9, h10, h11, h12, h13, g.trans g'⟩

theorem cloOf_some {N : Nat → Prop} {φ : Map} {nx : Nat} {w : World} {c : AV} {g : Nat} {cs : List AV} (h : cloOf c = some (g, cs)) {v : Value} (hs : Sim N φ nx w c v) : ∃ vs : Array Value, v = .func (.func g) #[] vs ∧ VCells N φ nx w cs vs.toList := by
  unfold cloOf at h
  split at h
  · simp only [Option.some.injEq, Prod.mk.injEq] at h
    obtain ⟨rfl, rfl⟩ := h
    cases hs with
    | @clo _ _ vs hn hcs => exact ⟨vs, rfl, by simpa using hn, fun i c v hc hv => hcs i c v hc (by simpa using hv)⟩
  · simp only [Option.some.injEq, Prod.mk.injEq] at h
    obtain ⟨rfl, rfl⟩ := h
    cases hs
    exact ⟨#[], rfl, rfl, fun i c v hc => by simp at hc⟩
  · cases h

/-- What the answer to a call of yield says of its round. -/
theorem yield_ok {C : Ctx} {G : GG} {fuel n0 p : Nat} {a : Act'} {h : AH} {ps : Array Nat} {x y : Code} (hcl : Shut G)
    (ihx : ∀ (n0 : Nat) (norm : Nat → Norm) (p : Nat) (a : Act') (h : AH) (Z : Type) (k : Ex → Act' → AH → Option Z) (z : Z), (∀ p, NormOk n0 (norm p)) → runCode C fuel norm p true x a h Z k = some z → ∃ e aF hF, k e aF hF = some z ∧ CodeTo C.P G n0 true x a h e aF hF)
    (ihy : ∀ (n0 : Nat) (norm : Nat → Norm) (p : Nat) (a : Act') (h : AH) (Z : Type) (k : Ex → Act' → AH → Option Z) (z : Z), (∀ p, NormOk n0 (norm p)) → runCode C fuel norm p true y a h Z k = some z → ∃ e aF hF, k e aF hF = some z ∧ CodeTo C.P G n0 true y a h e aF hF) :
    YldOk C.P (fun id vs h' Z' k' => bif Nat.beq id (Nat.add h.next 1) && Nat.beq vs.length ps.toList.length then
          match h'.get (Nat.add h.next 1) with
          | some (.lp .ready none) => runCode C fuel idN (2 * p) true x (roundA a ps.toList vs) h' Z' fun e a' h1 => match e with
            | .normal => match h1.get (Nat.add h.next 1) with
              | some (.lp .ready none) => runCode C fuel idN (2 * p + 1) true y a' (h1.put (Nat.add h.next 1) (.lp .busy none)) Z' fun e _ h2 => endK h'.next (Nat.add h.next 1) e h2 k'
              | _ => none
            | _ => none
          | _ => none
        else none) (LoopG G n0 a ((h.add .dfr).add (.lp .ready none)) (Nat.add h.next 1) ps x y) := by
  intro id vs h' Z' k' z' hk
  generalize hL : Nat.add h.next 1 = L at hk ⊢
  have hLn : L < ((h.add .dfr).add (.lp .ready none)).next := by
    rw [← hL]
    show h.next + 1 < h.next + 1 + 1
    omega
  cases hb : (Nat.beq id L && Nat.beq vs.length ps.toList.length) with
  | false => simp only [hb, cond_false] at hk; cases hk
  | true =>
    simp only [hb, cond_true] at hk
    rw [Bool.and_eq_true] at hb
    have hid : id = L := Nat.eq_of_beq_eq_true hb.1
    have hlen : vs.length = ps.toList.length := Nat.eq_of_beq_eq_true hb.2
    subst hid
    split at hk
    · rename_i hg0
      obtain ⟨e1, a1, h1, hk1, hto1⟩ := ihx h'.next idN (2 * p) _ h' Z' _ z' (idN_ok _) hk
      cases e1 with
      | exit _ => cases hk1
      | ret => cases hk1
      | normal =>
        simp only at hk1
        split at hk1
        · rename_i hg1
          obtain ⟨e2, a2, h2, hk2, hto2⟩ := ihy (h1.put id (.lp .busy none)).next idN (2 * p + 1) a1 _ Z' _ z' (idN_ok _) hk1
          unfold endK at hk2
          split at hk2
          · rename_i hg2
            cases hnx : Nat.ble h'.next h2.next with
            | false => rw [hnx] at hk2; cases hk2
            | true =>
              rw [hnx, cond_true] at hk2
              have hnx' := Nat.le_of_ble_eq_true hnx
              have fin : ∀ (st : LoopState) (pe : Option Code), (st = if pe.isNone then .ready else .done) → (e2.exit_ = .normal ∧ pe = none ∨ e2.exit_ = .ret ∧ pe = some .ret ∨ ∃ q, e2.exit_ = .exit q ∧ pe = some (.exit q)) →
                  YldTo C.P (LoopG G n0 a ((h.add .dfr).add (.lp .ready none)) id ps x y) id vs h' (.bool pe.isNone) (h2.put id (.lp st pe)) := by
                intro st pe hst hex Bad φ w b us hG hrel hs hv
                obtain ⟨φ0, h0, w0, φL, wL, yL, lc, b', lp, q1, q2, q3, q4, q5, q6, q7, q8, q9, q10, q11, q12, q13, g⟩ := hG
                obtain ⟨p1, p2⟩ := get_loop g q5 q6 q7 hLn hg0
                have hbb : b' = b := by
                  cases hs with
                  | yldDead z1 _ => rw [z1] at p1; cases p1
                  | yld z1 z2 =>
                    rw [p1] at z1
                    simp only [Option.some.injEq] at z1
                    subst z1
                    rw [q6] at z2
                    simpa using z2
                subst hbb
                have elp : ({ lp with state := .ready, pending := none } : Loop) = lp := by rw [← q8, ← q9]
                rw [elp] at p2
                have hsz : us.size = lp.params.size := by
                  have := hv.1
                  rw [hlen] at this
                  rw [q11]
                  simpa using this.symm
                refine ⟨lp, p2, hsz, fun r' n => ?_⟩
                have hG0 : G Bad φ h' w := hcl _ _ _ _ _ _ _ q2 (q3.trans g)
                have act0 := q4.evo g.evo q3.rel.id_lt
                have hLn' : id < h'.next := Nat.lt_of_lt_of_le hLn g.evo.next
                refine roundIn_of_wpIn trivial ?_
                show lp.assign.wpIn (FR (some b')) n C.P _ _ w
                have hto1' : CodeTo C.P G h'.next true lp.assign (roundA a ps.toList vs) h' .normal a1 h1 := by rw [q12]; exact hto1
                have hto2' : CodeTo C.P G (h1.put id (.lp .busy none)).next true lp.body a1 (h1.put id (.lp .busy none)) e2 a2 h2 := by rw [q13]; exact hto2
                have act1 := roundA_sim act0 ps.toList vs us.toList hv hlen.symm
                have etmps : ({ tmps := (lp.params.zip us).foldl (fun tmps (t, a) => tmps.setIfInBounds t a) lp.tmps, defers := [] } : Act) = { tmps := (ps.toList.zip us.toList).foldl (fun t p => t.setIfInBounds p.1 p.2) yL.tmps, defers := [] } := by
                  rw [q10, q11, ← Array.foldl_toList, Array.toList_zip]
                rw [etmps]
                refine hto1' (some b') n Bad φ h' w φ w _ _ (fun h => by cases h) rfl hG0 (.refl hrel) act1 fun φ1 w1 y1 g1 ha1 => ?_
                obtain ⟨r1, r2⟩ := get_loop g1 p1 q6 q7 hLn' hg1
                have gb := loop_put (st' := .busy) (pe' := none) g1.rel r1 q6 q7 hg1 r2
                refine ⟨putO w1 b' (.loop { lp with state := .busy, pending := none }), run_beginRound r2 rfl, ?_⟩
                show lp.body.wpIn (FR (some b')) n C.P _ _ _
                have gb' := g1.trans gb
                have hG1 : G Bad φ1 (h1.put id (.lp .busy none)) (putO w1 b' (.loop { lp with state := .busy, pending := none })) := hcl _ _ _ _ _ _ _ hG0 gb'
                refine hto2' (some b') n Bad φ1 _ _ φ1 _ _ _ (fun h => by cases h) rfl hG1 (.refl gb.rel) (ha1.evo gb.evo g1.rel.id_lt) fun φ2 w2 y2 g2 ha2 => ?_
                have hLn1 : id < (h1.put id (.lp .busy none)).next := Nat.lt_of_lt_of_le hLn' g1.evo.next
                obtain ⟨s1, s2⟩ := get_loop g2 r1 q6 q7 hLn1 hg2
                have ge := loop_put (st' := st) (pe' := pe) g2.rel s1 q6 q7 hg2 s2
                have res : ∃ v w', (Instr.endRound b' pe).run C.P w2 = .ok v w' ∧ ∃ φ' v', (Ending.returned v) = .returned v' ∧ Goes Bad φ h' w φ' (h2.put id (.lp st pe)) w' ∧ Sim (Imm Bad φ' w') φ' (h2.put id (.lp st pe)).next w' (.bool pe.isNone) v' := by
                  refine ⟨_, _, run_endRound pe s2, φ2, _, rfl, ?_, .bool _⟩
                  subst hst
                  exact (gb'.trans g2).trans ge
                rcases hex with ⟨he, rfl⟩ | ⟨he, rfl⟩ | ⟨q, he, rfl⟩
                · rw [he]; exact res
                · rw [he]; exact res
                · rw [he]; exact res
              cases e2 with
              | normal => exact ⟨_, _, hk2, hnx', fin .ready none rfl (.inl ⟨rfl, rfl⟩)⟩
              | ret => exact ⟨_, _, hk2, hnx', fin .done (some .ret) rfl (.inr (.inl ⟨rfl, rfl⟩))⟩
              | exit q => exact ⟨_, _, hk2, hnx', fin .done (some (.exit q)) rfl (.inr (.inr ⟨q, rfl, rfl⟩))⟩
          · cases hk2
        · cases hk1
    · cases hk

set_option maxHeartbeats 2000000 in
/-- A loop over a function that has been left. -/
theorem range_to {C : Ctx} {G : GG} {n0 : Nat} {f : Operand} {ps : Array Nat} {x y : Code} {a : Act'} {h h1 : AH} {gf : Nat} {cs : List AV} (hclo : cloOf (evalA a f) = some (gf, cs))
    (hbf : ∃ fn', C.P.funcs[gf]? = some fn' ∧ fn'.body.isNone = false ∧ (fn'.name == "runtime.NumGoroutine") = false)
    (hto : ∀ (Bad : Nat → Prop) (φ : Map) (w : World) (vs : Array Value), LoopG G n0 a ((h.add .dfr).add (.lp .ready none)) (Nat.add h.next 1) ps x y Bad φ ((h.add .dfr).add (.lp .ready none)) w → Rel Bad φ ((h.add .dfr).add (.lp .ready none)) w →
      VCells (Imm Bad φ w) φ ((h.add .dfr).add (.lp .ready none)).next w (.yld (Nat.add h.next 1) :: cs) vs.toList → Calls C.P gf vs w fun e w' => ∃ φ' v, e = .returned v ∧ Goes Bad φ ((h.add .dfr).add (.lp .ready none)) w φ' h1 w') :
    ∀ (st : LoopState) (pe : Option Code) (e : Ex), h1.get (Nat.add h.next 1) = some (.lp st pe) → st ≠ .busy → e.code = pe → (∀ (r : Option Nat) (n : Nat) (Q : Exit → Act → World → Prop) (y' : Act) (w' : World), Q e.exit_ y' w' → match pe with
              | none => Q .normal y' w'
              | some c => c.wpIn (FR r) n C.P Q y' w') →
            CodeTo C.P G n0 false (.rangeFunc f ps x y) a h e ⟨a.t, Nat.add a.n 0, h.next :: a.ds⟩ (h1.del (Nat.add h.next 1)) := by
  intro st pe e hg1 hnb hec hwp r n Bad φ0 h0 w0 φ w yA Q hin h0n hG g ha hQ
  obtain rfl := hin rfl
  refine wpIn_rangeFunc fun fn _ => ?_
  -- the two blocks
  generalize hrec : ({ state := .ready, pending := none, fn := fn, tmps := yA.tmps, params := ps, assign := x, body := y, defers := w.heap.size } : Loop) = lp
  have gD := Grew.alloc w (.deferred (some []))
  have hbD : (w.alloc (.deferred (some []))).heap[w.heap.size]? = some (.deferred (some [])) := World.alloc_heap_new_ w _
  have G1 := g.rel.add gD .dfr ⟨some (w.heap.size, 0), 0, 0, 1, none⟩ w.heap.size rfl (Nat.le_refl _) (obj_lt hbD) ⟨rfl, rfl, Nat.le_refl _, Nat.zero_le _, (fun h => by cases h), fun b o hat => by
    simp only [Option.some.injEq, Prod.mk.injEq] at hat
    obtain ⟨rfl, rfl⟩ := hat
    exact hbD⟩ (fun i c hc => by simp [Row.flat] at hc)
  have hsz1 : (w.alloc (.deferred (some []))).heap.size = w.heap.size + 1 := by simp
  have gL := Grew.alloc (w.alloc (.deferred (some []))) (.loop lp)
  have hbL : ((w.alloc (.deferred (some []))).alloc (.loop lp)).heap[w.heap.size + 1]? = some (.loop lp) := by
    rw [← hsz1]
    exact World.alloc_heap_new_ _ _
  have elp : ({ lp with state := .ready, pending := none } : Loop) = lp := by rw [← hrec]
  have G2 := G1.rel.add gL (.lp .ready none) ⟨some (w.heap.size + 1, 0), 0, 0, 1, some lp⟩ (w.heap.size + 1) rfl (by rw [hsz1]; exact Nat.le_refl _) (obj_lt hbL) ⟨rfl, rfl, Nat.le_refl _, Nat.zero_le _, (fun h => by cases h), fun b o hat => by
    simp only [Option.some.injEq, Prod.mk.injEq] at hat
    obtain ⟨rfl, rfl⟩ := hat
    exact ⟨lp, rfl, by rw [elp]; exact hbL⟩⟩ (fun i c hc => by simp [Row.flat] at hc)
  have G12 := G1.trans G2
  have G012 := g.trans G12
  have ha2 := ha.evo G12.evo g.rel.id_lt
  have hclo' := cloOf_some (N := Imm Bad φ w) (φ := φ) (nx := h.next) (w := w) hclo (ha.eval f)
  obtain ⟨vs, hfv, hvs⟩ := hclo'
  have hvs2 := VCells.evo (Bad := Bad) (w := w) G12.evo g.rel.id_lt hvs
  have hrunE : (Instr.enterLoop fn yA.tmps ps x y none).run C.P w = .ok (w.heap.size + 1, [{ target := .collected w.heap.size, args := #[] }]) ((w.alloc (.deferred (some []))).alloc (.loop lp)) := by
    rw [← hrec]; exact run_enterLoop_outer _ _ _ _ _
  have hφL : upd (upd φ h.next (some ⟨some (w.heap.size, 0), 0, 0, 1, none⟩)) (h.add .dfr).next (some ⟨some (w.heap.size + 1, 0), 0, 0, 1, some lp⟩) (Nat.add h.next 1) = some ⟨some (w.heap.size + 1, 0), 0, 0, 1, some lp⟩ := upd_same _ (h.next + 1) _
  have hφD : upd (upd φ h.next (some ⟨some (w.heap.size, 0), 0, 0, 1, none⟩)) (h.add .dfr).next (some ⟨some (w.heap.size + 1, 0), 0, 0, 1, some lp⟩) h.next = some ⟨some (w.heap.size, 0), 0, 0, 1, none⟩ := by
    rw [upd_ne _ _ (show h.next ≠ (h.add .dfr).next from by show h.next ≠ h.next + 1; omega), upd_same]
  have c1 : lp.state = .ready := by rw [← hrec]
  have c2 : lp.pending = none := by rw [← hrec]
  have c3 : lp.tmps = yA.tmps := by rw [← hrec]
  have c4 : lp.params = ps := by rw [← hrec]
  have c5 : lp.assign = x := by rw [← hrec]
  have c6 : lp.body = y := by rw [← hrec]
  clear hbL gL G1 hbD gD
  generalize hw2 : (w.alloc (.deferred (some []))).alloc (.loop lp) = w2 at *
  generalize hφ2 : upd (upd φ h.next (some ⟨some (w.heap.size, 0), 0, 0, 1, none⟩)) (h.add .dfr).next (some ⟨some (w.heap.size + 1, 0), 0, 0, 1, some lp⟩) = φ2 at *
  -- the call
  obtain ⟨fn', f1, f2, f3⟩ := hbf
  have hcall : ∀ (args : Array Value) (W : World), (callFunc gf args).run C.P W = .ok (.enter gf args) W := by
    intro args W
    have f3' : ¬ fn'.name = "runtime.NumGoroutine" := by simpa using f3
    have f2' : ¬ fn'.body = none := by
      cases hfb : fn'.body with
      | none => simp [hfb] at f2
      | some b => simp
    simp [callFunc, f1, f3', f2']
  refine ⟨w.heap.size + 1, [{ target := .collected w.heap.size, args := #[] }], w2, { target := .fn (.func gf) vs, args := #[.func (.yield (w.heap.size + 1)) #[] #[]] }, w2, gf,
    #[.func (.yield (w.heap.size + 1)) #[] #[]] ++ vs, w2, hrunE, ?_, fun _ _ => trivial, ?_, fun h => by simp [FR] at h, ?_⟩
  · simp only [resolve, hfv]
    simp [Deferred.ofValue, Act.eval]
  · simp [invoke, hcall]
  · refine calls_in none _ ?_
    refine (hto Bad _ _ (#[.func (.yield (w.heap.size + 1)) #[] #[]] ++ vs) ?_ G2.rel ?_).mono ?_
    · exact ⟨φ0, h0, w0, _, _, yA, _, _, lp, h0n, hG, G012, ha2, hφL, rfl, rfl, c1, c2, c3, c4, c5, c6, .refl G2.rel⟩
    · rw [Array.toList_append]
      exact VCells.cons (.yld hφL rfl) hvs2
    · rintro e3 w3 ⟨φ3, v3, rfl, g3⟩
      obtain ⟨s1, s2⟩ := get_loop g3 hφL rfl rfl (show Nat.add h.next 1 < h.next + 1 + 1 from Nat.lt_succ_self _) hg1
      obtain ⟨w4, hw4⟩ : ∃ w4, putO w3 (w.heap.size + 1) (.loop { lp with state := .exhausted, pending := pe }) = w4 := ⟨_, rfl⟩
      have hend : (Instr.endLoop (w.heap.size + 1)).run C.P w3 = .ok pe w4 := by rw [← hw4]; exact run_endLoop s2 hnb
      have hwr : Wrote w3 w4 (w.heap.size + 1) := by rw [← hw4]; exact putO_wrote s2 (fun _ _ _ h => by cases h) _
      refine ⟨pe, w4, hend, ?_⟩
      have gk := g3.rel.killSet (o := 0) s1 rfl hwr
      have gAll := (G12.trans g3).trans gk
      have gF := g.trans gAll
      have haF : ActSim (Imm Bad (upd φ3 (Nat.add h.next 1) none) w4) (upd φ3 (Nat.add h.next 1) none) (h1.del (Nat.add h.next 1)).next w4 (⟨a.t, Nat.add a.n 0, h.next :: a.ds⟩ : Act') { yA with defers := [{ target := .collected w.heap.size, args := #[] }] ++ yA.defers } := by
        have ha3 := ha.evo gAll.evo g.rel.id_lt
        refine ⟨⟨⟨Nat.lt_of_lt_of_le (Nat.lt_of_lt_of_le (Nat.lt_succ_self _) (Nat.le_succ _)) ((g3.trans gk).evo.next), w.heap.size, rfl, fun l hl => ?_⟩, ha3.ds⟩, ha3.size, ha3.tmps⟩
        have hD : h.next < h.next + 1 + 1 := by omega
        rcases (g3.trans gk).evo.old h.next hD with q | q
        · rw [q, hφD] at hl
          simp only [Option.some.injEq] at hl
          rw [← hl]
        · rw [q] at hl; cases hl
      have := hQ _ _ _ gF haF
      exact hwp none n Q _ _ this

theorem code_to {C : Ctx} {G : GG} {fuel : Nat} (hm : C.P.follows .mixedOrders = true) (hcl : Shut G) (hY : YldOk C.P C.yld G) (hd : ∀ f, hasBody C.P f = true → EnvOk C f) (hI : ∀ g, hasBody C.P g = true → IterOk C.P g (C.iter g)) :
    ∀ (c : Code), codeOk C c = true → (∀ f ∈ callsOf c, EnvOk C f) → ∀ (n0 : Nat) (norm : Nat → Norm) (p : Nat) (inR : Bool) (a : Act') (h : AH) (Z : Type) (k : Ex → Act' → AH → Option Z) (z : Z), (∀ p, NormOk n0 (norm p)) → runCode C fuel norm p inR c a h Z k = some z →
      ∃ e aF hF, k e aF hF = some z ∧ CodeTo C.P G n0 inR c a h e aF hF
  | .skip, _, _, n0, norm, p, inR, a, h, Z, k, z, hnorm, hk => ⟨.normal, a, h, hk, fun r n Bad φ0 h0 w0 φ w y Q hin h0n hG g ha hQ => wpIn_skip (hQ φ w y g ha)⟩
  | .label l, _, _, n0, norm, p, inR, a, h, Z, k, z, hnorm, hk => ⟨.normal, a, h, hk, fun r n Bad φ0 h0 w0 φ w y Q hin h0n hG g ha hQ => wpIn_label (hQ φ w y g ha)⟩
  | .ret, _, _, n0, norm, p, inR, a, h, Z, k, z, hnorm, hk => ⟨.ret, a, h, hk, fun r n Bad φ0 h0 w0 φ w y Q hin h0n hG g ha hQ => wpIn_ret (hQ φ w y g ha)⟩
  | .exit id, _, _, n0, norm, p, inR, a, h, Z, k, z, hnorm, hk => ⟨.exit id, a, h, hk, fun r n Bad φ0 h0 w0 φ w y Q hin h0n hG g ha hQ => wpIn_exit (hQ φ w y g ha)⟩
  | .region id ops draw, hok, hcalls, n0, norm, p, inR, a, h, Z, k, z, hnorm, hk => by
    have hc := calls_region hY hd hcalls
    cases draw with
    | true =>
      simp only [runCode, cond_true] at hk
      simp only [codeOk, Bool.and_eq_true, Bool.not_true, Bool.false_or] at hok
      split at hk
      · rename_i t htr
        obtain ⟨⟨aF, hF⟩, hs, hz⟩ := ob_eq_some.1 hk
        have hok2 := hok.2
        rw [htr] at hok2
        have he : t.2 = rdyE ops.toList := eqL_eq (fun x y hxy => eqL_eq (fun a b hab => Nat.eq_of_beq_eq_true hab) hxy) hok2
        rw [he] at hs
        refine ⟨.normal, aF, hF, hz, fun r n Bad φ0 h0 w0 φ w y Q hin h0n hG g ha hQ => wpIn_region_any hm ?_⟩
        exact any_to hcl (hnorm p) hc (ops.size + 1) ops.size (Array.replicate ops.size false) a h aF hF (by simpa using hs) r n Bad φ0 h0 w0 φ _ y Q h0n hG (drew_goes g) ha.drew (by simp) (by unfold left; exact Nat.le_trans List.countP_le_length (by simp)) hQ
      rename_i htr
      rw [htr] at hok
      obtain ⟨aF, hF, hz, hto⟩ := ops_any hcl hok.2 hc hk
      refine ⟨.normal, aF, hF, hz, fun r n Bad φ0 h0 w0 φ w y Q hin h0n hG g ha hQ => ?_⟩
      have g' := drew_goes g
      exact wpIn_region_any hm (hto r n Bad φ _ y Q (hcl _ _ _ _ _ _ _ hG g') g'.rel ha.drew fun φ' w' y' g2 ha' hd => hQ φ' w' y' (g'.trans g2) ha')
    | false =>
      simp only [runCode, cond_false] at hk
      obtain ⟨aF, hF, hz, hto⟩ := ops_text hcl ops.toList 0 [] [] a h (fun j => by simp) hc hk
      refine ⟨.normal, aF, hF, hz, fun r n Bad φ0 h0 w0 φ w y Q hin h0n hG g ha hQ => ?_⟩
      refine wpIn_region ?_
      have := hto r n Bad φ w y Q (hcl _ _ _ _ _ _ _ hG g) g.rel ha fun φ' w' y' g2 ha' hd => hQ φ' w' y' (g.trans g2) ha'
      rw [List.range_eq_range']
      simpa using this
  | .seq x y, hok, hcalls, n0, norm, p, inR, a, h, Z, k, z, hnorm, hk => by
    simp only [codeOk, Bool.and_eq_true] at hok
    simp only [runCode] at hk
    obtain ⟨e, a1, h1, hk1, hto⟩ := code_to hm hcl hY hd hI x hok.1 (fun f hf => hcalls f (by simp [callsOf, hf])) n0 norm _ inR a h Z _ z hnorm hk
    cases e with
    | normal =>
      simp only at hk1
      obtain ⟨e, aF, hF, hz, hto2⟩ := code_to hm hcl hY hd hI y hok.2 (fun f hf => hcalls f (by simp [callsOf, hf])) n0 norm _ inR a1 h1 Z _ z hnorm hk1
      refine ⟨e, aF, hF, hz, fun r n Bad φ0 h0 w0 φ w v Q hin h0n hG g ha hQ => wpIn_seq (hto r n Bad φ0 h0 w0 φ w v _ hin h0n hG g ha fun φ' w' v' g' ha' => ?_)⟩
      exact hto2 r n Bad φ0 h0 w0 φ' w' v' Q hin h0n hG g' ha' hQ
    | exit id => exact ⟨.exit id, a1, h1, hk1, fun r n Bad φ0 h0 w0 φ w v Q hin h0n hG g ha hQ => wpIn_seq (hto r n Bad φ0 h0 w0 φ w v _ hin h0n hG g ha hQ)⟩
    | ret => exact ⟨.ret, a1, h1, hk1, fun r n Bad φ0 h0 w0 φ w v Q hin h0n hG g ha hQ => wpIn_seq (hto r n Bad φ0 h0 w0 φ w v _ hin h0n hG g ha hQ)⟩
  | .cond c x y, hok, hcalls, n0, norm, p, inR, a, h, Z, k, z, hnorm, hk => by
    simp only [codeOk, Bool.and_eq_true] at hok
    simp only [runCode] at hk
    split at hk
    · rename_i b hb
      have ev : ∀ (Bad : Nat → Prop) (φ : Map) (w : World) (v : Act), ActSim (Imm Bad φ w) φ h.next w a v → v.eval c = .bool b := by
        intro Bad φ w v ha
        have := ha.eval c
        rw [hb] at this
        generalize v.eval c = u at this
        cases this
        rfl
      cases b with
      | true =>
        simp only [cond_true] at hk
        obtain ⟨e, aF, hF, hz, hto⟩ := code_to hm hcl hY hd hI x hok.1 (fun f hf => hcalls f (by simp [callsOf, hf])) n0 norm _ inR a h Z k z hnorm hk
        exact ⟨e, aF, hF, hz, fun r n Bad φ0 h0 w0 φ w v Q hin h0n hG g ha hQ => wpIn_cond_true (ev Bad φ w v ha) (hto r n Bad φ0 h0 w0 φ w v Q hin h0n hG g ha hQ)⟩
      | false =>
        simp only [cond_false] at hk
        obtain ⟨e, aF, hF, hz, hto⟩ := code_to hm hcl hY hd hI y hok.2 (fun f hf => hcalls f (by simp [callsOf, hf])) n0 norm _ inR a h Z k z hnorm hk
        exact ⟨e, aF, hF, hz, fun r n Bad φ0 h0 w0 φ w v Q hin h0n hG g ha hQ => wpIn_cond_false (ev Bad φ w v ha) (hto r n Bad φ0 h0 w0 φ w v Q hin h0n hG g ha hQ)⟩
    · cases hk
  | .block id c, hok, hcalls, n0, norm, p, inR, a, h, Z, k, z, hnorm, hk => by
    simp only [codeOk] at hok
    simp only [runCode] at hk
    obtain ⟨e, a1, h1, hk1, hto⟩ := code_to hm hcl hY hd hI c hok (fun f hf => hcalls f hf) n0 norm _ inR a h Z _ z hnorm hk
    cases e with
    | normal => exact ⟨.normal, a1, h1, hk1, fun r n Bad φ0 h0 w0 φ w v Q hin h0n hG g ha hQ => wpIn_block (hto r n Bad φ0 h0 w0 φ w v _ hin h0n hG g ha hQ)⟩
    | ret => exact ⟨.ret, a1, h1, hk1, fun r n Bad φ0 h0 w0 φ w v Q hin h0n hG g ha hQ => wpIn_block (hto r n Bad φ0 h0 w0 φ w v _ hin h0n hG g ha hQ)⟩
    | exit id' =>
      simp only at hk1
      split at hk1
      · rename_i he
        refine ⟨.normal, a1, h1, hk1, fun r n Bad φ0 h0 w0 φ w v Q hin h0n hG g ha hQ => wpIn_block (hto r n Bad φ0 h0 w0 φ w v _ hin h0n hG g ha fun φ' w' v' g' ha' => ?_)⟩
        simp only [Ex.exit_, Exit.inBlock, if_pos he]
        exact hQ φ' w' v' g' ha'
      · rename_i he
        refine ⟨.exit id', a1, h1, hk1, fun r n Bad φ0 h0 w0 φ w v Q hin h0n hG g ha hQ => wpIn_block (hto r n Bad φ0 h0 w0 φ w v _ hin h0n hG g ha fun φ' w' v' g' ha' => ?_)⟩
        simp only [Ex.exit_, Exit.inBlock, if_neg he]
        exact hQ φ' w' v' g' ha'
  | .loop c, hok, hcalls, n0, norm, p, inR, a, h, Z, k, z, hnorm, hk => by
    simp only [codeOk] at hok
    simp only [runCode] at hk
    obtain ⟨e, aF, hF, hz, hto⟩ := iter_to (P := C.P) (G := G) (inR := inR) (c := c) (hnorm p) (fun a h k z hk => code_to hm hcl hY hd hI c hok (fun f hf => hcalls f hf) n0 norm _ inR a h Z k z hnorm hk) fuel a h k z hk
    exact ⟨e, aF, hF, hz, fun r n Bad φ0 h0 w0 φ w v Q hin h0n hG g ha hQ => wpIn_loop_rounds fuel (hto r n Bad φ0 h0 w0 φ w v Q hin h0n hG g ha hQ)⟩
  | .scope _, hok, _, _, _, _, _, _, _, _, _, _, _, _ => by simp [codeOk] at hok
  | .goto _, hok, _, _, _, _, _, _, _, _, _, _, _, _ => by simp [codeOk] at hok
  | .refuse _, hok, _, _, _, _, _, _, _, _, _, _, _, _ => by simp [codeOk] at hok
  | .rangeFunc f ps x y, hok, hcalls, n0, norm, p, inR, a, h, Z, k, z, hnorm, hk => by
    simp only [codeOk, Bool.and_eq_true] at hok
    simp only [runCode] at hk
    split at hk
    · rename_i gf cs hclo
      cases hb : (inR || !hasBody C.P gf) with
      | true => rw [hb] at hk; cases hk
      | false =>
        rw [hb, cond_false] at hk
        rw [Bool.or_eq_false_iff] at hb
        obtain ⟨hin0, hbg⟩ := hb
        subst hin0
        have hbody : hasBody C.P gf = true := by simpa using hbg
        have hYG := yield_ok (C := C) (fuel := fuel) (n0 := n0) (p := p) (a := a) (h := h) (ps := ps) (x := x) (y := y) hcl
          (fun n0 norm p a h Z k z hn hk => code_to hm hcl hY hd hI x hok.1 (fun f hf => hcalls f (by simp [callsOf, hf])) n0 norm p true a h Z k z hn hk)
          (fun n0 norm p a h Z k z hn hk => code_to hm hcl hY hd hI y hok.2 (fun f hf => hcalls f (by simp [callsOf, hf])) n0 norm p true a h Z k z hn hk)
        obtain ⟨h1, hk1, hnx, hto⟩ := hI gf hbody _ _ (loopG_shut G n0 a _ _ ps x y) hYG _ _ _ _ _ hk
        have fin := range_to (n0 := n0) (x := x) (y := y) (ps := ps) (C := C) (G := G) hclo (hd gf hbody).body hto
        unfold outK at hk1
        split at hk1
        · rename_i hg1
          exact ⟨.normal, _, _, hk1, fin .ready none .normal hg1 (by simp) rfl fun r n Q y' w' h => h⟩
        · rename_i c hg1
          split at hk1
          · exact ⟨.ret, _, _, hk1, fin .done (some .ret) .ret hg1 (by simp) rfl fun r n Q y' w' h => wpIn_ret h⟩
          · rename_i q
            exact ⟨.exit q, _, _, hk1, fin .done (some (.exit q)) (.exit q) hg1 (by simp) rfl fun r n Q y' w' h => wpIn_exit h⟩
          · cases hk1
        · cases hk1
    · cases hk

end Go.Ph

/- Rows by other numbers: a part of the heap as a heap of its own, and back. -/
namespace Go.Ph
open Go.RowKit

/-- Where a number stands in a list. -/
def pos (id : Nat) : List Nat → Option Nat
  | [] => none
  | x :: t => bif Nat.beq x id then some 0 else (pos id t).map (· + 1)

theorem pos_get {id : Nat} : ∀ {L : List Nat} {j : Nat}, pos id L = some j → L[j]? = some id
  | [], j, h => by simp [pos] at h
  | x :: t, j, h => by
    simp only [pos] at h
    cases hx : Nat.beq x id with
    | true =>
      rw [hx] at h
      simp only [cond_true, Option.some.injEq] at h
      subst h
      simp [Nat.eq_of_beq_eq_true hx]
    | false =>
      rw [hx] at h
      simp only [cond_false] at h
      cases hp : pos id t with
      | none => rw [hp] at h; cases h
      | some q =>
        rw [hp] at h
        simp only [Option.map_some, Option.some.injEq] at h
        subst h
        simpa using pos_get hp

theorem pos_of_mem {id : Nat} : ∀ {L : List Nat}, id ∈ L → ∃ j, pos id L = some j
  | x :: t, h => by
    simp only [pos]
    cases hx : Nat.beq x id with
    | true => exact ⟨0, rfl⟩
    | false =>
      simp only [cond_false]
      rcases List.mem_cons.1 h with h1 | h1
      · subst h1; rw [Nat.beq_refl] at hx; cases hx
      · obtain ⟨j, hj⟩ := pos_of_mem h1
        exact ⟨j + 1, by rw [hj]; rfl⟩

theorem pos_none {id : Nat} {L : List Nat} (h : pos id L = none) : id ∉ L := fun hm => by
  obtain ⟨j, hj⟩ := pos_of_mem hm
  rw [h] at hj; cases hj

theorem nodup_get {L : List Nat} (hn : L.Nodup) {i j : Nat} {x : Nat} (hi : L[i]? = some x) (hj : L[j]? = some x) : i = j := by
  obtain ⟨h1, h2⟩ := List.getElem?_eq_some_iff.1 hi
  obtain ⟨h3, h4⟩ := List.getElem?_eq_some_iff.1 hj
  have hp := List.pairwise_iff_getElem.1 hn
  rcases Nat.lt_trichotomy i j with h | h | h
  · exact absurd (h2.trans h4.symm) (hp i j h1 h3 h)
  · exact h
  · exact absurd (h4.trans h2.symm) (hp j i h3 h1 h)

/-- Other numbers in a value; a row without a number makes it 'dead'. -/
def ren (f : Nat → Option Nat) : Nat → AV → AV
  | n, .ptr id i j => match f id with
    | some k => .ptr k i j
    | none => .dead
  | n, .own id => match f id with
    | some k => .own k
    | none => .dead
  | n, .ownp id off m => match f id with
    | some k => .ownp k off m
    | none => .dead
  | n, .mapp id => match f id with
    | some k => .mapp k
    | none => .dead
  | n, .yld id => match f id with
    | some k => .yld k
    | none => .dead
  | 0, .lits _ _ => .dead
  | 0, .lptr _ _ => .dead
  | 0, .agg _ => .dead
  | 0, .tuple _ => .dead
  | 0, .clo _ _ => .dead
  | n + 1, .lits s cs => .lits s (cs.map (ren f n))
  | n + 1, .lptr cs j => .lptr (cs.map (ren f n)) j
  | n + 1, .agg cs => .agg (cs.map (ren f n))
  | n + 1, .tuple cs => .tuple (cs.map (ren f n))
  | n + 1, .clo q cs => .clo q (cs.map (ren f n))
  | n, v => v

theorem ren_sim {N N' : Nat → Prop} {φ φ' : Map} {nx nx' : Nat} {w w' : World} {f : Nat → Option Nat} (hN : ∀ b, N b → N' b ∧ w'.heap[b]? = w.heap[b]?)
    (hφ : ∀ id k, f id = some k → ∀ l, φ id = some l → φ' k = some l ∨ (φ' k = none ∧ k < nx')) (hd : ∀ id k, f id = some k → id < nx → φ id = none → φ' k = none ∧ k < nx') {c : AV} {v : Value}
    (h : Sim N φ nx w c v) : ∀ n, Sim N' φ' nx' w' (ren f n c) v := by
  induction h with
  | bool b => intro n; cases n <;> exact .bool b
  | int k x => intro n; cases n <;> exact .int k x
  | str s => intro n; cases n <;> exact .str s
  | nilp => intro n; cases n <;> exact .nilp
  | @ptrDead id i j b o h hx =>
    intro n
    cases hk : f id with
    | none => cases n <;> (simp only [ren, hk]; exact .dead)
    | some k => cases n <;> (simp only [ren, hk]; exact .ptrDead (hd _ _ hk hx h).1 (hd _ _ hk hx h).2)
  | @ptr id i j b o l h hl =>
    intro n
    cases hk : f id with
    | none => cases n <;> (simp only [ren, hk]; exact .dead)
    | some k =>
      rcases hφ _ _ hk _ h with h1 | h1
      · cases n <;> (simp only [ren, hk]; exact .ptr h1 hl)
      · cases n <;> (simp only [ren, hk]; exact .ptrDead h1.1 h1.2)
  | fel hb h => intro n; cases n <;> exact .fel (hN _ hb).1 (RepC.mono hN _ _ _ _ hb h)
  | nils => intro n; cases n <;> exact .nils
  | fz h => intro n; cases n <;> exact .fz (RepL.mono hN h)
  | @ownDead id m c a h hx =>
    intro n
    cases hk : f id with
    | none => cases n <;> (simp only [ren, hk]; exact .dead)
    | some k => cases n <;> (simp only [ren, hk]; exact .ownDead (hd _ _ hk hx h).1 (hd _ _ hk hx h).2)
  | @ownNil id l a h hl =>
    intro n
    cases hk : f id with
    | none => cases n <;> (simp only [ren, hk]; exact .dead)
    | some k =>
      rcases hφ _ _ hk _ h with h1 | h1
      · cases n <;> (simp only [ren, hk]; exact .ownNil h1 hl)
      · cases n <;> (simp only [ren, hk]; exact .ownDead h1.1 h1.2)
  | @own id b o l h hl =>
    intro n
    cases hk : f id with
    | none => cases n <;> (simp only [ren, hk]; exact .dead)
    | some k =>
      rcases hφ _ _ hk _ h with h1 | h1
      · cases n <;> (simp only [ren, hk]; exact .own h1 hl)
      · cases n <;> (simp only [ren, hk]; exact .ownDead h1.1 h1.2)
  | @ownpDead id off m c a h hx =>
    intro n
    cases hk : f id with
    | none => cases n <;> (simp only [ren, hk]; exact .dead)
    | some k => cases n <;> (simp only [ren, hk]; exact .ownpDead (hd _ _ hk hx h).1 (hd _ _ hk hx h).2)
  | @ownpNil id off l a h hl =>
    intro n
    cases hk : f id with
    | none => cases n <;> (simp only [ren, hk]; exact .dead)
    | some k =>
      rcases hφ _ _ hk _ h with h1 | h1
      · cases n <;> (simp only [ren, hk]; exact .ownpNil h1 hl)
      · cases n <;> (simp only [ren, hk]; exact .ownpDead h1.1 h1.2)
  | @ownp id off m c b o l a h hl hn hnc hc ha =>
    intro n
    cases hk : f id with
    | none => cases n <;> (simp only [ren, hk]; exact .dead)
    | some k =>
      rcases hφ _ _ hk _ h with h1 | h1
      · cases n <;> (simp only [ren, hk]; exact .ownp h1 hl hn hnc hc ha)
      · cases n <;> (simp only [ren, hk]; exact .ownpDead h1.1 h1.2)
  | @lits size m cs a hs hm h hv ih =>
    intro n
    cases n with
    | zero => exact .dead
    | succ n =>
      simp only [ren]
      refine .lits (by simpa using hs) hm (fun hn => ?_) (fun b o ha i c v hc hcell => ?_)
      · obtain ⟨b, o, ha, hb, hx⟩ := h hn
        refine ⟨b, o, ha, (hN b hb).1, fun i c hc => ?_⟩
        rw [List.getElem?_map] at hc
        cases hci : cs[i]? with
        | none => rw [hci] at hc; cases hc
        | some c' =>
          obtain ⟨v, hv⟩ := hx i c' hci
          exact ⟨v, by rw [cell_of_heap (hN b hb).2]; exact hv⟩
      · rw [List.getElem?_map] at hc
        cases hci : cs[i]? with
        | none => rw [hci] at hc; cases hc
        | some c' =>
          rw [hci] at hc
          simp only [Option.map_some, Option.some.injEq] at hc
          subst hc
          have hn : 0 < m := by
            rcases Nat.eq_zero_or_pos m with h0 | h0
            · subst h0
              have : cs.length = 0 := by omega
              have : cs = [] := List.eq_nil_of_length_eq_zero this
              subst this
              simp at hci
            · exact h0
          obtain ⟨b2, o2, ha2, hb, hx⟩ := h hn
          rw [ha] at ha2
          injection ha2 with ha2
          injection ha2 with e1 e2 _
          subst e1; subst e2
          exact ih b o ha i c' v hci (by rw [← cell_of_heap (hN b hb).2]; exact hcell) n
  | @lptr cs j b o hb hc hv ih =>
    intro n
    cases n with
    | zero => exact .dead
    | succ n =>
      simp only [ren]
      refine .lptr (hN _ hb).1 (fun i c h => ?_) (fun i c v h hcell => ?_)
      · rw [List.getElem?_map] at h
        cases hci : cs[i]? with
        | none => rw [hci] at h; cases h
        | some c' =>
          obtain ⟨v, hv⟩ := hc i c' hci
          exact ⟨v, by rw [cell_of_heap (hN _ hb).2]; exact hv⟩
      · rw [List.getElem?_map] at h
        cases hci : cs[i]? with
        | none => rw [hci] at h; cases h
        | some c' =>
          rw [hci] at h
          simp only [Option.map_some, Option.some.injEq] at h
          subst h
          exact ih i c' v hci (by rw [← cell_of_heap (hN _ hb).2]; exact hcell) n
  | @agg cs vs hn h ih =>
    intro n
    cases n with
    | zero => exact .dead
    | succ n =>
      simp only [ren]
      refine .agg (by simpa using hn) fun i c v hc hv => ?_
      rw [List.getElem?_map] at hc
      cases hci : cs[i]? with
      | none => rw [hci] at hc; cases hc
      | some c' =>
        rw [hci] at hc
        simp only [Option.map_some, Option.some.injEq] at hc
        subst hc
        exact ih i c' v hci hv n
  | @tuple cs vs hn h ih =>
    intro n
    cases n with
    | zero => exact .dead
    | succ n =>
      simp only [ren]
      refine .tuple (by simpa using hn) fun i c v hc hv => ?_
      rw [List.getElem?_map] at hc
      cases hci : cs[i]? with
      | none => rw [hci] at hc; cases hc
      | some c' =>
        rw [hci] at hc
        simp only [Option.map_some, Option.some.injEq] at hc
        subst hc
        exact ih i c' v hci hv n
  | nilm => intro n; cases n <;> exact .nilm
  | @mapDead id r h hx =>
    intro n
    cases hk : f id with
    | none => cases n <;> (simp only [ren, hk]; exact .dead)
    | some k => cases n <;> (simp only [ren, hk]; exact .mapDead (hd _ _ hk hx h).1 (hd _ _ hk hx h).2)
  | @mapp id b l h hl =>
    intro n
    cases hk : f id with
    | none => cases n <;> (simp only [ren, hk]; exact .dead)
    | some k =>
      rcases hφ _ _ hk _ h with h1 | h1
      · cases n <;> (simp only [ren, hk]; exact .mapp h1 hl)
      · cases n <;> (simp only [ren, hk]; exact .mapDead h1.1 h1.2)
  | @nit b hb hh => intro n; cases n <;> exact .nit (hN b hb).1 ((hN b hb).2.trans hh)
  | @yldDead id r h hx =>
    intro n
    cases hk : f id with
    | none => cases n <;> (simp only [ren, hk]; exact .dead)
    | some k => cases n <;> (simp only [ren, hk]; exact .yldDead (hd _ _ hk hx h).1 (hd _ _ hk hx h).2)
  | @yld id b l h hl =>
    intro n
    cases hk : f id with
    | none => cases n <;> (simp only [ren, hk]; exact .dead)
    | some k =>
      rcases hφ _ _ hk _ h with h1 | h1
      · cases n <;> (simp only [ren, hk]; exact .yld h1 hl)
      · cases n <;> (simp only [ren, hk]; exact .yldDead h1.1 h1.2)
  | @clo q cs vs hn h ih =>
    intro n
    cases n with
    | zero => exact .dead
    | succ n =>
      simp only [ren]
      refine .clo (by simpa using hn) fun i c v hc hv => ?_
      rw [List.getElem?_map] at hc
      cases hci : cs[i]? with
      | none => rw [hci] at hc; cases hc
      | some c' =>
        rw [hci] at hc
        simp only [Option.map_some, Option.some.injEq] at hc
        subst hc
        exact ih i c' v hci hv n
  | fn q => intro n; cases n <;> exact .fn q
  | dead => intro n; cases n <;> exact .dead

/-- Other numbers in a row; every cell must keep its row. -/
def renRow (f : Nat → Option Nat) (n : Nat) : Row → Option Row
  | .typ τ l => some (.typ τ l)
  | .mp κ τ es c => some (.mp κ τ es c)
  | .lp st pe => some (.lp st pe)
  | .dfr => some .dfr
  | .raw cs => bif (cs.map (ren f n)).all AV.single then some (.raw (cs.map (ren f n))) else none

theorem renRow_lies {f : Nat → Option Nat} {n : Nat} {r r' : Row} (h : renRow f n r = some r') {w : World} {l : Loc} {b o : Nat} (hl : Lies w l r b o) : Lies w l r' b o := by
  cases r with
  | typ τ l => simp only [renRow, Option.some.injEq] at h; subst h; exact hl
  | mp κ τ es c => simp only [renRow, Option.some.injEq] at h; subst h; exact hl
  | lp st pe => simp only [renRow, Option.some.injEq] at h; subst h; exact hl
  | dfr => simp only [renRow, Option.some.injEq] at h; subst h; exact hl
  | raw cs =>
    simp only [renRow] at h
    cases hc : (cs.map (ren f n)).all AV.single with
    | false => rw [hc] at h; cases h
    | true =>
      rw [hc] at h
      simp only [cond_true, Option.some.injEq] at h
      subst h
      exact hl

theorem renRow_len {f : Nat → Option Nat} {n : Nat} {r r' : Row} (h : renRow f n r = some r') : r'.len = r.len ∧ r'.esz = r.esz := by
  cases r with
  | typ τ l => simp only [renRow, Option.some.injEq] at h; subst h; exact ⟨rfl, rfl⟩
  | mp κ τ es c => simp only [renRow, Option.some.injEq] at h; subst h; exact ⟨rfl, rfl⟩
  | lp st pe => simp only [renRow, Option.some.injEq] at h; subst h; exact ⟨rfl, rfl⟩
  | dfr => simp only [renRow, Option.some.injEq] at h; subst h; exact ⟨rfl, rfl⟩
  | raw cs =>
    simp only [renRow] at h
    cases hc : (cs.map (ren f n)).all AV.single with
    | false => rw [hc] at h; cases h
    | true =>
      rw [hc] at h
      simp only [cond_true, Option.some.injEq] at h
      subst h
      exact ⟨rfl, by simp [Row.esz]⟩

theorem ren_cell (f : Nat → Option Nat) (n : Nat) (τ : Ty) (x : τ.D) : ∀ c ∈ cellsOf τ x, ren f n c = c := by
  induction τ with
  | int k => intro c hc; simp [cellsOf] at hc; subst hc; cases n <;> rfl
  | bool => intro c hc; simp [cellsOf] at hc; subst hc; cases n <;> rfl
  | str => intro c hc; simp [cellsOf] at hc; subst hc; cases n <;> rfl
  | sl e ih => intro c hc; simp [cellsOf] at hc; subst hc; cases n <;> rfl
  | pair s t ihs iht =>
    intro c hc
    simp only [cellsOf, List.mem_append] at hc
    rcases hc with hc | hc
    · exact ihs _ c hc
    · exact iht _ c hc

/-- The cells of a row by other numbers. -/
theorem renRow_flat {f : Nat → Option Nat} {n : Nat} {r r' : Row} (h : renRow f n r = some r') {i : Nat} {c : AV} (hc : r'.flat[i]? = some c) : ∃ c', r.flat[i]? = some c' ∧ c = ren f n c' ∧ (c'.single = true → c.single = true) := by
  cases r with
  | mp κ τ es cl =>
    simp only [renRow, Option.some.injEq] at h
    subst h
    simp [Row.flat] at hc
  | lp st pe =>
    simp only [renRow, Option.some.injEq] at h
    subst h
    simp [Row.flat] at hc
  | dfr =>
    simp only [renRow, Option.some.injEq] at h
    subst h
    simp [Row.flat] at hc
  | typ τ l =>
    simp only [renRow, Option.some.injEq] at h
    subst h
    refine ⟨c, hc, ?_, fun h => h⟩
    have hm : c ∈ (l.flatMap (cellsOf τ)) := List.mem_of_getElem? hc
    obtain ⟨x, _, hx⟩ := List.mem_flatMap.1 hm
    exact (ren_cell f n τ x c hx).symm
  | raw cs =>
    simp only [renRow] at h
    cases ha : (cs.map (ren f n)).all AV.single with
    | false => rw [ha] at h; cases h
    | true =>
      rw [ha] at h
      simp only [cond_true, Option.some.injEq] at h
      subst h
      simp only [Row.flat] at hc ⊢
      have hs := List.all_eq_true.1 ha c (List.mem_of_getElem? hc)
      rw [List.getElem?_map] at hc
      cases hci : cs[i]? with
      | none => rw [hci] at hc; cases hc
      | some c' =>
        rw [hci] at hc
        simp only [Option.map_some, Option.some.injEq] at hc
        exact ⟨c', rfl, hc.symm, fun _ => hs⟩

end Go.Ph

/- A part of the heap as a heap of its own; loops' heads. -/
namespace Go.Ph
open Go.RowKit

def subRows (f : Nat → Option Nat) (n : Nat) (h : AH) : Nat → List Nat → Option (List (Nat × Row))
  | _, [] => some []
  | j, id :: t => match subRows f n h (j + 1) t with
    | none => none
    | some rs => match h.get id with
      | none => some rs
      | some r => match renRow f n r with
        | some r' => some ((j, r') :: rs)
        | none => none

theorem subRows_low {f : Nat → Option Nat} {n : Nat} {h : AH} : ∀ {L : List Nat} {j : Nat} {rs : List (Nat × Row)}, subRows f n h j L = some rs → ∀ k, k < j → look k rs = none
  | [], j, rs, hs, k, hk => by simp only [subRows, Option.some.injEq] at hs; subst hs; rfl
  | id :: t, j, rs, hs, k, hk => by
    simp only [subRows] at hs
    split at hs
    · cases hs
    · rename_i rs' hrs
      have ih := subRows_low hrs k (by omega)
      split at hs
      · simp only [Option.some.injEq] at hs; subst hs; exact ih
      · split at hs
        · simp only [Option.some.injEq] at hs; subst hs
          simp only [look, beq_ne (show j ≠ k by omega), cond_false]
          exact ih
        · cases hs

theorem subRows_get {f : Nat → Option Nat} {n : Nat} {h : AH} : ∀ {L : List Nat} {j : Nat} {rs : List (Nat × Row)}, subRows f n h j L = some rs → ∀ k id, L[k]? = some id →
    (h.get id = none → look (j + k) rs = none) ∧ ∀ r, h.get id = some r → ∃ r', renRow f n r = some r' ∧ look (j + k) rs = some r'
  | [], j, rs, hs, k, id, hk => by simp at hk
  | x :: t, j, rs, hs, k, id, hk => by
    simp only [subRows] at hs
    split at hs
    · cases hs
    · rename_i rs' hrs
      cases k with
      | zero =>
        simp only [List.getElem?_cons_zero, Option.some.injEq] at hk
        subst hk
        have low := subRows_low hrs j (by omega)
        split at hs
        · rename_i hg
          simp only [Option.some.injEq] at hs; subst hs
          exact ⟨fun _ => by simpa using low, fun r hr => by rw [hg] at hr; cases hr⟩
        · rename_i r hg
          split at hs
          · rename_i r' hr'
            simp only [Option.some.injEq] at hs; subst hs
            refine ⟨fun h0 => (by rw [hg] at h0; cases h0), fun r2 hr2 => ?_⟩
            rw [hg] at hr2
            simp only [Option.some.injEq] at hr2
            subst hr2
            exact ⟨r', hr', by simp [look]⟩
          · cases hs
      | succ k =>
        simp only [List.getElem?_cons_succ] at hk
        have ih := subRows_get hrs k id hk
        have hj : j + 1 + k = j + (k + 1) := by omega
        rw [hj] at ih
        split at hs
        · simp only [Option.some.injEq] at hs; subst hs; exact ih
        · split at hs
          · simp only [Option.some.injEq] at hs; subst hs
            simp only [look, beq_ne (show j ≠ j + (k + 1) by omega), cond_false]
            exact ih
          · cases hs

theorem subRows_high {f : Nat → Option Nat} {n : Nat} {h : AH} : ∀ {L : List Nat} {j : Nat} {rs : List (Nat × Row)}, subRows f n h j L = some rs → ∀ k, j + L.length ≤ k → look k rs = none
  | [], j, rs, hs, k, hk => by simp only [subRows, Option.some.injEq] at hs; subst hs; rfl
  | id :: t, j, rs, hs, k, hk => by
    simp only [List.length_cons] at hk
    simp only [subRows] at hs
    split at hs
    · cases hs
    · rename_i rs' hrs
      have ih := subRows_high hrs k (by omega)
      split at hs
      · simp only [Option.some.injEq] at hs; subst hs; exact ih
      · split at hs
        · simp only [Option.some.injEq] at hs; subst hs
          simp only [look, beq_ne (show j ≠ k by omega), cond_false]
          exact ih
        · cases hs

/-- The rows L alone, by their places in L. -/
def part (L : List Nat) (n : Nat) (h : AH) : Option AH :=
  match subRows (fun id => pos id L) n h 0 L with
  | some rs => some ⟨rs, L.length⟩
  | none => none

theorem part_spec {L : List Nat} {n : Nat} {h hc : AH} (hp : part L n h = some hc) : hc.next = L.length ∧ (∀ j, L.length ≤ j → hc.get j = none) ∧ ∀ j id, L[j]? = some id →
    (h.get id = none → hc.get j = none) ∧ ∀ r, h.get id = some r → ∃ r', renRow (fun id => pos id L) n r = some r' ∧ hc.get j = some r' := by
  unfold part at hp
  split at hp
  · rename_i rs hrs
    simp only [Option.some.injEq] at hp
    subst hp
    refine ⟨rfl, fun j hj => subRows_high hrs j (by omega), fun j id hj => ?_⟩
    have := subRows_get hrs j id hj
    rw [Nat.zero_add] at this
    exact this
  · cases hp

def mapOf (φ : Map) (L : List Nat) : Map := fun j => (L[j]?).bind φ

theorem mapOf_some {φ : Map} {L : List Nat} {j : Nat} {l : Loc} (h : mapOf φ L j = some l) : ∃ id, L[j]? = some id ∧ φ id = some l := by
  unfold mapOf at h
  cases hj : L[j]? with
  | none => rw [hj] at h; cases h
  | some id => rw [hj] at h; exact ⟨id, rfl, h⟩

theorem get_lt {L : List Nat} {j : Nat} {id : Nat} (h : L[j]? = some id) : j < L.length := (List.getElem?_eq_some_iff.1 h).1

theorem part_imm {Bad Bad' : Nat → Prop} {φ : Map} {w : World} {L : List Nat} (hB' : ∀ b, Bad' b → Bad b ∨ ∃ id l, φ id = some l ∧ l.in_ b ∧ id ∉ L) {b : Nat} (h : Imm Bad φ w b) : Imm Bad' (mapOf φ L) w b := by
  refine ⟨fun hb => ?_, h.2.1, fun j l hj hin => ?_⟩
  · rcases hB' b hb with h1 | ⟨id, l, h1, h2, _⟩
    · exact h.1 h1
    · exact h.2.2 id l h1 h2
  · obtain ⟨id, _, h2⟩ := mapOf_some hj
    exact h.2.2 id l h2 hin

theorem part_sim {Bad Bad' : Nat → Prop} {φ : Map} {w : World} {L : List Nat} {nx : Nat} (hB' : ∀ b, Bad' b → Bad b ∨ ∃ id l, φ id = some l ∧ l.in_ b ∧ id ∉ L) {c : AV} {v : Value}
    (h : Sim (Imm Bad φ w) φ nx w c v) (n : Nat) : Sim (Imm Bad' (mapOf φ L) w) (mapOf φ L) L.length w (ren (fun id => pos id L) n c) v := by
  refine ren_sim (fun b hb => ⟨part_imm hB' hb, rfl⟩) (fun id k hk l hl => ?_) (fun id k hk _ hn => ?_) h n
  · left
    unfold mapOf
    rw [pos_get hk]
    exact hl
  · refine ⟨?_, get_lt (pos_get hk)⟩
    unfold mapOf
    rw [pos_get hk]
    exact hn

theorem part_rel {Bad Bad' : Nat → Prop} {φ : Map} {h hc : AH} {w : World} {L : List Nat} {n : Nat} (hr : Rel Bad φ h w) (hL : L.Nodup) (hp : part L n h = some hc)
    (hB' : ∀ b, Bad' b → Bad b ∨ ∃ id l, φ id = some l ∧ l.in_ b ∧ id ∉ L) : Rel Bad' (mapOf φ L) hc w := by
  obtain ⟨hn, hhigh, hget⟩ := part_spec hp
  refine ⟨fun j r hj => ?_, fun b hb => ?_, fun j hj => ?_, fun j hj => ?_, fun j j' l l' b h1 h2 h3 h4 => ?_, fun j l b h1 h2 => ?_, fun j r l b o hj hl hat i c hc' => ?_⟩
  · rcases Nat.lt_or_ge j L.length with hlt | hge
    · have hLj : L[j]? = some L[j] := by simp [hlt]
      obtain ⟨h1, h2⟩ := hget j _ hLj
      cases hg : h.get L[j] with
      | none => rw [h1 hg] at hj; cases hj
      | some r0 =>
        obtain ⟨r', h3, h4⟩ := h2 r0 hg
        rw [h4] at hj
        simp only [Option.some.injEq] at hj
        subst hj
        obtain ⟨l, h5, h6⟩ := hr.live _ _ hg
        obtain ⟨e1, e2⟩ := renRow_len h3
        refine ⟨l, by unfold mapOf; rw [hLj]; exact h5, ⟨h6.len.trans e1.symm, h6.esz.trans e2.symm, h6.le, h6.max, h6.nowhere, fun b o hat => renRow_lies h3 (h6.there b o hat)⟩⟩
    · rw [hhigh j hge] at hj; cases hj
  · rcases hB' b hb with h1 | ⟨id, l, h1, h2, _⟩
    · exact hr.bad b h1
    · exact (hr.ok id l b h1 h2).2
  · unfold mapOf
    cases hLj : L[j]? with
    | none => rfl
    | some id =>
      obtain ⟨h1, h2⟩ := hget j id hLj
      cases hg : h.get id with
      | none => exact hr.gone id hg
      | some r0 =>
        obtain ⟨r', _, h4⟩ := h2 r0 hg
        rw [h4] at hj; cases hj
  · rw [hn] at hj
    unfold mapOf
    rw [List.getElem?_eq_none hj]
    rfl
  · obtain ⟨id, k1, k2⟩ := mapOf_some h1
    obtain ⟨id', k3, k4⟩ := mapOf_some h2
    have := hr.inj id id' l l' b k2 k4 h3 h4
    subst this
    exact nodup_get hL k1 k3
  · obtain ⟨id, k1, k2⟩ := mapOf_some h1
    obtain ⟨o1, o2⟩ := hr.ok id l b k2 h2
    refine ⟨fun hb => ?_, o2⟩
    rcases hB' b hb with h3 | ⟨id', l', h3, h4, h5⟩
    · exact o1 h3
    · have := hr.inj id id' l l' b k2 h3 h2 h4
      subst this
      exact h5 (List.mem_of_getElem? k1)
  · obtain ⟨id, k1, k2⟩ := mapOf_some hl
    obtain ⟨h1, h2⟩ := hget j id k1
    cases hg : h.get id with
    | none => rw [h1 hg] at hj; cases hj
    | some r0 =>
      obtain ⟨r', h3, h4⟩ := h2 r0 hg
      rw [h4] at hj
      simp only [Option.some.injEq] at hj
      subst hj
      obtain ⟨c', h5, rfl, h7⟩ := renRow_flat h3 hc'
      obtain ⟨v, h8, h9, h10⟩ := hr.cells id r0 l b o hg k2 hat i c' h5
      refine ⟨v, h8, h7 h9, ?_⟩
      rw [hn]
      exact part_sim hB' h10 n

def nodupB : List Nat → Bool
  | [] => true
  | x :: t => !t.any (Nat.beq x) && nodupB t

theorem nodupB_spec : ∀ {L : List Nat}, nodupB L = true → L.Nodup
  | [], _ => List.nodup_nil
  | x :: t, h => by
    simp only [nodupB, Bool.and_eq_true] at h
    refine List.nodup_cons.2 ⟨fun hm => ?_, nodupB_spec h.2⟩
    have : t.any (Nat.beq x) = true := List.any_eq_true.2 ⟨x, hm, Nat.beq_refl x⟩
    rw [this] at h
    exact absurd h.1 (by simp)

/-- The state with the rows that one comes to from the variables 'keep', in the order in which one comes to them. -/
def canon (n0 : Nat) (keep : List Nat) : Norm := fun a h =>
  let L := gather h 1000 (keep.flatMap (fun i => idsIn 3 (AV.at_ a i)) ++ (List.range n0).flatMap fun id => idsRow (h.get id)) (List.range n0)
  bif nodupB L && a.ds.isEmpty then
    match part L 3 h with
    | some hc => some (Act'.keep keep (ren (fun id => pos id L) 3) a, hc)
    | none => none
  else none

theorem gather_pre (h : AH) : ∀ (n : Nat) (t acc : List Nat), ∃ s, gather h n t acc = acc ++ s
  | 0, t, acc => ⟨[], by simp [gather]⟩
  | n + 1, [], acc => ⟨[], by simp [gather]⟩
  | n + 1, id :: t, acc => by
    simp only [gather]
    cases acc.any (Nat.beq id) with
    | true => exact gather_pre h n t acc
    | false =>
      obtain ⟨s, hs⟩ := gather_pre h n (t ++ idsRow (h.get id)) (acc ++ [id])
      exact ⟨id :: s, by simp [hs]⟩

theorem canon_ok (n0 : Nat) (keep : List Nat) : NormOk n0 (canon n0 keep) := by
  intro a h a1 h1 hn Bad φ0 h0 w0 φ w y h0n g ha
  unfold canon at hn
  simp only at hn
  generalize hL : gather h 1000 (keep.flatMap (fun i => idsIn 3 (AV.at_ a i)) ++ (List.range n0).flatMap fun id => idsRow (h.get id)) (List.range n0) = L at hn
  cases hnd0 : (nodupB L && a.ds.isEmpty) with
  | false => rw [hnd0] at hn; cases hn
  | true =>
    rw [hnd0] at hn
    rw [Bool.and_eq_true] at hnd0
    obtain ⟨hnd, hds⟩ := hnd0
    simp only [cond_true] at hn
    split at hn
    · rename_i hc hp
      simp only [Option.some.injEq, Prod.mk.injEq] at hn
      obtain ⟨rfl, rfl⟩ := hn
      have hB : ∀ b, Bad b → Bad b ∨ ∃ id l, φ id = some l ∧ l.in_ b ∧ id ∉ L := fun b hb => .inl hb
      obtain ⟨s, hs⟩ := gather_pre h 1000 (keep.flatMap (fun i => idsIn 3 (AV.at_ a i)) ++ (List.range n0).flatMap fun id => idsRow (h.get id)) (List.range n0)
      rw [hL] at hs
      have hnext := (part_spec hp).1
      have hlow : ∀ i, i < n0 → L[i]? = some i := fun i hi => by
        rw [hs, List.getElem?_append_left (by simpa using hi)]
        simp [hi]
      refine ⟨mapOf φ L, ⟨part_rel g.rel (nodupB_spec hnd) hp hB, ⟨?_, g.evo.size, g.evo.keep, fun j l b hj hin => ?_, fun i hi => ?_, g.evo.os, g.evo.tape, g.evo.output⟩⟩, ⟨?_, ?_, fun t => ?_⟩⟩
      · rw [hnext, hs, h0n]; simp
      · obtain ⟨id, _, h3⟩ := mapOf_some hj
        exact g.evo.owned id l b h3 hin
      · have : mapOf φ L i = φ i := by unfold mapOf; rw [hlow i (by omega)]; rfl
        rw [this]
        exact g.evo.old i hi
      · have h0 : a.ds = [] := List.isEmpty_iff.1 hds
        have h1 := ha.ds
        rw [h0] at h1
        show Marks _ _ a.ds y.defers
        rw [h0]
        exact h1
      · exact ha.size
      · rw [hnext]
        rcases Act'.keep_at (ren (fun id => pos id L) 3) rfl a t keep with hm | hm
        · rw [hm]
          exact part_sim (Bad' := Bad) (L := L) hB (ha.tmps t) 3
        · rw [hm]
          exact .dead
    · cases hn

end Go.Ph

/- A call in a heap of its own: the frame. -/
namespace Go.Ph
open Go.RowKit

/-- The number behind a place: a row that was handed over, or a new one. -/
def backId (L : List Nat) (nx j : Nat) : Nat :=
  match L[j]? with
  | some id => id
  | none => nx + (j - L.length)

def backRows (g : Nat → Nat) (n : Nat) : List (Nat × Row) → Option (List (Nat × Row))
  | [] => some []
  | (j, r) :: t => match renRow (fun k => some (g k)) n r with
    | some r' => match backRows g n t with
      | some t' => some ((g j, r') :: t')
      | none => none
    | none => none

def dropAll (L : List Nat) : List (Nat × Row) → List (Nat × Row)
  | [] => []
  | (k, r) :: t => bif L.any (Nat.beq k) then dropAll L t else (k, r) :: dropAll L t

def back (L : List Nat) (n : Nat) (h hc : AH) : Option AH :=
  match backRows (backId L h.next) n hc.rows with
  | some rs => some ⟨rs ++ dropAll L h.rows, h.next + (hc.next - L.length)⟩
  | none => none

theorem any_beq {L : List Nat} {k : Nat} : L.any (Nat.beq k) = true ↔ k ∈ L := by
  rw [List.any_eq_true]
  exact ⟨fun ⟨x, h1, h2⟩ => by rw [Nat.eq_of_beq_eq_true h2]; exact h1, fun h => ⟨k, h, Nat.beq_refl k⟩⟩

theorem look_dropAll_in {L : List Nat} {k : Nat} (h : k ∈ L) : ∀ l, look k (dropAll L l) = none
  | [] => rfl
  | (x, r) :: t => by
    simp only [dropAll]
    cases hx : L.any (Nat.beq x) with
    | true => exact look_dropAll_in h t
    | false =>
      have : x ≠ k := fun e => by subst e; rw [any_beq.2 h] at hx; cases hx
      simp only [cond_false, look, beq_ne this, look_dropAll_in h t]

theorem look_dropAll_out {L : List Nat} {k : Nat} (h : k ∉ L) : ∀ l, look k (dropAll L l) = look k l
  | [] => rfl
  | (x, r) :: t => by
    simp only [dropAll]
    cases hx : L.any (Nat.beq x) with
    | true =>
      have : x ≠ k := fun e => by subst e; exact h (any_beq.1 hx)
      simp only [cond_true, look, beq_ne this, cond_false]
      exact look_dropAll_out h t
    | false => simp only [cond_false, look, look_dropAll_out h t]

theorem look_append (k : Nat) : ∀ (a b : List (Nat × Row)), look k (a ++ b) = (look k a).or (look k b)
  | [], b => by simp [look]
  | (x, r) :: t, b => by
    simp only [List.cons_append, look]
    cases Nat.beq x k with
    | true => simp
    | false => simp only [cond_false]; exact look_append k t b

theorem look_back_in {g : Nat → Nat} (hg : ∀ i j, g i = g j → i = j) {n : Nat} {j : Nat} : ∀ {l rs : List (Nat × Row)}, backRows g n l = some rs →
    (look j l = none → look (g j) rs = none) ∧ ∀ r, look j l = some r → ∃ r', renRow (fun k => some (g k)) n r = some r' ∧ look (g j) rs = some r'
  | [], rs, h => by
    simp only [backRows, Option.some.injEq] at h
    subst h
    exact ⟨fun _ => rfl, fun r h => by simp [look] at h⟩
  | (x, r) :: t, rs, h => by
    simp only [backRows] at h
    split at h
    · rename_i r' hr
      split at h
      · rename_i t' ht
        simp only [Option.some.injEq] at h
        subst h
        have ih := look_back_in hg (j := j) ht
        by_cases hx : x = j
        · subst hx
          simp only [look, Nat.beq_refl, cond_true]
          refine ⟨fun h => (by cases h), fun r2 h2 => ?_⟩
          simp only [Option.some.injEq] at h2
          subst h2
          exact ⟨r', hr, rfl⟩
        · have : g x ≠ g j := fun e => hx (hg _ _ e)
          simp only [look, beq_ne hx, beq_ne this, cond_false]
          exact ih
      · cases h
    · cases h

theorem look_back_out {g : Nat → Nat} {n : Nat} {k : Nat} (hk : ∀ j, g j ≠ k) : ∀ {l rs : List (Nat × Row)}, backRows g n l = some rs → look k rs = none
  | [], rs, h => by simp only [backRows, Option.some.injEq] at h; subst h; rfl
  | (x, r) :: t, rs, h => by
    simp only [backRows] at h
    split at h
    · split at h
      · rename_i t' ht
        simp only [Option.some.injEq] at h
        subst h
        simp only [look, beq_ne (hk x), cond_false]
        exact look_back_out hk ht
      · cases h
    · cases h

/-- The blocks that a called function must leave alone. -/
def badOf (Bad : Nat → Prop) (φ : Map) (L : List Nat) : Nat → Prop := fun b => Bad b ∨ ∃ id l, φ id = some l ∧ l.in_ b ∧ id ∉ L

section
variable {L : List Nat} {nx : Nat}

theorem backId_in {j id : Nat} (h : L[j]? = some id) : backId L nx j = id := by unfold backId; rw [h]
theorem backId_out {j : Nat} (h : L.length ≤ j) : backId L nx j = nx + (j - L.length) := by unfold backId; rw [List.getElem?_eq_none h]

theorem backId_inj (hL : L.Nodup) (hlt : ∀ id ∈ L, id < nx) : ∀ i j, backId L nx i = backId L nx j → i = j := by
  intro i j h
  rcases Nat.lt_or_ge i L.length with hi | hi
  · have hi' : L[i]? = some L[i] := by simp [hi]
    have h1 := hlt L[i] (by simp)
    rw [backId_in hi'] at h
    rcases Nat.lt_or_ge j L.length with hj | hj
    · have hj' : L[j]? = some L[j] := by simp [hj]
      rw [backId_in hj'] at h
      rw [h] at hi'
      exact nodup_get hL hi' hj'
    · rw [backId_out hj] at h; omega
  · rw [backId_out hi] at h
    rcases Nat.lt_or_ge j L.length with hj | hj
    · have hj' : L[j]? = some L[j] := by simp [hj]
      have h1 := hlt L[j] (by simp)
      rw [backId_in hj'] at h
      omega
    · rw [backId_out hj] at h; omega

/-- Where the rows lie behind the call. -/
def mapBack (φ φc : Map) (L : List Nat) (nx : Nat) : Map := fun id =>
  match pos id L with
  | some j => φc j
  | none => if id < nx then φ id else φc (id - nx + L.length)

theorem pos_nodup (hL : L.Nodup) {j id : Nat} (h : L[j]? = some id) : pos id L = some j := by
  obtain ⟨q, hq⟩ := pos_of_mem (List.mem_of_getElem? h)
  rw [hq, nodup_get hL (pos_get hq) h]

theorem mapBack_id (hL : L.Nodup) (hlt : ∀ id ∈ L, id < nx) (φ φc : Map) (j : Nat) : mapBack φ φc L nx (backId L nx j) = φc j := by
  rcases Nat.lt_or_ge j L.length with hj | hj
  · have hj' : L[j]? = some L[j] := by simp [hj]
    rw [backId_in hj']
    unfold mapBack
    rw [pos_nodup hL hj']
  · rw [backId_out hj]
    unfold mapBack
    have : pos (nx + (j - L.length)) L = none := by
      cases hp : pos (nx + (j - L.length)) L with
      | none => rfl
      | some q =>
        have := hlt _ (List.mem_of_getElem? (pos_get hp))
        omega
    rw [this]
    simp only
    rw [if_neg (by omega)]
    congr 1
    omega

theorem mapBack_old (φ φc : Map) {id : Nat} (h : id ∉ L) (hlt : id < nx) : mapBack φ φc L nx id = φ id := by
  unfold mapBack
  have : pos id L = none := by
    cases hp : pos id L with
    | none => rfl
    | some q => exact absurd (List.mem_of_getElem? (pos_get hp)) h
  rw [this]
  simp only
  rw [if_pos hlt]

/-- Every number is a place's, or an old row's that was not handed over. -/
theorem id_cases (hL : L.Nodup) (hlt : ∀ id ∈ L, id < nx) (id : Nat) : (∃ j, backId L nx j = id) ∨ (id ∉ L ∧ id < nx ∧ ∀ j, backId L nx j ≠ id) := by
  by_cases hm : id ∈ L
  · obtain ⟨j, hj⟩ := pos_of_mem hm
    exact .inl ⟨j, backId_in (pos_get hj)⟩
  · rcases Nat.lt_or_ge id nx with h | h
    · refine .inr ⟨hm, h, fun j hj => ?_⟩
      rcases Nat.lt_or_ge j L.length with h1 | h1
      · have hj' : L[j]? = some L[j] := by simp [h1]
        rw [backId_in hj'] at hj
        exact hm (hj ▸ List.mem_of_getElem? hj')
      · rw [backId_out h1] at hj; omega
    · refine .inl ⟨id - nx + L.length, ?_⟩
      rw [backId_out (by omega)]
      omega

end

theorem frame {Bad : Nat → Prop} {φ : Map} {h hc hc' h' : AH} {w w' : World} {L : List Nat} {n : Nat} {φc : Map} (hr : Rel Bad φ h w) (hL : L.Nodup) (hlt : ∀ id ∈ L, id < h.next) (hp : part L n h = some hc)
    (g : Goes (badOf Bad φ L) (mapOf φ L) hc w φc hc' w') (hb : back L n h hc' = some h') :
    Goes Bad φ h w (mapBack φ φc L h.next) h' w' ∧ ∀ c v m, Sim (Imm (badOf Bad φ L) φc w') φc hc'.next w' c v → Sim (Imm Bad (mapBack φ φc L h.next) w') (mapBack φ φc L h.next) h'.next w' (ren (fun k => some (backId L h.next k)) m c) v := by
  have hcn := (part_spec hp).1
  have inj := backId_inj (nx := h.next) hL hlt
  have mb := mapBack_id (nx := h.next) hL hlt φ φc
  have cs := id_cases (nx := h.next) hL hlt
  have hnn : L.length ≤ hc'.next := by rw [← hcn]; exact g.evo.next
  unfold back at hb
  split at hb
  · rename_i rs hrs
    simp only [Option.some.injEq] at hb
    subst hb
    -- the rows
    have getIn : ∀ j, (hc'.get j = none → AH.get ⟨rs ++ dropAll L h.rows, h.next + (hc'.next - L.length)⟩ (backId L h.next j) = none) ∧
        ∀ r, hc'.get j = some r → ∃ r', renRow (fun k => some (backId L h.next k)) n r = some r' ∧ AH.get ⟨rs ++ dropAll L h.rows, h.next + (hc'.next - L.length)⟩ (backId L h.next j) = some r' := by
      intro j
      obtain ⟨h1, h2⟩ := look_back_in inj (j := j) hrs
      refine ⟨fun h0 => ?_, fun r h0 => ?_⟩
      · simp only [AH.get, look_append]
        rw [h1 h0]
        simp only [Option.none_or]
        rcases Nat.lt_or_ge j L.length with hj | hj
        · have hj' : L[j]? = some L[j] := by simp [hj]
          rw [backId_in hj']
          exact look_dropAll_in (List.mem_of_getElem? hj') _
        · rw [backId_out hj]
          have hnm : h.next + (j - L.length) ∉ L := fun hm => by have := hlt _ hm; omega
          rw [look_dropAll_out hnm]
          cases hg : look (h.next + (j - L.length)) h.rows with
          | none => rfl
          | some r =>
            obtain ⟨l, hl, _⟩ := hr.live (h.next + (j - L.length)) r hg
            rw [hr.lt _ (by omega)] at hl
            cases hl
      · obtain ⟨r', h3, h4⟩ := h2 r h0
        refine ⟨r', h3, ?_⟩
        simp only [AH.get, look_append]
        rw [h4]
        rfl
    have getOut : ∀ id, id ∉ L → (∀ j, backId L h.next j ≠ id) → AH.get ⟨rs ++ dropAll L h.rows, h.next + (hc'.next - L.length)⟩ id = h.get id := by
      intro id h1 h2
      simp only [AH.get, look_append]
      rw [look_back_out h2 hrs, look_dropAll_out h1]
      rfl
    -- where they lie
    have split_ : ∀ id l, mapBack φ φc L h.next id = some l → (∃ j, backId L h.next j = id ∧ φc j = some l) ∨ (id ∉ L ∧ id < h.next ∧ (∀ j, backId L h.next j ≠ id) ∧ φ id = some l) := by
      intro id l hl
      rcases cs id with ⟨j, hj⟩ | ⟨h1, h2, h3⟩
      · subst hj; rw [mb] at hl; exact .inl ⟨j, rfl, hl⟩
      · rw [mapBack_old φ φc h1 h2] at hl; exact .inr ⟨h1, h2, h3, hl⟩
    have notboth : ∀ j lc id l b, φc j = some lc → lc.in_ b → id ∉ L → φ id = some l → l.in_ b → False := fun j lc id l b h1 h2 h3 h4 h5 =>
      (g.rel.ok j lc b h1 h2).1 (.inr ⟨id, l, h4, h5, h3⟩)
    have keepB : ∀ id l b, id ∉ L → φ id = some l → l.in_ b → w'.heap[b]? = w.heap[b]? := fun id l b h1 h2 h3 =>
      g.evo.keep b (hr.ok id l b h2 h3).2 fun j lc h4 h5 => by
        obtain ⟨id', k1, k2⟩ := mapOf_some h4
        have := hr.inj id' id lc l b k2 h2 h5 h3
        subst this
        exact h1 (List.mem_of_getElem? k1)
    have immB : ∀ b, Imm (badOf Bad φ L) φc w' b → Imm Bad (mapBack φ φc L h.next) w' b := by
      intro b hb
      refine ⟨fun hbad => hb.1 (.inl hbad), hb.2.1, fun id l hl hin => ?_⟩
      rcases split_ id l hl with ⟨j, _, h2⟩ | ⟨h1, _, _, h2⟩
      · exact hb.2.2 j l h2 hin
      · exact hb.1 (.inr ⟨id, l, h2, hin, h1⟩)
    have ev : Evo φ h.next w (mapBack φ φc L h.next) (h.next + (hc'.next - L.length)) w' := by
      refine ⟨Nat.le_add_right _ _, g.evo.size, fun b hb hno => g.evo.keep b hb fun j l hj hin => ?_, fun id l b hl hin => ?_, fun id hid => ?_, g.evo.os, g.evo.tape, g.evo.output⟩
      · obtain ⟨id, _, k2⟩ := mapOf_some hj
        exact hno id l k2 hin
      · rcases split_ id l hl with ⟨j, _, h2⟩ | ⟨_, _, _, h2⟩
        · rcases g.evo.owned j l b h2 hin with h3 | ⟨j0, l0, h3, h4⟩
          · exact .inl h3
          · obtain ⟨id0, _, k2⟩ := mapOf_some h3
            exact .inr ⟨id0, l0, k2, h4⟩
        · exact .inr ⟨id, l, h2, hin⟩
      · rcases cs id with ⟨j, hj⟩ | ⟨h1, h2, _⟩
        · subst hj
          rw [mb]
          rcases Nat.lt_or_ge j L.length with h1 | h1
          · have hj' : L[j]? = some L[j] := by simp [h1]
            rw [backId_in hj']
            rcases g.evo.old j (by omega) with h2 | h2
            · rw [h2]; left; unfold mapOf; rw [hj']; rfl
            · exact .inr h2
          · rw [backId_out h1] at hid; omega
        · exact .inl (mapBack_old φ φc h1 h2)
    have simC : ∀ c v m, Sim (Imm (badOf Bad φ L) φc w') φc hc'.next w' c v → Sim (Imm Bad (mapBack φ φc L h.next) w') (mapBack φ φc L h.next) (h.next + (hc'.next - L.length)) w' (ren (fun k => some (backId L h.next k)) m c) v := by
      intro c v m hs
      refine ren_sim (fun b hb => ⟨immB b hb, rfl⟩) (fun id k hk l hl => ?_) (fun id k hk hlt' hn => ?_) hs m
      · simp only [Option.some.injEq] at hk
        subst hk
        left
        rw [mb]
        exact hl
      · simp only [Option.some.injEq] at hk
        subst hk
        rw [mb]
        refine ⟨hn, ?_⟩
        rcases Nat.lt_or_ge id L.length with h1 | h1
        · have hj' : L[id]? = some L[id] := by simp [h1]
          rw [backId_in hj']
          have := hlt L[id] (by simp)
          omega
        · rw [backId_out h1]; omega
    refine ⟨⟨⟨fun id r hg => ?_, fun b hb => ?_, fun id hg => ?_, fun id hid => ?_, fun id id' l l' b h1 h2 h3 h4 => ?_, fun id l b h1 h2 => ?_, fun id r l b o hg hl hat i c hc1 => ?_⟩, ev⟩, simC⟩
    · rcases cs id with ⟨j, hj⟩ | ⟨h1, h2, h3⟩
      · subst hj
        obtain ⟨k1, k2⟩ := getIn j
        cases hgc : hc'.get j with
        | none => rw [k1 hgc] at hg; cases hg
        | some r0 =>
          obtain ⟨r', k3, k4⟩ := k2 r0 hgc
          rw [k4] at hg
          simp only [Option.some.injEq] at hg
          subst hg
          obtain ⟨l, k5, k6⟩ := g.rel.live j r0 hgc
          obtain ⟨e1, e2⟩ := renRow_len k3
          exact ⟨l, by rw [mb]; exact k5, ⟨k6.len.trans e1.symm, k6.esz.trans e2.symm, k6.le, k6.max, k6.nowhere, fun b o hat => renRow_lies k3 (k6.there b o hat)⟩⟩
      · rw [getOut id h1 h3] at hg
        obtain ⟨l, k5, k6⟩ := hr.live id r hg
        refine ⟨l, by rw [mapBack_old φ φc h1 h2]; exact k5, ⟨k6.len, k6.esz, k6.le, k6.max, k6.nowhere, fun b o hat => ?_⟩⟩
        have hk := keepB id l b h1 k5 ⟨o, hat⟩
        exact (k6.there b o hat).keep hk
    · exact Nat.lt_of_lt_of_le (hr.bad b hb) g.evo.size
    · rcases cs id with ⟨j, hj⟩ | ⟨h1, h2, h3⟩
      · subst hj
        rw [mb]
        obtain ⟨k1, k2⟩ := getIn j
        cases hgc : hc'.get j with
        | none => exact g.rel.gone j hgc
        | some r0 =>
          obtain ⟨r', k3, k4⟩ := k2 r0 hgc
          rw [k4] at hg; cases hg
      · rw [getOut id h1 h3] at hg
        rw [mapBack_old φ φc h1 h2]
        exact hr.gone id hg
    · have hid' : h.next + (hc'.next - L.length) ≤ id := hid
      rcases cs id with ⟨j, hj⟩ | ⟨h1, h2, h3⟩
      · subst hj
        rw [mb]
        refine g.rel.lt j ?_
        rcases Nat.lt_or_ge j L.length with h1 | h1
        · have hj' : L[j]? = some L[j] := by simp [h1]
          rw [backId_in hj'] at hid'
          have := hlt L[j] (by simp)
          omega
        · rw [backId_out h1] at hid'; omega
      · omega
    · rcases split_ id l h1 with ⟨j, k1, k2⟩ | ⟨k1, _, _, k2⟩
      · rcases split_ id' l' h2 with ⟨j', k3, k4⟩ | ⟨k3, _, _, k4⟩
        · have := g.rel.inj j j' l l' b k2 k4 h3 h4
          subst this
          exact k1.symm.trans k3
        · exact (notboth j l id' l' b k2 h3 k3 k4 h4).elim
      · rcases split_ id' l' h2 with ⟨j', k3, k4⟩ | ⟨k3, _, _, k4⟩
        · exact (notboth j' l' id l b k4 h4 k1 k2 h3).elim
        · exact hr.inj id id' l l' b k2 k4 h3 h4
    · rcases split_ id l h1 with ⟨j, k1, k2⟩ | ⟨k1, _, _, k2⟩
      · obtain ⟨o1, o2⟩ := g.rel.ok j l b k2 h2
        exact ⟨fun hb => o1 (.inl hb), o2⟩
      · obtain ⟨o1, o2⟩ := hr.ok id l b k2 h2
        exact ⟨o1, Nat.lt_of_lt_of_le o2 g.evo.size⟩
    · rcases split_ id l hl with ⟨j, k1, k2⟩ | ⟨k1, _, k0, k2⟩
      · subst k1
        obtain ⟨q1, q2⟩ := getIn j
        cases hgc : hc'.get j with
        | none => rw [q1 hgc] at hg; cases hg
        | some r0 =>
          obtain ⟨r', k3, k4⟩ := q2 r0 hgc
          rw [k4] at hg
          simp only [Option.some.injEq] at hg
          subst hg
          obtain ⟨c', h5, rfl, h7⟩ := renRow_flat k3 hc1
          obtain ⟨v, h8, h9, h10⟩ := g.rel.cells j r0 l b o hgc k2 hat i c' h5
          exact ⟨v, h8, h7 h9, simC _ _ _ h10⟩
      · rw [getOut id k1 k0] at hg
        obtain ⟨v, h8, h9, h10⟩ := hr.cells id r l b o hg k2 hat i c hc1
        refine ⟨v, ?_, h9, ev.sim hr.id_lt h10⟩
        rw [cell_of_heap (keepB id l b k1 k2 ⟨o, hat⟩)]
        exact h8
  · cases hb

end Go.Ph

/- Functions. -/
namespace Go.Ph
open Go.RowKit

abbrev Spec := List AV → AH → (Z : Type) → (AV → AH → Option Z) → Option Z

/-- What is taken for a function is so. -/
structure SpecTo (P : Program) (f : Nat) (S : Spec) (quiet tame : Bool) (clean : Bool := false) : Prop where
  to_ : ∀ (args : List AV) (h : AH) (Z : Type) (k : AV → AH → Option Z) (z : Z), S args h Z k = some z → ∃ r h', k r h' = some z ∧ h.next ≤ h'.next ∧ (quiet = true → h' = h ∧ ∀ h2 : AH, FnTo P f args h2 r h2) ∧ (tame = true → Keeps (bif clean then [] else reach h args) h h') ∧ FnTo P f args h r h'

structure Entry where
  f : Nat
  spec : Spec
  quiet : Bool
  tame : Bool
  iter : Iter
  clean : Bool

/-- A function that is not ranged over. -/
def noIter : Iter := fun _ _ _ _ _ => none

theorem noIter_ok (P : Program) (f : Nat) : IterOk P f noIter := fun Y G _ _ args h Z k z hk => by cases hk

def find (f : Nat) : List Entry → Option Entry
  | [] => none
  | e :: t => bif Nat.beq e.f f then some e else find f t

theorem find_mem {f : Nat} : ∀ {l : List Entry} {e : Entry}, find f l = some e → e ∈ l ∧ e.f = f
  | [], e, h => by cases h
  | x :: t, e, h => by
    simp only [find] at h
    cases hx : Nat.beq x.f f with
    | true =>
      rw [hx] at h
      simp only [cond_true, Option.some.injEq] at h
      subst h
      exact ⟨by simp, Nat.eq_of_beq_eq_true hx⟩
    | false =>
      rw [hx] at h
      obtain ⟨h1, h2⟩ := find_mem h
      exact ⟨by simp [h1], h2⟩

/-- The functions that one knows. -/
def ctxOf (P : Program) (tbl : List Entry) (ann : List Nat) : Ctx where
  P := P
  env f args h Z k := match find f tbl with
    | some e => e.spec args h Z k
    | none => none
  yld := fun _ _ _ _ _ => none
  iter g := match find g tbl with
    | some e => e.iter
    | none => noIter
  tree := fun _ => none
  quiet f := match find f tbl with
    | some e => e.quiet
    | none => false
  tame f := match find f tbl with
    | some e => e.tame
    | none => false
  clean f := match find f tbl with
    | some e => e.clean
    | none => false
  ann t := ann.any (Nat.beq t)

abbrev EntryOk (P : Program) (e : Entry) : Prop := SpecTo P e.f e.spec e.quiet e.tame e.clean ∧ IterOk P e.f e.iter

def TblOk (P : Program) (tbl : List Entry) : Prop := ∀ e ∈ tbl, EntryOk P e

theorem iters_ok {P : Program} {tbl : List Entry} {ann : List Nat} (ht : TblOk P tbl) (g : Nat) : IterOk P g ((ctxOf P tbl ann).iter g) := by
  show IterOk P g (match find g tbl with
    | some e => e.iter
    | none => noIter)
  split
  · rename_i e he
    obtain ⟨h1, h2⟩ := find_mem he
    subst h2
    exact (ht e h1).2
  · exact noIter_ok P g

theorem env_ok {P : Program} {tbl : List Entry} {ann : List Nat} (ht : TblOk P tbl) {f : Nat} (hb : hasBody P f = true) : EnvOk (ctxOf P tbl ann) f := by
  refine ⟨?_, fun args h Z k z hk => ?_⟩
  · unfold hasBody at hb
    split at hb
    · rename_i fn hf
      simp only [Bool.and_eq_true, Bool.not_eq_true'] at hb
      exact ⟨fn, hf, hb.1, hb.2⟩
    · cases hb
  · unfold ctxOf at hk
    simp only at hk
    split at hk
    · rename_i e he
      obtain ⟨h1, h2⟩ := find_mem he
      subst h2
      obtain ⟨r, h', k1, k2, k3, k5, k4⟩ := (ht e h1).1.to_ args h Z k z hk
      refine ⟨r, h', k1, k2, fun hq => k3 ?_, fun hq => ?_, k4⟩
      · unfold ctxOf at hq
        simp only [he] at hq
        exact hq
      · have hq' : e.tame = true := by
          unfold ctxOf at hq
          simp only [he] at hq
          exact hq
        have hc : (ctxOf P tbl ann).clean e.f = e.clean := by
          unfold ctxOf
          simp only [he]
        rw [hc]
        exact k5 hq'
    · cases hk

/-- How a result variable is read. -/
def readVar (tmps : Array Value) : ResultVar → Sem Value
  | .tmp t => pure (tmps.getD t undef)
  | .cell q t => do loadVar t (← asAddr (tmps.getD q undef))

theorem results_eq (fn : Func) (tmps : Array Value) : results fn tmps = (do
    let vs ← fn.results.mapM (readVar tmps)
    pure (if h : vs.size = 1 then vs[0] else .tuple vs)) := by
  unfold results
  congr 1

/-- What a result variable holds. -/
def resOne (P : Program) (a : Act') (h : AH) : ResultVar → Option AV
  | .tmp t => some (AV.at_ a t)
  | .cell x t => match AV.at_ a x with
    | .ptr id i j => match h.get id with
      | some (.raw cs) => if i = 0 then partOf P t cs j else none
      | _ => none
    | _ => none

def resAll (P : Program) (a : Act') (h : AH) : List ResultVar → Option (List AV)
  | [] => some []
  | x :: t => match resOne P a h x with
    | some v => match resAll P a h t with
      | some vs => some (v :: vs)
      | none => none
    | none => none

def resK (P : Program) (fn : Func) (a : Act') (h : AH) : Option AV :=
  match resAll P a h fn.results.toList with
  | some [v] => some v
  | some vs => some (.tuple vs)
  | none => none

/-- The blocks for deferred calls are shut. -/
def shutD : List Nat → AH → Option AH
  | [], h => some h
  | id :: r, h => match h.get id with
    | some .dfr => shutD r (h.del id)
    | _ => none

/-- A function's body, run. -/
def runFn (C : Ctx) (norm : Nat → Nat → Norm) (fuel : Nat) (fn : Func) : Spec := fun args h Z k =>
  match fn.body with
  | some c => bif Nat.ble fn.ntmps 512 && Nat.ble args.length fn.ntmps then runCode C fuel (norm h.next) 1 false c (Act'.init args fn.ntmps) h Z fun e a h' => match e with
    | .exit _ => none
    | _ => match shutD a.ds h' with
      | some h' => match resK C.P fn a h' with
        | some r => bif Nat.ble h.next h'.next then k r h' else none
        | none => none
      | none => none
    else none
  | none => none

/-- A function that is ranged over, run. -/
def runIt (C : Ctx) (fuel : Nat) (fn : Func) : Iter := fun Y args h Z k => runFn { C with yld := Y } (fun _ => idN) fuel fn args h Z fun _ h' => k h'

theorem resOne_to {P : Program} {Bad : Nat → Prop} {φ : Map} {h : AH} {w : World} {a : Act'} {y : Act} (hr : Rel Bad φ h w) (ha : ActSim (Imm Bad φ w) φ h.next w a y) {x : ResultVar} {v : AV} (hv : resOne P a h x = some v) :
    ∃ u, (readVar y.tmps x).run P w = .ok u w ∧ Sim (Imm Bad φ w) φ h.next w v u := by
  cases x with
  | tmp t =>
    simp only [resOne, Option.some.injEq] at hv
    subst hv
    exact ⟨_, rfl, ha.tmps t⟩
  | cell q t =>
    simp only [resOne] at hv
    split at hv
    · rename_i id i j hp
      split at hv
      · rename_i cs hg
        split at hv
        · rename_i hi
          subst hi
          have hs := ha.tmps q
          rw [hp] at hs
          obtain ⟨l, hl, hf⟩ := hr.live id _ hg
          simp only [readVar]
          generalize y.tmps.getD q undef = u at hs ⊢
          cases hs with
          | ptrDead h1 _ => rw [h1] at hl; cases hl
          | @ptr _ _ _ b o l' h1 h4 =>
            rw [h1] at hl
            simp only [Option.some.injEq] at hl
            subst hl
            obtain ⟨u, h5, h6⟩ := run_load (P := P) (b := b) (o := o) (w := w) hv (fun i x hx => by
              obtain ⟨v, h7, _, h8⟩ := hr.cells id _ l' b o hg h1 h4 i x hx
              exact ⟨v, h7, h8⟩)
            refine ⟨u, ?_, h6⟩
            have hz : o + (0 * l'.esz + j) = o + j := by simp
            rw [hz]
            simp only [Sem.run_bind]
            have : (asAddr (.pointer (some ⟨b, o + j, none⟩))).run P w = .ok ⟨b, o + j, none⟩ w := by simp [asAddr]
            rw [this]
            exact h5
        · cases hv
      · cases hv
    · cases hv

theorem resAll_to {P : Program} {Bad : Nat → Prop} {φ : Map} {h : AH} {w : World} {a : Act'} {y : Act} (hr : Rel Bad φ h w) (ha : ActSim (Imm Bad φ w) φ h.next w a y) : ∀ {l : List ResultVar} {vs : List AV}, resAll P a h l = some vs →
    ∃ us, (l.mapM (readVar y.tmps)).run P w = .ok us w ∧ VCells (Imm Bad φ w) φ h.next w vs us
  | [], vs, hv => by
    simp only [resAll, Option.some.injEq] at hv
    subst hv
    exact ⟨[], rfl, rfl, fun i c v hc => (by simp at hc)⟩
  | x :: t, vs, hv => by
    simp only [resAll] at hv
    split at hv
    · rename_i v hx
      split at hv
      · rename_i vs' ht
        simp only [Option.some.injEq] at hv
        subst hv
        obtain ⟨u, h1, h2⟩ := resOne_to (P := P) hr ha hx
        obtain ⟨us, h3, h4⟩ := resAll_to hr ha ht
        refine ⟨u :: us, ?_, VCells.cons h2 h4⟩
        rw [List.mapM_cons, Sem.run_bind, h1]
        simp only [Result.andThen, Sem.run_bind, h3]
        rfl
      · cases hv
    · cases hv

theorem resK_to {P : Program} {fn : Func} {Bad : Nat → Prop} {φ : Map} {h : AH} {w : World} {a : Act'} {y : Act} (hr : Rel Bad φ h w) (ha : ActSim (Imm Bad φ w) φ h.next w a y) {r : AV} (hv : resK P fn a h = some r) :
    ∃ u, (results fn y.tmps).run P w = .ok u w ∧ Sim (Imm Bad φ w) φ h.next w r u := by
  have key : ∀ vs, resAll P a h fn.results.toList = some vs → ∃ us, (results fn y.tmps).run P w = .ok (if h : us.toArray.size = 1 then us.toArray[0] else .tuple us.toArray) w ∧ VCells (Imm Bad φ w) φ h.next w vs us := by
    intro vs hvs
    obtain ⟨us, h1, h2⟩ := resAll_to (P := P) hr ha hvs
    refine ⟨us, ?_, h2⟩
    rw [results_eq, Array.mapM_eq_mapM_toList, Sem.run_bind, Sem.run_map, h1]
    rfl
  unfold resK at hv
  split at hv
  · rename_i v hvs
    simp only [Option.some.injEq] at hv
    subst hv
    obtain ⟨us, h1, h2⟩ := key _ hvs
    obtain ⟨u, rfl, h3⟩ := one_cell h2
    exact ⟨u, by simpa using h1, h3⟩
  · rename_i vs hne hvs
    simp only [Option.some.injEq] at hv
    subst hv
    obtain ⟨us, h1, h2⟩ := key _ hvs
    refine ⟨.tuple us.toArray, ?_, .tuple (by simpa using h2.1) fun i c v hc hv => h2.2 i c v hc (by simpa using hv)⟩
    have hlen : ¬ us.toArray.size = 1 := by
      intro h1
      have : vs.length = 1 := by rw [h2.1]; simpa using h1
      obtain ⟨v, rfl⟩ := List.length_eq_one_iff.1 this
      exact hne v rfl
    rw [dif_neg hlen] at h1
    exact h1
  · cases hv

theorem leaves_to {P : Program} {fn : Func} {tmps : Array Value} {R : Ending → World → Prop} {F : Fence} {n : Nat} {Bad : Nat → Prop} : ∀ (ids : List Nat) (ds : List Deferred) (φ : Map) (h : AH) (w : World) (h' : AH), shutD ids h = some h' → Rel Bad φ h w → Marks φ h.next ids ds →
    (∀ φ' w', Goes Bad φ h w φ' h' w' → ∃ v, (results fn tmps).run P w' = .ok v w' ∧ R (.returned v) w') → LeavesInM F n P fn tmps R ds .returning w
  | [], ds, φ, h, w, h', hs, hr, hm, hR => by
    simp only [shutD, Option.some.injEq] at hs
    subst hs
    have hd : ds = [] := hm
    subst hd
    exact hR φ w (.refl hr)
  | id :: r, ds, φ, h, w, h', hs, hr, hm, hR => by
    cases ds with
    | nil => exact hm.elim
    | cons d t =>
      obtain ⟨⟨h1, b, h2, h3⟩, h4⟩ := hm
      simp only [shutD] at hs
      split at hs
      · rename_i hg
        obtain ⟨l, hl, hf⟩ := hr.live id _ hg
        have hat := h3 l hl
        have hb : w.heap[b]? = some (.deferred (some [])) := hf.there b 0 hat
        have gk := hr.killSet hl hat (putO_wrote hb (fun _ _ _ h => by cases h) (.deferred none))
        refine ⟨by simp, .inl ⟨b, putO w b (.deferred none), by rw [h2], run_takeDeferred hb, ?_⟩⟩
        exact leaves_to r t _ _ _ h' hs gk.rel (h4.evo gk.evo) fun φ' w' g => hR φ' w' (gk.trans g)
      · cases hs

/-- A function's body, run, is what a call comes to, in states of which G is so. -/
theorem run_any {C : Ctx} {G : GG} {norm : Nat → Nat → Norm} {fuel f : Nat} {fn : Func} {c : Code} (hm : C.P.follows .mixedOrders = true) (hcl : Shut G) (hY : YldOk C.P C.yld G) (hd : ∀ f, hasBody C.P f = true → EnvOk C f) (hI : ∀ g, hasBody C.P g = true → IterOk C.P g (C.iter g))
    (hf : C.P.funcs[f]? = some fn) (hb : fn.body = some c) (hc : codeOk C c = true) (hcalls : (callsOf c).all (hasBody C.P) = true) (hnorm : ∀ n p, NormOk n (norm n p)) {args : List AV} {h : AH} {Z : Type} {k : AV → AH → Option Z} {z : Z} (hk : runFn C norm fuel fn args h Z k = some z) :
    ∃ r h', k r h' = some z ∧ h.next ≤ h'.next ∧ ∀ (Bad : Nat → Prop) (φ : Map) (w : World) (vs : Array Value), G Bad φ h w → Rel Bad φ h w → VCells (Imm Bad φ w) φ h.next w args vs.toList →
      Calls C.P f vs w fun e w' => ∃ φ' v, e = .returned v ∧ Goes Bad φ h w φ' h' w' ∧ Sim (Imm Bad φ' w') φ' h'.next w' r v := by
  unfold runFn at hk
  rw [hb] at hk
  simp only at hk
  cases hsz : (Nat.ble fn.ntmps 512 && Nat.ble args.length fn.ntmps) with
  | false => rw [hsz] at hk; cases hk
  | true =>
  rw [hsz, cond_true] at hk
  rw [Bool.and_eq_true] at hsz
  have hs1 : fn.ntmps ≤ 512 := Nat.le_of_ble_eq_true hsz.1
  have hs2 : args.length ≤ fn.ntmps := Nat.le_of_ble_eq_true hsz.2
  obtain ⟨e, aF, hF, hz, hto⟩ := code_to hm hcl hY hd hI c hc (fun g hg => hd g (List.all_eq_true.1 hcalls g hg)) h.next (norm h.next) 1 false _ h Z _ z (hnorm h.next) hk
  have fin : e = .normal ∨ e = .ret → ∀ hC r, shutD aF.ds hF = some hC → resK C.P fn aF hC = some r → ∀ (Bad : Nat → Prop) (φ : Map) (w : World) (vs : Array Value), G Bad φ h w → Rel Bad φ h w → VCells (Imm Bad φ w) φ h.next w args vs.toList →
      Calls C.P f vs w fun e w' => ∃ φ' v, e = .returned v ∧ Goes Bad φ h w φ' hC w' ∧ Sim (Imm Bad φ' w') φ' hC.next w' r v := by
    intro he hC r hsh hr Bad φ w vs hG hrel hvs
    refine calls_out (r := none) (n := 0) (callsIn_of_wp_marks hf hb trivial ?_)
    refine hto none 0 Bad φ h w φ w _ _ (fun _ => rfl) rfl hG (.refl hrel) ⟨rfl, ?_, fun t => ?_⟩ fun φ' w' y' g ha => ?_
    · have := hvs.1
      have h2 : args.length = vs.size := by rw [this]; simp
      have h3 : (Act'.init args fn.ntmps).length = fn.ntmps := by
        unfold Act'.length
        have : Nat.ble (Act'.init args fn.ntmps).n 512 = true := Nat.ble_eq_true_of_le hs1
        rw [this]
        rfl
      rw [h3]
      simp only [Array.size_append, Array.size_replicate]
      omega
    · have hlen : args.length = vs.size := by rw [hvs.1]; simp
      rw [Act'.init_at hs1 hs2]
      by_cases h1 : t < args.length
      · have e1 : args.getD t .dead = args[t] := by simp [List.getD, h1]
        have e2 : (vs ++ Array.replicate (fn.ntmps - vs.size) undef).getD t undef = vs[t]'(by omega) := by
          rw [Array.getD_eq_getD_getElem?, Array.getElem?_append_left (by omega)]
          simp [show t < vs.size by omega]
        rw [e1, e2]
        exact hvs.2 t _ _ (by simp [h1]) (by simp [show t < vs.size by omega])
      · have e1 : args.getD t .dead = .dead := by
          rw [List.getD_eq_getElem?_getD, List.getElem?_eq_none (by omega)]
          rfl
        rw [e1]
        exact .dead
    · have post : LeavesInM (FR none) 0 C.P fn y'.tmps (fun e w' => ∃ φ' v, e = .returned v ∧ Goes Bad φ h w φ' hC w' ∧ Sim (Imm Bad φ' w') φ' hC.next w' r v) y'.defers .returning w' := by
        refine leaves_to aF.ds y'.defers φ' hF w' hC hsh g.rel ha.ds fun φ2 w2 g2 => ?_
        obtain ⟨u, h1, h2⟩ := resK_to (P := C.P) (fn := fn) g2.rel (ha.evo g2.evo g.rel.id_lt) hr
        exact ⟨u, h1, φ2, u, rfl, g.trans g2, h2⟩
      rcases he with rfl | rfl
      · exact post
      · exact post
  have leave : ∀ (he : e = .normal ∨ e = .ret), (match shutD aF.ds hF with
      | some h' => match resK C.P fn aF h' with
        | some r => bif Nat.ble h.next h'.next then k r h' else none
        | none => none
      | none => none) = some z → ∃ r h', k r h' = some z ∧ h.next ≤ h'.next ∧ ∀ (Bad : Nat → Prop) (φ : Map) (w : World) (vs : Array Value), G Bad φ h w → Rel Bad φ h w → VCells (Imm Bad φ w) φ h.next w args vs.toList →
      Calls C.P f vs w fun e w' => ∃ φ' v, e = .returned v ∧ Goes Bad φ h w φ' h' w' ∧ Sim (Imm Bad φ' w') φ' h'.next w' r v := by
    intro he hz
    split at hz
    · rename_i hC hsh
      split at hz
      · rename_i r hr
        cases hn : Nat.ble h.next hC.next with
        | false => rw [hn] at hz; cases hz
        | true =>
          rw [hn] at hz
          exact ⟨r, hC, hz, Nat.le_of_ble_eq_true hn, fin he hC r hsh hr⟩
      · cases hz
    · cases hz
  cases e with
  | normal => exact leave (.inl rfl) hz
  | ret => exact leave (.inr rfl) hz
  | exit id => cases hz

/-- A function's body, run, is what a call comes to. -/
theorem run_ok {P : Program} {tbl : List Entry} {ann : List Nat} {norm : Nat → Nat → Norm} {fuel f : Nat} {fn : Func} {c : Code} (hm : P.follows .mixedOrders = true) (ht : TblOk P tbl) (hf : P.funcs[f]? = some fn) (hb : fn.body = some c)
    (hc : codeOk (ctxOf P tbl ann) c = true) (hcalls : (callsOf c).all (hasBody P) = true) (hnorm : ∀ n p, NormOk n (norm n p)) : SpecTo P f (runFn (ctxOf P tbl ann) norm fuel fn) false false := by
  refine ⟨fun args h Z k z hk => ?_⟩
  obtain ⟨r, h', h1, h2, h3⟩ := run_any (C := ctxOf P tbl ann) (G := fun _ _ _ _ => True) hm (fun _ _ _ _ _ _ _ _ _ => trivial) (fun id args h Z k z hk => by cases hk) (fun g hg => env_ok ht hg) (fun g _ => iters_ok ht g) hf hb hc hcalls hnorm hk
  exact ⟨r, h', h1, h2, fun h => (by cases h), fun h => (by cases h), fun Bad φ w vs hr hv => h3 Bad φ w vs trivial hr hv⟩

theorem codeOk_yld {C : Ctx} {Y : Env} : ∀ c, codeOk { C with yld := Y } c = codeOk C c
  | .region _ ops draw => rfl
  | .seq a b => by simp only [codeOk, codeOk_yld a, codeOk_yld b]
  | .cond _ a b => by simp only [codeOk, codeOk_yld a, codeOk_yld b]
  | .block _ c => by simp only [codeOk, codeOk_yld c]
  | .loop c => by simp only [codeOk, codeOk_yld c]
  | .rangeFunc _ _ a b => by simp only [codeOk, codeOk_yld a, codeOk_yld b]
  | .scope _ => rfl
  | .goto _ => rfl
  | .refuse _ => rfl
  | .skip => rfl
  | .label _ => rfl
  | .ret => rfl
  | .exit _ => rfl

/-- A function that is ranged over. -/
theorem it_ok {P : Program} {tbl : List Entry} {ann : List Nat} {fuel f : Nat} {fn : Func} {c : Code} (hm : P.follows .mixedOrders = true) (ht : TblOk P tbl) (hf : P.funcs[f]? = some fn) (hb : fn.body = some c)
    (hc : codeOk (ctxOf P tbl ann) c = true) (hcalls : (callsOf c).all (hasBody P) = true) : IterOk P f (runIt (ctxOf P tbl ann) fuel fn) := by
  intro Y G hcl hY args h Z k z hk
  obtain ⟨r, h', h1, h2, h3⟩ := run_any (C := { ctxOf P tbl ann with yld := Y }) (G := G) hm hcl hY (fun g hg => ⟨(env_ok (ann := ann) ht hg).body, (env_ok (ann := ann) ht hg).to_⟩) (fun g _ => iters_ok (ann := ann) ht g) hf hb (by rw [codeOk_yld]; exact hc) hcalls (fun n p => idN_ok n p) hk
  exact ⟨h', h1, h2, fun Bad φ w vs hG hr hv => (h3 Bad φ w vs hG hr hv).mono fun e w' ⟨φ', v, q1, q2, _⟩ => ⟨φ', v, q1, q2⟩⟩

theorem norm_id (n : Nat) : NormOk n fun a h => some (a, h) := by
  intro a h a1 h1 hn Bad φ0 h0 w0 φ w y h0n g ha
  simp only [Option.some.injEq, Prod.mk.injEq] at hn
  obtain ⟨rfl, rfl⟩ := hn
  exact ⟨φ, g, ha⟩

end Go.Ph

end
