/- An evaluator of the given program's form, and that it is sound: part 5. -/
import Derived.Test.YtfnagbpaolklgaaGreatEngD
import Derived.LoopNIn
import Derived.OrdersIn
import Derived.RangeFuncRecord
set_option linter.unusedVariables false
noncomputable section
/- Calls, and every operation. -/
namespace Go.Ph
open Go.RowKit

/-- A call comes to the value, and to the heap behind it. -/
def FnTo (P : Program) (f : Nat) (args : List AV) (h : AH) (r : AV) (h' : AH) : Prop :=
  ∀ (Bad : Nat → Prop) (φ : Map) (w : World) (vs : Array Value), Rel Bad φ h w → VCells (Imm Bad φ w) φ h.next w args vs.toList →
    Calls P f vs w fun e w' => ∃ φ' v, e = .returned v ∧ Goes Bad φ h w φ' h' w' ∧ Sim (Imm Bad φ' w') φ' h'.next w' r v

/-- What the evaluator takes for a function is sound. -/
structure EnvOk (C : Ctx) (f : Nat) : Prop where
  body : ∃ fn, C.P.funcs[f]? = some fn ∧ fn.body.isNone = false ∧ (fn.name == "runtime.NumGoroutine") = false
  to_ : ∀ (args : List AV) (h : AH) (Z : Type) (k : AV → AH → Option Z) (z : Z), C.env f args h Z k = some z → ∃ r h', k r h' = some z ∧ h.next ≤ h'.next ∧ (C.quiet f = true → h' = h ∧ ∀ h2 : AH, FnTo C.P f args h2 r h2) ∧ (C.tame f = true → Keeps (bif C.clean f then [] else reach h args) h h') ∧ FnTo C.P f args h r h'

theorem call_op {C : Ctx} {o : Oper} {ρ : Operand → AV} {h h' : AH} {r : AV} {f : Nat} {args : Array Operand} {argTypes : Array TypeId} (ho : o.op = .call { callee := .value (.func f), args := args, argTypes := argTypes })
    (hb : ∃ fn, C.P.funcs[f]? = some fn ∧ fn.body.isNone = false ∧ (fn.name == "runtime.NumGoroutine") = false) (hf : FnTo C.P f (args.toList.map ρ) h r h') : OpTo C.P o ρ h r h' := by
  intro Bad φ w a K Q hrel hs hk
  obtain ⟨fn, h1, h2, h3⟩ := hb
  have hrun : (execOp a.eval o).run C.P w = .ok (.enter f (args.map a.eval)) w := by
    simp only [execOp, ho, resolve, Act.eval, Deferred.ofValue, invoke]
    have h3' : ¬ fn.name = "runtime.NumGoroutine" := by simpa using h3
    have h2' : ¬ fn.body = none := by
      cases hfb : fn.body with
      | none => simp [hfb] at h2
      | some b => simp
    simp [callFunc, h1, h3', h2']
  unfold Oper.wp
  rw [hrun]
  simp only [Oper.upon]
  refine (hf Bad φ w (args.map a.eval) hrel ⟨by simp, fun i c v hc hv => ?_⟩).mono ?_
  · simp only [Array.toList_map, List.getElem?_map] at hc hv
    cases hx : args.toList[i]? with
    | none => simp [hx] at hc
    | some x =>
      simp only [hx, Option.map_some, Option.some.injEq] at hc hv
      subst hc; subst hv
      refine hs x ?_
      have hm : x ∈ args.toList := List.mem_of_getElem? hx
      simp only [ho, Op.operands, Call.operands, Array.mem_append]
      exact .inr (Array.mem_toList_iff.1 hm)
  · rintro e w' ⟨φ', v, rfl, g, hv⟩
    exact hk φ' w' v g hv

theorem call_dyn {C : Ctx} {o : Oper} {ρ : Operand → AV} {h h' : AH} {r : AV} {f t : Nat} {cs : List AV} {args : Array Operand} {argTypes : Array TypeId} (ho : o.op = .call { callee := .value (.tmp t), args := args, argTypes := argTypes })
    (ht : ρ (.tmp t) = .clo f cs) (hb : ∃ fn, C.P.funcs[f]? = some fn ∧ fn.body.isNone = false ∧ (fn.name == "runtime.NumGoroutine") = false) (hf : FnTo C.P f (args.toList.map ρ ++ cs) h r h') : OpTo C.P o ρ h r h' := by
  intro Bad φ w a K Q hrel hs hk
  obtain ⟨fn, h1, h2, h3⟩ := hb
  have st := hs (.tmp t) (by simp [ho, Op.operands, Call.operands])
  rw [ht] at st
  generalize hv : a.eval (.tmp t) = v at st
  cases st with
  | @clo _ _ vs hn hcs =>
    have hrun : (execOp a.eval o).run C.P w = .ok (.enter f (args.map a.eval ++ vs)) w := by
      simp only [execOp, ho, resolve, hv, Deferred.ofValue, invoke]
      have h3' : ¬ fn.name = "runtime.NumGoroutine" := by simpa using h3
      have h2' : ¬ fn.body = none := by
        cases hfb : fn.body with
        | none => simp [hfb] at h2
        | some b => simp
      simp [callFunc, h1, h3', h2']
    unfold Oper.wp
    rw [hrun]
    simp only [Oper.upon]
    have first : VCells (Imm Bad φ w) φ h.next w (args.toList.map ρ) (args.map a.eval).toList := ⟨by simp, fun i c v hc hv => by
      simp only [Array.toList_map, List.getElem?_map] at hc hv
      cases hx : args.toList[i]? with
      | none => simp [hx] at hc
      | some x =>
        simp only [hx, Option.map_some, Option.some.injEq] at hc hv
        subst hc; subst hv
        refine hs x ?_
        have hm : x ∈ args.toList := List.mem_of_getElem? hx
        simp only [ho, Op.operands, Call.operands, Array.mem_append]
        exact .inr (Array.mem_toList_iff.1 hm)⟩
    have second : VCells (Imm Bad φ w) φ h.next w cs vs.toList := ⟨by simpa using hn, fun i c v hc hv => hcs i c v hc (by simpa using hv)⟩
    have all := first.append second
    refine (hf Bad φ w (args.map a.eval ++ vs) hrel (by rw [Array.toList_append]; exact all)).mono ?_
    rintro e w' ⟨φ', v, rfl, g, hv⟩
    exact hk φ' w' v g hv

/-- A call of a function value without captured variables. -/
theorem call_dyn0 {C : Ctx} {o : Oper} {ρ : Operand → AV} {h h' : AH} {r : AV} {f t : Nat} {args : Array Operand} {argTypes : Array TypeId} (ho : o.op = .call { callee := .value (.tmp t), args := args, argTypes := argTypes })
    (ht : ρ (.tmp t) = .fn f) (hb : ∃ fn, C.P.funcs[f]? = some fn ∧ fn.body.isNone = false ∧ (fn.name == "runtime.NumGoroutine") = false) (hf : FnTo C.P f (args.toList.map ρ) h r h') : OpTo C.P o ρ h r h' := by
  intro Bad φ w a K Q hrel hs hk
  obtain ⟨fn, h1, h2, h3⟩ := hb
  have st := hs (.tmp t) (by simp [ho, Op.operands, Call.operands])
  rw [ht] at st
  generalize hv : a.eval (.tmp t) = v at st
  cases st with
  | fn =>
    have hrun : (execOp a.eval o).run C.P w = .ok (.enter f (args.map a.eval)) w := by
      simp only [execOp, ho, resolve, hv, Deferred.ofValue, invoke]
      have h3' : ¬ fn.name = "runtime.NumGoroutine" := by simpa using h3
      have h2' : ¬ fn.body = none := by
        cases hfb : fn.body with
        | none => simp [hfb] at h2
        | some b => simp
      simp [callFunc, h1, h3', h2']
    unfold Oper.wp
    rw [hrun]
    simp only [Oper.upon]
    refine (hf Bad φ w (args.map a.eval) hrel ⟨by simp, fun i c v hc hv => ?_⟩).mono ?_
    · simp only [Array.toList_map, List.getElem?_map] at hc hv
      cases hx : args.toList[i]? with
      | none => simp [hx] at hc
      | some x =>
        simp only [hx, Option.map_some, Option.some.injEq] at hc hv
        subst hc; subst hv
        refine hs x ?_
        have hm : x ∈ args.toList := List.mem_of_getElem? hx
        simp only [ho, Op.operands, Call.operands, Array.mem_append]
        exact .inr (Array.mem_toList_iff.1 hm)
    · rintro e w' ⟨φ', v, rfl, g, hv⟩
      exact hk φ' w' v g hv

/-- What may be said of the states in which code runs. -/
abbrev GG := (Nat → Prop) → Map → AH → World → Prop

def Shut (G : GG) : Prop := ∀ Bad φ h w φ' h' w', G Bad φ h w → Goes Bad φ h w φ' h' w' → G Bad φ' h' w'

/-- No fence, but that it may be a round's frame. -/
def FR (r : Option Nat) : Fence := { fn := fun _ => True, depth := none, alive := false, round := r }

theorem calls_in {P : Program} {f : Nat} {args : Array Value} {w : World} {R : Ending → World → Prop} (r : Option Nat) (n : Nat) (h : Calls P f args w R) : CallsIn (FR r) n P f args w R :=
  (callsIn_wide (n := n)).2 h

theorem calls_out {P : Program} {f : Nat} {args : Array Value} {w : World} {R : Ending → World → Prop} {r : Option Nat} {n : Nat} (h : CallsIn (FR r) n P f args w R) : Calls P f args w R :=
  (callsIn_wide (n := n)).1 h

theorem rows_in {P : Program} {row : String} {args : Array Value} {w : World} {R : Value → World → Prop} (r : Option Nat) (n : Nat) (h : Rows P row args w R) : RowsIn (FR r) n P row args w R :=
  fun c cs _ => let ⟨v, w', q, s⟩ := h c cs; ⟨v, w', q, stepsIn_wide.2 s⟩

theorem wp_in {P : Program} {o : Oper} {a : Act} {w : World} {K : Act → World → Prop} {Q : Exit → Act → World → Prop} (r : Option Nat) (n : Nat) (hd : ∀ c, o.op ≠ .defer c) (h : o.wp P a w K Q) : o.wpIn (FR r) n P a w K Q := by
  refine ⟨fun f _ => trivial, ?_⟩
  have e : o.semAt (FR r).round a.eval = execOp a.eval o := Oper.semAt_eq r a.eval o hd
  rw [e]
  unfold Oper.wp at h
  generalize (execOp a.eval o).run P w = res at h ⊢
  have nod : (FR r).depth.isSome = true → 1 ≤ n := fun h => by simp [FR] at h
  cases res with
  | ok x w' =>
    cases x <;> simp only [Oper.upon] at h <;> simp only [Oper.uponIn] <;> first
      | exact h
      | exact ⟨nod, calls_in r (n - 1) h⟩
      | exact ⟨nod, rows_in r (n - 1) h⟩
      | exact h.elim
  | halt x w' => cases x <;> simp only [Oper.upon] at h <;> simp only [Oper.uponIn] <;> exact h

/-- An operation that is carried out, in states of which G is so. -/
def OpG (P : Program) (G : GG) (o : Oper) (ρ : Operand → AV) (h : AH) (v : AV) (h' : AH) : Prop :=
  ∀ (r : Option Nat) (n : Nat) (Bad : Nat → Prop) (φ : Map) (w : World) (a : Act) (K : Act → World → Prop) (Q : Exit → Act → World → Prop), G Bad φ h w → Rel Bad φ h w → (∀ x ∈ o.op.operands, Sim (Imm Bad φ w) φ h.next w (ρ x) (a.eval x)) →
    (∀ φ' w' v', Goes Bad φ h w φ' h' w' → Sim (Imm Bad φ' w') φ' h'.next w' v v' → K (a.put o.dst v') w') → o.wpIn (FR r) n P a w K Q

theorem OpTo.g {P : Program} {G : GG} {o : Oper} {ρ : Operand → AV} {h : AH} {v : AV} {h' : AH} (hd : ∀ c, o.op ≠ .defer c) (ht : OpTo P o ρ h v h') : OpG P G o ρ h v h' :=
  fun r n Bad φ w a K Q _ hr hs hk => wp_in r n hd (ht Bad φ w a K Q hr hs hk)

/-- What the answers to calls of yield say, is so. -/
def YldTo (P : Program) (G : GG) (id : Nat) (args : List AV) (h : AH) (r : AV) (h' : AH) : Prop :=
  ∀ (Bad : Nat → Prop) (φ : Map) (w : World) (b : Nat) (vs : Array Value), G Bad φ h w → Rel Bad φ h w → Sim (Imm Bad φ w) φ h.next w (.yld id) (.func (.yield b) #[] #[]) → VCells (Imm Bad φ w) φ h.next w args vs.toList →
    ∃ lp, w.heap[b]? = some (.loop lp) ∧ vs.size = lp.params.size ∧ ∀ (r' : Option Nat) (n : Nat), RoundIn (FR r') n P b lp.fn ((lp.params.zip vs).foldl (fun tmps (t, a) => tmps.setIfInBounds t a) lp.tmps) lp.assign lp.body w
      fun e w' => ∃ φ' v, e = .returned v ∧ Goes Bad φ h w φ' h' w' ∧ Sim (Imm Bad φ' w') φ' h'.next w' r v

def YldOk (P : Program) (Y : Env) (G : GG) : Prop :=
  ∀ (id : Nat) (args : List AV) (h : AH) (Z : Type) (k : AV → AH → Option Z) (z : Z), Y id args h Z k = some z → ∃ r h', k r h' = some z ∧ h.next ≤ h'.next ∧ YldTo P G id args h r h'

theorem yield_op {P : Program} {G : GG} {o : Oper} {ρ : Operand → AV} {h h' : AH} {r : AV} {id t : Nat} {args : Array Operand} {argTypes : Array TypeId} (ho : o.op = .call { callee := .value (.tmp t), args := args, argTypes := argTypes })
    (ht : ρ (.tmp t) = .yld id) (hf : YldTo P G id (args.toList.map ρ) h r h') : OpG P G o ρ h r h' := by
  intro q n Bad φ w a K Q hG hrel hs hk
  have st := hs (.tmp t) (by simp [ho, Op.operands, Call.operands])
  rw [ht] at st
  have first : VCells (Imm Bad φ w) φ h.next w (args.toList.map ρ) (args.map a.eval).toList := ⟨by simp, fun i c v hc hv => by
    simp only [Array.toList_map, List.getElem?_map] at hc hv
    cases hx : args.toList[i]? with
    | none => simp [hx] at hc
    | some x =>
      simp only [hx, Option.map_some, Option.some.injEq] at hc hv
      subst hc; subst hv
      refine hs x ?_
      have hm : x ∈ args.toList := List.mem_of_getElem? hx
      simp only [ho, Op.operands, Call.operands, Array.mem_append]
      exact .inr (Array.mem_toList_iff.1 hm)⟩
  have main : ∀ b, a.eval (.tmp t) = .func (.yield b) #[] #[] → o.wpIn (FR q) n P a w K Q := by
    intro b hv
    rw [hv] at st
    obtain ⟨lp, h1, h2, h3⟩ := hf Bad φ w b (args.map a.eval) hG hrel st first
    refine ⟨fun f _ => trivial, ?_⟩
    have e : o.semAt (FR q).round a.eval = execOp a.eval o := Oper.semAt_eq q a.eval o (fun c hc => by rw [ho] at hc; cases hc)
    have hrun : (execOp a.eval o).run P w = .ok (.round b lp.fn ((lp.params.zip (args.map a.eval)).foldl (fun tmps (t, a) => tmps.setIfInBounds t a) lp.tmps) lp.assign lp.body) w := by
      simp only [execOp, ho, resolve, hv, Deferred.ofValue, invoke]
      simp [run_yield h1 h2]
    rw [e, hrun]
    rw [Oper.uponIn_round]
    refine ⟨fun h => by simp [FR] at h, (h3 q (n - 1)).mono ?_⟩
    rintro e w' ⟨φ', v, rfl, g, hv⟩
    exact hk φ' w' v g hv
  generalize hv : a.eval (.tmp t) = v at st
  cases st with
  | yldDead => exact main _ hv
  | yld => exact main _ hv

/-- Is every function that an operation calls sound? -/
def callsOk (C : Ctx) (G : GG) (o : Oper) : Prop := ((∀ f args argTypes, o.op = .call { callee := .value (.func f), args := args, argTypes := argTypes } → EnvOk C f) ∧ ∀ f, hasBody C.P f = true → EnvOk C f) ∧ YldOk C.P C.yld G

theorem opK_nodefer {Z : Type} {C : Ctx} {o : Oper} {ρ : Operand → AV} {h : AH} {k : AV → AH → Option Z} {z : Z} (hk : opK C o ρ h k = some z) : ∀ c, o.op ≠ .defer c := by
  intro c hc
  have he : isEff C o = false := by unfold isEff; rw [hc]
  unfold opK at hk
  rw [he, hc] at hk
  simp [readK, pureK, hc] at hk

/-- Operations that change nothing: they come to the same in every heap in which the rows that they read are the same. -/
theorem quiet_to {C : Ctx} {G : GG} {o : Oper} {ρ : Operand → AV} {h : AH} {Z : Type} {k : AV → AH → Option Z} {z : Z} (hok : callsOk C G o) (he : isEff C o = false) (hk : opK C o ρ h k = some z) :
    ∃ v, k v h = some z ∧ ∀ h2 : AH, (∀ id ∈ readsOf o ρ, h2.get id = h.get id) → OpG C.P G o ρ h2 v h2 := by
  have nd := opK_nodefer hk
  unfold opK at hk
  rw [he] at hk
  simp only [Bool.false_eq_true, if_false] at hk
  split at hk
  · rename_i f args argTypes ho
    have hq : C.quiet f = true := by
      unfold isEff at he
      rw [ho] at he
      simpa using he
    obtain ⟨r, h', h1, _, h2, _, h3⟩ := (hok.1.1 f args argTypes ho).to_ _ _ _ _ _ hk
    obtain ⟨rfl, h4⟩ := h2 hq
    exact ⟨r, h1, fun h2 _ => (call_op ho (hok.1.1 f args argTypes ho).body (h4 h2)).g nd⟩
  · obtain ⟨v, h1, h2⟩ := readK_to hk
    exact ⟨v, h1, fun h2' hh => (h2 h2' hh).op.g nd⟩

theorem eff_to {C : Ctx} {G : GG} {o : Oper} {ρ : Operand → AV} {h : AH} {Z : Type} {k : AV → AH → Option Z} {z : Z} (hok : callsOk C G o) (he : isEff C o = true) (hk : opK C o ρ h k = some z) :
    ∃ v h', k v h' = some z ∧ OpG C.P G o ρ h v h' ∧ ModOk C o ρ h h' := by
  have nd := opK_nodefer hk
  have up : (∃ v h', k v h' = some z ∧ OpTo C.P o ρ h v h' ∧ ModOk C o ρ h h') → ∃ v h', k v h' = some z ∧ OpG C.P G o ρ h v h' ∧ ModOk C o ρ h h' := fun ⟨v, h', h1, h2, h3⟩ => ⟨v, h', h1, h2.g nd, h3⟩
  unfold opK at hk
  rw [he, if_pos rfl] at hk
  have he' := he
  unfold effK at hk
  unfold isEff at he
  split at he
  · rename_i t x ho
    rw [ho] at hk
    simp only at hk
    split at hk
    · rename_i hc
      exact up ⟨_, _, hk, box_to ho hc, (Keeps.add h _).mod⟩
    · cases hk
  · rename_i t ho
    rw [ho] at hk
    simp only at hk
    split at hk
    · rename_i zz hz
      split at hk
      · rename_i hc
        exact up ⟨_, _, hk, alloc_to ho hz hc, (Keeps.add h _).mod⟩
      · cases hk
    · cases hk
  · rename_i t a x ho
    refine up (store_to ho he' ?_)
    unfold effK
    exact hk
  · rename_i t rr ho
    rw [ho] at hk
    simp only at hk
    split at hk
    · exact up (mkMap_to ho hk)
    · cases hk
  · rename_i t m i x ho
    rw [ho] at hk
    exact up (upd_to ho hk)
  · rename_i t m i ho
    rw [ho] at hk
    exact up (ent_to ho hk)
  · rename_i t m s x ho
    rw [ho] at hk
    exact up (entStore_to ho hk)
  · rename_i t l c ho
    rw [ho] at hk
    simp only at hk
    obtain ⟨v, h', h1, h2, r, rfl⟩ := make_to ho hk
    exact up ⟨v, _, h1, h2, (Keeps.add h r).mod⟩
  · rename_i t len parts ho
    rw [ho] at hk
    simp only at hk
    obtain ⟨v, h', h1, h2, r, rfl⟩ := bslice_to ho hk
    exact up ⟨v, _, h1, h2, (Keeps.add h r).mod⟩
  · rename_i t x lo hi mx ho
    rw [ho] at hk
    simp only at hk
    split at hk
    · exact up (arr_to ho hk)
    · cases hk
  · rename_i args argTypes ho
    refine up (append_to ho ?_)
    unfold effK
    exact hk
  · rename_i args argTypes ho
    refine up (copy_to ho ?_)
    unfold effK
    exact hk
  · rename_i args argTypes ho
    rw [ho] at hk
    simp only at hk
    split at hk
    · rename_i m i mt x hargs htypes
      have ea : args = #[m, i] := by apply Array.toList_inj.1; rw [hargs]
      have et : argTypes = #[mt, x] := by apply Array.toList_inj.1; rw [htypes]
      subst ea; subst et
      exact up (del_to ho hk)
    · cases hk
  · rename_i args argTypes ho
    rw [ho] at hk
    simp only at hk
    split at hk
    · rename_i x t hargs htypes
      have ea : args = #[x] := by apply Array.toList_inj.1; rw [hargs]
      have et : argTypes = #[t] := by apply Array.toList_inj.1; rw [htypes]
      subst ea; subst et
      exact up (clear_to ho hk)
    · cases hk
  · rename_i f args argTypes ho
    rw [ho] at hk
    simp only at hk
    obtain ⟨r, h', h1, hn, _, ht, h3⟩ := (hok.1.1 f args argTypes ho).to_ _ _ _ _ _ hk
    refine up ⟨r, h', h1, call_op ho (hok.1.1 f args argTypes ho).body h3, hn, fun l hl => ?_⟩
    simp only [modsOf, ho] at hl
    cases hq : C.tame f with
    | false => rw [hq] at hl; cases hl
    | true =>
      rw [hq] at hl
      simp only [cond_true, Option.some.injEq] at hl
      subst hl
      exact ht hq
  · rename_i t args argTypes ho
    rw [ho] at hk
    simp only at hk
    split at hk
    · rename_i f cs ht
      cases hb : hasBody C.P f with
      | false => rw [hb] at hk; cases hk
      | true =>
        rw [hb, cond_true] at hk
        have hE := hok.1.2 f hb
        obtain ⟨r, h', h1, hn, _, _, h3⟩ := hE.to_ _ _ _ _ _ hk
        exact up ⟨r, h', h1, call_dyn ho ht hE.body h3, hn, fun l hl => (by simp [modsOf, ho] at hl)⟩
    · rename_i f ht
      cases hb : hasBody C.P f with
      | false => rw [hb] at hk; cases hk
      | true =>
        rw [hb, cond_true] at hk
        have hE := hok.1.2 f hb
        obtain ⟨r, h', h1, hn, _, _, h3⟩ := hE.to_ _ _ _ _ _ hk
        exact up ⟨r, h', h1, call_dyn0 ho ht hE.body h3, hn, fun l hl => (by simp [modsOf, ho] at hl)⟩
    · rename_i id ht
      obtain ⟨r, h', h1, hn, h3⟩ := hok.2 _ _ _ _ _ _ hk
      exact ⟨r, h', h1, yield_op ho ht h3, hn, fun l hl => (by simp [modsOf, ho] at hl)⟩
    · cases hk
  · cases he

end Go.Ph

/- Regions in the order of the text. -/
namespace Go.Ph
open Go.RowKit

/-- The marks of a call's blocks for deferred calls. -/
def MarkAt (φ : Map) (nx : Nat) (id : Nat) (d : Deferred) : Prop := id < nx ∧ ∃ b, d = { target := .collected b, args := #[] } ∧ ∀ l, φ id = some l → l.at_ = some (b, 0)

def Marks (φ : Map) (nx : Nat) : List Nat → List Deferred → Prop
  | [], ds => ds = []
  | id :: r, ds => match ds with
    | d :: t => MarkAt φ nx id d ∧ Marks φ nx r t
    | [] => False

theorem Marks.evo {φ φ' : Map} {n n' : Nat} {w w' : World} (h : Evo φ n w φ' n' w') : ∀ {ids : List Nat} {ds : List Deferred}, Marks φ n ids ds → Marks φ' n' ids ds
  | [], _, hm => hm
  | id :: r, ds, hm => by
    cases ds with
    | nil => exact hm
    | cons d t =>
      obtain ⟨⟨h1, b, h2, h3⟩, h4⟩ := hm
      refine ⟨⟨Nat.lt_of_lt_of_le h1 h.next, b, h2, fun l hl => ?_⟩, Marks.evo h h4⟩
      rcases h.old id h1 with h5 | h5
      · exact h3 l (by rw [← h5]; exact hl)
      · rw [h5] at hl; cases hl

/-- The variables are what the evaluator says. -/
structure ActSim (N : Nat → Prop) (φ : Map) (nx : Nat) (w : World) (a : Act') (x : Act) : Prop where
  ds : Marks φ nx a.ds x.defers
  size : a.length = x.tmps.size
  tmps : ∀ t, Sim N φ nx w (AV.at_ a t) (x.tmps.getD t undef)

theorem ActSim.eval {N : Nat → Prop} {φ : Map} {nx : Nat} {w : World} {a : Act'} {x : Act} (h : ActSim N φ nx w a x) (y : Operand) : Sim N φ nx w (evalA a y) (x.eval y) := by
  cases y with
  | tmp t => exact h.tmps t
  | const v => exact ofConst_sim N v
  | global g => exact .dead
  | func f => exact .fn f

theorem ActSim.evo {Bad : Nat → Prop} {φ φ' : Map} {n n' : Nat} {w w' : World} (h : Evo φ n w φ' n' w') (hlt : ∀ id l, φ id = some l → id < n) {a : Act'} {x : Act} (ha : ActSim (Imm Bad φ w) φ n w a x) :
    ActSim (Imm Bad φ' w') φ' n' w' a x := ⟨ha.ds.evo h, ha.size, fun t => h.sim hlt (ha.tmps t)⟩

theorem ActSim.put {N : Nat → Prop} {φ : Map} {nx : Nat} {w : World} {a : Act'} {x : Act} (h : ActSim N φ nx w a x) (dst : Option Nat) {c : AV} {v : Value} (hv : Sim N φ nx w c v) : ActSim N φ nx w (putA a dst c) (x.put dst v) := by
  cases dst with
  | none => exact h
  | some d =>
    refine ⟨by rw [putA_ds]; exact h.ds, by rw [putA_len]; simp [Act.put, h.size], fun t => ?_⟩
    rw [at_set]
    simp only [Act.put]
    split
    · rename_i ht
      obtain ⟨rfl, hlt⟩ := ht
      have : t < x.tmps.size := by rw [← h.size]; exact hlt
      simp [Array.getD, this, hv]
    · rename_i ht
      have : (x.tmps.setIfInBounds d v).getD t undef = x.tmps.getD t undef := by
        by_cases he : t = d
        · subst he
          have : ¬ t < x.tmps.size := by rw [← h.size]; exact fun hh => ht ⟨rfl, hh⟩
          simp [Array.getD, this]
        · simp only [Array.getD_eq_getD_getElem?]
          rw [Array.getElem?_setIfInBounds_ne (Ne.symm he)]
      rw [this]
      exact h.tmps t

theorem put_defers (x : Act) (dst : Option Nat) (v : Value) : (x.put dst v).defers = x.defers := by
  cases dst <;> rfl

/-- What a guard yielded. -/
theorem yield_sim {N : Nat → Prop} {φ : Map} {nx : Nat} {w : World} {a : Act'} {x : Act} (h : ActSim N φ nx w a x) (ops : Array Oper) (j : Nat) {y : Option Bool} (hy : yieldA ops.toList a j = some y) : yielded ops x.tmps j = y := by
  unfold yieldA at hy
  unfold yielded
  simp only [Array.getElem?_toList] at hy
  split at hy
  · rename_i d hd
    rw [hd]
    simp only [Option.bind_some]
    have hs := h.tmps d
    split at hy
    · rename_i b hb
      simp only [Option.some.injEq] at hy
      subst hy
      have hlt : d < x.tmps.size := by
        rw [← h.size]
        rcases Nat.lt_or_ge d a.length with h1 | h1
        · exact h1
        · rw [AV.at_ge h1] at hb; cases hb
      rw [hb] at hs
      simp only [Array.getD, hlt, dite_true] at hs
      have : x.tmps[d]? = some x.tmps[d] := by simp [hlt]
      rw [this]
      generalize hv : x.tmps[d] = v at hs ⊢
      have hv2 : (x.tmps.getInternal d hlt) = v := hv
      rw [hv2] at hs
      cases hs
      rfl
    · rename_i hb
      simp only [Option.some.injEq] at hy
      subst hy
      have hlt : d < x.tmps.size := by
        rw [← h.size]
        rcases Nat.lt_or_ge d a.length with h1 | h1
        · exact h1
        · rw [AV.at_ge h1] at hb; cases hb
      rw [hb] at hs
      simp only [Array.getD, hlt, dite_true] at hs
      have : x.tmps[d]? = some x.tmps[d] := by simp [hlt]
      rw [this]
      generalize hv : x.tmps[d] = v at hs ⊢
      have hv2 : (x.tmps.getInternal d hlt) = v := hv
      rw [hv2] at hs
      cases hs
      rfl
    · cases hy
  · rename_i hd
    simp only [Option.some.injEq] at hy
    subst hy
    rw [hd]
    rfl

/-- One operation of a region, as the evaluator carries it out. -/
structure StepAt (C : Ctx) (G : GG) (all : List Oper) (o : Oper) (a : Act') (h : AH) (x : Bool) (v : AV) (h' : AH) : Prop where
  skip : x = false → v = .tuple [] ∧ h' = h ∧ ∃ j want, o.guard = some (j, want) ∧ ((∃ b, yieldA all a j = some (some b) ∧ b ≠ want) ∨ yieldA all a j = some none)
  run : x = true → (o.guard = none ∨ ∃ j want, o.guard = some (j, want) ∧ yieldA all a j = some (some want))
  eff : x = true → isEff C o = true → OpG C.P G o (evalA a) h v h' ∧ ModOk C o (evalA a) h h'
  same : x = true → isEff C o = false → h' = h ∧ (∀ id ∈ readsOf o (evalA a), id < h.next) ∧ ∀ h2 : AH, (∀ id ∈ readsOf o (evalA a), h2.get id = h.get id) → OpG C.P G o (evalA a) h2 v h2

theorem one_step {Z : Type} {C : Ctx} {G : GG} {all : List Oper} {bf : List Nat} {i : Nat} {o : Oper} {rd : List (Nat × List Nat)} {md : List (Nat × Option (List Nat))} {a : Act'} {h : AH} {next : List (Nat × List Nat) → List (Nat × Option (List Nat)) → Act' → AH → Option Z} {z : Z} (hok : callsOk C G o)
    (hg : o.guard = none ∨ ∃ j want, o.guard = some (j, want) ∧ yieldA all a j = some (some want)) (hk : oneK C bf i o rd md a h next = some z) :
    ∃ v h', StepAt C G all o a h true v h' ∧
      (isEff C o = true → apartOk' bf (modsOf C o (evalA a) h) rd = true ∧ next rd ((i, modsOf C o (evalA a) h) :: md) (putA a o.dst v) h' = some z) ∧
      (isEff C o = false → apartOk bf (readsOf o (evalA a)) md = true ∧ next ((i, readsOf o (evalA a)) :: rd) md (putA a o.dst v) h' = some z) := by
  unfold oneK at hk
  split at hk
  · rename_i he
    split at hk
    · rename_i hap
      obtain ⟨v, h', h1, h2, h3⟩ := eff_to hok he hk
      exact ⟨v, h', ⟨fun h => (by cases h), fun _ => hg, fun _ _ => ⟨h2, h3⟩, fun _ h => (by rw [he] at h; cases h)⟩, fun _ => ⟨hap, h1⟩, fun h => (by rw [he] at h; cases h)⟩
    · cases hk
  · rename_i he
    have he' : isEff C o = false := by simpa using he
    split at hk
    · rename_i hap
      rw [Bool.and_eq_true] at hap
      obtain ⟨v, h1, h2⟩ := quiet_to hok he' hk
      refine ⟨v, h, ⟨fun h => (by cases h), fun _ => hg, fun _ h => (by rw [he'] at h; cases h), fun _ _ => ⟨rfl, fun id hid => ?_, h2⟩⟩, fun h => (by rw [he'] at h; cases h), fun _ => ⟨hap.1, h1⟩⟩
      exact Nat.le_of_ble_eq_true (List.all_eq_true.1 hap.2 id hid)
    · cases hk

theorem wanted_of {ops : Array Oper} {o : Oper} {tmps : Array Value} (h : o.guard = none ∨ ∃ j want, o.guard = some (j, want) ∧ yielded ops tmps j = some want) : Region.wanted o (yielded ops tmps) = true := by
  unfold Region.wanted
  rcases h with h | ⟨j, want, h1, h2⟩
  · rw [h]
  · rw [h1]; simp [h2]

theorem unwanted_of {ops : Array Oper} {o : Oper} {tmps : Array Value} {j : Nat} {want : Bool} (h1 : o.guard = some (j, want)) (h2 : yielded ops tmps j ≠ some want) : Region.wanted o (yielded ops tmps) = false := by
  unfold Region.wanted
  rw [h1]
  simp [h2]

/-- One operation of a region, in the model. -/
theorem StepAt.wp {C : Ctx} {G : GG} {ops : Array Oper} {o : Oper} {a : Act'} {h : AH} {x : Bool} {v : AV} {h' : AH} (hs : StepAt C G ops.toList o a h x v h') {i : Nat} (hi : ops[i]? = some o) {Bad : Nat → Prop} {φ : Map} {hS : AH} {w : World} {y : Act} {Q : Exit → Act → World → Prop} {K : Act → World → Prop}
    (r : Option Nat) (n : Nat) (hG : G Bad φ hS w) (hrel : Rel Bad φ hS w) (heval : ∀ u ∈ o.op.operands, Sim (Imm Bad φ w) φ hS.next w (evalA a u) (y.eval u)) (hyield : ∀ j want, o.guard = some (j, want) → ∀ r, yieldA ops.toList a j = some r → yielded ops y.tmps j = r)
    (heff : x = true → isEff C o = true → hS = h) (hsame : x = true → isEff C o = false → ∀ id ∈ readsOf o (evalA a), hS.get id = h.get id)
    (hK : ∀ φ' w' v', Goes Bad φ hS w φ' (if x = true ∧ isEff C o = true then h' else hS) w' → Sim (Imm Bad φ' w') φ' (if x = true ∧ isEff C o = true then h' else hS).next w' v v' → K (y.put o.dst v') w') : wpOpIn (FR r) n C.P ops Q i K y w := by
  unfold wpOpIn
  simp only [hi]
  cases x with
  | false =>
    obtain ⟨rfl, rfl, j, want, hg, hyl⟩ := hs.skip rfl
    have hne : yielded ops y.tmps j ≠ some want := by
      rcases hyl with ⟨b, h1, h2⟩ | h1
      · rw [hyield j want hg _ h1]; simpa using h2
      · rw [hyield j want hg _ h1]; simp
    rw [unwanted_of hg hne]
    simp only [Bool.false_eq_true, if_false]
    have := hK φ w undef
    simp only [Bool.false_eq_true, false_and, if_false] at this
    refine ⟨fun f _ => trivial, ?_⟩
    exact this (.refl hrel) (.tuple rfl (fun i c v hc => by simp at hc))
  | true =>
    have hw : Region.wanted o (yielded ops y.tmps) = true := by
      rcases hs.run rfl with h1 | ⟨j, want, h1, h2⟩
      · exact wanted_of (.inl h1)
      · exact wanted_of (.inr ⟨j, want, h1, hyield j want h1 _ h2⟩)
    rw [hw, if_pos rfl]
    cases he : isEff C o with
    | true =>
      have := heff rfl he
      subst this
      simp only [he, and_self, if_true] at hK
      exact (hs.eff rfl he).1 r n Bad φ w y K Q hG hrel heval hK
    | false =>
      obtain ⟨rfl, hlt, hop⟩ := hs.same rfl he
      simp only [he, Bool.false_eq_true, and_false, if_false] at hK
      exact hop hS (hsame rfl he) r n Bad φ w y K Q hG hrel heval hK

theorem fixA_eq {all : List Oper} {a : Act'} {j : Nat} {b : Bool} (h : yieldA all a j = some (some b)) : fixA all a j b = a := by
  unfold yieldA at h
  unfold fixA
  split at h
  · rename_i d hd
    rw [hd]
    have hat : AV.at_ a d = .bool b := by
      split at h
      · rename_i b' he
        simp only [Option.some.injEq] at h
        rw [he, h]
      · cases h
      · cases h
    have hlt : d < a.length := by
      rcases Nat.lt_or_ge d a.length with hl | hl
      · exact hl
      · rw [AV.at_ge hl] at hat
        cases hat
    have hb : Nat.blt d a.length = true := Nat.ble_eq_true_of_le hlt
    simp only [putA, hb, cond_true]
    rw [AV.at_lt hlt] at hat
    rw [← hat, PT.put_get]
    rfl
  · cases h

/-- A region whose operations come in the order of the text. -/
theorem ops_text {Z : Type} {C : Ctx} {G : GG} (hcl : Shut G) {ops : Array Oper} {bf : List (List Nat)} {k : Act' → AH → Option Z} {z : Z} : ∀ (rest : List Oper) (i : Nat) (rd : List (Nat × List Nat)) (md : List (Nat × Option (List Nat))) (a : Act') (h : AH),
    (∀ j, rest[j]? = ops[i + j]?) → (∀ o ∈ rest, callsOk C G o) → runOps C ops.toList bf i rest rd md a h k = some z →
    ∃ aF hF, k aF hF = some z ∧ ∀ (r : Option Nat) (n : Nat) (Bad : Nat → Prop) (φ : Map) (w : World) (y : Act) (Q : Exit → Act → World → Prop), G Bad φ h w → Rel Bad φ h w → ActSim (Imm Bad φ w) φ h.next w a y →
      (∀ φ' w' y', Goes Bad φ h w φ' hF w' → ActSim (Imm Bad φ' w') φ' hF.next w' aF y' → y'.defers = y.defers → Q .normal y' w') → wpOpsIn (FR r) n C.P ops Q (List.range' i rest.length) y w := by
  intro rest
  induction rest with
  | nil =>
    intro i rd md a h _ _ hk
    exact ⟨a, h, hk, fun r n Bad φ w y Q hG hr ha hQ => by simp only [List.length_nil, List.range'_zero, wpOpsIn]; exact hQ φ w y (.refl hr) ha rfl⟩
  | cons o rest ih =>
    intro i rd md a h hrest hok hk
    have hi : ops[i]? = some o := by have := hrest 0; simp at this; exact this.symm
    have hrest' : ∀ j, rest[j]? = ops[i + 1 + j]? := fun j => by have := hrest (j + 1); simp at this; rw [this]; congr 1; omega
    have hok' : ∀ o ∈ rest, callsOk C G o := fun o ho => hok o (by simp [ho])
    have key : ∀ (x : Bool) (v : AV) (h' : AH) (rd' : List (Nat × List Nat)) (md' : List (Nat × Option (List Nat))), StepAt C G ops.toList o a h x v h' → (isEff C o = false ∨ x = false → h' = h) → runOps C ops.toList bf (i + 1) rest rd' md' (putA a o.dst v) h' k = some z →
        ∃ aF hF, k aF hF = some z ∧ ∀ (r : Option Nat) (n : Nat) (Bad : Nat → Prop) (φ : Map) (w : World) (y : Act) (Q : Exit → Act → World → Prop), G Bad φ h w → Rel Bad φ h w → ActSim (Imm Bad φ w) φ h.next w a y →
          (∀ φ' w' y', Goes Bad φ h w φ' hF w' → ActSim (Imm Bad φ' w') φ' hF.next w' aF y' → y'.defers = y.defers → Q .normal y' w') → wpOpsIn (FR r) n C.P ops Q (List.range' i (o :: rest).length) y w := by
      intro x v h' rd' md' hs hsm hk
      obtain ⟨aF, hF, h1, h2⟩ := ih (i + 1) rd' md' _ h' hrest' hok' hk
      refine ⟨aF, hF, h1, fun r n Bad φ w y Q hG hr ha hQ => ?_⟩
      simp only [List.length_cons, List.range'_succ]
      rw [wpOpsIn_cons]
      refine hs.wp hi r n hG hr (fun u _ => ha.eval u) (fun j want _ r hy => yield_sim ha ops j hy) (fun _ _ => rfl) (fun _ _ _ _ => rfl) fun φ' w' v' g hv => ?_
      have he : (if x = true ∧ isEff C o = true then h' else h) = h' := by
        split
        · rfl
        · rename_i hn
          refine (hsm ?_).symm
          cases x <;> cases hi : isEff C o <;> simp_all
      rw [he] at g hv
      refine h2 r n Bad φ' w' _ Q (hcl _ _ _ _ _ _ _ hG g) g.rel ((ha.evo g.evo hr.id_lt).put o.dst hv) fun φ'' w'' y' g' ha' hd => hQ φ'' w'' y' (g.trans g') ha' (by rw [hd, put_defers])
    simp only [runOps] at hk
    split at hk
    · rename_i hg
      obtain ⟨v, h', hs, h1, h2⟩ := one_step (all := ops.toList) (hok o (by simp)) (.inl hg) hk
      cases he : isEff C o with
      | true => exact key true v h' _ _ hs (fun h => by rcases h with h | h <;> simp_all) (h1 he).2
      | false => exact key true v h' _ _ hs (fun _ => (hs.same rfl he).1) (h2 he).2
    · rename_i j want hg
      split at hk
      · rename_i b hy
        cases hbw : (b == want) with
        | true =>
          rw [hbw] at hk
          simp only [cond_true] at hk
          have hb : b = want := by simpa using hbw
          subst hb
          rw [fixA_eq hy] at hk
          obtain ⟨v, h', hs, h1, h2⟩ := one_step (all := ops.toList) (hok o (by simp)) (.inr ⟨j, b, hg, hy⟩) hk
          cases he : isEff C o with
          | true => exact key true v h' _ _ hs (fun h => by rcases h with h | h <;> simp_all) (h1 he).2
          | false => exact key true v h' _ _ hs (fun _ => (hs.same rfl he).1) (h2 he).2
        | false =>
          rw [hbw] at hk
          simp only [cond_false] at hk
          have hb : b ≠ want := by simpa using hbw
          have hnb : (!want) = b := by cases b <;> cases want <;> simp_all
          rw [hnb, fixA_eq hy] at hk
          exact key false (.tuple []) h _ _ ⟨fun _ => ⟨rfl, rfl, j, want, hg, .inl ⟨b, hy, hb⟩⟩, fun h => (by cases h), fun h => (by cases h), fun h => (by cases h)⟩ (fun _ => rfl) hk
      · rename_i hy
        exact key false (.tuple []) h _ _ ⟨fun _ => ⟨rfl, rfl, j, want, hg, .inr hy⟩, fun h => (by cases h), fun h => (by cases h), fun h => (by cases h)⟩ (fun _ => rfl) hk
      · cases hk

end Go.Ph

/- Regions whose order is drawn: the run in the order of the text, taken apart. -/
namespace Go.Ph
open Go.RowKit

/-- A run of a region's operations, from number i on. -/
structure Trace (C : Ctx) (G : GG) (all : List Oper) (bf : List (List Nat)) (i n : Nat) (A : Nat → Act') (H : Nat → AH) (V : Nat → AV) (X : Nat → Bool) (rd : List (Nat × List Nat)) (md : List (Nat × Option (List Nat))) : Prop where
  step : ∀ k o, i ≤ k → k < n → all[k]? = some o → StepAt C G all o (A k) (H k) (X k) (V k) (H (k + 1)) ∧ A (k + 1) = putA (A k) o.dst (V k)
  rd : ∀ k o, i ≤ k → k < n → all[k]? = some o → X k = true → isEff C o = true → ∀ p ∈ rd, (bf.getD k []).contains p.1 = true ∨ meet p.2 (modsOf C o (evalA (A k)) (H k)) = false
  md : ∀ k o, i ≤ k → k < n → all[k]? = some o → X k = true → isEff C o = false → ∀ p ∈ md, (bf.getD k []).contains p.1 = true ∨ meet (readsOf o (evalA (A k))) p.2 = false
  re : ∀ k o l q, i ≤ k → k < l → l < n → all[k]? = some o → all[l]? = some q → X k = true → X l = true → isEff C o = false → isEff C q = true → (bf.getD l []).contains k = true ∨ meet (readsOf o (evalA (A k))) (modsOf C q (evalA (A l)) (H l)) = false
  er : ∀ k o l q, i ≤ k → k < l → l < n → all[k]? = some o → all[l]? = some q → X k = true → X l = true → isEff C o = true → isEff C q = false → (bf.getD l []).contains k = true ∨ meet (readsOf q (evalA (A l))) (modsOf C o (evalA (A k)) (H k)) = false

theorem trace_of {Z : Type} {C : Ctx} {G : GG} {all : List Oper} {bf : List (List Nat)} {k : Act' → AH → Option Z} {z : Z} : ∀ (rest : List Oper) (i : Nat) (rd : List (Nat × List Nat)) (md : List (Nat × Option (List Nat))) (a : Act') (h : AH),
    (∀ j, rest[j]? = all[i + j]?) → (∀ o ∈ rest, callsOk C G o) → runOps C all bf i rest rd md a h k = some z →
    ∃ A H V X, A i = a ∧ H i = h ∧ k (A (i + rest.length)) (H (i + rest.length)) = some z ∧ Trace C G all bf i (i + rest.length) A H V X rd md := by
  intro rest
  induction rest with
  | nil =>
    intro i rd md a h _ _ hk
    exact ⟨fun _ => a, fun _ => h, fun _ => .dead, fun _ => false, rfl, rfl, hk, ⟨fun k o h1 h2 => (by simp at h2; omega), fun k o h1 h2 => (by simp at h2; omega), fun k o h1 h2 => (by simp at h2; omega), fun k o l q h1 h2 h3 => (by simp at h3; omega), fun k o l q h1 h2 h3 => (by simp at h3; omega)⟩⟩
  | cons o rest ih =>
    intro i rd md a h hrest hok hk
    have hi : all[i]? = some o := by have := hrest 0; simp at this; exact this.symm
    have hrest' : ∀ j, rest[j]? = all[i + 1 + j]? := fun j => by have := hrest (j + 1); simp at this; rw [this]; congr 1; omega
    have hok' : ∀ o ∈ rest, callsOk C G o := fun o ho => hok o (by simp [ho])
    have hn : i + (o :: rest).length = i + 1 + rest.length := by simp; omega
    have key : ∀ (x : Bool) (v : AV) (h' : AH) (rd' : List (Nat × List Nat)) (md' : List (Nat × Option (List Nat))), StepAt C G all o a h x v h' →
        (x = true → isEff C o = true → apartOk' (bf.getD i []) (modsOf C o (evalA a) h) rd = true ∧ rd' = rd ∧ md' = (i, modsOf C o (evalA a) h) :: md) →
        (x = true → isEff C o = false → apartOk (bf.getD i []) (readsOf o (evalA a)) md = true ∧ rd' = (i, readsOf o (evalA a)) :: rd ∧ md' = md) →
        (x = false → rd' = rd ∧ md' = md) →
        runOps C all bf (i + 1) rest rd' md' (putA a o.dst v) h' k = some z →
        ∃ A H V X, A i = a ∧ H i = h ∧ k (A (i + (o :: rest).length)) (H (i + (o :: rest).length)) = some z ∧ Trace C G all bf i (i + (o :: rest).length) A H V X rd md := by
      intro x v h' rd' md' hs he hr hx hk
      obtain ⟨A, H, V, X, hA, hH, hz, tr⟩ := ih (i + 1) rd' md' _ h' hrest' hok' hk
      have subrd : ∀ p ∈ rd, p ∈ rd' := by
        intro p hp
        cases x with
        | false => rw [(hx rfl).1]; exact hp
        | true =>
          cases hE : isEff C o with
          | true => rw [(he rfl hE).2.1]; exact hp
          | false => rw [(hr rfl hE).2.1]; exact List.mem_cons_of_mem _ hp
      have submd : ∀ p ∈ md, p ∈ md' := by
        intro p hp
        cases x with
        | false => rw [(hx rfl).2]; exact hp
        | true =>
          cases hE : isEff C o with
          | true => rw [(he rfl hE).2.2]; exact List.mem_cons_of_mem _ hp
          | false => rw [(hr rfl hE).2.2]; exact hp
      refine ⟨fun k => if k = i then a else A k, fun k => if k = i then h else H k, fun k => if k = i then v else V k, fun k => if k = i then x else X k, by simp, by simp, ?_, ?_⟩
      · rw [hn]
        simp only [if_neg (show ¬ i + 1 + rest.length = i by omega)]
        exact hz
      · rw [hn]
        refine ⟨fun k q h1 h2 hq => ?_, fun k q h1 h2 hq hX hE p hp => ?_, fun k q h1 h2 hq hX hE p hp => ?_, fun k q l r h1 h2 h3 hq hr' hX hX' hE hE' => ?_, fun k q l r h1 h2 h3 hq hr' hX hX' hE hE' => ?_⟩
        · by_cases hki : k = i
          · subst hki
            rw [hi] at hq
            simp only [Option.some.injEq] at hq
            subst hq
            simp only [if_true, if_neg (show ¬ k + 1 = k by omega), hA, hH]
            refine ⟨hs, ?_⟩; first | rfl | trivial
          · simp only [if_neg hki, if_neg (show ¬ k + 1 = i by omega)]
            exact tr.step k q (by omega) h2 hq
        · by_cases hki : k = i
          · subst hki
            rw [hi] at hq
            simp only [Option.some.injEq] at hq
            subst hq
            simp only [if_true] at hX ⊢
            have := List.all_eq_true.1 (he hX hE).1 p hp
            simpa using this
          · simp only [if_neg hki] at hX ⊢
            exact tr.rd k q (by omega) h2 hq hX hE p (subrd p hp)
        · by_cases hki : k = i
          · subst hki
            rw [hi] at hq
            simp only [Option.some.injEq] at hq
            subst hq
            simp only [if_true] at hX ⊢
            have := List.all_eq_true.1 (hr hX hE).1 p hp
            simpa using this
          · simp only [if_neg hki] at hX ⊢
            exact tr.md k q (by omega) h2 hq hX hE p (submd p hp)
        · have hli : ¬ l = i := by omega
          simp only [if_neg hli] at hX' ⊢
          by_cases hki : k = i
          · subst hki
            rw [hi] at hq
            simp only [Option.some.injEq] at hq
            subst hq
            simp only [if_true] at hX ⊢
            exact tr.rd l r (by omega) h3 hr' hX' hE' (k, readsOf o (evalA a)) (by rw [(hr hX hE).2.1]; simp)
          · simp only [if_neg hki] at hX ⊢
            exact tr.re k q l r (by omega) h2 h3 hq hr' hX hX' hE hE'
        · have hli : ¬ l = i := by omega
          simp only [if_neg hli] at hX' ⊢
          by_cases hki : k = i
          · subst hki
            rw [hi] at hq
            simp only [Option.some.injEq] at hq
            subst hq
            simp only [if_true] at hX ⊢
            exact tr.md l r (by omega) h3 hr' hX' hE' (k, modsOf C o (evalA a) h) (by rw [(he hX hE).2.2]; simp)
          · simp only [if_neg hki] at hX ⊢
            exact tr.er k q l r (by omega) h2 h3 hq hr' hX hX' hE hE'
    have go : ∀ (hg : o.guard = none ∨ ∃ j want, o.guard = some (j, want) ∧ yieldA all a j = some (some want)), oneK C (bf.getD i []) i o rd md a h (fun rd md a h => runOps C all bf (i + 1) rest rd md a h k) = some z →
        ∃ A H V X, A i = a ∧ H i = h ∧ k (A (i + (o :: rest).length)) (H (i + (o :: rest).length)) = some z ∧ Trace C G all bf i (i + (o :: rest).length) A H V X rd md := by
      intro hg hk
      obtain ⟨v, h', hs, h1, h2⟩ := one_step (all := all) (hok o (by simp)) hg hk
      cases he : isEff C o with
      | true => exact key true v h' _ _ hs (fun _ _ => ⟨(h1 he).1, rfl, rfl⟩) (fun _ h => (by rw [he] at h; cases h)) (fun h => (by cases h)) (h1 he).2
      | false => exact key true v h' _ _ hs (fun _ h => (by rw [he] at h; cases h)) (fun _ _ => ⟨(h2 he).1, rfl, rfl⟩) (fun h => (by cases h)) (h2 he).2
    have skip : ∀ (hs : StepAt C G all o a h false (.tuple []) h), runOps C all bf (i + 1) rest rd md (putA a o.dst (.tuple [])) h k = some z →
        ∃ A H V X, A i = a ∧ H i = h ∧ k (A (i + (o :: rest).length)) (H (i + (o :: rest).length)) = some z ∧ Trace C G all bf i (i + (o :: rest).length) A H V X rd md :=
      fun hs hk => key false (.tuple []) h rd md hs (fun h => (by cases h)) (fun h => (by cases h)) (fun _ => ⟨rfl, rfl⟩) hk
    simp only [runOps] at hk
    split at hk
    · rename_i hg
      exact go (.inl hg) hk
    · rename_i j want hg
      split at hk
      · rename_i b hy
        cases hbw : (b == want) with
        | true =>
          rw [hbw] at hk
          simp only [cond_true] at hk
          have hb : b = want := by simpa using hbw
          subst hb
          rw [fixA_eq hy] at hk
          exact go (.inr ⟨j, b, hg, hy⟩) hk
        | false =>
          rw [hbw] at hk
          simp only [cond_false] at hk
          have hb : b ≠ want := by simpa using hbw
          have hnb : (!want) = b := by cases b <;> cases want <;> simp_all
          rw [hnb, fixA_eq hy] at hk
          exact skip ⟨fun _ => ⟨rfl, rfl, j, want, hg, .inl ⟨b, hy, hb⟩⟩, fun h => (by cases h), fun h => (by cases h), fun h => (by cases h)⟩ hk
      · rename_i hy
        exact skip ⟨fun _ => ⟨rfl, rfl, j, want, hg, .inr hy⟩, fun h => (by cases h), fun h => (by cases h), fun h => (by cases h)⟩ hk
      · cases hk

/-- The last number below n for which p. -/
def lastOf (p : Nat → Bool) : Nat → Option Nat
  | 0 => none
  | n + 1 => if p n then some n else lastOf p n

theorem lastOf_congr {p q : Nat → Bool} : ∀ n, (∀ k, k < n → p k = q k) → lastOf p n = lastOf q n
  | 0, _ => rfl
  | n + 1, h => by simp only [lastOf, h n (by omega), lastOf_congr n (fun k hk => h k (by omega))]

theorem lastOf_some {p : Nat → Bool} : ∀ n k, lastOf p n = some k → k < n ∧ p k = true ∧ ∀ j, k < j → j < n → p j = false
  | 0, k, h => by simp [lastOf] at h
  | n + 1, k, h => by
    simp only [lastOf] at h
    split at h
    · rename_i hp
      simp only [Option.some.injEq] at h
      subst h
      exact ⟨by omega, hp, fun j h1 h2 => by omega⟩
    · rename_i hp
      obtain ⟨h1, h2, h3⟩ := lastOf_some n k h
      refine ⟨by omega, h2, fun j h4 h5 => ?_⟩
      by_cases hj : j = n
      · subst hj; simpa using hp
      · exact h3 j h4 (by omega)

theorem lastOf_none {p : Nat → Bool} : ∀ n, lastOf p n = none → ∀ j, j < n → p j = false
  | 0, _, j, hj => by omega
  | n + 1, h, j, hj => by
    simp only [lastOf] at h
    split at h
    · cases h
    · rename_i hp
      by_cases he : j = n
      · subst he; simpa using hp
      · exact lastOf_none n h j (by omega)

theorem lastOf_is {p : Nat → Bool} {n k : Nat} (hk : k < n) (hp : p k = true) (hmax : ∀ j, k < j → j < n → p j = false) : lastOf p n = some k := by
  cases h : lastOf p n with
  | none => have := lastOf_none n h k hk; rw [hp] at this; cases this
  | some m =>
    obtain ⟨h1, h2, h3⟩ := lastOf_some n m h
    rcases Nat.lt_trichotomy m k with h4 | h4 | h4
    · have := h3 k h4 hk; rw [hp] at this; cases this
    · rw [h4]
    · have := hmax m h4 h1; rw [h2] at this; cases this

end Go.Ph

/- Regions whose order is drawn: every order comes to what the order of the text comes to. -/
namespace Go.Ph
open Go.RowKit

theorem alwaysOn_binds (e : Edge) : alwaysOn e = Region.binds .any e := by
  cases h : e.ground <;> simp [alwaysOn, Region.binds, h]

/-- What stands before the last operation. -/
theorem fold_before (acc : List (List Nat)) : ∀ (es : List Edge) (s : List Nat) (j : Nat), j ∈ es.foldl (fun s e => if alwaysOn e then e.on :: (acc.getD e.on [] ++ s) else s) s →
    j ∈ s ∨ ∃ e ∈ es, alwaysOn e = true ∧ (j = e.on ∨ j ∈ acc.getD e.on [])
  | [], s, j, h => .inl h
  | e :: es, s, j, h => by
    simp only [List.foldl_cons] at h
    rcases fold_before acc es _ j h with h1 | ⟨e', h1, h2, h3⟩
    · split at h1
      · rename_i ha
        simp only [List.mem_cons, List.mem_append] at h1
        rcases h1 with h1 | h1 | h1
        · exact .inr ⟨e, by simp, ha, .inl h1⟩
        · exact .inr ⟨e, by simp, ha, .inr h1⟩
        · exact .inl h1
      · exact .inl h1
    · exact .inr ⟨e', by simp [h1], h2, h3⟩

theorem before_len (acc : List (List Nat)) : ∀ (l : List Oper), (l.foldl beforeStep acc).length = acc.length + l.length
  | [] => by simp
  | o :: l => by simp only [List.foldl_cons]; rw [before_len _ l]; simp [beforeStep]; omega

theorem before_old : ∀ (l : List Oper) (acc : List (List Nat)) (i : Nat), i < acc.length → (l.foldl beforeStep acc).getD i [] = acc.getD i []
  | [], acc, i, h => rfl
  | o :: l, acc, i, h => by
    simp only [List.foldl_cons]
    rw [before_old l _ i (by simp [beforeStep]; omega)]
    simp only [beforeStep, List.getD_eq_getElem?_getD]
    rw [List.getElem?_append_left h]

theorem before_mem : ∀ (l : List Oper) (acc : List (List Nat)) (i : Nat) (o : Oper) (j : Nat), l[i]? = some o → j ∈ (l.foldl beforeStep acc).getD (acc.length + i) [] →
    ∃ e ∈ o.after.toList, alwaysOn e = true ∧ (j = e.on ∨ (e.on < acc.length + i ∧ j ∈ (l.foldl beforeStep acc).getD e.on []))
  | [], acc, i, o, j, h, _ => by simp at h
  | q :: l, acc, 0, o, j, h, hj => by
    simp only [List.getElem?_cons_zero, Option.some.injEq] at h
    subst h
    simp only [List.foldl_cons, Nat.add_zero] at hj ⊢
    have hlt : acc.length < (beforeStep acc q).length := by simp [beforeStep]
    rw [before_old l _ _ hlt] at hj
    simp only [beforeStep, List.getD_eq_getElem?_getD, List.getElem?_append_right (Nat.le_refl _), Nat.sub_self, List.getElem?_cons_zero, Option.getD_some] at hj
    have hj' : j ∈ q.after.toList.foldl (fun s e => if alwaysOn e then e.on :: (acc.getD e.on [] ++ s) else s) [] := by
      simpa [List.getD_eq_getElem?_getD] using hj
    rcases fold_before acc _ _ j hj' with h1 | ⟨e, h1, h2, h3⟩
    · cases h1
    · refine ⟨e, h1, h2, ?_⟩
      rcases h3 with h3 | h3
      · exact .inl h3
      · right
        have hl : e.on < acc.length := by
          rcases Nat.lt_or_ge e.on acc.length with h4 | h4
          · exact h4
          · simp [List.getD_eq_getElem?_getD, List.getElem?_eq_none h4] at h3
        refine ⟨hl, ?_⟩
        rw [before_old l _ _ (by simp [beforeStep]; omega)]
        simp only [beforeStep, List.getD_eq_getElem?_getD, List.getElem?_append_left hl]
        simpa [List.getD_eq_getElem?_getD] using h3
  | q :: l, acc, i + 1, o, j, h, hj => by
    simp only [List.getElem?_cons_succ] at h
    simp only [List.foldl_cons] at hj ⊢
    have hl : (beforeStep acc q).length + i = acc.length + (i + 1) := by simp [beforeStep]; omega
    rw [← hl] at hj ⊢
    exact before_mem l _ i o j h hj

theorem before_of (all : List Oper) (i : Nat) (o : Oper) (j : Nat) (ho : all[i]? = some o) (hj : j ∈ (beforeOf all).getD i []) :
    ∃ e ∈ o.after.toList, alwaysOn e = true ∧ (j = e.on ∨ (e.on < i ∧ j ∈ (beforeOf all).getD e.on [])) := by
  have := before_mem all [] i o j ho (by simpa [beforeOf] using hj)
  simpa [beforeOf] using this

/-- What has come up is closed. -/
def Closed (ops : Array Oper) (S : Nat → Bool) : Prop := ∀ (i : Nat) (o : Oper), ops[i]? = some o → S i = true → ∀ e ∈ o.after.toList, alwaysOn e = true → S e.on = true

/-- Edges lead back. -/
def Back (ops : Array Oper) : Prop := ∀ (i : Nat) (o : Oper), ops[i]? = some o → (∀ e ∈ o.after.toList, alwaysOn e = true → e.on < i) ∧ (∀ g want, o.guard = some (g, want) → g < i)

theorem back_of {ops : Array Oper} (h : edgesOk ops.toList = true) : Back ops := by
  intro i o ho
  have hi : i < ops.size := (Array.getElem?_eq_some_iff.1 ho).1
  have h1 := List.all_eq_true.1 h i (by simpa using hi)
  have h2 : ops.toList[i]? = some o := by simpa using ho
  rw [h2] at h1
  simp only [Bool.and_eq_true] at h1
  refine ⟨fun e he ha => ?_, fun g want hg => ?_⟩
  · have := List.all_eq_true.1 h1.1 e he
    simpa [ha] using this
  · rw [hg] at h1
    simpa using h1.2

theorem closed_before {ops : Array Oper} {S : Nat → Bool} (hc : Closed ops S) (hE : Back ops) : ∀ (i : Nat) (o : Oper), ops[i]? = some o → (∀ e ∈ o.after.toList, alwaysOn e = true → S e.on = true) → ∀ j, j ∈ (beforeOf ops.toList).getD i [] → S j = true := by
  intro i
  induction i using Nat.strongRecOn with
  | _ i ih =>
    intro o ho hs j hj
    obtain ⟨e, h1, h2, h3⟩ := before_of ops.toList i o j (by simpa using ho) hj
    rcases h3 with rfl | ⟨h3, h4⟩
    · exact hs e h1 h2
    · have he := hs e h1 h2
      have hi : i < ops.size := (Array.getElem?_eq_some_iff.1 ho).1
      have hsz : e.on < ops.size := by omega
      have hq : ops[e.on]? = some ops[e.on] := by simp [hsz]
      exact ih e.on h3 ops[e.on] hq (fun e' h5 h6 => hc e.on _ hq he e' h5 h6) j h4

section
variable {C : Ctx} {G : GG} {ops : Array Oper} {A : Nat → Act'} {H : Nat → AH} {V : Nat → AV} {X : Nat → Bool}

/-- Does operation k write variable t? -/
def wr (ops : Array Oper) (t k : Nat) : Bool := match (ops[k]?).bind (·.dst) with | some d => d == t | none => false
/-- Does operation k change the heap? -/
def ef (C : Ctx) (ops : Array Oper) (X : Nat → Bool) (k : Nat) : Bool := X k && match ops[k]? with | some o => isEff C o | none => false

/-- A variable, when the operations S have come up. -/
def varAt (ops : Array Oper) (V : Nat → AV) (a : Act') (S : Nat → Bool) (t : Nat) : AV :=
  if t < a.length then (match lastOf (fun k => S k && wr ops t k) ops.size with | some k => V k | none => AV.at_ a t) else .dead

/-- The heap, when the operations S have come up. -/
def heapAt (C : Ctx) (ops : Array Oper) (H : Nat → AH) (X : Nat → Bool) (S : Nat → Bool) : AH :=
  match lastOf (fun k => S k && ef C ops X k) ops.size with | some k => H (k + 1) | none => H 0

theorem at_out {a : Act'} {t : Nat} (h : ¬ t < a.length) : AV.at_ a t = .dead := by
  exact AV.at_ge (Nat.le_of_not_lt h)

theorem put_len (a : Act') (d : Option Nat) (v : AV) : (putA a d v).length = a.length := putA_len a d v

def isDst (d : Option Nat) (t : Nat) : Bool := match d with | some d => d == t | none => false

theorem put_at (a : Act') (d : Option Nat) (v : AV) (t : Nat) : AV.at_ (putA a d v) t = if isDst d t = true ∧ t < a.length then v else AV.at_ a t := by
  cases d with
  | none => simp [putA, isDst]
  | some d =>
    simp only [isDst]
    rw [at_set]
    by_cases hdt : t = d
    · subst hdt; simp
    · have h2 : ¬ d = t := fun h => hdt h.symm
      simp [hdt, h2]

theorem var_text (tr : Trace C G ops.toList (beforeOf ops.toList) 0 ops.size A H V X [] []) : ∀ k, k ≤ ops.size → (A k).length = (A 0).length ∧ ∀ t, AV.at_ (A k) t = varAt ops V (A 0) (fun j => decide (j < k)) t := by
  intro k
  induction k with
  | zero =>
    intro _
    refine ⟨rfl, fun t => ?_⟩
    unfold varAt
    have : lastOf (fun j => decide (j < 0) && wr ops t j) ops.size = none := by
      cases h : lastOf (fun j => decide (j < 0) && wr ops t j) ops.size with
      | none => rfl
      | some m => have := (lastOf_some _ _ h).2.1; simp at this
    rw [this]
    split
    · rfl
    · rename_i ht; exact at_out ht
  | succ k ih =>
    intro hk
    obtain ⟨h1, h2⟩ := ih (by omega)
    have ho : ops[k]? = some ops[k] := by simp [show k < ops.size by omega]
    obtain ⟨_, hA⟩ := tr.step k ops[k] (by omega) (by omega) (by simp)
    refine ⟨by rw [hA, put_len, h1], fun t => ?_⟩
    have hAt : AV.at_ (A (k + 1)) t = if wr ops t k = true ∧ t < (A 0).length then V k else AV.at_ (A k) t := by
      rw [hA, put_at, h1]
      have : wr ops t k = isDst (ops[k]).dst t := by unfold wr isDst; rw [ho]; rfl
      rw [this]
    rw [hAt]
    by_cases hw : wr ops t k = true ∧ t < (A 0).length
    · rw [if_pos hw]
      unfold varAt
      rw [if_pos hw.2]
      have : lastOf (fun j => decide (j < k + 1) && wr ops t j) ops.size = some k :=
        lastOf_is (by omega) (by simp [hw.1]) (fun j h3 h4 => by simp; omega)
      rw [this]
    · rw [if_neg hw, h2 t]
      unfold varAt
      by_cases ht : t < (A 0).length
      · rw [if_pos ht, if_pos ht]
        have hwf : wr ops t k = false := by
          cases h : wr ops t k
          · rfl
          · exact absurd ⟨h, ht⟩ hw
        rw [lastOf_congr (p := fun j => decide (j < k) && wr ops t j) (q := fun j => decide (j < k + 1) && wr ops t j) ops.size (fun j hj => by
          by_cases hjk : j = k
          · subst hjk; simp [hwf]
          · have : decide (j < k) = decide (j < k + 1) := by simp; omega
            simp only [this])]
      · rw [if_neg ht, if_neg ht]

theorem heap_text (tr : Trace C G ops.toList (beforeOf ops.toList) 0 ops.size A H V X [] []) : ∀ k, k ≤ ops.size → H k = heapAt C ops H X (fun j => decide (j < k)) := by
  intro k
  induction k with
  | zero =>
    intro _
    unfold heapAt
    have : lastOf (fun j => decide (j < 0) && ef C ops X j) ops.size = none := by
      cases h : lastOf (fun j => decide (j < 0) && ef C ops X j) ops.size with
      | none => rfl
      | some m => have := (lastOf_some _ _ h).2.1; simp at this
    rw [this]
  | succ k ih =>
    intro hk
    have ho : ops[k]? = some ops[k] := by simp [show k < ops.size by omega]
    obtain ⟨hs, _⟩ := tr.step k ops[k] (by omega) (by omega) (by simp)
    by_cases he : ef C ops X k = true
    · unfold heapAt
      have : lastOf (fun j => decide (j < k + 1) && ef C ops X j) ops.size = some k :=
        lastOf_is (by omega) (by simp [he]) (fun j h3 h4 => by simp; omega)
      rw [this]
    · have hsame : H (k + 1) = H k := by
        cases hx : X k with
        | false => exact (hs.skip hx).2.1
        | true =>
          refine (hs.same hx ?_).1
          unfold ef at he
          rw [ho, hx] at he
          simp at he
          exact he
      rw [hsame, ih (by omega)]
      unfold heapAt
      rw [lastOf_congr (p := fun j => decide (j < k) && ef C ops X j) (q := fun j => decide (j < k + 1) && ef C ops X j) ops.size (fun j hj => by
        by_cases hjk : j = k
        · subst hjk; simp [he]
        · have : decide (j < k) = decide (j < k + 1) := by simp; omega
          simp only [this])]

/-- Operations that must not change places have not. -/
theorem ordered {S : Nat → Bool} (hp : pairsOk C ops.toList (beforeOf ops.toList) = true) (hc : Closed ops S) (hE : Back ops) {i k : Nat} {oi ok : Oper} (hi : ops[i]? = some oi) (hk : ops[k]? = some ok) (hun : S i = false)
    (hready : ∀ e ∈ oi.after.toList, alwaysOn e = true → S e.on = true) (hne : k ≠ i) (hclash : clash C ops.toList ok oi = true ∨ clash C ops.toList oi ok = true) (hboth : clash C ops.toList ok oi = clash C ops.toList oi ok) : S k = decide (k < i) := by
  have hin : i < ops.size := (Array.getElem?_eq_some_iff.1 hi).1
  have hkn : k < ops.size := (Array.getElem?_eq_some_iff.1 hk).1
  have pair : ∀ i j (x y : Oper), i < j → j < ops.size → ops[i]? = some x → ops[j]? = some y → clash C ops.toList x y = true → i ∈ (beforeOf ops.toList).getD j [] := by
    intro i j x y hij hj hx hy hcl
    have h1 := List.all_eq_true.1 hp j (by simpa using hj)
    have h2 := List.all_eq_true.1 h1 i (by simpa using hij)
    have hx' : ops.toList[i]? = some x := by simpa using hx
    have hy' : ops.toList[j]? = some y := by simpa using hy
    rw [hx', hy'] at h2
    simp only [hcl, Bool.not_true, Bool.false_or] at h2
    simpa using h2
  rcases Nat.lt_trichotomy k i with h | h | h
  · have hcl : clash C ops.toList ok oi = true := by rcases hclash with h1 | h1; exact h1; rw [hboth]; exact h1
    rw [closed_before hc hE i oi hi hready k (pair k i ok oi h hin hk hi hcl)]
    simp [h]
  · exact absurd h hne
  · have hcl : clash C ops.toList oi ok = true := by rcases hclash with h1 | h1; rw [← hboth]; exact h1; exact h1
    have hmem := pair i k oi ok h hkn hi hk hcl
    have : ¬ k < i := by omega
    simp only [this, decide_false]
    cases hS : S k with
    | false => rfl
    | true =>
      have := closed_before hc hE k ok hk (fun e h1 h2 => hc k ok hk hS e h1 h2) i hmem
      rw [hun] at this
      cases this

end

end Go.Ph

/- Regions whose order is drawn. -/
namespace Go.Ph
open Go.RowKit

theorem contains_iff {l : List Nat} {x : Nat} : l.contains x = true ↔ x ∈ l := by simp

theorem beq_swap (d e : Nat) : (d == e) = (e == d) := by
  by_cases h : d = e
  · subst h; rfl
  · have h2 : ¬ e = d := fun h' => h h'.symm
    rw [beq_eq_false_iff_ne.2 h, beq_eq_false_iff_ne.2 h2]

theorem clash_symm (C : Ctx) (all : List Oper) (x y : Oper) : clash C all x y = clash C all y x := by
  unfold clash
  rw [Bool.and_comm (isEff C x)]
  cases x.dst with
  | none =>
    cases y.dst with
    | none => rfl
    | some e => simp only [Bool.false_or, Bool.or_false]
  | some d =>
    cases y.dst with
    | none => simp only [Bool.false_or, Bool.or_false]
    | some e =>
      simp only
      rw [beq_swap d e]
      generalize (tmpsOf all y).contains d = p
      generalize (tmpsOf all x).contains e = q
      cases p <;> cases q <;> rfl

theorem clash_read {C : Ctx} {all : List Oper} {x y : Oper} {t : Nat} (h : x.dst = some t) (hy : t ∈ tmpsOf all y) : clash C all x y = true := by
  unfold clash
  rw [h]
  simp only [contains_iff.2 hy, Bool.true_or]

theorem clash_write {C : Ctx} {all : List Oper} {x y : Oper} {t : Nat} (h : x.dst = some t) (hy : y.dst = some t) : clash C all x y = true := by
  unfold clash
  rw [h, hy]
  simp

theorem clash_eff {C : Ctx} {all : List Oper} {x y : Oper} (h : isEff C x = true) (hy : isEff C y = true) : clash C all x y = true := by
  unfold clash
  rw [h, hy]
  simp

/-- The rows that one reads are there, or were. -/
theorem sim_ids {N : Nat → Prop} {φ : Map} {nx : Nat} {w : World} (hlt : ∀ id l, φ id = some l → id < nx) {v : Value} {id : Nat} :
    (∀ i j, Sim N φ nx w (.ptr id i j) v → id < nx) ∧ (Sim N φ nx w (.own id) v → id < nx) ∧ (∀ off n, Sim N φ nx w (.ownp id off n) v → id < nx) := by
  refine ⟨fun i j h => ?_, fun h => ?_, fun off n h => ?_⟩
  · cases h with
    | ptrDead h hx => exact hx
    | ptr h hl => exact hlt _ _ h
  · cases h with
    | ownDead h hx => exact hx
    | ownNil h hl => exact hlt _ _ h
    | own h hl => exact hlt _ _ h
  · cases h with
    | ownpDead h hx => exact hx
    | ownpNil h hl => exact hlt _ _ h
    | ownp h hl _ _ _ _ => exact hlt _ _ h

theorem reads_lt {N : Nat → Prop} {φ : Map} {nx : Nat} {w : World} (hlt : ∀ id l, φ id = some l → id < nx) {o : Oper} {ρ : Operand → AV} {σ : Operand → Value} (hs : ∀ u ∈ o.op.operands, Sim N φ nx w (ρ u) (σ u)) : ∀ id ∈ readsOf o ρ, id < nx := by
  have of : ∀ u ∈ o.op.operands, ∀ id, id ∈ (match ρ u with | .ptr id _ _ => [id] | .own id => [id] | .ownp id _ _ => [id] | .mapp id => [id] | _ => []) → id < nx := by
    intro u hu id hid
    have h := hs u hu
    split at hid
    · rename_i k i j he
      simp at hid; subst hid
      rw [he] at h
      exact (sim_ids hlt).1 _ _ h
    · rename_i k he
      simp at hid; subst hid
      rw [he] at h
      exact (sim_ids hlt).2.1 h
    · rename_i k off n he
      simp at hid; subst hid
      rw [he] at h
      exact (sim_ids hlt).2.2 _ _ h
    · rename_i k he
      simp at hid; subst hid
      rw [he] at h
      generalize σ u = v at h
      cases h with
      | mapDead h hx => exact hx
      | mapp h hl => exact hlt _ _ h
    · simp at hid
  intro id hid
  unfold readsOf at hid
  simp only at hid
  split at hid
  · rename_i t a ho
    exact of a (by simp [ho, Op.operands]) id hid
  · rename_i t x i ok ho
    exact of x (by simp [ho, Op.operands]) id hid
  · rename_i t x i ho
    exact of x (by simp [ho, Op.operands]) id hid
  · rename_i t x lo hi mx ho
    exact of x (by simp [ho, Op.operands]) id hid
  · rename_i args argTypes ho
    split at hid
    · rename_i x hx
      refine of x ?_ id hid
      have hm : x ∈ args.toList := by rw [hx]; simp
      simp only [ho, Op.operands, Call.operands, Array.mem_append]
      exact .inr (Array.mem_toList_iff.1 hm)
    · simp at hid
  · simp at hid

section
variable {C : Ctx} {G : GG} {ops : Array Oper} {A : Nat → Act'} {H : Nat → AH} {V : Nat → AV} {X : Nat → Bool}

theorem wr_dst {t k : Nat} (h : wr ops t k = true) : ∃ o, ops[k]? = some o ∧ o.dst = some t := by
  unfold wr at h
  cases ho : ops[k]? with
  | none => simp [ho] at h
  | some o =>
    refine ⟨o, rfl, ?_⟩
    simp only [ho, Option.bind_some] at h
    cases hd : o.dst with
    | none => simp [hd] at h
    | some d => simp only [hd, beq_iff_eq] at h; rw [h]

theorem ef_spec {k : Nat} (h : ef C ops X k = true) : X k = true ∧ ∃ o, ops[k]? = some o ∧ isEff C o = true := by
  unfold ef at h
  simp only [Bool.and_eq_true] at h
  refine ⟨h.1, ?_⟩
  cases ho : ops[k]? with
  | none => simp [ho] at h
  | some o => exact ⟨o, rfl, by simpa [ho] using h.2⟩

/-- The variables that an operation looks at. -/
theorem var_read {S : Nat → Bool} (hp : pairsOk C ops.toList (beforeOf ops.toList) = true) (hc : Closed ops S) (hE : Back ops) {i : Nat} {o : Oper} (hi : ops[i]? = some o) (hun : S i = false)
    (hready : ∀ e ∈ o.after.toList, alwaysOn e = true → S e.on = true) (a : Act') {t : Nat} (ht : t ∈ tmpsOf ops.toList o) : varAt ops V a S t = varAt ops V a (fun j => decide (j < i)) t := by
  unfold varAt
  rw [lastOf_congr (p := fun k => S k && wr ops t k) (q := fun k => decide (k < i) && wr ops t k) ops.size (fun k hk => ?_)]
  cases hw : wr ops t k with
  | false => simp
  | true =>
    by_cases hki : k = i
    · subst hki; simp [hun]
    · obtain ⟨q, hq, hd⟩ := wr_dst hw
      rw [ordered hp hc hE hi hq hun hready hki (.inl (clash_read hd ht)) (clash_symm C ops.toList q o)]

theorem heap_eff {S : Nat → Bool} (hp : pairsOk C ops.toList (beforeOf ops.toList) = true) (hc : Closed ops S) (hE : Back ops) {i : Nat} {o : Oper} (hi : ops[i]? = some o) (hun : S i = false)
    (hready : ∀ e ∈ o.after.toList, alwaysOn e = true → S e.on = true) (he : isEff C o = true) : heapAt C ops H X S = heapAt C ops H X (fun j => decide (j < i)) := by
  unfold heapAt
  rw [lastOf_congr (p := fun k => S k && ef C ops X k) (q := fun k => decide (k < i) && ef C ops X k) ops.size (fun k hk => ?_)]
  cases hw : ef C ops X k with
  | false => simp
  | true =>
    by_cases hki : k = i
    · subst hki; simp [hun]
    · obtain ⟨_, q, hq, hd⟩ := ef_spec hw
      rw [ordered hp hc hE hi hq hun hready hki (.inl (clash_eff hd he)) (clash_symm C ops.toList q o)]

/-- Effects come up in the order of the text. -/
theorem eff_prefix {S : Nat → Bool} (hp : pairsOk C ops.toList (beforeOf ops.toList) = true) (hc : Closed ops S) (hE : Back ops) {j k : Nat} (hj : ef C ops X j = true) (hk : ef C ops X k = true) (hjk : j < k) (hS : S k = true) : S j = true := by
  cases hSj : S j with
  | true => rfl
  | false =>
    obtain ⟨_, oj, hoj, hdj⟩ := ef_spec hj
    obtain ⟨_, ok, hok, hdk⟩ := ef_spec hk
    have hjn : j < ops.size := (Array.getElem?_eq_some_iff.1 hoj).1
    have hkn : k < ops.size := (Array.getElem?_eq_some_iff.1 hok).1
    have h1 := List.all_eq_true.1 hp k (by simpa using hkn)
    have h2 := List.all_eq_true.1 h1 j (by simpa using hjk)
    have hx' : ops.toList[j]? = some oj := by simpa using hoj
    have hy' : ops.toList[k]? = some ok := by simpa using hok
    rw [hx', hy'] at h2
    simp only [clash_eff hdj hdk, Bool.not_true, Bool.false_or] at h2
    have := closed_before hc hE k ok hok (fun e h1 h2 => hc k ok hok hS e h1 h2) j (by simpa using h2)
    rw [hSj] at this
    cases this

/-- From one heap to a later one: rows that nothing on the way names stay. -/
theorem keep_way (tr : Trace C G ops.toList (beforeOf ops.toList) 0 ops.size A H V X [] []) {id : Nat} : ∀ (n p : Nat), p + n ≤ ops.size → id < (H p).next →
    (∀ k o, p ≤ k → k < p + n → ops[k]? = some o → ef C ops X k = true → ∀ l, modsOf C o (evalA (A k)) (H k) = some l → id ∉ l) → (∀ k o, p ≤ k → k < p + n → ops[k]? = some o → ef C ops X k = true → modsOf C o (evalA (A k)) (H k) ≠ none) →
    (H (p + n)).get id = (H p).get id ∧ (H p).next ≤ (H (p + n)).next := by
  intro n
  induction n with
  | zero => intro p _ _ _ _; exact ⟨rfl, Nat.le_refl _⟩
  | succ n ih =>
    intro p hp hlt hm hm2
    obtain ⟨h1, h2⟩ := ih p (by omega) hlt (fun k o hk1 hk2 => hm k o hk1 (by omega)) (fun k o hk1 hk2 => hm2 k o hk1 (by omega))
    have ho : ops[p + n]? = some ops[p + n] := by simp [show p + n < ops.size by omega]
    obtain ⟨hs, _⟩ := tr.step (p + n) ops[p + n] (by omega) (by omega) (by simp)
    have hadd : p + (n + 1) = p + n + 1 := by omega
    rw [hadd]
    by_cases he : ef C ops X (p + n) = true
    · obtain ⟨hX, o, ho', hE⟩ := ef_spec he
      have : o = ops[p + n] := by rw [ho] at ho'; simpa using ho'.symm
      subst this
      obtain ⟨_, hn, hk⟩ := hs.eff hX hE
      cases hmd : modsOf C ops[p + n] (evalA (A (p + n))) (H (p + n)) with
      | none => exact absurd hmd (hm2 _ _ (by omega) (by omega) ho he)
      | some l =>
        have := hk l hmd
        exact ⟨by rw [this.get id (Nat.lt_of_lt_of_le hlt h2) (hm _ _ (by omega) (by omega) ho he l hmd), h1], Nat.le_trans h2 hn⟩
    · have hsame : H (p + n + 1) = H (p + n) := by
        cases hx : X (p + n) with
        | false => exact (hs.skip hx).2.1
        | true =>
          refine (hs.same hx ?_).1
          unfold ef at he
          rw [ho, hx] at he
          simp at he
          exact he
      rw [hsame]
      exact ⟨h1, h2⟩

theorem meet_none {x : List Nat} {y : Option (List Nat)} (h : meet x y = false) {id : Nat} (hid : id ∈ x) : ∃ l, y = some l ∧ id ∉ l := by
  unfold meet at h
  cases y with
  | none => cases x <;> simp at h hid
  | some l =>
    refine ⟨l, rfl, fun hm => ?_⟩
    have : x.any l.contains = true := List.any_eq_true.2 ⟨id, hid, contains_iff.2 hm⟩
    simp only [this] at h
    cases h

/-- The rows that an operation reads. -/
theorem heap_read (tr : Trace C G ops.toList (beforeOf ops.toList) 0 ops.size A H V X [] []) {S : Nat → Bool} (hp : pairsOk C ops.toList (beforeOf ops.toList) = true) (hc : Closed ops S) (hE : Back ops) {i : Nat} {o : Oper} (hi : ops[i]? = some o) (hun : S i = false)
    (hready : ∀ e ∈ o.after.toList, alwaysOn e = true → S e.on = true) (hX : X i = true) (he : isEff C o = false) (hlt : ∀ id ∈ readsOf o (evalA (A i)), id < (heapAt C ops H X S).next) : ∀ id ∈ readsOf o (evalA (A i)), (heapAt C ops H X S).get id = (H i).get id := by
  intro id hid
  have hin : i < ops.size := (Array.getElem?_eq_some_iff.1 hi).1
  have hlt := hlt id hid
  obtain ⟨hs, _⟩ := tr.step i o (by omega) hin (by simpa using hi)
  have hlti : id < (H i).next := (hs.same hX he).2.1 id hid
  have hsame : H (i + 1) = H i := (hs.same hX he).1
  -- effects before i that have not come up
  have below : ∀ k q, k < i → ops[k]? = some q → ef C ops X k = true → S k = false → ∃ l, modsOf C q (evalA (A k)) (H k) = some l ∧ id ∉ l := by
    intro k q hki hq hef hSk
    obtain ⟨hXk, q', hq', hEk⟩ := ef_spec hef
    have : q' = q := by rw [hq] at hq'; simpa using hq'.symm
    subst this
    rcases tr.er k q' i o (by omega) hki hin (by simpa using hq) (by simpa using hi) hXk hX hEk he with h1 | h1
    · have := closed_before hc hE i o hi hready k (contains_iff.1 h1)
      rw [hSk] at this; cases this
    · exact meet_none h1 hid
  -- effects behind i that have come up
  have above : ∀ k q, i < k → ops[k]? = some q → ef C ops X k = true → S k = true → ∃ l, modsOf C q (evalA (A k)) (H k) = some l ∧ id ∉ l := by
    intro k q hki hq hef hSk
    obtain ⟨hXk, q', hq', hEk⟩ := ef_spec hef
    have : q' = q := by rw [hq] at hq'; simpa using hq'.symm
    subst this
    have hkn : k < ops.size := (Array.getElem?_eq_some_iff.1 hq).1
    rcases tr.re i o k q' (by omega) hki hkn (by simpa using hi) (by simpa using hq) hX hXk he hEk with h1 | h1
    · have := closed_before hc hE k q' hq (fun e h2 h3 => hc k q' hq hSk e h2 h3) i (contains_iff.1 h1)
      rw [hun] at this; cases this
    · exact meet_none h1 hid
  have nef : ef C ops X i = false := by unfold ef; rw [hi]; simp [he]
  have low : ∀ P', P' ≤ i → id < (H P').next → (∀ k, P' ≤ k → k < i → ef C ops X k = true → S k = false) → (H P').get id = (H i).get id := by
    intro P' hP hl hno
    obtain ⟨n, rfl⟩ := Nat.exists_eq_add_of_le hP
    refine (keep_way tr n P' (by omega) hl ?_ ?_).1.symm
    · intro k q h1 h2 hq hef l hl' hm
      obtain ⟨l', h3, h4⟩ := below k q h2 hq hef (hno k h1 h2 hef)
      rw [hl'] at h3; simp only [Option.some.injEq] at h3; subst h3
      exact h4 hm
    · intro k q h1 h2 hq hef hn
      obtain ⟨l', h3, h4⟩ := below k q h2 hq hef (hno k h1 h2 hef)
      rw [hn] at h3; cases h3
  unfold heapAt at hlt ⊢
  cases hl : lastOf (fun k => S k && ef C ops X k) ops.size with
  | none =>
    rw [hl] at hlt
    simp only at hlt ⊢
    refine low 0 (by omega) hlt fun k _ hk hef => ?_
    have := lastOf_none _ hl k (by omega)
    simpa [hef] using this
  | some p =>
    rw [hl] at hlt
    simp only at hlt ⊢
    obtain ⟨h1, h2, h3⟩ := lastOf_some _ _ hl
    simp only [Bool.and_eq_true] at h2
    rcases Nat.lt_trichotomy p i with h4 | h4 | h4
    · refine low (p + 1) (by omega) hlt fun k hk1 hk2 hef => ?_
      have := h3 k (by omega) (by omega)
      simpa [hef] using this
    · subst h4
      rw [hun] at h2
      cases h2.1
    · have hw := keep_way tr (id := id) (p + 1 - i) i (by omega) hlti ?_ ?_
      · have h5 : i + (p + 1 - i) = p + 1 := by omega
        rw [h5] at hw
        exact hw.1
      · intro k q hk1 hk2 hq hef l hl' hm
        have hki : i < k := by
          rcases Nat.lt_or_ge i k with h6 | h6
          · exact h6
          · have : k = i := by omega
            subst this
            rw [nef] at hef; cases hef
        have hSk : S k = true := by
          rcases Nat.lt_or_ge k p with h6 | h6
          · exact eff_prefix hp hc hE hef h2.2 h6 h2.1
          · have : k = p := by omega
            subst this; exact h2.1
        obtain ⟨l', h5, h6⟩ := above k q hki hq hef hSk
        rw [hl'] at h5; simp only [Option.some.injEq] at h5; subst h5
        exact h6 hm
      · intro k q hk1 hk2 hq hef hn
        have hki : i < k := by
          rcases Nat.lt_or_ge i k with h6 | h6
          · exact h6
          · have : k = i := by omega
            subst this
            rw [nef] at hef; cases hef
        have hSk : S k = true := by
          rcases Nat.lt_or_ge k p with h6 | h6
          · exact eff_prefix hp hc hE hef h2.2 h6 h2.1
          · have : k = p := by omega
            subst this; exact h2.1
        obtain ⟨l', h5, h6⟩ := above k q hki hq hef hSk
        rw [hn] at h5; cases h5

/-- One more has come up. -/
def also (S : Nat → Bool) (i : Nat) : Nat → Bool := fun j => S j || j == i

theorem heap_also {S : Nat → Bool} (hp : pairsOk C ops.toList (beforeOf ops.toList) = true) (hc : Closed ops S) (hE : Back ops) {i : Nat} {o : Oper} (hi : ops[i]? = some o) (hun : S i = false) :
    heapAt C ops H X (also S i) = if ef C ops X i = true then H (i + 1) else heapAt C ops H X S := by
  have hin : i < ops.size := (Array.getElem?_eq_some_iff.1 hi).1
  by_cases hef : ef C ops X i = true
  · rw [if_pos hef]
    unfold heapAt
    rw [lastOf_is (k := i) hin (by simp [also, hef]) (fun j h1 h2 => ?_)]
    have hji : (j == i) = false := by simp; omega
    simp only [also, hji, Bool.or_false, Bool.and_eq_false_iff]
    cases hj : ef C ops X j with
    | false => exact .inr rfl
    | true =>
      left
      cases hSj : S j with
      | false => rfl
      | true =>
        have := eff_prefix hp hc hE hef hj h1 hSj
        rw [hun] at this; cases this
  · rw [if_neg hef]
    unfold heapAt
    rw [lastOf_congr (p := fun k => also S i k && ef C ops X k) (q := fun k => S k && ef C ops X k) ops.size (fun k hk => ?_)]
    by_cases hki : k = i
    · subst hki; simp [hef]
    · have : (k == i) = false := by simp [hki]
      simp [also, this]

theorem var_also {S : Nat → Bool} (hp : pairsOk C ops.toList (beforeOf ops.toList) = true) (hc : Closed ops S) (hE : Back ops) {i : Nat} {o : Oper} (hi : ops[i]? = some o) (hun : S i = false) (a : Act') (t : Nat) :
    varAt ops V a (also S i) t = if isDst o.dst t = true ∧ t < a.length then V i else varAt ops V a S t := by
  have hin : i < ops.size := (Array.getElem?_eq_some_iff.1 hi).1
  have hw : wr ops t i = isDst o.dst t := by unfold wr isDst; rw [hi]; rfl
  unfold varAt
  by_cases ht : t < a.length
  · rw [if_pos ht]
    by_cases hd : isDst o.dst t = true
    · rw [if_pos ⟨hd, ht⟩]
      rw [lastOf_is (k := i) hin (by simp [also, hw, hd]) (fun j h1 h2 => ?_)]
      have hji : (j == i) = false := by simp; omega
      simp only [also, hji, Bool.or_false, Bool.and_eq_false_iff]
      cases hj : wr ops t j with
      | false => exact .inr rfl
      | true =>
        left
        cases hSj : S j with
        | false => rfl
        | true =>
          obtain ⟨q, hq, hdq⟩ := wr_dst hj
          obtain ⟨o', ho', hdo⟩ := wr_dst (hw.trans hd)
          have : o' = o := by rw [hi] at ho'; simpa using ho'.symm
          subst this
          have h1' := List.all_eq_true.1 hp j (by simpa using h2)
          have h2' := List.all_eq_true.1 h1' i (by simpa using h1)
          have hx' : ops.toList[i]? = some o' := by simpa using hi
          have hy' : ops.toList[j]? = some q := by simpa using hq
          rw [hx', hy'] at h2'
          simp only [clash_write hdo hdq, Bool.not_true, Bool.false_or] at h2'
          have := closed_before hc hE j q hq (fun e h1 h2 => hc j q hq hSj e h1 h2) i (by simpa using h2')
          rw [hun] at this; cases this
    · rw [if_neg (fun hh => hd hh.1), if_pos ht]
      rw [lastOf_congr (p := fun k => also S i k && wr ops t k) (q := fun k => S k && wr ops t k) ops.size (fun k hk => ?_)]
      by_cases hki : k = i
      · subst hki; simp [hw, hd]
      · have : (k == i) = false := by simp [hki]
        simp [also, this]
  · rw [if_neg ht, if_neg (fun hh => ht hh.2), if_neg ht]

end

end Go.Ph

/- Regions whose order is drawn: the law. -/
namespace Go.Ph
open Go.RowKit

def actOf (ops : Array Oper) (V : Nat → AV) (a : Act') (S : Nat → Bool) : Act' := Act'.tab (varAt ops V a S) a.n a.ds

theorem actOf_len (ops : Array Oper) (V : Nat → AV) (a : Act') (S : Nat → Bool) : (actOf ops V a S).length = a.length := rfl

theorem actOf_at (ops : Array Oper) (V : Nat → AV) (a : Act') (S : Nat → Bool) (t : Nat) : AV.at_ (actOf ops V a S) t = varAt ops V a S t := by
  have h5 := a.length_le
  by_cases ht : t < a.length
  · rw [AV.at_lt (by rw [actOf_len]; exact ht)]
    exact PT.get_tab 9 _ t (by show t < 512; omega)
  · rw [AV.at_ge (by rw [actOf_len]; omega)]
    simp only [varAt, if_neg ht]

theorem varAt_full (ops : Array Oper) (V : Nat → AV) (a : Act') {S T : Nat → Bool} (h : ∀ j, j < ops.size → S j = T j) (t : Nat) : varAt ops V a S t = varAt ops V a T t := by
  unfold varAt
  rw [lastOf_congr (p := fun k => S k && wr ops t k) (q := fun k => T k && wr ops t k) ops.size (fun k hk => by rw [h k hk])]

theorem heapAt_full (C : Ctx) (ops : Array Oper) (H : Nat → AH) (X : Nat → Bool) {S T : Nat → Bool} (h : ∀ j, j < ops.size → S j = T j) : heapAt C ops H X S = heapAt C ops H X T := by
  unfold heapAt
  rw [lastOf_congr (p := fun k => S k && ef C ops X k) (q := fun k => T k && ef C ops X k) ops.size (fun k hk => by rw [h k hk])]

/-- What has been listed. -/
def seen (L : Array Bool) : Nat → Bool := fun j => L.getD j false

theorem seen_set {L : Array Bool} {i : Nat} (h : i < L.size) : seen (L.setIfInBounds i true) = also (seen L) i := by
  funext j
  unfold seen also
  by_cases hj : j = i
  · subst hj; simp [Array.getD, h]
  · have : (j == i) = false := by simp [hj]
    rw [this, Bool.or_false]
    simp only [Array.getD_eq_getD_getElem?]
    rw [Array.getElem?_setIfInBounds_ne (Ne.symm hj)]

theorem ready_mem {ops : Array Oper} {L : Array Bool} (hL : L.size = ops.size) {i : Nat} (h : i ∈ Region.ready .any ops L) : ∃ o, ops[i]? = some o ∧ seen L i = false ∧ ∀ e ∈ o.after.toList, alwaysOn e = true → seen L e.on = true := by
  unfold Region.ready at h
  simp only [List.mem_filter, List.mem_range, Bool.and_eq_true] at h
  obtain ⟨h1, h2, h3⟩ := h
  have ho : ops[i]? = some ops[i] := by simp [h1]
  refine ⟨ops[i], ho, ?_, ?_⟩
  · unfold seen
    have hi : i < L.size := by omega
    simp [Array.getD, hi] at h2 ⊢
    exact h2
  · intro e he ha
    rw [ho] at h3
    simp only [Option.map_some, Option.getD_some] at h3
    rw [← Array.all_toList] at h3
    have := List.all_eq_true.1 h3 e he
    rw [alwaysOn_binds] at ha
    simp only [ha, Bool.not_true, Bool.false_or] at this
    exact this

theorem ready_nil {ops : Array Oper} {L : Array Bool} (hL : L.size = ops.size) (hE : Back ops) (h : Region.ready .any ops L = []) : ∀ i, i < ops.size → seen L i = true := by
  intro i
  induction i using Nat.strongRecOn with
  | _ i ih =>
    intro hi
    cases hs : seen L i with
    | true => rfl
    | false =>
      have ho : ops[i]? = some ops[i] := by simp [hi]
      have hm : i ∈ Region.ready .any ops L := by
        unfold Region.ready
        simp only [List.mem_filter, List.mem_range, Bool.and_eq_true]
        refine ⟨hi, ?_, ?_⟩
        · have hi' : i < L.size := by omega
          unfold seen at hs
          simp [Array.getD, hi'] at hs ⊢
          exact hs
        · rw [ho]
          simp only [Option.map_some, Option.getD_some]
          rw [← Array.all_toList]
          refine List.all_eq_true.2 fun e he => ?_
          cases hb : Region.binds .any e with
          | false => rfl
          | true =>
            have hlt := (hE i _ ho).1 e he (by rw [alwaysOn_binds]; exact hb)
            exact ih e.on hlt (by omega)
      rw [h] at hm
      cases hm

def left (L : Array Bool) (n : Nat) : Nat := (List.range n).countP fun j => !(seen L j)

theorem left_set {L : Array Bool} {n i : Nat} (hL : L.size = n) (hi : i < n) (hs : seen L i = false) : left (L.setIfInBounds i true) n + 1 ≤ left L n := by
  unfold left
  rw [seen_set (by omega)]
  have : ∀ (l : List Nat), l.countP (fun j => !(also (seen L) i j)) ≤ l.countP (fun j => !(seen L j)) ∧ (i ∈ l → l.countP (fun j => !(also (seen L) i j)) + 1 ≤ l.countP (fun j => !(seen L j))) := by
    intro l
    induction l with
    | nil => simp
    | cons x l ih =>
      simp only [List.countP_cons, List.mem_cons]
      by_cases hx : x = i
      · subst hx
        have h1 : also (seen L) x x = true := by simp [also]
        simp only [h1, hs, Bool.not_true, Bool.not_false, if_true, Bool.false_eq_true, if_false]
        have := ih.1
        exact ⟨by omega, fun _ => by omega⟩
      · have h1 : also (seen L) i x = seen L x := by simp [also, hx]
        rw [h1]
        refine ⟨by have := ih.1; omega, fun hm => ?_⟩
        rcases hm with hm | hm
        · exact absurd hm.symm hx
        · have := ih.2 hm
          omega
  exact (this _).2 (List.mem_range.2 hi)

theorem left_zero {L : Array Bool} {n : Nat} (h : left L n = 0) : ∀ j, j < n → seen L j = true := by
  intro j hj
  unfold left at h
  rw [List.countP_eq_zero] at h
  have := h j (List.mem_range.2 hj)
  simpa using this

theorem ops_any {Z : Type} {C : Ctx} {G : GG} (hcl : Shut G) {ops : Array Oper} {k : Act' → AH → Option Z} {z : Z} {a : Act'} {h : AH} (hreg : regOk C ops = true) (hcalls : ∀ o ∈ ops.toList, callsOk C G o)
    (hk : runOps C ops.toList (beforeOf ops.toList) 0 ops.toList [] [] a h k = some z) :
    ∃ aF hF, k aF hF = some z ∧ ∀ (r : Option Nat) (n : Nat) (Bad : Nat → Prop) (φ : Map) (w : World) (y : Act) (Q : Exit → Act → World → Prop), G Bad φ h w → Rel Bad φ h w → ActSim (Imm Bad φ w) φ h.next w a y →
      (∀ φ' w' y', Goes Bad φ h w φ' hF w' → ActSim (Imm Bad φ' w') φ' hF.next w' aF y' → y'.defers = y.defers → Q .normal y' w') → wpAnyIn (FR r) n C.P .any ops Q ops.size (Array.replicate ops.size false) y w := by
  obtain ⟨A, H, V, X, hA, hH, hz, tr⟩ := trace_of ops.toList 0 [] [] a h (fun j => by simp) hcalls hk
  simp only [Nat.zero_add, Array.length_toList] at hz tr
  simp only [regOk, Bool.and_eq_true] at hreg
  obtain ⟨⟨he, hp⟩, _⟩ := hreg
  have hE : Back ops := back_of he
  subst hA; subst hH
  refine ⟨A ops.size, H ops.size, hz, fun r0 n0 Bad φ0 w0 y0 Q hG0 hrel0 hact0 hQ => ?_⟩
  have vt := var_text tr
  have ht := heap_text tr
  have alen : ∀ i, i ≤ ops.size → (A i).length = (A 0).length := fun i hi => (vt i hi).1
  have ads : ∀ i, i ≤ ops.size → (A i).ds = (A 0).ds := by
    intro i
    induction i with
    | zero => intro _; rfl
    | succ i ih =>
      intro hi
      have hlt : i < ops.size := hi
      rw [(tr.step i ops[i] (by omega) hlt (by simp [hlt])).2, putA_ds]
      exact ih (by omega)
  have main : ∀ (fuel : Nat) (L : Array Bool) (y : Act) (w : World) (φ : Map), L.size = ops.size → Closed ops (seen L) → left L ops.size ≤ fuel →
      Goes Bad φ0 (H 0) w0 φ (heapAt C ops H X (seen L)) w → ActSim (Imm Bad φ w) φ (heapAt C ops H X (seen L)).next w (actOf ops V (A 0) (seen L)) y → y.defers = y0.defers → wpAnyIn (FR r0) n0 C.P .any ops Q fuel L y w := by
    intro fuel
    induction fuel with
    | zero =>
      intro L y w φ hL hc hfuel g hact hd
      have all := left_zero (Nat.le_zero.1 hfuel)
      refine ⟨?_, ?_⟩
      · cases hr : Region.ready .any ops L with
        | nil => rfl
        | cons i r =>
          obtain ⟨o, ho, hs, _⟩ := ready_mem hL (i := i) (by rw [hr]; simp)
          have := all i (Array.getElem?_eq_some_iff.1 ho).1
          rw [hs] at this; cases this
      · have full : ∀ j, j < ops.size → seen L j = decide (j < ops.size) := fun j hj => by rw [all j hj]; simp [hj]
        rw [heapAt_full C ops H X full, ← ht ops.size (Nat.le_refl _)] at g hact
        refine hQ φ w y g ⟨?_, ?_, fun t => ?_⟩ hd
        · rw [ads _ (Nat.le_refl _)]; exact hact.ds
        · rw [alen _ (Nat.le_refl _), ← hact.size, actOf_len]
        · have := hact.tmps t
          rw [actOf_at, varAt_full ops V (A 0) full, ← (vt ops.size (Nat.le_refl _)).2 t] at this
          exact this
    | succ fuel ih =>
      intro L y w φ hL hc hfuel g hact hd
      refine ⟨fun hr => ?_, fun i hi => ?_⟩
      · have all := ready_nil hL hE hr
        have full : ∀ j, j < ops.size → seen L j = decide (j < ops.size) := fun j hj => by rw [all j hj]; simp [hj]
        rw [heapAt_full C ops H X full, ← ht ops.size (Nat.le_refl _)] at g hact
        refine hQ φ w y g ⟨?_, ?_, fun t => ?_⟩ hd
        · rw [ads _ (Nat.le_refl _)]; exact hact.ds
        · rw [alen _ (Nat.le_refl _), ← hact.size, actOf_len]
        · have := hact.tmps t
          rw [actOf_at, varAt_full ops V (A 0) full, ← (vt ops.size (Nat.le_refl _)).2 t] at this
          exact this
      · obtain ⟨o, ho, hun, hready⟩ := ready_mem hL hi
        have hin : i < ops.size := (Array.getElem?_eq_some_iff.1 ho).1
        obtain ⟨hs, hA'⟩ := tr.step i o (by omega) hin (by simpa using ho)
        have rd : ∀ t ∈ tmpsOf ops.toList o, AV.at_ (actOf ops V (A 0) (seen L)) t = AV.at_ (A i) t := fun t htm => by
          rw [actOf_at, var_read hp hc hE ho hun hready (A 0) htm, ← (vt i (by omega)).2 t]
        have ev : ∀ u ∈ o.op.operands, evalA (actOf ops V (A 0) (seen L)) u = evalA (A i) u := by
          intro u hu
          cases u with
          | tmp t =>
            refine rd t ?_
            unfold tmpsOf
            rw [List.mem_append]
            exact .inl (List.mem_filterMap.2 ⟨.tmp t, Array.mem_toList_iff.2 hu, rfl⟩)
          | const v => rfl
          | global gl => rfl
          | func f => rfl
        have heval : ∀ u ∈ o.op.operands, Sim (Imm Bad φ w) φ (heapAt C ops H X (seen L)).next w (evalA (A i) u) (y.eval u) := fun u hu => by
          rw [← ev u hu]; exact hact.eval u
        refine hs.wp ho r0 n0 (hcl _ _ _ _ _ _ _ hG0 g) g.rel heval ?_ ?_ ?_ ?_
        · intro j want hg r hy
          refine yield_sim hact ops j ?_
          rw [← hy]
          unfold yieldA
          cases hd' : (ops.toList[j]?).bind (·.dst) with
          | none => rfl
          | some d =>
            simp only
            rw [rd d ?_]
            unfold tmpsOf
            rw [List.mem_append, hg]
            right
            simp only [hd', List.mem_singleton]
        · intro hX hEf
          rw [heap_eff hp hc hE ho hun hready hEf, ← ht i (by omega)]
        · intro hX hEf
          exact heap_read tr hp hc hE ho hun hready hX hEf (reads_lt g.rel.id_lt heval)
        · intro φ' w' v' g' hv
          have hsz : (L.setIfInBounds i true).size = ops.size := by simp [hL]
          have hsn := seen_set (L := L) (i := i) (by omega)
          have hheap : heapAt C ops H X (seen (L.setIfInBounds i true)) = if X i = true ∧ isEff C o = true then H (i + 1) else heapAt C ops H X (seen L) := by
            rw [hsn, heap_also hp hc hE ho hun]
            have : ef C ops X i = (X i && isEff C o) := by unfold ef; rw [ho]
            rw [this]
            simp only [Bool.and_eq_true]
          have hclosed : Closed ops (seen (L.setIfInBounds i true)) := by
            rw [hsn]
            intro j q hq hj e he' ha
            unfold also at hj ⊢
            simp only [Bool.or_eq_true, beq_iff_eq] at hj ⊢
            rcases hj with hj | hj
            · exact .inl (hc j q hq hj e he' ha)
            · subst hj
              have : q = o := by rw [ho] at hq; simpa using hq.symm
              subst this
              exact .inl (hready e he' ha)
          have hfl : left (L.setIfInBounds i true) ops.size ≤ fuel := by
            have := left_set hL hin hun
            omega
          refine ih _ (y.put o.dst v') w' φ' hsz hclosed hfl ?_ ?_ (by rw [put_defers, hd])
          · rw [hheap]; exact g.trans g'
          · rw [hheap]
            have h1 := (hact.evo g'.evo g.rel.id_lt).put o.dst hv
            refine ⟨by have := h1.ds; rw [putA_ds] at this; exact this, ?_, fun t => ?_⟩
            · rw [← h1.size, put_len, actOf_len, actOf_len]
            · have h2 := h1.tmps t
              rw [put_at, actOf_len, actOf_at] at h2
              rw [actOf_at, hsn, var_also hp hc hE ho hun]
              exact h2
  have seen0 : ∀ j, seen (Array.replicate ops.size false) j = false := fun j => by
    unfold seen
    simp only [Array.getD_eq_getD_getElem?]
    by_cases hj : j < ops.size
    · simp [hj]
    · rw [Array.getElem?_eq_none (by simp; omega)]; rfl
  have zero : ∀ j, j < ops.size → seen (Array.replicate ops.size false) j = decide (j < 0) := fun j _ => by rw [seen0]; simp
  have hh0 : heapAt C ops H X (seen (Array.replicate ops.size false)) = H 0 := by rw [heapAt_full C ops H X zero, ← ht 0 (by omega)]
  refine main ops.size _ y0 w0 φ0 (by simp) (fun j q hq hj => by rw [seen0] at hj; cases hj) ?_ ?_ ?_ rfl
  · unfold left
    exact Nat.le_trans List.countP_le_length (by simp)
  · rw [hh0]; exact .refl hrel0
  · rw [hh0]
    refine ⟨hact0.ds, by rw [actOf_len]; exact hact0.size, fun t => ?_⟩
    rw [actOf_at, varAt_full ops V (A 0) zero, ← (vt 0 (by omega)).2 t]
    exact hact0.tmps t

end Go.Ph

/- Regions all of whose orders are gone through. -/
namespace Go.Ph
open Go.RowKit

/-- A state that is written anew stands for the same memory, as far as one sees from where the function began. -/
def NormOk (n0 : Nat) (norm : Norm) : Prop :=
  ∀ a h a1 h1, norm a h = some (a1, h1) → ∀ (Bad : Nat → Prop) (φ0 : Map) (h0 : AH) (w0 : World) (φ : Map) (w : World) (y : Act), h0.next = n0 → Goes Bad φ0 h0 w0 φ h w → ActSim (Imm Bad φ w) φ h.next w a y →
    ∃ φ1, Goes Bad φ0 h0 w0 φ1 h1 w ∧ ActSim (Imm Bad φ1 w) φ1 h1.next w a1 y

theorem drew_goes {Bad : Nat → Prop} {φ0 : Map} {h0 : AH} {w0 : World} {φ : Map} {h : AH} {w : World} (g : Goes Bad φ0 h0 w0 φ h w) : Goes Bad φ0 h0 w0 φ h { w with drawn := w.drawn + 1 } := by
  have hN : ∀ b, Imm Bad φ w b → Imm Bad φ { w with drawn := w.drawn + 1 } b ∧ ({ w with drawn := w.drawn + 1 } : World).heap[b]? = w.heap[b]? := fun b h => ⟨h, rfl⟩
  refine ⟨⟨fun id r hr => ?_, g.rel.bad, g.rel.gone, g.rel.lt, g.rel.inj, g.rel.ok, fun id r l b o h1 h2 h3 i c hc => ?_⟩, ⟨g.evo.next, g.evo.size, g.evo.keep, g.evo.owned, g.evo.old, g.evo.os, g.evo.tape, g.evo.output⟩⟩
  · obtain ⟨l, h1, h2⟩ := g.rel.live id r hr
    exact ⟨l, h1, h2.len, h2.esz, h2.le, h2.max, h2.nowhere, fun b o hat => (h2.there b o hat).keep rfl⟩
  · obtain ⟨v, hv, hs, hsim⟩ := g.rel.cells id r l b o h1 h2 h3 i c hc
    exact ⟨v, hv, hs, hsim.mono hN (fun _ _ h => .inl h) (fun _ hx h => ⟨h, hx⟩)⟩

theorem ActSim.drew {Bad : Nat → Prop} {φ : Map} {nx : Nat} {w : World} {a : Act'} {y : Act} (h : ActSim (Imm Bad φ w) φ nx w a y) : ActSim (Imm Bad φ { w with drawn := w.drawn + 1 }) φ nx { w with drawn := w.drawn + 1 } a y :=
  have hN : ∀ b, Imm Bad φ w b → Imm Bad φ { w with drawn := w.drawn + 1 } b ∧ ({ w with drawn := w.drawn + 1 } : World).heap[b]? = w.heap[b]? := fun b h => ⟨h, rfl⟩
  ⟨h.ds, h.size, fun t => (h.tmps t).mono hN (fun _ _ h => .inl h) (fun _ hx h => ⟨h, hx⟩)⟩

theorem rdyI_eq (L : List Bool) : ∀ (es : List (List Nat)) (i : Nat), rdyI L i es = (List.range' i es.length).filter fun k => !L.getD k true && ((es[k - i]?).map (fun e => e.all fun x => L.getD x false)).getD false
  | [], i => rfl
  | e :: es, i => by
    rw [rdyI, List.length_cons, List.range'_succ, List.filter_cons]
    have h0 : (!L.getD i true && (((e :: es)[i - i]?).map (fun e => e.all fun x => L.getD x false)).getD false) = (!L.getD i true && e.all fun x => L.getD x false) := by simp
    have ht : ((List.range' (i + 1) es.length).filter fun k => !L.getD k true && (((e :: es)[k - i]?).map (fun e => e.all fun x => L.getD x false)).getD false) = rdyI L (i + 1) es := by
      rw [rdyI_eq L es (i + 1)]
      refine List.filter_congr fun k hk => ?_
      have hk1 : i + 1 ≤ k := (List.mem_range'_1.1 hk).1
      have e1 : k - i = (k - (i + 1)) + 1 := by omega
      rw [e1, List.getElem?_cons_succ]
    rw [h0, ht]
    cases (!L.getD i true && e.all fun x => L.getD x false) <;> rfl

theorem ready_eq (ops : Array Oper) (L : Array Bool) : Region.ready .any ops L = rdyI L.toList 0 (rdyE ops.toList) := by
  rw [rdyI_eq, ← List.range_eq_range']
  unfold Region.ready
  have hl : (rdyE ops.toList).length = ops.size := by simp [rdyE]
  rw [hl]
  refine List.filter_congr fun k hk => ?_
  have hk' : k < ops.size := List.mem_range.1 hk
  have e1 : L.toList.getD k true = L.getD k true := by simp [List.getD, Array.getD_eq_getD_getElem?]
  rw [e1]
  congr 1
  have e2 : ops[k]? = some ops[k] := by simp [hk']
  have e3 : (rdyE ops.toList)[k - 0]? = some ((ops[k].after.toList.filter alwaysOn).map (·.on)) := by
    simp [rdyE, hk']
  rw [e2, e3]
  simp only [Option.map_some, Option.getD_some]
  rw [← Array.all_toList, List.all_map, List.all_filter]
  congr 1
  funext e
  have e4 : L.toList.getD e.on false = L.getD e.on false := by simp [List.getD, Array.getD_eq_getD_getElem?]
  simp only [Function.comp, e4, alwaysOn_binds]

/-- One operation by itself. -/
theorem step_to {Z : Type} {C : Ctx} {G : GG} {ops : Array Oper} {i : Nat} {a : Act'} {h : AH} {k : Act' → AH → Option Z} {z : Z} (hc : ∀ o ∈ ops.toList, callsOk C G o) (hk : stepK C ops i a h k = some z) :
    ∃ o x v h', ops[i]? = some o ∧ StepAt C G ops.toList o a h x v h' ∧ (isEff C o = false ∨ x = false → h' = h) ∧ k (putA a o.dst v) h' = some z := by
  unfold stepK at hk
  split at hk
  · rename_i o ho
    have hm : o ∈ ops.toList := by
      refine Array.mem_toList_iff.2 ?_
      exact Array.mem_of_getElem? ho
    have run : (o.guard = none ∨ ∃ j want, o.guard = some (j, want) ∧ yieldA ops.toList a j = some (some want)) → (bif isEff C o || (readsOf o (evalA a)).all (fun id => Nat.blt id h.next) then opK C o (evalA a) h fun v h' => k (putA a o.dst v) h' else none) = some z →
        ∃ o' x v h', ops[i]? = some o' ∧ StepAt C G ops.toList o' a h x v h' ∧ (isEff C o' = false ∨ x = false → h' = h) ∧ k (putA a o'.dst v) h' = some z := by
      intro hg hk
      cases he : isEff C o with
      | true =>
        rw [he, Bool.true_or, cond_true] at hk
        obtain ⟨v, h', h1, h2, h3⟩ := eff_to (hc o hm) he hk
        exact ⟨o, true, v, h', ho, ⟨fun h => (by cases h), fun _ => hg, fun _ _ => ⟨h2, h3⟩, fun _ h => (by rw [he] at h; cases h)⟩, fun h => (by rcases h with h | h <;> simp_all), h1⟩
      | false =>
        cases hlt : (readsOf o (evalA a)).all (fun id => Nat.blt id h.next) with
        | false => rw [he, hlt] at hk; cases hk
        | true =>
        rw [he, hlt, Bool.or_true, cond_true] at hk
        obtain ⟨v, h1, h2⟩ := quiet_to (hc o hm) he hk
        exact ⟨o, true, v, h, ho, ⟨fun h => (by cases h), fun _ => hg, fun _ h => (by rw [he] at h; cases h), fun _ _ => ⟨rfl, fun id hid => Nat.le_of_ble_eq_true (List.all_eq_true.1 hlt id hid), h2⟩⟩, fun _ => rfl, h1⟩
    split at hk
    · rename_i hg
      exact run (.inl hg) hk
    · rename_i j want hg
      split at hk
      · rename_i b hy
        cases hbw : (b == want) with
        | true =>
          rw [hbw, cond_true] at hk
          have hb : b = want := by simpa using hbw
          subst hb
          exact run (.inr ⟨j, b, hg, hy⟩) hk
        | false =>
          rw [hbw, cond_false] at hk
          have hb : b ≠ want := by simpa using hbw
          exact ⟨o, false, _, h, ho, ⟨fun _ => ⟨rfl, rfl, j, want, hg, .inl ⟨b, hy, hb⟩⟩, fun h => (by cases h), fun h => (by cases h), fun h => (by cases h)⟩, fun _ => rfl, hk⟩
      · rename_i hy
        exact ⟨o, false, _, h, ho, ⟨fun _ => ⟨rfl, rfl, j, want, hg, .inr hy⟩, fun h => (by cases h), fun h => (by cases h), fun h => (by cases h)⟩, fun _ => rfl, hk⟩
      · cases hk
  · cases hk

theorem keep_sim {N : Nat → Prop} {φ : Map} {nx : Nat} {w : World} {a : Act'} {y : Act} (h : ActSim N φ nx w a y) (vs : List Nat) : ActSim N φ nx w (Act'.keep vs (fun v => v) a) y :=
  ⟨h.ds, h.size, fun t => by
    rcases Act'.keep_at (fun v => v) rfl a t vs with he | he
    · rw [he]; exact h.tmps t
    · rw [he]; exact .dead⟩

theorem any_kept {C : Ctx} {G : GG} {norm : Norm} {ops : Array Oper} {vs : List Nat} {E : List (List Nat)} (hc : ∀ o ∈ ops.toList, callsOk C G o) : ∀ (m : Nat) (L : List Bool) (a : Act') (h : AH) (s : Act' × AH), anyK C ops norm vs E m L a h = some s → ∀ t, t ∉ vs → AV.at_ s.1 t = .dead := by
  intro m
  induction m with
  | zero => intro L a h s hk; cases hk
  | succ m ih =>
    intro L a h s hk
    simp only [anyK] at hk
    split at hk
    · split at hk
      · simp only [Option.some.injEq] at hk
        subst hk
        exact fun t ht => keep_dead _ vs t ht
      · cases hk
    · rename_i i rr heq
      split at hk
      · rename_i s0 hs0
        cases hall : (rr.all fun j => sameS vs s0 (stepK C ops j a h (anyK C ops norm vs E m (L.set j true)))) with
        | false => rw [hall] at hk; cases hk
        | true =>
          rw [hall, cond_true] at hk
          simp only [Option.some.injEq] at hk
          subst hk
          obtain ⟨_, _, _, _, _, _, _, hrest⟩ := step_to hc hs0
          exact ih _ _ _ _ hrest
      · cases hk

theorem any_to {C : Ctx} {G : GG} (hcl : Shut G) {n0 : Nat} {norm : Norm} (hnorm : NormOk n0 norm) {ops : Array Oper} {vs : List Nat} (hc : ∀ o ∈ ops.toList, callsOk C G o) :
    ∀ (m fuel : Nat) (L : Array Bool) (a : Act') (h : AH) (aF : Act') (hF : AH), anyK C ops norm vs (rdyE ops.toList) m L.toList a h = some (aF, hF) →
      ∀ (r : Option Nat) (n : Nat) (Bad : Nat → Prop) (φ0 : Map) (h0 : AH) (w0 : World) (φ : Map) (w : World) (y : Act) (Q : Exit → Act → World → Prop), h0.next = n0 → G Bad φ0 h0 w0 → Goes Bad φ0 h0 w0 φ h w → ActSim (Imm Bad φ w) φ h.next w a y →
        L.size = ops.size → left L ops.size ≤ fuel →
        (∀ φ' w' y', Goes Bad φ0 h0 w0 φ' hF w' → ActSim (Imm Bad φ' w') φ' hF.next w' aF y' → Q .normal y' w') → wpAnyIn (FR r) n C.P .any ops Q fuel L y w := by
  intro m
  induction m with
  | zero => intro fuel L a h aF hF hk; cases hk
  | succ m ih =>
    intro fuel L a h aF hF hk r n Bad φ0 h0 w0 φ w y Q h0n hG g ha hL hfuel hQ
    have tl : ∀ j, L.toList.set j true = (L.setIfInBounds j true).toList := fun j => by simp
    have hk0 := hk
    simp only [anyK, ← ready_eq, tl] at hk
    have leaf : Region.ready .any ops L = [] → Q .normal y w := by
      intro hr
      rw [hr] at hk
      simp only at hk
      split at hk
      · rename_i a' h' hn
        simp only [Option.some.injEq, Prod.mk.injEq] at hk
        obtain ⟨rfl, rfl⟩ := hk
        obtain ⟨φ1, g1, ha1⟩ := hnorm a h a' h' hn Bad φ0 h0 w0 φ w y h0n g ha
        exact hQ φ1 w y g1 (keep_sim ha1 vs)
      · cases hk
    have step : ∀ i ∈ Region.ready .any ops L, ∀ fuel', left L ops.size ≤ fuel' + 1 → wpOpIn (FR r) n C.P ops Q i (wpAnyIn (FR r) n C.P .any ops Q fuel' (L.setIfInBounds i true)) y w := by
      intro i hi fuel' hf
      obtain ⟨o, ho, hun, hready⟩ := ready_mem hL hi
      have hin : i < ops.size := (Array.getElem?_eq_some_iff.1 ho).1
      -- the way through i comes to the same
      have way : ∃ s, stepK C ops i a h (anyK C ops norm vs (rdyE ops.toList) m (L.setIfInBounds i true).toList) = some s ∧ ∀ (N : Nat → Prop) (φ : Map) (w : World) (y : Act), ActSim N φ s.2.next w s.1 y → hF = s.2 ∧ ActSim N φ hF.next w aF y := by
        have hkept := any_kept (m := m + 1) hc _ _ _ _ (show anyK C ops norm vs (rdyE ops.toList) (m + 1) L.toList a h = some (aF, hF) from hk0)
        cases hrd : Region.ready .any ops L with
        | nil => rw [hrd] at hi; cases hi
        | cons i0 rr =>
          rw [hrd] at hk hi
          simp only at hk
          split at hk
          · rename_i s hs
            cases hall : (rr.all fun j => sameS vs s (stepK C ops j a h (anyK C ops norm vs (rdyE ops.toList) m (L.setIfInBounds j true).toList))) with
            | false => rw [hall] at hk; cases hk
            | true =>
              rw [hall, cond_true] at hk
              simp only [Option.some.injEq] at hk
              subst hk
              rcases List.mem_cons.1 hi with rfl | hi
              · exact ⟨(aF, hF), hs, fun N φ w y hact => ⟨rfl, hact⟩⟩
              · have hj := List.all_eq_true.1 hall i hi
                unfold sameS at hj
                split at hj
                · rename_i s' hs'
                  obtain ⟨q1, q2, q3, q4, q5⟩ := eqSt_eq (a := aF) (h := hF) (a' := s'.1) (h' := s'.2) hj
                  refine ⟨s', hs', fun N φ w y hact => ⟨q5, ?_, ?_, fun t => ?_⟩⟩
                  · rw [q3, q5, ← q4]; exact hact.ds
                  · rw [← hact.size]
                    unfold Act'.length
                    rw [q2]
                  · by_cases ht : t ∈ vs
                    · rw [q1 t ht, q5]; exact hact.tmps t
                    · rw [hkept t ht]; exact .dead
                · cases hj
          · cases hk
      obtain ⟨s, hs, hsame⟩ := way
      obtain ⟨o', x, v, h', ho', hst, hsm, hrest⟩ := step_to hc hs
      refine hst.wp ho' r n (hcl _ _ _ _ _ _ _ hG g) g.rel (fun u _ => ha.eval u) (fun j want _ r hy => yield_sim ha ops j hy) (fun _ _ => rfl) (fun _ _ _ _ => rfl) fun φ' w' v' g' hv => ?_
      have he : (if x = true ∧ isEff C o' = true then h' else h) = h' := by
        split
        · rfl
        · rename_i hn
          refine (hsm ?_).symm
          cases x <;> cases hi : isEff C o' <;> simp_all
      rw [he] at g' hv
      have hlf : left (L.setIfInBounds i true) ops.size ≤ fuel' := by
        have := left_set hL hin hun
        omega
      refine ih fuel' _ _ _ s.1 s.2 (by rw [hrest]) r n Bad φ0 h0 w0 φ' w' _ Q h0n hG (g.trans g') ((ha.evo g'.evo g.rel.id_lt).put o'.dst hv) (by simp [hL]) hlf fun φ'' w'' y'' g'' ha'' => ?_
      obtain ⟨e1, e2⟩ := hsame _ φ'' w'' y'' ha''
      exact hQ φ'' w'' y'' (by rw [e1]; exact g'') e2
    cases fuel with
    | zero =>
      have all := left_zero (Nat.le_zero.1 hfuel)
      have hr0 : Region.ready .any ops L = [] := by
        cases hr : Region.ready .any ops L with
        | nil => rfl
        | cons i rr =>
          obtain ⟨o, ho, hs, _⟩ := ready_mem hL (i := i) (by rw [hr]; simp)
          have := all i (Array.getElem?_eq_some_iff.1 ho).1
          rw [hs] at this; cases this
      exact ⟨hr0, leaf hr0⟩
    | succ fuel => exact ⟨leaf, fun i hi => step i hi fuel hfuel⟩

end Go.Ph

end
