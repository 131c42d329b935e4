/- An evaluator of the given program's form, and that it is sound: part 5. -/
import Derived.Test.YtnifppgodgcoaaaEngD
import Derived.LoopN
set_option linter.unusedVariables false
noncomputable section
/- Regions whose order is drawn: every order comes to what the order of the text comes to. -/
namespace Go.Ph
open Go.RowKit

theorem alwaysOn_binds (e : Edge) : alwaysOn e = Region.binds .any e := by
  cases h : e.ground <;> simp [alwaysOn, Region.binds, h]

/-- What stands before the last operation. -/
theorem fold_before (acc : List (List Nat)) : ∀ (es : List Edge) (s : List Nat) (j : Nat), j ∈ es.foldl (fun s e => if alwaysOn e then e.on :: (acc.getD e.on [] ++ s) else s) s →
    j ∈ s ∨ ∃ e ∈ es, alwaysOn e = true ∧ (j = e.on ∨ j ∈ acc.getD e.on [])
  | [], s, j, h => .inl h
  | e :: es, s, j, h => by
    simp only [List.foldl_cons] at h
    rcases fold_before acc es _ j h with h1 | ⟨e', h1, h2, h3⟩
    · split at h1
      · rename_i ha
        simp only [List.mem_cons, List.mem_append] at h1
        rcases h1 with h1 | h1 | h1
        · exact .inr ⟨e, by simp, ha, .inl h1⟩
        · exact .inr ⟨e, by simp, ha, .inr h1⟩
        · exact .inl h1
      · exact .inl h1
    · exact .inr ⟨e', by simp [h1], h2, h3⟩

theorem before_len (acc : List (List Nat)) : ∀ (l : List Oper), (l.foldl beforeStep acc).length = acc.length + l.length
  | [] => by simp
  | o :: l => by simp only [List.foldl_cons]; rw [before_len _ l]; simp [beforeStep]; omega

theorem before_old : ∀ (l : List Oper) (acc : List (List Nat)) (i : Nat), i < acc.length → (l.foldl beforeStep acc).getD i [] = acc.getD i []
  | [], acc, i, h => rfl
  | o :: l, acc, i, h => by
    simp only [List.foldl_cons]
    rw [before_old l _ i (by simp [beforeStep]; omega)]
    simp only [beforeStep, List.getD_eq_getElem?_getD]
    rw [List.getElem?_append_left h]

theorem before_mem : ∀ (l : List Oper) (acc : List (List Nat)) (i : Nat) (o : Oper) (j : Nat), l[i]? = some o → j ∈ (l.foldl beforeStep acc).getD (acc.length + i) [] →
    ∃ e ∈ o.after.toList, alwaysOn e = true ∧ (j = e.on ∨ (e.on < acc.length + i ∧ j ∈ (l.foldl beforeStep acc).getD e.on []))
  | [], acc, i, o, j, h, _ => by simp at h
  | q :: l, acc, 0, o, j, h, hj => by
    simp only [List.getElem?_cons_zero, Option.some.injEq] at h
    subst h
    simp only [List.foldl_cons, Nat.add_zero] at hj ⊢
    have hlt : acc.length < (beforeStep acc q).length := by simp [beforeStep]
    rw [before_old l _ _ hlt] at hj
    simp only [beforeStep, List.getD_eq_getElem?_getD, List.getElem?_append_right (Nat.le_refl _), Nat.sub_self, List.getElem?_cons_zero, Option.getD_some] at hj
    have hj' : j ∈ q.after.toList.foldl (fun s e => if alwaysOn e then e.on :: (acc.getD e.on [] ++ s) else s) [] := by
      simpa [List.getD_eq_getElem?_getD] using hj
    rcases fold_before acc _ _ j hj' with h1 | ⟨e, h1, h2, h3⟩
    · cases h1
    · refine ⟨e, h1, h2, ?_⟩
      rcases h3 with h3 | h3
      · exact .inl h3
      · right
        have hl : e.on < acc.length := by
          rcases Nat.lt_or_ge e.on acc.length with h4 | h4
          · exact h4
          · simp [List.getD_eq_getElem?_getD, List.getElem?_eq_none h4] at h3
        refine ⟨hl, ?_⟩
        rw [before_old l _ _ (by simp [beforeStep]; omega)]
        simp only [beforeStep, List.getD_eq_getElem?_getD, List.getElem?_append_left hl]
        simpa [List.getD_eq_getElem?_getD] using h3
  | q :: l, acc, i + 1, o, j, h, hj => by
    simp only [List.getElem?_cons_succ] at h
    simp only [List.foldl_cons] at hj ⊢
    have hl : (beforeStep acc q).length + i = acc.length + (i + 1) := by simp [beforeStep]; omega
    rw [← hl] at hj ⊢
    exact before_mem l _ i o j h hj

theorem before_of (all : List Oper) (i : Nat) (o : Oper) (j : Nat) (ho : all[i]? = some o) (hj : j ∈ (beforeOf all).getD i []) :
    ∃ e ∈ o.after.toList, alwaysOn e = true ∧ (j = e.on ∨ (e.on < i ∧ j ∈ (beforeOf all).getD e.on [])) := by
  have := before_mem all [] i o j ho (by simpa [beforeOf] using hj)
  simpa [beforeOf] using this

/-- What has come up is closed. -/
def Closed (ops : Array Oper) (S : Nat → Bool) : Prop := ∀ (i : Nat) (o : Oper), ops[i]? = some o → S i = true → ∀ e ∈ o.after.toList, alwaysOn e = true → S e.on = true

/-- Edges lead back. -/
def Back (ops : Array Oper) : Prop := ∀ (i : Nat) (o : Oper), ops[i]? = some o → (∀ e ∈ o.after.toList, alwaysOn e = true → e.on < i) ∧ (∀ g want, o.guard = some (g, want) → g < i)

theorem back_of {ops : Array Oper} (h : edgesOk ops.toList = true) : Back ops := by
  intro i o ho
  have hi : i < ops.size := (Array.getElem?_eq_some_iff.1 ho).1
  have h1 := List.all_eq_true.1 h i (by simpa using hi)
  have h2 : ops.toList[i]? = some o := by simpa using ho
  rw [h2] at h1
  simp only [Bool.and_eq_true] at h1
  refine ⟨fun e he ha => ?_, fun g want hg => ?_⟩
  · have := List.all_eq_true.1 h1.1 e he
    simpa [ha] using this
  · rw [hg] at h1
    simpa using h1.2

theorem closed_before {ops : Array Oper} {S : Nat → Bool} (hc : Closed ops S) (hE : Back ops) : ∀ (i : Nat) (o : Oper), ops[i]? = some o → (∀ e ∈ o.after.toList, alwaysOn e = true → S e.on = true) → ∀ j, j ∈ (beforeOf ops.toList).getD i [] → S j = true := by
  intro i
  induction i using Nat.strongRecOn with
  | _ i ih =>
    intro o ho hs j hj
    obtain ⟨e, h1, h2, h3⟩ := before_of ops.toList i o j (by simpa using ho) hj
    rcases h3 with rfl | ⟨h3, h4⟩
    · exact hs e h1 h2
    · have he := hs e h1 h2
      have hi : i < ops.size := (Array.getElem?_eq_some_iff.1 ho).1
      have hsz : e.on < ops.size := by omega
      have hq : ops[e.on]? = some ops[e.on] := by simp [hsz]
      exact ih e.on h3 ops[e.on] hq (fun e' h5 h6 => hc e.on _ hq he e' h5 h6) j h4

section
variable {C : Ctx} {ops : Array Oper} {A : Nat → Act'} {H : Nat → AH} {V : Nat → AV} {X : Nat → Bool}

/-- Does operation k write variable t? -/
def wr (ops : Array Oper) (t k : Nat) : Bool := match (ops[k]?).bind (·.dst) with | some d => d == t | none => false
/-- Does operation k change the heap? -/
def ef (C : Ctx) (ops : Array Oper) (X : Nat → Bool) (k : Nat) : Bool := X k && match ops[k]? with | some o => isEff C o | none => false

/-- A variable, when the operations S have come up. -/
def varAt (ops : Array Oper) (V : Nat → AV) (a : Act') (S : Nat → Bool) (t : Nat) : AV :=
  if t < a.length then (match lastOf (fun k => S k && wr ops t k) ops.size with | some k => V k | none => AV.at_ a t) else .dead

/-- The heap, when the operations S have come up. -/
def heapAt (C : Ctx) (ops : Array Oper) (H : Nat → AH) (X : Nat → Bool) (S : Nat → Bool) : AH :=
  match lastOf (fun k => S k && ef C ops X k) ops.size with | some k => H (k + 1) | none => H 0

theorem at_out {a : Act'} {t : Nat} (h : ¬ t < a.length) : AV.at_ a t = .dead := by
  exact AV.at_ge (Nat.le_of_not_lt h)

theorem put_len (a : Act') (d : Option Nat) (v : AV) : (putA a d v).length = a.length := putA_len a d v

def isDst (d : Option Nat) (t : Nat) : Bool := match d with | some d => d == t | none => false

theorem put_at (a : Act') (d : Option Nat) (v : AV) (t : Nat) : AV.at_ (putA a d v) t = if isDst d t = true ∧ t < a.length then v else AV.at_ a t := by
  cases d with
  | none => simp [putA, isDst]
  | some d =>
    simp only [isDst]
    rw [at_set]
    by_cases hdt : t = d
    · subst hdt; simp
    · have h2 : ¬ d = t := fun h => hdt h.symm
      simp [hdt, h2]

theorem var_text (tr : Trace C ops.toList (beforeOf ops.toList) 0 ops.size A H V X [] []) : ∀ k, k ≤ ops.size → (A k).length = (A 0).length ∧ ∀ t, AV.at_ (A k) t = varAt ops V (A 0) (fun j => decide (j < k)) t := by
  intro k
  induction k with
  | zero =>
    intro _
    refine ⟨rfl, fun t => ?_⟩
    unfold varAt
    have : lastOf (fun j => decide (j < 0) && wr ops t j) ops.size = none := by
      cases h : lastOf (fun j => decide (j < 0) && wr ops t j) ops.size with
      | none => rfl
      | some m => have := (lastOf_some _ _ h).2.1; simp at this
    rw [this]
    split
    · rfl
    · rename_i ht; exact at_out ht
  | succ k ih =>
    intro hk
    obtain ⟨h1, h2⟩ := ih (by omega)
    have ho : ops[k]? = some ops[k] := by simp [show k < ops.size by omega]
    obtain ⟨_, hA⟩ := tr.step k ops[k] (by omega) (by omega) (by simp)
    refine ⟨by rw [hA, put_len, h1], fun t => ?_⟩
    have hAt : AV.at_ (A (k + 1)) t = if wr ops t k = true ∧ t < (A 0).length then V k else AV.at_ (A k) t := by
      rw [hA, put_at, h1]
      have : wr ops t k = isDst (ops[k]).dst t := by unfold wr isDst; rw [ho]; rfl
      rw [this]
    rw [hAt]
    by_cases hw : wr ops t k = true ∧ t < (A 0).length
    · rw [if_pos hw]
      unfold varAt
      rw [if_pos hw.2]
      have : lastOf (fun j => decide (j < k + 1) && wr ops t j) ops.size = some k :=
        lastOf_is (by omega) (by simp [hw.1]) (fun j h3 h4 => by simp; omega)
      rw [this]
    · rw [if_neg hw, h2 t]
      unfold varAt
      by_cases ht : t < (A 0).length
      · rw [if_pos ht, if_pos ht]
        have hwf : wr ops t k = false := by
          cases h : wr ops t k
          · rfl
          · exact absurd ⟨h, ht⟩ hw
        rw [lastOf_congr (p := fun j => decide (j < k) && wr ops t j) (q := fun j => decide (j < k + 1) && wr ops t j) ops.size (fun j hj => by
          by_cases hjk : j = k
          · subst hjk; simp [hwf]
          · have : decide (j < k) = decide (j < k + 1) := by simp; omega
            simp only [this])]
      · rw [if_neg ht, if_neg ht]

theorem heap_text (tr : Trace C ops.toList (beforeOf ops.toList) 0 ops.size A H V X [] []) : ∀ k, k ≤ ops.size → H k = heapAt C ops H X (fun j => decide (j < k)) := by
  intro k
  induction k with
  | zero =>
    intro _
    unfold heapAt
    have : lastOf (fun j => decide (j < 0) && ef C ops X j) ops.size = none := by
      cases h : lastOf (fun j => decide (j < 0) && ef C ops X j) ops.size with
      | none => rfl
      | some m => have := (lastOf_some _ _ h).2.1; simp at this
    rw [this]
  | succ k ih =>
    intro hk
    have ho : ops[k]? = some ops[k] := by simp [show k < ops.size by omega]
    obtain ⟨hs, _⟩ := tr.step k ops[k] (by omega) (by omega) (by simp)
    by_cases he : ef C ops X k = true
    · unfold heapAt
      have : lastOf (fun j => decide (j < k + 1) && ef C ops X j) ops.size = some k :=
        lastOf_is (by omega) (by simp [he]) (fun j h3 h4 => by simp; omega)
      rw [this]
    · have hsame : H (k + 1) = H k := by
        cases hx : X k with
        | false => exact (hs.skip hx).2.1
        | true =>
          refine (hs.same hx ?_).1
          unfold ef at he
          rw [ho, hx] at he
          simp at he
          exact he
      rw [hsame, ih (by omega)]
      unfold heapAt
      rw [lastOf_congr (p := fun j => decide (j < k) && ef C ops X j) (q := fun j => decide (j < k + 1) && ef C ops X j) ops.size (fun j hj => by
        by_cases hjk : j = k
        · subst hjk; simp [he]
        · have : decide (j < k) = decide (j < k + 1) := by simp; omega
          simp only [this])]

/-- Operations that must not change places have not. -/
theorem ordered {S : Nat → Bool} (hp : pairsOk C ops.toList (beforeOf ops.toList) = true) (hc : Closed ops S) (hE : Back ops) {i k : Nat} {oi ok : Oper} (hi : ops[i]? = some oi) (hk : ops[k]? = some ok) (hun : S i = false)
    (hready : ∀ e ∈ oi.after.toList, alwaysOn e = true → S e.on = true) (hne : k ≠ i) (hclash : clash C ops.toList ok oi = true ∨ clash C ops.toList oi ok = true) (hboth : clash C ops.toList ok oi = clash C ops.toList oi ok) : S k = decide (k < i) := by
  have hin : i < ops.size := (Array.getElem?_eq_some_iff.1 hi).1
  have hkn : k < ops.size := (Array.getElem?_eq_some_iff.1 hk).1
  have pair : ∀ i j (x y : Oper), i < j → j < ops.size → ops[i]? = some x → ops[j]? = some y → clash C ops.toList x y = true → i ∈ (beforeOf ops.toList).getD j [] := by
    intro i j x y hij hj hx hy hcl
    have h1 := List.all_eq_true.1 hp j (by simpa using hj)
    have h2 := List.all_eq_true.1 h1 i (by simpa using hij)
    have hx' : ops.toList[i]? = some x := by simpa using hx
    have hy' : ops.toList[j]? = some y := by simpa using hy
    rw [hx', hy'] at h2
    simp only [hcl, Bool.not_true, Bool.false_or] at h2
    simpa using h2
  rcases Nat.lt_trichotomy k i with h | h | h
  · have hcl : clash C ops.toList ok oi = true := by rcases hclash with h1 | h1; exact h1; rw [hboth]; exact h1
    rw [closed_before hc hE i oi hi hready k (pair k i ok oi h hin hk hi hcl)]
    simp [h]
  · exact absurd h hne
  · have hcl : clash C ops.toList oi ok = true := by rcases hclash with h1 | h1; rw [← hboth]; exact h1; exact h1
    have hmem := pair i k oi ok h hkn hi hk hcl
    have : ¬ k < i := by omega
    simp only [this, decide_false]
    cases hS : S k with
    | false => rfl
    | true =>
      have := closed_before hc hE k ok hk (fun e h1 h2 => hc k ok hk hS e h1 h2) i hmem
      rw [hun] at this
      cases this

end

end Go.Ph

/- Regions whose order is drawn. -/
namespace Go.Ph
open Go.RowKit

theorem contains_iff {l : List Nat} {x : Nat} : l.contains x = true ↔ x ∈ l := by simp

theorem beq_swap (d e : Nat) : (d == e) = (e == d) := by
  by_cases h : d = e
  · subst h; rfl
  · have h2 : ¬ e = d := fun h' => h h'.symm
    rw [beq_eq_false_iff_ne.2 h, beq_eq_false_iff_ne.2 h2]

theorem clash_symm (C : Ctx) (all : List Oper) (x y : Oper) : clash C all x y = clash C all y x := by
  unfold clash
  rw [Bool.and_comm (isEff C x)]
  cases x.dst with
  | none =>
    cases y.dst with
    | none => rfl
    | some e => simp only [Bool.false_or, Bool.or_false]
  | some d =>
    cases y.dst with
    | none => simp only [Bool.false_or, Bool.or_false]
    | some e =>
      simp only
      rw [beq_swap d e]
      generalize (tmpsOf all y).contains d = p
      generalize (tmpsOf all x).contains e = q
      cases p <;> cases q <;> rfl

theorem clash_read {C : Ctx} {all : List Oper} {x y : Oper} {t : Nat} (h : x.dst = some t) (hy : t ∈ tmpsOf all y) : clash C all x y = true := by
  unfold clash
  rw [h]
  simp only [contains_iff.2 hy, Bool.true_or]

theorem clash_write {C : Ctx} {all : List Oper} {x y : Oper} {t : Nat} (h : x.dst = some t) (hy : y.dst = some t) : clash C all x y = true := by
  unfold clash
  rw [h, hy]
  simp

theorem clash_eff {C : Ctx} {all : List Oper} {x y : Oper} (h : isEff C x = true) (hy : isEff C y = true) : clash C all x y = true := by
  unfold clash
  rw [h, hy]
  simp

/-- The rows that one reads are there, or were. -/
theorem sim_ids {N : Nat → Prop} {φ : Map} {nx : Nat} {w : World} (hlt : ∀ id l, φ id = some l → id < nx) {v : Value} {id : Nat} :
    (∀ i j, Sim N φ nx w (.ptr id i j) v → id < nx) ∧ (Sim N φ nx w (.own id) v → id < nx) ∧ (∀ off n, Sim N φ nx w (.ownp id off n) v → id < nx) := by
  refine ⟨fun i j h => ?_, fun h => ?_, fun off n h => ?_⟩
  · cases h with
    | ptrDead h hx => exact hx
    | ptr h hl => exact hlt _ _ h
  · cases h with
    | ownDead h hx => exact hx
    | ownNil h hl => exact hlt _ _ h
    | own h hl => exact hlt _ _ h
  · cases h with
    | ownpDead h hx => exact hx
    | ownpNil h hl => exact hlt _ _ h
    | ownp h hl _ _ _ _ => exact hlt _ _ h

theorem reads_lt {N : Nat → Prop} {φ : Map} {nx : Nat} {w : World} (hlt : ∀ id l, φ id = some l → id < nx) {o : Oper} {ρ : Operand → AV} {σ : Operand → Value} (hs : ∀ u ∈ o.op.operands, Sim N φ nx w (ρ u) (σ u)) : ∀ id ∈ readsOf o ρ, id < nx := by
  have of : ∀ u ∈ o.op.operands, ∀ id, id ∈ (match ρ u with | .ptr id _ _ => [id] | .own id => [id] | .ownp id _ _ => [id] | _ => []) → id < nx := by
    intro u hu id hid
    have h := hs u hu
    split at hid
    · rename_i k i j he
      simp at hid; subst hid
      rw [he] at h
      exact (sim_ids hlt).1 _ _ h
    · rename_i k he
      simp at hid; subst hid
      rw [he] at h
      exact (sim_ids hlt).2.1 h
    · rename_i k off n he
      simp at hid; subst hid
      rw [he] at h
      exact (sim_ids hlt).2.2 _ _ h
    · simp at hid
  intro id hid
  unfold readsOf at hid
  simp only at hid
  split at hid
  · rename_i t a ho
    exact of a (by simp [ho, Op.operands]) id hid
  · rename_i t x i ho
    exact of x (by simp [ho, Op.operands]) id hid
  · rename_i t x lo hi mx ho
    exact of x (by simp [ho, Op.operands]) id hid
  · rename_i args argTypes ho
    split at hid
    · rename_i x hx
      refine of x ?_ id hid
      have hm : x ∈ args.toList := by rw [hx]; simp
      simp only [ho, Op.operands, Call.operands, Array.mem_append]
      exact .inr (Array.mem_toList_iff.1 hm)
    · simp at hid
  · simp at hid

section
variable {C : Ctx} {ops : Array Oper} {A : Nat → Act'} {H : Nat → AH} {V : Nat → AV} {X : Nat → Bool}

theorem wr_dst {t k : Nat} (h : wr ops t k = true) : ∃ o, ops[k]? = some o ∧ o.dst = some t := by
  unfold wr at h
  cases ho : ops[k]? with
  | none => simp [ho] at h
  | some o =>
    refine ⟨o, rfl, ?_⟩
    simp only [ho, Option.bind_some] at h
    cases hd : o.dst with
    | none => simp [hd] at h
    | some d => simp only [hd, beq_iff_eq] at h; rw [h]

theorem ef_spec {k : Nat} (h : ef C ops X k = true) : X k = true ∧ ∃ o, ops[k]? = some o ∧ isEff C o = true := by
  unfold ef at h
  simp only [Bool.and_eq_true] at h
  refine ⟨h.1, ?_⟩
  cases ho : ops[k]? with
  | none => simp [ho] at h
  | some o => exact ⟨o, rfl, by simpa [ho] using h.2⟩

/-- The variables that an operation looks at. -/
theorem var_read {S : Nat → Bool} (hp : pairsOk C ops.toList (beforeOf ops.toList) = true) (hc : Closed ops S) (hE : Back ops) {i : Nat} {o : Oper} (hi : ops[i]? = some o) (hun : S i = false)
    (hready : ∀ e ∈ o.after.toList, alwaysOn e = true → S e.on = true) (a : Act') {t : Nat} (ht : t ∈ tmpsOf ops.toList o) : varAt ops V a S t = varAt ops V a (fun j => decide (j < i)) t := by
  unfold varAt
  rw [lastOf_congr (p := fun k => S k && wr ops t k) (q := fun k => decide (k < i) && wr ops t k) ops.size (fun k hk => ?_)]
  cases hw : wr ops t k with
  | false => simp
  | true =>
    by_cases hki : k = i
    · subst hki; simp [hun]
    · obtain ⟨q, hq, hd⟩ := wr_dst hw
      rw [ordered hp hc hE hi hq hun hready hki (.inl (clash_read hd ht)) (clash_symm C ops.toList q o)]

theorem heap_eff {S : Nat → Bool} (hp : pairsOk C ops.toList (beforeOf ops.toList) = true) (hc : Closed ops S) (hE : Back ops) {i : Nat} {o : Oper} (hi : ops[i]? = some o) (hun : S i = false)
    (hready : ∀ e ∈ o.after.toList, alwaysOn e = true → S e.on = true) (he : isEff C o = true) : heapAt C ops H X S = heapAt C ops H X (fun j => decide (j < i)) := by
  unfold heapAt
  rw [lastOf_congr (p := fun k => S k && ef C ops X k) (q := fun k => decide (k < i) && ef C ops X k) ops.size (fun k hk => ?_)]
  cases hw : ef C ops X k with
  | false => simp
  | true =>
    by_cases hki : k = i
    · subst hki; simp [hun]
    · obtain ⟨_, q, hq, hd⟩ := ef_spec hw
      rw [ordered hp hc hE hi hq hun hready hki (.inl (clash_eff hd he)) (clash_symm C ops.toList q o)]

/-- Effects come up in the order of the text. -/
theorem eff_prefix {S : Nat → Bool} (hp : pairsOk C ops.toList (beforeOf ops.toList) = true) (hc : Closed ops S) (hE : Back ops) {j k : Nat} (hj : ef C ops X j = true) (hk : ef C ops X k = true) (hjk : j < k) (hS : S k = true) : S j = true := by
  cases hSj : S j with
  | true => rfl
  | false =>
    obtain ⟨_, oj, hoj, hdj⟩ := ef_spec hj
    obtain ⟨_, ok, hok, hdk⟩ := ef_spec hk
    have hjn : j < ops.size := (Array.getElem?_eq_some_iff.1 hoj).1
    have hkn : k < ops.size := (Array.getElem?_eq_some_iff.1 hok).1
    have h1 := List.all_eq_true.1 hp k (by simpa using hkn)
    have h2 := List.all_eq_true.1 h1 j (by simpa using hjk)
    have hx' : ops.toList[j]? = some oj := by simpa using hoj
    have hy' : ops.toList[k]? = some ok := by simpa using hok
    rw [hx', hy'] at h2
    simp only [clash_eff hdj hdk, Bool.not_true, Bool.false_or] at h2
    have := closed_before hc hE k ok hok (fun e h1 h2 => hc k ok hok hS e h1 h2) j (by simpa using h2)
    rw [hSj] at this
    cases this

/-- From one heap to a later one: rows that nothing on the way names stay. -/
theorem keep_way (tr : Trace C ops.toList (beforeOf ops.toList) 0 ops.size A H V X [] []) {id : Nat} : ∀ (n p : Nat), p + n ≤ ops.size → id < (H p).next →
    (∀ k o, p ≤ k → k < p + n → ops[k]? = some o → ef C ops X k = true → ∀ l, modsOf C o (evalA (A k)) (H k) = some l → id ∉ l) → (∀ k o, p ≤ k → k < p + n → ops[k]? = some o → ef C ops X k = true → modsOf C o (evalA (A k)) (H k) ≠ none) →
    (H (p + n)).get id = (H p).get id ∧ (H p).next ≤ (H (p + n)).next := by
  intro n
  induction n with
  | zero => intro p _ _ _ _; exact ⟨rfl, Nat.le_refl _⟩
  | succ n ih =>
    intro p hp hlt hm hm2
    obtain ⟨h1, h2⟩ := ih p (by omega) hlt (fun k o hk1 hk2 => hm k o hk1 (by omega)) (fun k o hk1 hk2 => hm2 k o hk1 (by omega))
    have ho : ops[p + n]? = some ops[p + n] := by simp [show p + n < ops.size by omega]
    obtain ⟨hs, _⟩ := tr.step (p + n) ops[p + n] (by omega) (by omega) (by simp)
    have hadd : p + (n + 1) = p + n + 1 := by omega
    rw [hadd]
    by_cases he : ef C ops X (p + n) = true
    · obtain ⟨hX, o, ho', hE⟩ := ef_spec he
      have : o = ops[p + n] := by rw [ho] at ho'; simpa using ho'.symm
      subst this
      obtain ⟨_, hn, hk⟩ := hs.eff hX hE
      cases hmd : modsOf C ops[p + n] (evalA (A (p + n))) (H (p + n)) with
      | none => exact absurd hmd (hm2 _ _ (by omega) (by omega) ho he)
      | some l =>
        have := hk l hmd
        exact ⟨by rw [this.get id (Nat.lt_of_lt_of_le hlt h2) (hm _ _ (by omega) (by omega) ho he l hmd), h1], Nat.le_trans h2 hn⟩
    · have hsame : H (p + n + 1) = H (p + n) := by
        cases hx : X (p + n) with
        | false => exact (hs.skip hx).2.1
        | true =>
          refine (hs.same hx ?_).1
          unfold ef at he
          rw [ho, hx] at he
          simp at he
          exact he
      rw [hsame]
      exact ⟨h1, h2⟩

theorem meet_none {x : List Nat} {y : Option (List Nat)} (h : meet x y = false) {id : Nat} (hid : id ∈ x) : ∃ l, y = some l ∧ id ∉ l := by
  unfold meet at h
  cases y with
  | none => cases x <;> simp at h hid
  | some l =>
    refine ⟨l, rfl, fun hm => ?_⟩
    have : x.any l.contains = true := List.any_eq_true.2 ⟨id, hid, contains_iff.2 hm⟩
    simp only [this] at h
    cases h

/-- The rows that an operation reads. -/
theorem heap_read (tr : Trace C ops.toList (beforeOf ops.toList) 0 ops.size A H V X [] []) {S : Nat → Bool} (hp : pairsOk C ops.toList (beforeOf ops.toList) = true) (hc : Closed ops S) (hE : Back ops) {i : Nat} {o : Oper} (hi : ops[i]? = some o) (hun : S i = false)
    (hready : ∀ e ∈ o.after.toList, alwaysOn e = true → S e.on = true) (hX : X i = true) (he : isEff C o = false) (hlt : ∀ id ∈ readsOf o (evalA (A i)), id < (heapAt C ops H X S).next) : ∀ id ∈ readsOf o (evalA (A i)), (heapAt C ops H X S).get id = (H i).get id := by
  intro id hid
  have hin : i < ops.size := (Array.getElem?_eq_some_iff.1 hi).1
  have hlt := hlt id hid
  obtain ⟨hs, _⟩ := tr.step i o (by omega) hin (by simpa using hi)
  have hlti : id < (H i).next := (hs.same hX he).2.1 id hid
  have hsame : H (i + 1) = H i := (hs.same hX he).1
  -- effects before i that have not come up
  have below : ∀ k q, k < i → ops[k]? = some q → ef C ops X k = true → S k = false → ∃ l, modsOf C q (evalA (A k)) (H k) = some l ∧ id ∉ l := by
    intro k q hki hq hef hSk
    obtain ⟨hXk, q', hq', hEk⟩ := ef_spec hef
    have : q' = q := by rw [hq] at hq'; simpa using hq'.symm
    subst this
    rcases tr.er k q' i o (by omega) hki hin (by simpa using hq) (by simpa using hi) hXk hX hEk he with h1 | h1
    · have := closed_before hc hE i o hi hready k (contains_iff.1 h1)
      rw [hSk] at this; cases this
    · exact meet_none h1 hid
  -- effects behind i that have come up
  have above : ∀ k q, i < k → ops[k]? = some q → ef C ops X k = true → S k = true → ∃ l, modsOf C q (evalA (A k)) (H k) = some l ∧ id ∉ l := by
    intro k q hki hq hef hSk
    obtain ⟨hXk, q', hq', hEk⟩ := ef_spec hef
    have : q' = q := by rw [hq] at hq'; simpa using hq'.symm
    subst this
    have hkn : k < ops.size := (Array.getElem?_eq_some_iff.1 hq).1
    rcases tr.re i o k q' (by omega) hki hkn (by simpa using hi) (by simpa using hq) hX hXk he hEk with h1 | h1
    · have := closed_before hc hE k q' hq (fun e h2 h3 => hc k q' hq hSk e h2 h3) i (contains_iff.1 h1)
      rw [hun] at this; cases this
    · exact meet_none h1 hid
  have nef : ef C ops X i = false := by unfold ef; rw [hi]; simp [he]
  have low : ∀ P', P' ≤ i → id < (H P').next → (∀ k, P' ≤ k → k < i → ef C ops X k = true → S k = false) → (H P').get id = (H i).get id := by
    intro P' hP hl hno
    obtain ⟨n, rfl⟩ := Nat.exists_eq_add_of_le hP
    refine (keep_way tr n P' (by omega) hl ?_ ?_).1.symm
    · intro k q h1 h2 hq hef l hl' hm
      obtain ⟨l', h3, h4⟩ := below k q h2 hq hef (hno k h1 h2 hef)
      rw [hl'] at h3; simp only [Option.some.injEq] at h3; subst h3
      exact h4 hm
    · intro k q h1 h2 hq hef hn
      obtain ⟨l', h3, h4⟩ := below k q h2 hq hef (hno k h1 h2 hef)
      rw [hn] at h3; cases h3
  unfold heapAt at hlt ⊢
  cases hl : lastOf (fun k => S k && ef C ops X k) ops.size with
  | none =>
    rw [hl] at hlt
    simp only at hlt ⊢
    refine low 0 (by omega) hlt fun k _ hk hef => ?_
    have := lastOf_none _ hl k (by omega)
    simpa [hef] using this
  | some p =>
    rw [hl] at hlt
    simp only at hlt ⊢
    obtain ⟨h1, h2, h3⟩ := lastOf_some _ _ hl
    simp only [Bool.and_eq_true] at h2
    rcases Nat.lt_trichotomy p i with h4 | h4 | h4
    · refine low (p + 1) (by omega) hlt fun k hk1 hk2 hef => ?_
      have := h3 k (by omega) (by omega)
      simpa [hef] using this
    · subst h4
      rw [hun] at h2
      cases h2.1
    · have hw := keep_way tr (id := id) (p + 1 - i) i (by omega) hlti ?_ ?_
      · have h5 : i + (p + 1 - i) = p + 1 := by omega
        rw [h5] at hw
        exact hw.1
      · intro k q hk1 hk2 hq hef l hl' hm
        have hki : i < k := by
          rcases Nat.lt_or_ge i k with h6 | h6
          · exact h6
          · have : k = i := by omega
            subst this
            rw [nef] at hef; cases hef
        have hSk : S k = true := by
          rcases Nat.lt_or_ge k p with h6 | h6
          · exact eff_prefix hp hc hE hef h2.2 h6 h2.1
          · have : k = p := by omega
            subst this; exact h2.1
        obtain ⟨l', h5, h6⟩ := above k q hki hq hef hSk
        rw [hl'] at h5; simp only [Option.some.injEq] at h5; subst h5
        exact h6 hm
      · intro k q hk1 hk2 hq hef hn
        have hki : i < k := by
          rcases Nat.lt_or_ge i k with h6 | h6
          · exact h6
          · have : k = i := by omega
            subst this
            rw [nef] at hef; cases hef
        have hSk : S k = true := by
          rcases Nat.lt_or_ge k p with h6 | h6
          · exact eff_prefix hp hc hE hef h2.2 h6 h2.1
          · have : k = p := by omega
            subst this; exact h2.1
        obtain ⟨l', h5, h6⟩ := above k q hki hq hef hSk
        rw [hn] at h5; cases h5

/-- One more has come up. -/
def also (S : Nat → Bool) (i : Nat) : Nat → Bool := fun j => S j || j == i

theorem heap_also {S : Nat → Bool} (hp : pairsOk C ops.toList (beforeOf ops.toList) = true) (hc : Closed ops S) (hE : Back ops) {i : Nat} {o : Oper} (hi : ops[i]? = some o) (hun : S i = false) :
    heapAt C ops H X (also S i) = if ef C ops X i = true then H (i + 1) else heapAt C ops H X S := by
  have hin : i < ops.size := (Array.getElem?_eq_some_iff.1 hi).1
  by_cases hef : ef C ops X i = true
  · rw [if_pos hef]
    unfold heapAt
    rw [lastOf_is (k := i) hin (by simp [also, hef]) (fun j h1 h2 => ?_)]
    have hji : (j == i) = false := by simp; omega
    simp only [also, hji, Bool.or_false, Bool.and_eq_false_iff]
    cases hj : ef C ops X j with
    | false => exact .inr rfl
    | true =>
      left
      cases hSj : S j with
      | false => rfl
      | true =>
        have := eff_prefix hp hc hE hef hj h1 hSj
        rw [hun] at this; cases this
  · rw [if_neg hef]
    unfold heapAt
    rw [lastOf_congr (p := fun k => also S i k && ef C ops X k) (q := fun k => S k && ef C ops X k) ops.size (fun k hk => ?_)]
    by_cases hki : k = i
    · subst hki; simp [hef]
    · have : (k == i) = false := by simp [hki]
      simp [also, this]

theorem var_also {S : Nat → Bool} (hp : pairsOk C ops.toList (beforeOf ops.toList) = true) (hc : Closed ops S) (hE : Back ops) {i : Nat} {o : Oper} (hi : ops[i]? = some o) (hun : S i = false) (a : Act') (t : Nat) :
    varAt ops V a (also S i) t = if isDst o.dst t = true ∧ t < a.length then V i else varAt ops V a S t := by
  have hin : i < ops.size := (Array.getElem?_eq_some_iff.1 hi).1
  have hw : wr ops t i = isDst o.dst t := by unfold wr isDst; rw [hi]; rfl
  unfold varAt
  by_cases ht : t < a.length
  · rw [if_pos ht]
    by_cases hd : isDst o.dst t = true
    · rw [if_pos ⟨hd, ht⟩]
      rw [lastOf_is (k := i) hin (by simp [also, hw, hd]) (fun j h1 h2 => ?_)]
      have hji : (j == i) = false := by simp; omega
      simp only [also, hji, Bool.or_false, Bool.and_eq_false_iff]
      cases hj : wr ops t j with
      | false => exact .inr rfl
      | true =>
        left
        cases hSj : S j with
        | false => rfl
        | true =>
          obtain ⟨q, hq, hdq⟩ := wr_dst hj
          obtain ⟨o', ho', hdo⟩ := wr_dst (hw.trans hd)
          have : o' = o := by rw [hi] at ho'; simpa using ho'.symm
          subst this
          have h1' := List.all_eq_true.1 hp j (by simpa using h2)
          have h2' := List.all_eq_true.1 h1' i (by simpa using h1)
          have hx' : ops.toList[i]? = some o' := by simpa using hi
          have hy' : ops.toList[j]? = some q := by simpa using hq
          rw [hx', hy'] at h2'
          simp only [clash_write hdo hdq, Bool.not_true, Bool.false_or] at h2'
          have := closed_before hc hE j q hq (fun e h1 h2 => hc j q hq hSj e h1 h2) i (by simpa using h2')
          rw [hun] at this; cases this
    · rw [if_neg (fun hh => hd hh.1), if_pos ht]
      rw [lastOf_congr (p := fun k => also S i k && wr ops t k) (q := fun k => S k && wr ops t k) ops.size (fun k hk => ?_)]
      by_cases hki : k = i
      · subst hki; simp [hw, hd]
      · have : (k == i) = false := by simp [hki]
        simp [also, this]
  · rw [if_neg ht, if_neg (fun hh => ht hh.2), if_neg ht]

end

end Go.Ph

/- Regions whose order is drawn: the law. -/
namespace Go.Ph
open Go.RowKit

def actOf (ops : Array Oper) (V : Nat → AV) (a : Act') (S : Nat → Bool) : Act' := Act'.tab (varAt ops V a S) a.n

theorem actOf_len (ops : Array Oper) (V : Nat → AV) (a : Act') (S : Nat → Bool) : (actOf ops V a S).length = a.length := rfl

theorem actOf_at (ops : Array Oper) (V : Nat → AV) (a : Act') (S : Nat → Bool) (t : Nat) : AV.at_ (actOf ops V a S) t = varAt ops V a S t := by
  have h5 := a.length_le
  by_cases ht : t < a.length
  · rw [AV.at_lt (by rw [actOf_len]; exact ht)]
    exact PT.get_tab 9 _ t (by show t < 512; omega)
  · rw [AV.at_ge (by rw [actOf_len]; omega)]
    simp only [varAt, if_neg ht]

theorem varAt_full (ops : Array Oper) (V : Nat → AV) (a : Act') {S T : Nat → Bool} (h : ∀ j, j < ops.size → S j = T j) (t : Nat) : varAt ops V a S t = varAt ops V a T t := by
  unfold varAt
  rw [lastOf_congr (p := fun k => S k && wr ops t k) (q := fun k => T k && wr ops t k) ops.size (fun k hk => by rw [h k hk])]

theorem heapAt_full (C : Ctx) (ops : Array Oper) (H : Nat → AH) (X : Nat → Bool) {S T : Nat → Bool} (h : ∀ j, j < ops.size → S j = T j) : heapAt C ops H X S = heapAt C ops H X T := by
  unfold heapAt
  rw [lastOf_congr (p := fun k => S k && ef C ops X k) (q := fun k => T k && ef C ops X k) ops.size (fun k hk => by rw [h k hk])]

/-- What has been listed. -/
def seen (L : Array Bool) : Nat → Bool := fun j => L.getD j false

theorem seen_set {L : Array Bool} {i : Nat} (h : i < L.size) : seen (L.setIfInBounds i true) = also (seen L) i := by
  funext j
  unfold seen also
  by_cases hj : j = i
  · subst hj; simp [Array.getD, h]
  · have : (j == i) = false := by simp [hj]
    rw [this, Bool.or_false]
    simp only [Array.getD_eq_getD_getElem?]
    rw [Array.getElem?_setIfInBounds_ne (Ne.symm hj)]

theorem ready_mem {ops : Array Oper} {L : Array Bool} (hL : L.size = ops.size) {i : Nat} (h : i ∈ Region.ready .any ops L) : ∃ o, ops[i]? = some o ∧ seen L i = false ∧ ∀ e ∈ o.after.toList, alwaysOn e = true → seen L e.on = true := by
  unfold Region.ready at h
  simp only [List.mem_filter, List.mem_range, Bool.and_eq_true] at h
  obtain ⟨h1, h2, h3⟩ := h
  have ho : ops[i]? = some ops[i] := by simp [h1]
  refine ⟨ops[i], ho, ?_, ?_⟩
  · unfold seen
    have hi : i < L.size := by omega
    simp [Array.getD, hi] at h2 ⊢
    exact h2
  · intro e he ha
    rw [ho] at h3
    simp only [Option.map_some, Option.getD_some] at h3
    rw [← Array.all_toList] at h3
    have := List.all_eq_true.1 h3 e he
    rw [alwaysOn_binds] at ha
    simp only [ha, Bool.not_true, Bool.false_or] at this
    exact this

theorem ready_nil {ops : Array Oper} {L : Array Bool} (hL : L.size = ops.size) (hE : Back ops) (h : Region.ready .any ops L = []) : ∀ i, i < ops.size → seen L i = true := by
  intro i
  induction i using Nat.strongRecOn with
  | _ i ih =>
    intro hi
    cases hs : seen L i with
    | true => rfl
    | false =>
      have ho : ops[i]? = some ops[i] := by simp [hi]
      have hm : i ∈ Region.ready .any ops L := by
        unfold Region.ready
        simp only [List.mem_filter, List.mem_range, Bool.and_eq_true]
        refine ⟨hi, ?_, ?_⟩
        · have hi' : i < L.size := by omega
          unfold seen at hs
          simp [Array.getD, hi'] at hs ⊢
          exact hs
        · rw [ho]
          simp only [Option.map_some, Option.getD_some]
          rw [← Array.all_toList]
          refine List.all_eq_true.2 fun e he => ?_
          cases hb : Region.binds .any e with
          | false => rfl
          | true =>
            have hlt := (hE i _ ho).1 e he (by rw [alwaysOn_binds]; exact hb)
            exact ih e.on hlt (by omega)
      rw [h] at hm
      cases hm

def left (L : Array Bool) (n : Nat) : Nat := (List.range n).countP fun j => !(seen L j)

theorem left_set {L : Array Bool} {n i : Nat} (hL : L.size = n) (hi : i < n) (hs : seen L i = false) : left (L.setIfInBounds i true) n + 1 ≤ left L n := by
  unfold left
  rw [seen_set (by omega)]
  have : ∀ (l : List Nat), l.countP (fun j => !(also (seen L) i j)) ≤ l.countP (fun j => !(seen L j)) ∧ (i ∈ l → l.countP (fun j => !(also (seen L) i j)) + 1 ≤ l.countP (fun j => !(seen L j))) := by
    intro l
    induction l with
    | nil => simp
    | cons x l ih =>
      simp only [List.countP_cons, List.mem_cons]
      by_cases hx : x = i
      · subst hx
        have h1 : also (seen L) x x = true := by simp [also]
        simp only [h1, hs, Bool.not_true, Bool.not_false, if_true, Bool.false_eq_true, if_false]
        have := ih.1
        exact ⟨by omega, fun _ => by omega⟩
      · have h1 : also (seen L) i x = seen L x := by simp [also, hx]
        rw [h1]
        refine ⟨by have := ih.1; omega, fun hm => ?_⟩
        rcases hm with hm | hm
        · exact absurd hm.symm hx
        · have := ih.2 hm
          omega
  exact (this _).2 (List.mem_range.2 hi)

theorem left_zero {L : Array Bool} {n : Nat} (h : left L n = 0) : ∀ j, j < n → seen L j = true := by
  intro j hj
  unfold left at h
  rw [List.countP_eq_zero] at h
  have := h j (List.mem_range.2 hj)
  simpa using this

theorem ops_any {Z : Type} {C : Ctx} {ops : Array Oper} {k : Act' → AH → Option Z} {z : Z} {a : Act'} {h : AH} (hreg : regOk C ops = true) (hcalls : ∀ o ∈ ops.toList, callsOk (EnvOk C) o)
    (hk : runOps C ops.toList (beforeOf ops.toList) 0 ops.toList [] [] a h k = some z) :
    ∃ aF hF, k aF hF = some z ∧ ∀ (Bad : Nat → Prop) (φ : Map) (w : World) (y : Act) (Q : Exit → Act → World → Prop), Rel Bad φ h w → ActSim (Imm Bad φ w) φ h.next w a y →
      (∀ φ' w' y', Goes Bad φ h w φ' hF w' → ActSim (Imm Bad φ' w') φ' hF.next w' aF y' → y'.defers = y.defers → Q .normal y' w') → wpAny C.P .any ops Q ops.size (Array.replicate ops.size false) y w := by
  obtain ⟨A, H, V, X, hA, hH, hz, tr⟩ := trace_of ops.toList 0 [] [] a h (fun j => by simp) hcalls hk
  simp only [Nat.zero_add, Array.length_toList] at hz tr
  simp only [regOk, Bool.and_eq_true] at hreg
  obtain ⟨⟨he, hp⟩, _⟩ := hreg
  have hE : Back ops := back_of he
  subst hA; subst hH
  refine ⟨A ops.size, H ops.size, hz, fun Bad φ0 w0 y0 Q hrel0 hact0 hQ => ?_⟩
  have vt := var_text tr
  have ht := heap_text tr
  have alen : ∀ i, i ≤ ops.size → (A i).length = (A 0).length := fun i hi => (vt i hi).1
  have main : ∀ (fuel : Nat) (L : Array Bool) (y : Act) (w : World) (φ : Map), L.size = ops.size → Closed ops (seen L) → left L ops.size ≤ fuel →
      Goes Bad φ0 (H 0) w0 φ (heapAt C ops H X (seen L)) w → ActSim (Imm Bad φ w) φ (heapAt C ops H X (seen L)).next w (actOf ops V (A 0) (seen L)) y → y.defers = y0.defers → wpAny C.P .any ops Q fuel L y w := by
    intro fuel
    induction fuel with
    | zero =>
      intro L y w φ hL hc hfuel g hact hd
      have all := left_zero (Nat.le_zero.1 hfuel)
      refine ⟨?_, ?_⟩
      · cases hr : Region.ready .any ops L with
        | nil => rfl
        | cons i r =>
          obtain ⟨o, ho, hs, _⟩ := ready_mem hL (i := i) (by rw [hr]; simp)
          have := all i (Array.getElem?_eq_some_iff.1 ho).1
          rw [hs] at this; cases this
      · have full : ∀ j, j < ops.size → seen L j = decide (j < ops.size) := fun j hj => by rw [all j hj]; simp [hj]
        rw [heapAt_full C ops H X full, ← ht ops.size (Nat.le_refl _)] at g hact
        refine hQ φ w y g ⟨?_, fun t => ?_⟩ hd
        · rw [alen _ (Nat.le_refl _), ← hact.size, actOf_len]
        · have := hact.tmps t
          rw [actOf_at, varAt_full ops V (A 0) full, ← (vt ops.size (Nat.le_refl _)).2 t] at this
          exact this
    | succ fuel ih =>
      intro L y w φ hL hc hfuel g hact hd
      refine ⟨fun hr => ?_, fun i hi => ?_⟩
      · have all := ready_nil hL hE hr
        have full : ∀ j, j < ops.size → seen L j = decide (j < ops.size) := fun j hj => by rw [all j hj]; simp [hj]
        rw [heapAt_full C ops H X full, ← ht ops.size (Nat.le_refl _)] at g hact
        refine hQ φ w y g ⟨?_, fun t => ?_⟩ hd
        · rw [alen _ (Nat.le_refl _), ← hact.size, actOf_len]
        · have := hact.tmps t
          rw [actOf_at, varAt_full ops V (A 0) full, ← (vt ops.size (Nat.le_refl _)).2 t] at this
          exact this
      · obtain ⟨o, ho, hun, hready⟩ := ready_mem hL hi
        have hin : i < ops.size := (Array.getElem?_eq_some_iff.1 ho).1
        obtain ⟨hs, hA'⟩ := tr.step i o (by omega) hin (by simpa using ho)
        have rd : ∀ t ∈ tmpsOf ops.toList o, AV.at_ (actOf ops V (A 0) (seen L)) t = AV.at_ (A i) t := fun t htm => by
          rw [actOf_at, var_read hp hc hE ho hun hready (A 0) htm, ← (vt i (by omega)).2 t]
        have ev : ∀ u ∈ o.op.operands, evalA (actOf ops V (A 0) (seen L)) u = evalA (A i) u := by
          intro u hu
          cases u with
          | tmp t =>
            refine rd t ?_
            unfold tmpsOf
            rw [List.mem_append]
            exact .inl (List.mem_filterMap.2 ⟨.tmp t, Array.mem_toList_iff.2 hu, rfl⟩)
          | const v => rfl
          | global gl => rfl
          | func f => rfl
        have heval : ∀ u ∈ o.op.operands, Sim (Imm Bad φ w) φ (heapAt C ops H X (seen L)).next w (evalA (A i) u) (y.eval u) := fun u hu => by
          rw [← ev u hu]; exact hact.eval u
        refine hs.wp ho g.rel heval ?_ ?_ ?_ ?_
        · intro j want hg r hy
          refine yield_sim hact ops j ?_
          rw [← hy]
          unfold yieldA
          cases hd' : (ops.toList[j]?).bind (·.dst) with
          | none => rfl
          | some d =>
            simp only
            rw [rd d ?_]
            unfold tmpsOf
            rw [List.mem_append, hg]
            right
            simp only [hd', List.mem_singleton]
        · intro hX hEf
          rw [heap_eff hp hc hE ho hun hready hEf, ← ht i (by omega)]
        · intro hX hEf
          exact heap_read tr hp hc hE ho hun hready hX hEf (reads_lt g.rel.id_lt heval)
        · intro φ' w' v' g' hv
          have hsz : (L.setIfInBounds i true).size = ops.size := by simp [hL]
          have hsn := seen_set (L := L) (i := i) (by omega)
          have hheap : heapAt C ops H X (seen (L.setIfInBounds i true)) = if X i = true ∧ isEff C o = true then H (i + 1) else heapAt C ops H X (seen L) := by
            rw [hsn, heap_also hp hc hE ho hun]
            have : ef C ops X i = (X i && isEff C o) := by unfold ef; rw [ho]
            rw [this]
            simp only [Bool.and_eq_true]
          have hclosed : Closed ops (seen (L.setIfInBounds i true)) := by
            rw [hsn]
            intro j q hq hj e he' ha
            unfold also at hj ⊢
            simp only [Bool.or_eq_true, beq_iff_eq] at hj ⊢
            rcases hj with hj | hj
            · exact .inl (hc j q hq hj e he' ha)
            · subst hj
              have : q = o := by rw [ho] at hq; simpa using hq.symm
              subst this
              exact .inl (hready e he' ha)
          have hfl : left (L.setIfInBounds i true) ops.size ≤ fuel := by
            have := left_set hL hin hun
            omega
          refine ih _ (y.put o.dst v') w' φ' hsz hclosed hfl ?_ ?_ (by rw [put_defers, hd])
          · rw [hheap]; exact g.trans g'
          · rw [hheap]
            have h1 := (hact.evo g'.evo g.rel.id_lt).put o.dst hv
            refine ⟨?_, fun t => ?_⟩
            · rw [← h1.size, put_len, actOf_len, actOf_len]
            · have h2 := h1.tmps t
              rw [put_at, actOf_len, actOf_at] at h2
              rw [actOf_at, hsn, var_also hp hc hE ho hun]
              exact h2
  have seen0 : ∀ j, seen (Array.replicate ops.size false) j = false := fun j => by
    unfold seen
    simp only [Array.getD_eq_getD_getElem?]
    by_cases hj : j < ops.size
    · simp [hj]
    · rw [Array.getElem?_eq_none (by simp; omega)]; rfl
  have zero : ∀ j, j < ops.size → seen (Array.replicate ops.size false) j = decide (j < 0) := fun j _ => by rw [seen0]; simp
  have hh0 : heapAt C ops H X (seen (Array.replicate ops.size false)) = H 0 := by rw [heapAt_full C ops H X zero, ← ht 0 (by omega)]
  refine main ops.size _ y0 w0 φ0 (by simp) (fun j q hq hj => by rw [seen0] at hj; cases hj) ?_ ?_ ?_ rfl
  · unfold left
    exact Nat.le_trans List.countP_le_length (by simp)
  · rw [hh0]; exact .refl hrel0
  · rw [hh0]
    refine ⟨by rw [actOf_len]; exact hact0.size, fun t => ?_⟩
    rw [actOf_at, varAt_full ops V (A 0) zero, ← (vt 0 (by omega)).2 t]
    exact hact0.tmps t

end Go.Ph

/- Code. -/
namespace Go.Ph
open Go.RowKit

/-- The functions that code calls. -/
def callsOf : Code → List Nat
  | .region _ ops _ => ops.toList.filterMap fun o => match o.op with
    | .call { callee := .value (.func f), .. } => some f
    | _ => none
  | .seq a b => callsOf a ++ callsOf b
  | .cond _ a b => callsOf a ++ callsOf b
  | .block _ c => callsOf c
  | .loop c => callsOf c
  | _ => []

theorem calls_region {C : Ctx} {id : Nat} {ops : Array Oper} {d : Bool} (h : ∀ f ∈ callsOf (.region id ops d), EnvOk C f) : ∀ o ∈ ops.toList, callsOk (EnvOk C) o := by
  intro o ho f args argTypes he
  refine h f ?_
  simp only [callsOf, List.mem_filterMap]
  exact ⟨o, ho, by rw [he]⟩

/-- A state that is written anew stands for the same memory, as far as one sees from where the function began. -/
def NormOk (n0 : Nat) (norm : Norm) : Prop :=
  ∀ a h a1 h1, norm a h = some (a1, h1) → ∀ (Bad : Nat → Prop) (φ0 : Map) (h0 : AH) (w0 : World) (φ : Map) (w : World) (y : Act), h0.next = n0 → Goes Bad φ0 h0 w0 φ h w → ActSim (Imm Bad φ w) φ h.next w a y →
    ∃ φ1, Goes Bad φ0 h0 w0 φ1 h1 w ∧ ActSim (Imm Bad φ1 w) φ1 h1.next w a1 y

def Ex.exit_ : Ex → Exit
  | .normal => .normal
  | .exit id => .exit id
  | .ret => .ret

/-- What the evaluator says of a piece of code, is so. -/
def CodeTo (P : Program) (n0 : Nat) (c : Code) (a : Act') (h : AH) (e : Ex) (aF : Act') (hF : AH) : Prop :=
  ∀ (Bad : Nat → Prop) (φ0 : Map) (h0 : AH) (w0 : World) (φ : Map) (w : World) (y : Act) (Q : Exit → Act → World → Prop), h0.next = n0 → Goes Bad φ0 h0 w0 φ h w → ActSim (Imm Bad φ w) φ h.next w a y →
    (∀ φ' w' y', Goes Bad φ0 h0 w0 φ' hF w' → ActSim (Imm Bad φ' w') φ' hF.next w' aF y' → y'.defers = y.defers → Q e.exit_ y' w') → c.wp P Q y w

theorem drew_goes {Bad : Nat → Prop} {φ0 : Map} {h0 : AH} {w0 : World} {φ : Map} {h : AH} {w : World} (g : Goes Bad φ0 h0 w0 φ h w) : Goes Bad φ0 h0 w0 φ h { w with drawn := w.drawn + 1 } := by
  have hN : ∀ b, Imm Bad φ w b → Imm Bad φ { w with drawn := w.drawn + 1 } b ∧ ({ w with drawn := w.drawn + 1 } : World).heap[b]? = w.heap[b]? := fun b h => ⟨h, rfl⟩
  refine ⟨⟨fun id r hr => ?_, g.rel.bad, g.rel.gone, g.rel.lt, g.rel.inj, g.rel.ok, fun id r l b o h1 h2 h3 i c hc => ?_⟩, ⟨g.evo.next, g.evo.size, g.evo.keep, g.evo.owned, g.evo.old, g.evo.os, g.evo.tape, g.evo.output⟩⟩
  · obtain ⟨l, h1, h2⟩ := g.rel.live id r hr
    exact ⟨l, h1, h2.len, h2.esz, h2.le, h2.max, h2.nowhere, h2.there⟩
  · obtain ⟨v, hv, hs, hsim⟩ := g.rel.cells id r l b o h1 h2 h3 i c hc
    exact ⟨v, hv, hs, hsim.mono hN (fun _ _ h => .inl h) (fun _ hx h => ⟨h, hx⟩)⟩

theorem ActSim.drew {Bad : Nat → Prop} {φ : Map} {nx : Nat} {w : World} {a : Act'} {y : Act} (h : ActSim (Imm Bad φ w) φ nx w a y) : ActSim (Imm Bad φ { w with drawn := w.drawn + 1 }) φ nx { w with drawn := w.drawn + 1 } a y :=
  have hN : ∀ b, Imm Bad φ w b → Imm Bad φ { w with drawn := w.drawn + 1 } b ∧ ({ w with drawn := w.drawn + 1 } : World).heap[b]? = w.heap[b]? := fun b h => ⟨h, rfl⟩
  ⟨h.size, fun t => (h.tmps t).mono hN (fun _ _ h => .inl h) (fun _ hx h => ⟨h, hx⟩)⟩

theorem Ex.wp_then {P : Program} {e : Ex} (he : e ≠ .normal) (K : Act → World → Prop) (Q : Exit → Act → World → Prop) (y : Act) (w : World) (h : Q e.exit_ y w) : Exit.then K Q e.exit_ y w := by
  cases e with
  | normal => exact absurd rfl he
  | exit id => exact h
  | ret => exact h

theorem iter_to {Z : Type} {C : Ctx} {n0 : Nat} {norm : Norm} (hnorm : NormOk n0 norm) {c : Code} {body : Act' → AH → (Ex → Act' → AH → Option Z) → Option Z}
    (hbody : ∀ a h k z, body a h k = some z → ∃ e aF hF, k e aF hF = some z ∧ CodeTo C.P n0 c a h e aF hF) :
    ∀ (fuel : Nat) (a : Act') (h : AH) (k : Ex → Act' → AH → Option Z) (z : Z), iter body norm fuel a h k = some z → ∃ e aF hF, k e aF hF = some z ∧
      ∀ (Bad : Nat → Prop) (φ0 : Map) (h0 : AH) (w0 : World) (φ : Map) (w : World) (y : Act) (Q : Exit → Act → World → Prop), h0.next = n0 → Goes Bad φ0 h0 w0 φ h w → ActSim (Imm Bad φ w) φ h.next w a y →
        (∀ φ' w' y', Goes Bad φ0 h0 w0 φ' hF w' → ActSim (Imm Bad φ' w') φ' hF.next w' aF y' → y'.defers = y.defers → Q e.exit_ y' w') → Code.rounds C.P c Q fuel y w := by
  intro fuel
  induction fuel with
  | zero => intro a h k z hk; cases hk
  | succ fuel ih =>
    intro a h k z hk
    simp only [iter] at hk
    split at hk
    · rename_i a1 h1 hn
      obtain ⟨e, a2, h2, hk2, hto⟩ := hbody a1 h1 _ z hk
      cases e with
      | normal =>
        simp only at hk2
        obtain ⟨e, aF, hF, hz, hrest⟩ := ih a2 h2 k z hk2
        refine ⟨e, aF, hF, hz, fun Bad φ0 h0 w0 φ w y Q h0n g ha hQ => ?_⟩
        obtain ⟨φ1, g1, ha1⟩ := hnorm a h a1 h1 hn Bad φ0 h0 w0 φ w y h0n g ha
        show c.wp C.P (Exit.then (Code.rounds C.P c Q fuel) Q) y w
        exact hto Bad φ0 h0 w0 φ1 w y _ h0n g1 ha1 fun φ' w' y' g' ha' hd =>
          hrest Bad φ0 h0 w0 φ' w' y' Q h0n g' ha' fun φ'' w'' y'' g'' ha'' hd' => hQ φ'' w'' y'' g'' ha'' (hd'.trans hd)
      | exit id =>
        refine ⟨.exit id, a2, h2, hk2, fun Bad φ0 h0 w0 φ w y Q h0n g ha hQ => ?_⟩
        obtain ⟨φ1, g1, ha1⟩ := hnorm a h a1 h1 hn Bad φ0 h0 w0 φ w y h0n g ha
        show c.wp C.P (Exit.then (Code.rounds C.P c Q fuel) Q) y w
        exact hto Bad φ0 h0 w0 φ1 w y _ h0n g1 ha1 hQ
      | ret =>
        refine ⟨.ret, a2, h2, hk2, fun Bad φ0 h0 w0 φ w y Q h0n g ha hQ => ?_⟩
        obtain ⟨φ1, g1, ha1⟩ := hnorm a h a1 h1 hn Bad φ0 h0 w0 φ w y h0n g ha
        show c.wp C.P (Exit.then (Code.rounds C.P c Q fuel) Q) y w
        exact hto Bad φ0 h0 w0 φ1 w y _ h0n g1 ha1 hQ
    · cases hk

theorem code_to {Z : Type} {C : Ctx} {norm : Nat → Norm} {fuel n0 : Nat} (hm : C.P.follows .mixedOrders = true) (hnorm : ∀ p, NormOk n0 (norm p)) :
    ∀ (c : Code), codeOk C c = true → (∀ f ∈ callsOf c, EnvOk C f) → ∀ (p : Nat) (a : Act') (h : AH) (k : Ex → Act' → AH → Option Z) (z : Z), runCode C norm fuel p c a h k = some z →
      ∃ e aF hF, k e aF hF = some z ∧ CodeTo C.P n0 c a h e aF hF
  | .skip, _, _, p, a, h, k, z, hk => ⟨.normal, a, h, hk, fun Bad φ0 h0 w0 φ w y Q h0n g ha hQ => wp_skip (hQ φ w y g ha rfl)⟩
  | .label l, _, _, p, a, h, k, z, hk => ⟨.normal, a, h, hk, fun Bad φ0 h0 w0 φ w y Q h0n g ha hQ => wp_label (hQ φ w y g ha rfl)⟩
  | .ret, _, _, p, a, h, k, z, hk => ⟨.ret, a, h, hk, fun Bad φ0 h0 w0 φ w y Q h0n g ha hQ => wp_ret (hQ φ w y g ha rfl)⟩
  | .exit id, _, _, p, a, h, k, z, hk => ⟨.exit id, a, h, hk, fun Bad φ0 h0 w0 φ w y Q h0n g ha hQ => wp_exit (hQ φ w y g ha rfl)⟩
  | .region id ops draw, hok, hcalls, p, a, h, k, z, hk => by
    have hc := calls_region hcalls
    cases draw with
    | true =>
      simp only [runCode, cond_true] at hk
      simp only [codeOk, Bool.and_eq_true, Bool.not_true, Bool.false_or] at hok
      obtain ⟨aF, hF, hz, hto⟩ := ops_any hok.2 hc hk
      refine ⟨.normal, aF, hF, hz, fun Bad φ0 h0 w0 φ w y Q h0n g ha hQ => ?_⟩
      have g' := drew_goes g
      exact wp_region_any hm (hto Bad φ _ y Q g'.rel ha.drew fun φ' w' y' g2 ha' hd => hQ φ' w' y' (g'.trans g2) ha' hd)
    | false =>
      simp only [runCode, cond_false] at hk
      obtain ⟨aF, hF, hz, hto⟩ := ops_text ops.toList 0 [] [] a h (fun j => by simp) hc hk
      refine ⟨.normal, aF, hF, hz, fun Bad φ0 h0 w0 φ w y Q h0n g ha hQ => ?_⟩
      refine wp_region ?_
      have := hto Bad φ w y Q g.rel ha fun φ' w' y' g2 ha' hd => hQ φ' w' y' (g.trans g2) ha' hd
      rw [List.range_eq_range']
      simpa using this
  | .seq x y, hok, hcalls, p, a, h, k, z, hk => by
    simp only [codeOk, Bool.and_eq_true] at hok
    simp only [runCode] at hk
    obtain ⟨e, a1, h1, hk1, hto⟩ := code_to hm hnorm x hok.1 (fun f hf => hcalls f (by simp [callsOf, hf])) _ a h _ z hk
    cases e with
    | normal =>
      simp only at hk1
      obtain ⟨e, aF, hF, hz, hto2⟩ := code_to hm hnorm y hok.2 (fun f hf => hcalls f (by simp [callsOf, hf])) _ a1 h1 _ z hk1
      refine ⟨e, aF, hF, hz, fun Bad φ0 h0 w0 φ w v Q h0n g ha hQ => wp_seq (hto Bad φ0 h0 w0 φ w v _ h0n g ha fun φ' w' v' g' ha' hd => ?_)⟩
      exact hto2 Bad φ0 h0 w0 φ' w' v' Q h0n g' ha' fun φ'' w'' v'' g'' ha'' hd' => hQ φ'' w'' v'' g'' ha'' (hd'.trans hd)
    | exit id => exact ⟨.exit id, a1, h1, hk1, fun Bad φ0 h0 w0 φ w v Q h0n g ha hQ => wp_seq (hto Bad φ0 h0 w0 φ w v _ h0n g ha hQ)⟩
    | ret => exact ⟨.ret, a1, h1, hk1, fun Bad φ0 h0 w0 φ w v Q h0n g ha hQ => wp_seq (hto Bad φ0 h0 w0 φ w v _ h0n g ha hQ)⟩
  | .cond c x y, hok, hcalls, p, a, h, k, z, hk => by
    simp only [codeOk, Bool.and_eq_true] at hok
    simp only [runCode] at hk
    split at hk
    · rename_i b hb
      have ev : ∀ (Bad : Nat → Prop) (φ : Map) (w : World) (v : Act), ActSim (Imm Bad φ w) φ h.next w a v → v.eval c = .bool b := by
        intro Bad φ w v ha
        have := ha.eval c
        rw [hb] at this
        generalize v.eval c = u at this
        cases this
        rfl
      cases b with
      | true =>
        simp only [cond_true] at hk
        obtain ⟨e, aF, hF, hz, hto⟩ := code_to hm hnorm x hok.1 (fun f hf => hcalls f (by simp [callsOf, hf])) _ a h k z hk
        exact ⟨e, aF, hF, hz, fun Bad φ0 h0 w0 φ w v Q h0n g ha hQ => wp_cond_true (ev Bad φ w v ha) (hto Bad φ0 h0 w0 φ w v Q h0n g ha hQ)⟩
      | false =>
        simp only [cond_false] at hk
        obtain ⟨e, aF, hF, hz, hto⟩ := code_to hm hnorm y hok.2 (fun f hf => hcalls f (by simp [callsOf, hf])) _ a h k z hk
        exact ⟨e, aF, hF, hz, fun Bad φ0 h0 w0 φ w v Q h0n g ha hQ => wp_cond_false (ev Bad φ w v ha) (hto Bad φ0 h0 w0 φ w v Q h0n g ha hQ)⟩
    · cases hk
  | .block id c, hok, hcalls, p, a, h, k, z, hk => by
    simp only [codeOk] at hok
    simp only [runCode] at hk
    obtain ⟨e, a1, h1, hk1, hto⟩ := code_to hm hnorm c hok (fun f hf => hcalls f hf) _ a h _ z hk
    cases e with
    | normal => exact ⟨.normal, a1, h1, hk1, fun Bad φ0 h0 w0 φ w v Q h0n g ha hQ => wp_block (hto Bad φ0 h0 w0 φ w v _ h0n g ha hQ)⟩
    | ret => exact ⟨.ret, a1, h1, hk1, fun Bad φ0 h0 w0 φ w v Q h0n g ha hQ => wp_block (hto Bad φ0 h0 w0 φ w v _ h0n g ha hQ)⟩
    | exit id' =>
      simp only at hk1
      split at hk1
      · rename_i he
        refine ⟨.normal, a1, h1, hk1, fun Bad φ0 h0 w0 φ w v Q h0n g ha hQ => wp_block (hto Bad φ0 h0 w0 φ w v _ h0n g ha fun φ' w' v' g' ha' hd => ?_)⟩
        simp only [Ex.exit_, Exit.inBlock, if_pos he]
        exact hQ φ' w' v' g' ha' hd
      · rename_i he
        refine ⟨.exit id', a1, h1, hk1, fun Bad φ0 h0 w0 φ w v Q h0n g ha hQ => wp_block (hto Bad φ0 h0 w0 φ w v _ h0n g ha fun φ' w' v' g' ha' hd => ?_)⟩
        simp only [Ex.exit_, Exit.inBlock, if_neg he]
        exact hQ φ' w' v' g' ha' hd
  | .loop c, hok, hcalls, p, a, h, k, z, hk => by
    simp only [codeOk] at hok
    simp only [runCode] at hk
    obtain ⟨e, aF, hF, hz, hto⟩ := iter_to (C := C) (c := c) (hnorm p) (fun a h k z hk => code_to hm hnorm c hok (fun f hf => hcalls f hf) _ a h k z hk) fuel a h k z hk
    exact ⟨e, aF, hF, hz, fun Bad φ0 h0 w0 φ w v Q h0n g ha hQ => wp_loop_rounds fuel (hto Bad φ0 h0 w0 φ w v Q h0n g ha hQ)⟩
  | .scope _, hok, _, _, _, _, _, _, _ => by simp [codeOk] at hok
  | .goto _, hok, _, _, _, _, _, _, _ => by simp [codeOk] at hok
  | .refuse _, hok, _, _, _, _, _, _, _ => by simp [codeOk] at hok
  | .rangeFunc _ _ _ _, hok, _, _, _, _, _, _, _ => by simp [codeOk] at hok

end Go.Ph

/- Rows by other numbers: a part of the heap as a heap of its own, and back. -/
namespace Go.Ph
open Go.RowKit

/-- Where a number stands in a list. -/
def pos (id : Nat) : List Nat → Option Nat
  | [] => none
  | x :: t => bif Nat.beq x id then some 0 else (pos id t).map (· + 1)

theorem pos_get {id : Nat} : ∀ {L : List Nat} {j : Nat}, pos id L = some j → L[j]? = some id
  | [], j, h => by simp [pos] at h
  | x :: t, j, h => by
    simp only [pos] at h
    cases hx : Nat.beq x id with
    | true =>
      rw [hx] at h
      simp only [cond_true, Option.some.injEq] at h
      subst h
      simp [Nat.eq_of_beq_eq_true hx]
    | false =>
      rw [hx] at h
      simp only [cond_false] at h
      cases hp : pos id t with
      | none => rw [hp] at h; cases h
      | some q =>
        rw [hp] at h
        simp only [Option.map_some, Option.some.injEq] at h
        subst h
        simpa using pos_get hp

theorem pos_of_mem {id : Nat} : ∀ {L : List Nat}, id ∈ L → ∃ j, pos id L = some j
  | x :: t, h => by
    simp only [pos]
    cases hx : Nat.beq x id with
    | true => exact ⟨0, rfl⟩
    | false =>
      simp only [cond_false]
      rcases List.mem_cons.1 h with h1 | h1
      · subst h1; rw [Nat.beq_refl] at hx; cases hx
      · obtain ⟨j, hj⟩ := pos_of_mem h1
        exact ⟨j + 1, by rw [hj]; rfl⟩

theorem pos_none {id : Nat} {L : List Nat} (h : pos id L = none) : id ∉ L := fun hm => by
  obtain ⟨j, hj⟩ := pos_of_mem hm
  rw [h] at hj; cases hj

theorem nodup_get {L : List Nat} (hn : L.Nodup) {i j : Nat} {x : Nat} (hi : L[i]? = some x) (hj : L[j]? = some x) : i = j := by
  obtain ⟨h1, h2⟩ := List.getElem?_eq_some_iff.1 hi
  obtain ⟨h3, h4⟩ := List.getElem?_eq_some_iff.1 hj
  have hp := List.pairwise_iff_getElem.1 hn
  rcases Nat.lt_trichotomy i j with h | h | h
  · exact absurd (h2.trans h4.symm) (hp i j h1 h3 h)
  · exact h
  · exact absurd (h4.trans h2.symm) (hp j i h3 h1 h)

/-- Other numbers in a value; a row without a number makes it 'dead'. -/
def ren (f : Nat → Option Nat) : Nat → AV → AV
  | n, .ptr id i j => match f id with
    | some k => .ptr k i j
    | none => .dead
  | n, .own id => match f id with
    | some k => .own k
    | none => .dead
  | n, .ownp id off m => match f id with
    | some k => .ownp k off m
    | none => .dead
  | 0, .lits _ _ => .dead
  | 0, .lptr _ _ => .dead
  | 0, .agg _ => .dead
  | 0, .tuple _ => .dead
  | n + 1, .lits s cs => .lits s (cs.map (ren f n))
  | n + 1, .lptr cs j => .lptr (cs.map (ren f n)) j
  | n + 1, .agg cs => .agg (cs.map (ren f n))
  | n + 1, .tuple cs => .tuple (cs.map (ren f n))
  | n, v => v

theorem ren_sim {N N' : Nat → Prop} {φ φ' : Map} {nx nx' : Nat} {w w' : World} {f : Nat → Option Nat} (hN : ∀ b, N b → N' b ∧ w'.heap[b]? = w.heap[b]?)
    (hφ : ∀ id k, f id = some k → ∀ l, φ id = some l → φ' k = some l ∨ (φ' k = none ∧ k < nx')) (hd : ∀ id k, f id = some k → id < nx → φ id = none → φ' k = none ∧ k < nx') {c : AV} {v : Value}
    (h : Sim N φ nx w c v) : ∀ n, Sim N' φ' nx' w' (ren f n c) v := by
  induction h with
  | bool b => intro n; cases n <;> exact .bool b
  | int k x => intro n; cases n <;> exact .int k x
  | str s => intro n; cases n <;> exact .str s
  | nilp => intro n; cases n <;> exact .nilp
  | @ptrDead id i j b o h hx =>
    intro n
    cases hk : f id with
    | none => cases n <;> (simp only [ren, hk]; exact .dead)
    | some k => cases n <;> (simp only [ren, hk]; exact .ptrDead (hd _ _ hk hx h).1 (hd _ _ hk hx h).2)
  | @ptr id i j b o l h hl =>
    intro n
    cases hk : f id with
    | none => cases n <;> (simp only [ren, hk]; exact .dead)
    | some k =>
      rcases hφ _ _ hk _ h with h1 | h1
      · cases n <;> (simp only [ren, hk]; exact .ptr h1 hl)
      · cases n <;> (simp only [ren, hk]; exact .ptrDead h1.1 h1.2)
  | fel hb h => intro n; cases n <;> exact .fel (hN _ hb).1 (RepC.mono hN _ _ _ _ hb h)
  | nils => intro n; cases n <;> exact .nils
  | fz h => intro n; cases n <;> exact .fz (RepL.mono hN h)
  | @ownDead id m c a h hx =>
    intro n
    cases hk : f id with
    | none => cases n <;> (simp only [ren, hk]; exact .dead)
    | some k => cases n <;> (simp only [ren, hk]; exact .ownDead (hd _ _ hk hx h).1 (hd _ _ hk hx h).2)
  | @ownNil id l a h hl =>
    intro n
    cases hk : f id with
    | none => cases n <;> (simp only [ren, hk]; exact .dead)
    | some k =>
      rcases hφ _ _ hk _ h with h1 | h1
      · cases n <;> (simp only [ren, hk]; exact .ownNil h1 hl)
      · cases n <;> (simp only [ren, hk]; exact .ownDead h1.1 h1.2)
  | @own id b o l h hl =>
    intro n
    cases hk : f id with
    | none => cases n <;> (simp only [ren, hk]; exact .dead)
    | some k =>
      rcases hφ _ _ hk _ h with h1 | h1
      · cases n <;> (simp only [ren, hk]; exact .own h1 hl)
      · cases n <;> (simp only [ren, hk]; exact .ownDead h1.1 h1.2)
  | @ownpDead id off m c a h hx =>
    intro n
    cases hk : f id with
    | none => cases n <;> (simp only [ren, hk]; exact .dead)
    | some k => cases n <;> (simp only [ren, hk]; exact .ownpDead (hd _ _ hk hx h).1 (hd _ _ hk hx h).2)
  | @ownpNil id off l a h hl =>
    intro n
    cases hk : f id with
    | none => cases n <;> (simp only [ren, hk]; exact .dead)
    | some k =>
      rcases hφ _ _ hk _ h with h1 | h1
      · cases n <;> (simp only [ren, hk]; exact .ownpNil h1 hl)
      · cases n <;> (simp only [ren, hk]; exact .ownpDead h1.1 h1.2)
  | @ownp id off m c b o l a h hl hn hnc hc ha =>
    intro n
    cases hk : f id with
    | none => cases n <;> (simp only [ren, hk]; exact .dead)
    | some k =>
      rcases hφ _ _ hk _ h with h1 | h1
      · cases n <;> (simp only [ren, hk]; exact .ownp h1 hl hn hnc hc ha)
      · cases n <;> (simp only [ren, hk]; exact .ownpDead h1.1 h1.2)
  | @lits size m cs a hs hm h hv ih =>
    intro n
    cases n with
    | zero => exact .dead
    | succ n =>
      simp only [ren]
      refine .lits (by simpa using hs) hm (fun hn => ?_) (fun b o ha i c v hc hcell => ?_)
      · obtain ⟨b, o, ha, hb, hx⟩ := h hn
        refine ⟨b, o, ha, (hN b hb).1, fun i c hc => ?_⟩
        rw [List.getElem?_map] at hc
        cases hci : cs[i]? with
        | none => rw [hci] at hc; cases hc
        | some c' =>
          obtain ⟨v, hv⟩ := hx i c' hci
          exact ⟨v, by rw [cell_of_heap (hN b hb).2]; exact hv⟩
      · rw [List.getElem?_map] at hc
        cases hci : cs[i]? with
        | none => rw [hci] at hc; cases hc
        | some c' =>
          rw [hci] at hc
          simp only [Option.map_some, Option.some.injEq] at hc
          subst hc
          have hn : 0 < m := by
            rcases Nat.eq_zero_or_pos m with h0 | h0
            · subst h0
              have : cs.length = 0 := by omega
              have : cs = [] := List.eq_nil_of_length_eq_zero this
              subst this
              simp at hci
            · exact h0
          obtain ⟨b2, o2, ha2, hb, hx⟩ := h hn
          rw [ha] at ha2
          injection ha2 with ha2
          injection ha2 with e1 e2 _
          subst e1; subst e2
          exact ih b o ha i c' v hci (by rw [← cell_of_heap (hN b hb).2]; exact hcell) n
  | @lptr cs j b o hb hc hv ih =>
    intro n
    cases n with
    | zero => exact .dead
    | succ n =>
      simp only [ren]
      refine .lptr (hN _ hb).1 (fun i c h => ?_) (fun i c v h hcell => ?_)
      · rw [List.getElem?_map] at h
        cases hci : cs[i]? with
        | none => rw [hci] at h; cases h
        | some c' =>
          obtain ⟨v, hv⟩ := hc i c' hci
          exact ⟨v, by rw [cell_of_heap (hN _ hb).2]; exact hv⟩
      · rw [List.getElem?_map] at h
        cases hci : cs[i]? with
        | none => rw [hci] at h; cases h
        | some c' =>
          rw [hci] at h
          simp only [Option.map_some, Option.some.injEq] at h
          subst h
          exact ih i c' v hci (by rw [← cell_of_heap (hN _ hb).2]; exact hcell) n
  | @agg cs vs hn h ih =>
    intro n
    cases n with
    | zero => exact .dead
    | succ n =>
      simp only [ren]
      refine .agg (by simpa using hn) fun i c v hc hv => ?_
      rw [List.getElem?_map] at hc
      cases hci : cs[i]? with
      | none => rw [hci] at hc; cases hc
      | some c' =>
        rw [hci] at hc
        simp only [Option.map_some, Option.some.injEq] at hc
        subst hc
        exact ih i c' v hci hv n
  | @tuple cs vs hn h ih =>
    intro n
    cases n with
    | zero => exact .dead
    | succ n =>
      simp only [ren]
      refine .tuple (by simpa using hn) fun i c v hc hv => ?_
      rw [List.getElem?_map] at hc
      cases hci : cs[i]? with
      | none => rw [hci] at hc; cases hc
      | some c' =>
        rw [hci] at hc
        simp only [Option.map_some, Option.some.injEq] at hc
        subst hc
        exact ih i c' v hci hv n
  | fn q => intro n; cases n <;> exact .fn q
  | dead => intro n; cases n <;> exact .dead

/-- Other numbers in a row; every cell must keep its row. -/
def renRow (f : Nat → Option Nat) (n : Nat) : Row → Option Row
  | .typ τ l => some (.typ τ l)
  | .raw cs => bif (cs.map (ren f n)).all AV.single then some (.raw (cs.map (ren f n))) else none

theorem renRow_len {f : Nat → Option Nat} {n : Nat} {r r' : Row} (h : renRow f n r = some r') : r'.len = r.len ∧ r'.esz = r.esz := by
  cases r with
  | typ τ l => simp only [renRow, Option.some.injEq] at h; subst h; exact ⟨rfl, rfl⟩
  | raw cs =>
    simp only [renRow] at h
    cases hc : (cs.map (ren f n)).all AV.single with
    | false => rw [hc] at h; cases h
    | true =>
      rw [hc] at h
      simp only [cond_true, Option.some.injEq] at h
      subst h
      exact ⟨rfl, by simp [Row.esz]⟩

theorem ren_cell (f : Nat → Option Nat) (n : Nat) (τ : Ty) (x : τ.D) : ∀ c ∈ cellsOf τ x, ren f n c = c := by
  induction τ with
  | int k => intro c hc; simp [cellsOf] at hc; subst hc; cases n <;> rfl
  | bool => intro c hc; simp [cellsOf] at hc; subst hc; cases n <;> rfl
  | str => intro c hc; simp [cellsOf] at hc; subst hc; cases n <;> rfl
  | sl e ih => intro c hc; simp [cellsOf] at hc; subst hc; cases n <;> rfl
  | pair s t ihs iht =>
    intro c hc
    simp only [cellsOf, List.mem_append] at hc
    rcases hc with hc | hc
    · exact ihs _ c hc
    · exact iht _ c hc

/-- The cells of a row by other numbers. -/
theorem renRow_flat {f : Nat → Option Nat} {n : Nat} {r r' : Row} (h : renRow f n r = some r') {i : Nat} {c : AV} (hc : r'.flat[i]? = some c) : ∃ c', r.flat[i]? = some c' ∧ c = ren f n c' ∧ (c'.single = true → c.single = true) := by
  cases r with
  | typ τ l =>
    simp only [renRow, Option.some.injEq] at h
    subst h
    refine ⟨c, hc, ?_, fun h => h⟩
    have hm : c ∈ (l.flatMap (cellsOf τ)) := List.mem_of_getElem? hc
    obtain ⟨x, _, hx⟩ := List.mem_flatMap.1 hm
    exact (ren_cell f n τ x c hx).symm
  | raw cs =>
    simp only [renRow] at h
    cases ha : (cs.map (ren f n)).all AV.single with
    | false => rw [ha] at h; cases h
    | true =>
      rw [ha] at h
      simp only [cond_true, Option.some.injEq] at h
      subst h
      simp only [Row.flat] at hc ⊢
      have hs := List.all_eq_true.1 ha c (List.mem_of_getElem? hc)
      rw [List.getElem?_map] at hc
      cases hci : cs[i]? with
      | none => rw [hci] at hc; cases hc
      | some c' =>
        rw [hci] at hc
        simp only [Option.map_some, Option.some.injEq] at hc
        exact ⟨c', rfl, hc.symm, fun _ => hs⟩

end Go.Ph

/- A part of the heap as a heap of its own; loops' heads. -/
namespace Go.Ph
open Go.RowKit

def subRows (f : Nat → Option Nat) (n : Nat) (h : AH) : Nat → List Nat → Option (List (Nat × Row))
  | _, [] => some []
  | j, id :: t => match subRows f n h (j + 1) t with
    | none => none
    | some rs => match h.get id with
      | none => some rs
      | some r => match renRow f n r with
        | some r' => some ((j, r') :: rs)
        | none => none

theorem subRows_low {f : Nat → Option Nat} {n : Nat} {h : AH} : ∀ {L : List Nat} {j : Nat} {rs : List (Nat × Row)}, subRows f n h j L = some rs → ∀ k, k < j → look k rs = none
  | [], j, rs, hs, k, hk => by simp only [subRows, Option.some.injEq] at hs; subst hs; rfl
  | id :: t, j, rs, hs, k, hk => by
    simp only [subRows] at hs
    split at hs
    · cases hs
    · rename_i rs' hrs
      have ih := subRows_low hrs k (by omega)
      split at hs
      · simp only [Option.some.injEq] at hs; subst hs; exact ih
      · split at hs
        · simp only [Option.some.injEq] at hs; subst hs
          simp only [look, beq_ne (show j ≠ k by omega), cond_false]
          exact ih
        · cases hs

theorem subRows_get {f : Nat → Option Nat} {n : Nat} {h : AH} : ∀ {L : List Nat} {j : Nat} {rs : List (Nat × Row)}, subRows f n h j L = some rs → ∀ k id, L[k]? = some id →
    (h.get id = none → look (j + k) rs = none) ∧ ∀ r, h.get id = some r → ∃ r', renRow f n r = some r' ∧ look (j + k) rs = some r'
  | [], j, rs, hs, k, id, hk => by simp at hk
  | x :: t, j, rs, hs, k, id, hk => by
    simp only [subRows] at hs
    split at hs
    · cases hs
    · rename_i rs' hrs
      cases k with
      | zero =>
        simp only [List.getElem?_cons_zero, Option.some.injEq] at hk
        subst hk
        have low := subRows_low hrs j (by omega)
        split at hs
        · rename_i hg
          simp only [Option.some.injEq] at hs; subst hs
          exact ⟨fun _ => by simpa using low, fun r hr => by rw [hg] at hr; cases hr⟩
        · rename_i r hg
          split at hs
          · rename_i r' hr'
            simp only [Option.some.injEq] at hs; subst hs
            refine ⟨fun h0 => (by rw [hg] at h0; cases h0), fun r2 hr2 => ?_⟩
            rw [hg] at hr2
            simp only [Option.some.injEq] at hr2
            subst hr2
            exact ⟨r', hr', by simp [look]⟩
          · cases hs
      | succ k =>
        simp only [List.getElem?_cons_succ] at hk
        have ih := subRows_get hrs k id hk
        have hj : j + 1 + k = j + (k + 1) := by omega
        rw [hj] at ih
        split at hs
        · simp only [Option.some.injEq] at hs; subst hs; exact ih
        · split at hs
          · simp only [Option.some.injEq] at hs; subst hs
            simp only [look, beq_ne (show j ≠ j + (k + 1) by omega), cond_false]
            exact ih
          · cases hs

theorem subRows_high {f : Nat → Option Nat} {n : Nat} {h : AH} : ∀ {L : List Nat} {j : Nat} {rs : List (Nat × Row)}, subRows f n h j L = some rs → ∀ k, j + L.length ≤ k → look k rs = none
  | [], j, rs, hs, k, hk => by simp only [subRows, Option.some.injEq] at hs; subst hs; rfl
  | id :: t, j, rs, hs, k, hk => by
    simp only [List.length_cons] at hk
    simp only [subRows] at hs
    split at hs
    · cases hs
    · rename_i rs' hrs
      have ih := subRows_high hrs k (by omega)
      split at hs
      · simp only [Option.some.injEq] at hs; subst hs; exact ih
      · split at hs
        · simp only [Option.some.injEq] at hs; subst hs
          simp only [look, beq_ne (show j ≠ k by omega), cond_false]
          exact ih
        · cases hs

/-- The rows L alone, by their places in L. -/
def part (L : List Nat) (n : Nat) (h : AH) : Option AH :=
  match subRows (fun id => pos id L) n h 0 L with
  | some rs => some ⟨rs, L.length⟩
  | none => none

theorem part_spec {L : List Nat} {n : Nat} {h hc : AH} (hp : part L n h = some hc) : hc.next = L.length ∧ (∀ j, L.length ≤ j → hc.get j = none) ∧ ∀ j id, L[j]? = some id →
    (h.get id = none → hc.get j = none) ∧ ∀ r, h.get id = some r → ∃ r', renRow (fun id => pos id L) n r = some r' ∧ hc.get j = some r' := by
  unfold part at hp
  split at hp
  · rename_i rs hrs
    simp only [Option.some.injEq] at hp
    subst hp
    refine ⟨rfl, fun j hj => subRows_high hrs j (by omega), fun j id hj => ?_⟩
    have := subRows_get hrs j id hj
    rw [Nat.zero_add] at this
    exact this
  · cases hp

def mapOf (φ : Map) (L : List Nat) : Map := fun j => (L[j]?).bind φ

theorem mapOf_some {φ : Map} {L : List Nat} {j : Nat} {l : Loc} (h : mapOf φ L j = some l) : ∃ id, L[j]? = some id ∧ φ id = some l := by
  unfold mapOf at h
  cases hj : L[j]? with
  | none => rw [hj] at h; cases h
  | some id => rw [hj] at h; exact ⟨id, rfl, h⟩

theorem get_lt {L : List Nat} {j : Nat} {id : Nat} (h : L[j]? = some id) : j < L.length := (List.getElem?_eq_some_iff.1 h).1

theorem part_imm {Bad Bad' : Nat → Prop} {φ : Map} {w : World} {L : List Nat} (hB' : ∀ b, Bad' b → Bad b ∨ ∃ id l, φ id = some l ∧ l.in_ b ∧ id ∉ L) {b : Nat} (h : Imm Bad φ w b) : Imm Bad' (mapOf φ L) w b := by
  refine ⟨fun hb => ?_, h.2.1, fun j l hj hin => ?_⟩
  · rcases hB' b hb with h1 | ⟨id, l, h1, h2, _⟩
    · exact h.1 h1
    · exact h.2.2 id l h1 h2
  · obtain ⟨id, _, h2⟩ := mapOf_some hj
    exact h.2.2 id l h2 hin

theorem part_sim {Bad Bad' : Nat → Prop} {φ : Map} {w : World} {L : List Nat} {nx : Nat} (hB' : ∀ b, Bad' b → Bad b ∨ ∃ id l, φ id = some l ∧ l.in_ b ∧ id ∉ L) {c : AV} {v : Value}
    (h : Sim (Imm Bad φ w) φ nx w c v) (n : Nat) : Sim (Imm Bad' (mapOf φ L) w) (mapOf φ L) L.length w (ren (fun id => pos id L) n c) v := by
  refine ren_sim (fun b hb => ⟨part_imm hB' hb, rfl⟩) (fun id k hk l hl => ?_) (fun id k hk _ hn => ?_) h n
  · left
    unfold mapOf
    rw [pos_get hk]
    exact hl
  · refine ⟨?_, get_lt (pos_get hk)⟩
    unfold mapOf
    rw [pos_get hk]
    exact hn

theorem part_rel {Bad Bad' : Nat → Prop} {φ : Map} {h hc : AH} {w : World} {L : List Nat} {n : Nat} (hr : Rel Bad φ h w) (hL : L.Nodup) (hp : part L n h = some hc)
    (hB' : ∀ b, Bad' b → Bad b ∨ ∃ id l, φ id = some l ∧ l.in_ b ∧ id ∉ L) : Rel Bad' (mapOf φ L) hc w := by
  obtain ⟨hn, hhigh, hget⟩ := part_spec hp
  refine ⟨fun j r hj => ?_, fun b hb => ?_, fun j hj => ?_, fun j hj => ?_, fun j j' l l' b h1 h2 h3 h4 => ?_, fun j l b h1 h2 => ?_, fun j r l b o hj hl hat i c hc' => ?_⟩
  · rcases Nat.lt_or_ge j L.length with hlt | hge
    · have hLj : L[j]? = some L[j] := by simp [hlt]
      obtain ⟨h1, h2⟩ := hget j _ hLj
      cases hg : h.get L[j] with
      | none => rw [h1 hg] at hj; cases hj
      | some r0 =>
        obtain ⟨r', h3, h4⟩ := h2 r0 hg
        rw [h4] at hj
        simp only [Option.some.injEq] at hj
        subst hj
        obtain ⟨l, h5, h6⟩ := hr.live _ _ hg
        obtain ⟨e1, e2⟩ := renRow_len h3
        refine ⟨l, by unfold mapOf; rw [hLj]; exact h5, ⟨h6.len.trans e1.symm, h6.esz.trans e2.symm, h6.le, h6.max, h6.nowhere, h6.there⟩⟩
    · rw [hhigh j hge] at hj; cases hj
  · rcases hB' b hb with h1 | ⟨id, l, h1, h2, _⟩
    · exact hr.bad b h1
    · exact (hr.ok id l b h1 h2).2
  · unfold mapOf
    cases hLj : L[j]? with
    | none => rfl
    | some id =>
      obtain ⟨h1, h2⟩ := hget j id hLj
      cases hg : h.get id with
      | none => exact hr.gone id hg
      | some r0 =>
        obtain ⟨r', _, h4⟩ := h2 r0 hg
        rw [h4] at hj; cases hj
  · rw [hn] at hj
    unfold mapOf
    rw [List.getElem?_eq_none hj]
    rfl
  · obtain ⟨id, k1, k2⟩ := mapOf_some h1
    obtain ⟨id', k3, k4⟩ := mapOf_some h2
    have := hr.inj id id' l l' b k2 k4 h3 h4
    subst this
    exact nodup_get hL k1 k3
  · obtain ⟨id, k1, k2⟩ := mapOf_some h1
    obtain ⟨o1, o2⟩ := hr.ok id l b k2 h2
    refine ⟨fun hb => ?_, o2⟩
    rcases hB' b hb with h3 | ⟨id', l', h3, h4, h5⟩
    · exact o1 h3
    · have := hr.inj id id' l l' b k2 h3 h2 h4
      subst this
      exact h5 (List.mem_of_getElem? k1)
  · obtain ⟨id, k1, k2⟩ := mapOf_some hl
    obtain ⟨h1, h2⟩ := hget j id k1
    cases hg : h.get id with
    | none => rw [h1 hg] at hj; cases hj
    | some r0 =>
      obtain ⟨r', h3, h4⟩ := h2 r0 hg
      rw [h4] at hj
      simp only [Option.some.injEq] at hj
      subst hj
      obtain ⟨c', h5, rfl, h7⟩ := renRow_flat h3 hc'
      obtain ⟨v, h8, h9, h10⟩ := hr.cells id r0 l b o hg k2 hat i c' h5
      refine ⟨v, h8, h7 h9, ?_⟩
      rw [hn]
      exact part_sim hB' h10 n

def nodupB : List Nat → Bool
  | [] => true
  | x :: t => !t.any (Nat.beq x) && nodupB t

theorem nodupB_spec : ∀ {L : List Nat}, nodupB L = true → L.Nodup
  | [], _ => List.nodup_nil
  | x :: t, h => by
    simp only [nodupB, Bool.and_eq_true] at h
    refine List.nodup_cons.2 ⟨fun hm => ?_, nodupB_spec h.2⟩
    have : t.any (Nat.beq x) = true := List.any_eq_true.2 ⟨x, hm, Nat.beq_refl x⟩
    rw [this] at h
    exact absurd h.1 (by simp)

/-- The state with the rows that one comes to from the variables 'keep', in the order in which one comes to them. -/
def canon (n0 : Nat) (keep : List Nat) : Norm := fun a h =>
  let L := gather h 1000 (keep.flatMap (fun i => idsIn 3 (AV.at_ a i)) ++ (List.range n0).flatMap fun id => idsRow (h.get id)) (List.range n0)
  bif nodupB L then
    match part L 3 h with
    | some hc => some (Act'.keep keep (ren (fun id => pos id L) 3) a, hc)
    | none => none
  else none

theorem gather_pre (h : AH) : ∀ (n : Nat) (t acc : List Nat), ∃ s, gather h n t acc = acc ++ s
  | 0, t, acc => ⟨[], by simp [gather]⟩
  | n + 1, [], acc => ⟨[], by simp [gather]⟩
  | n + 1, id :: t, acc => by
    simp only [gather]
    cases acc.any (Nat.beq id) with
    | true => exact gather_pre h n t acc
    | false =>
      obtain ⟨s, hs⟩ := gather_pre h n (t ++ idsRow (h.get id)) (acc ++ [id])
      exact ⟨id :: s, by simp [hs]⟩

theorem canon_ok (n0 : Nat) (keep : List Nat) : NormOk n0 (canon n0 keep) := by
  intro a h a1 h1 hn Bad φ0 h0 w0 φ w y h0n g ha
  unfold canon at hn
  simp only at hn
  generalize hL : gather h 1000 (keep.flatMap (fun i => idsIn 3 (AV.at_ a i)) ++ (List.range n0).flatMap fun id => idsRow (h.get id)) (List.range n0) = L at hn
  cases hnd : nodupB L with
  | false => rw [hnd] at hn; cases hn
  | true =>
    rw [hnd] at hn
    simp only [cond_true] at hn
    split at hn
    · rename_i hc hp
      simp only [Option.some.injEq, Prod.mk.injEq] at hn
      obtain ⟨rfl, rfl⟩ := hn
      have hB : ∀ b, Bad b → Bad b ∨ ∃ id l, φ id = some l ∧ l.in_ b ∧ id ∉ L := fun b hb => .inl hb
      obtain ⟨s, hs⟩ := gather_pre h 1000 (keep.flatMap (fun i => idsIn 3 (AV.at_ a i)) ++ (List.range n0).flatMap fun id => idsRow (h.get id)) (List.range n0)
      rw [hL] at hs
      have hnext := (part_spec hp).1
      have hlow : ∀ i, i < n0 → L[i]? = some i := fun i hi => by
        rw [hs, List.getElem?_append_left (by simpa using hi)]
        simp [hi]
      refine ⟨mapOf φ L, ⟨part_rel g.rel (nodupB_spec hnd) hp hB, ⟨?_, g.evo.size, g.evo.keep, fun j l b hj hin => ?_, fun i hi => ?_, g.evo.os, g.evo.tape, g.evo.output⟩⟩, ⟨?_, fun t => ?_⟩⟩
      · rw [hnext, hs, h0n]; simp
      · obtain ⟨id, _, h3⟩ := mapOf_some hj
        exact g.evo.owned id l b h3 hin
      · have : mapOf φ L i = φ i := by unfold mapOf; rw [hlow i (by omega)]; rfl
        rw [this]
        exact g.evo.old i hi
      · exact ha.size
      · rw [hnext]
        rcases Act'.keep_at (ren (fun id => pos id L) 3) rfl a t keep with hm | hm
        · rw [hm]
          exact part_sim (Bad' := Bad) (L := L) hB (ha.tmps t) 3
        · rw [hm]
          exact .dead
    · cases hn

end Go.Ph

/- A call in a heap of its own: the frame. -/
namespace Go.Ph
open Go.RowKit

/-- The number behind a place: a row that was handed over, or a new one. -/
def backId (L : List Nat) (nx j : Nat) : Nat :=
  match L[j]? with
  | some id => id
  | none => nx + (j - L.length)

def backRows (g : Nat → Nat) (n : Nat) : List (Nat × Row) → Option (List (Nat × Row))
  | [] => some []
  | (j, r) :: t => match renRow (fun k => some (g k)) n r with
    | some r' => match backRows g n t with
      | some t' => some ((g j, r') :: t')
      | none => none
    | none => none

def dropAll (L : List Nat) : List (Nat × Row) → List (Nat × Row)
  | [] => []
  | (k, r) :: t => bif L.any (Nat.beq k) then dropAll L t else (k, r) :: dropAll L t

def back (L : List Nat) (n : Nat) (h hc : AH) : Option AH :=
  match backRows (backId L h.next) n hc.rows with
  | some rs => some ⟨rs ++ dropAll L h.rows, h.next + (hc.next - L.length)⟩
  | none => none

theorem any_beq {L : List Nat} {k : Nat} : L.any (Nat.beq k) = true ↔ k ∈ L := by
  rw [List.any_eq_true]
  exact ⟨fun ⟨x, h1, h2⟩ => by rw [Nat.eq_of_beq_eq_true h2]; exact h1, fun h => ⟨k, h, Nat.beq_refl k⟩⟩

theorem look_dropAll_in {L : List Nat} {k : Nat} (h : k ∈ L) : ∀ l, look k (dropAll L l) = none
  | [] => rfl
  | (x, r) :: t => by
    simp only [dropAll]
    cases hx : L.any (Nat.beq x) with
    | true => exact look_dropAll_in h t
    | false =>
      have : x ≠ k := fun e => by subst e; rw [any_beq.2 h] at hx; cases hx
      simp only [cond_false, look, beq_ne this, look_dropAll_in h t]

theorem look_dropAll_out {L : List Nat} {k : Nat} (h : k ∉ L) : ∀ l, look k (dropAll L l) = look k l
  | [] => rfl
  | (x, r) :: t => by
    simp only [dropAll]
    cases hx : L.any (Nat.beq x) with
    | true =>
      have : x ≠ k := fun e => by subst e; exact h (any_beq.1 hx)
      simp only [cond_true, look, beq_ne this, cond_false]
      exact look_dropAll_out h t
    | false => simp only [cond_false, look, look_dropAll_out h t]

theorem look_append (k : Nat) : ∀ (a b : List (Nat × Row)), look k (a ++ b) = (look k a).or (look k b)
  | [], b => by simp [look]
  | (x, r) :: t, b => by
    simp only [List.cons_append, look]
    cases Nat.beq x k with
    | true => simp
    | false => simp only [cond_false]; exact look_append k t b

theorem look_back_in {g : Nat → Nat} (hg : ∀ i j, g i = g j → i = j) {n : Nat} {j : Nat} : ∀ {l rs : List (Nat × Row)}, backRows g n l = some rs →
    (look j l = none → look (g j) rs = none) ∧ ∀ r, look j l = some r → ∃ r', renRow (fun k => some (g k)) n r = some r' ∧ look (g j) rs = some r'
  | [], rs, h => by
    simp only [backRows, Option.some.injEq] at h
    subst h
    exact ⟨fun _ => rfl, fun r h => by simp [look] at h⟩
  | (x, r) :: t, rs, h => by
    simp only [backRows] at h
    split at h
    · rename_i r' hr
      split at h
      · rename_i t' ht
        simp only [Option.some.injEq] at h
        subst h
        have ih := look_back_in hg (j := j) ht
        by_cases hx : x = j
        · subst hx
          simp only [look, Nat.beq_refl, cond_true]
          refine ⟨fun h => (by cases h), fun r2 h2 => ?_⟩
          simp only [Option.some.injEq] at h2
          subst h2
          exact ⟨r', hr, rfl⟩
        · have : g x ≠ g j := fun e => hx (hg _ _ e)
          simp only [look, beq_ne hx, beq_ne this, cond_false]
          exact ih
      · cases h
    · cases h

theorem look_back_out {g : Nat → Nat} {n : Nat} {k : Nat} (hk : ∀ j, g j ≠ k) : ∀ {l rs : List (Nat × Row)}, backRows g n l = some rs → look k rs = none
  | [], rs, h => by simp only [backRows, Option.some.injEq] at h; subst h; rfl
  | (x, r) :: t, rs, h => by
    simp only [backRows] at h
    split at h
    · split at h
      · rename_i t' ht
        simp only [Option.some.injEq] at h
        subst h
        simp only [look, beq_ne (hk x), cond_false]
        exact look_back_out hk ht
      · cases h
    · cases h

/-- The blocks that a called function must leave alone. -/
def badOf (Bad : Nat → Prop) (φ : Map) (L : List Nat) : Nat → Prop := fun b => Bad b ∨ ∃ id l, φ id = some l ∧ l.in_ b ∧ id ∉ L

section
variable {L : List Nat} {nx : Nat}

theorem backId_in {j id : Nat} (h : L[j]? = some id) : backId L nx j = id := by unfold backId; rw [h]
theorem backId_out {j : Nat} (h : L.length ≤ j) : backId L nx j = nx + (j - L.length) := by unfold backId; rw [List.getElem?_eq_none h]

theorem backId_inj (hL : L.Nodup) (hlt : ∀ id ∈ L, id < nx) : ∀ i j, backId L nx i = backId L nx j → i = j := by
  intro i j h
  rcases Nat.lt_or_ge i L.length with hi | hi
  · have hi' : L[i]? = some L[i] := by simp [hi]
    have h1 := hlt L[i] (by simp)
    rw [backId_in hi'] at h
    rcases Nat.lt_or_ge j L.length with hj | hj
    · have hj' : L[j]? = some L[j] := by simp [hj]
      rw [backId_in hj'] at h
      rw [h] at hi'
      exact nodup_get hL hi' hj'
    · rw [backId_out hj] at h; omega
  · rw [backId_out hi] at h
    rcases Nat.lt_or_ge j L.length with hj | hj
    · have hj' : L[j]? = some L[j] := by simp [hj]
      have h1 := hlt L[j] (by simp)
      rw [backId_in hj'] at h
      omega
    · rw [backId_out hj] at h; omega

/-- Where the rows lie behind the call. -/
def mapBack (φ φc : Map) (L : List Nat) (nx : Nat) : Map := fun id =>
  match pos id L with
  | some j => φc j
  | none => if id < nx then φ id else φc (id - nx + L.length)

theorem pos_nodup (hL : L.Nodup) {j id : Nat} (h : L[j]? = some id) : pos id L = some j := by
  obtain ⟨q, hq⟩ := pos_of_mem (List.mem_of_getElem? h)
  rw [hq, nodup_get hL (pos_get hq) h]

theorem mapBack_id (hL : L.Nodup) (hlt : ∀ id ∈ L, id < nx) (φ φc : Map) (j : Nat) : mapBack φ φc L nx (backId L nx j) = φc j := by
  rcases Nat.lt_or_ge j L.length with hj | hj
  · have hj' : L[j]? = some L[j] := by simp [hj]
    rw [backId_in hj']
    unfold mapBack
    rw [pos_nodup hL hj']
  · rw [backId_out hj]
    unfold mapBack
    have : pos (nx + (j - L.length)) L = none := by
      cases hp : pos (nx + (j - L.length)) L with
      | none => rfl
      | some q =>
        have := hlt _ (List.mem_of_getElem? (pos_get hp))
        omega
    rw [this]
    simp only
    rw [if_neg (by omega)]
    congr 1
    omega

theorem mapBack_old (φ φc : Map) {id : Nat} (h : id ∉ L) (hlt : id < nx) : mapBack φ φc L nx id = φ id := by
  unfold mapBack
  have : pos id L = none := by
    cases hp : pos id L with
    | none => rfl
    | some q => exact absurd (List.mem_of_getElem? (pos_get hp)) h
  rw [this]
  simp only
  rw [if_pos hlt]

/-- Every number is a place's, or an old row's that was not handed over. -/
theorem id_cases (hL : L.Nodup) (hlt : ∀ id ∈ L, id < nx) (id : Nat) : (∃ j, backId L nx j = id) ∨ (id ∉ L ∧ id < nx ∧ ∀ j, backId L nx j ≠ id) := by
  by_cases hm : id ∈ L
  · obtain ⟨j, hj⟩ := pos_of_mem hm
    exact .inl ⟨j, backId_in (pos_get hj)⟩
  · rcases Nat.lt_or_ge id nx with h | h
    · refine .inr ⟨hm, h, fun j hj => ?_⟩
      rcases Nat.lt_or_ge j L.length with h1 | h1
      · have hj' : L[j]? = some L[j] := by simp [h1]
        rw [backId_in hj'] at hj
        exact hm (hj ▸ List.mem_of_getElem? hj')
      · rw [backId_out h1] at hj; omega
    · refine .inl ⟨id - nx + L.length, ?_⟩
      rw [backId_out (by omega)]
      omega

end

theorem frame {Bad : Nat → Prop} {φ : Map} {h hc hc' h' : AH} {w w' : World} {L : List Nat} {n : Nat} {φc : Map} (hr : Rel Bad φ h w) (hL : L.Nodup) (hlt : ∀ id ∈ L, id < h.next) (hp : part L n h = some hc)
    (g : Goes (badOf Bad φ L) (mapOf φ L) hc w φc hc' w') (hb : back L n h hc' = some h') :
    Goes Bad φ h w (mapBack φ φc L h.next) h' w' ∧ ∀ c v m, Sim (Imm (badOf Bad φ L) φc w') φc hc'.next w' c v → Sim (Imm Bad (mapBack φ φc L h.next) w') (mapBack φ φc L h.next) h'.next w' (ren (fun k => some (backId L h.next k)) m c) v := by
  have hcn := (part_spec hp).1
  have inj := backId_inj (nx := h.next) hL hlt
  have mb := mapBack_id (nx := h.next) hL hlt φ φc
  have cs := id_cases (nx := h.next) hL hlt
  have hnn : L.length ≤ hc'.next := by rw [← hcn]; exact g.evo.next
  unfold back at hb
  split at hb
  · rename_i rs hrs
    simp only [Option.some.injEq] at hb
    subst hb
    -- the rows
    have getIn : ∀ j, (hc'.get j = none → AH.get ⟨rs ++ dropAll L h.rows, h.next + (hc'.next - L.length)⟩ (backId L h.next j) = none) ∧
        ∀ r, hc'.get j = some r → ∃ r', renRow (fun k => some (backId L h.next k)) n r = some r' ∧ AH.get ⟨rs ++ dropAll L h.rows, h.next + (hc'.next - L.length)⟩ (backId L h.next j) = some r' := by
      intro j
      obtain ⟨h1, h2⟩ := look_back_in inj (j := j) hrs
      refine ⟨fun h0 => ?_, fun r h0 => ?_⟩
      · simp only [AH.get, look_append]
        rw [h1 h0]
        simp only [Option.none_or]
        rcases Nat.lt_or_ge j L.length with hj | hj
        · have hj' : L[j]? = some L[j] := by simp [hj]
          rw [backId_in hj']
          exact look_dropAll_in (List.mem_of_getElem? hj') _
        · rw [backId_out hj]
          have hnm : h.next + (j - L.length) ∉ L := fun hm => by have := hlt _ hm; omega
          rw [look_dropAll_out hnm]
          cases hg : look (h.next + (j - L.length)) h.rows with
          | none => rfl
          | some r =>
            obtain ⟨l, hl, _⟩ := hr.live (h.next + (j - L.length)) r hg
            rw [hr.lt _ (by omega)] at hl
            cases hl
      · obtain ⟨r', h3, h4⟩ := h2 r h0
        refine ⟨r', h3, ?_⟩
        simp only [AH.get, look_append]
        rw [h4]
        rfl
    have getOut : ∀ id, id ∉ L → (∀ j, backId L h.next j ≠ id) → AH.get ⟨rs ++ dropAll L h.rows, h.next + (hc'.next - L.length)⟩ id = h.get id := by
      intro id h1 h2
      simp only [AH.get, look_append]
      rw [look_back_out h2 hrs, look_dropAll_out h1]
      rfl
    -- where they lie
    have split_ : ∀ id l, mapBack φ φc L h.next id = some l → (∃ j, backId L h.next j = id ∧ φc j = some l) ∨ (id ∉ L ∧ id < h.next ∧ (∀ j, backId L h.next j ≠ id) ∧ φ id = some l) := by
      intro id l hl
      rcases cs id with ⟨j, hj⟩ | ⟨h1, h2, h3⟩
      · subst hj; rw [mb] at hl; exact .inl ⟨j, rfl, hl⟩
      · rw [mapBack_old φ φc h1 h2] at hl; exact .inr ⟨h1, h2, h3, hl⟩
    have notboth : ∀ j lc id l b, φc j = some lc → lc.in_ b → id ∉ L → φ id = some l → l.in_ b → False := fun j lc id l b h1 h2 h3 h4 h5 =>
      (g.rel.ok j lc b h1 h2).1 (.inr ⟨id, l, h4, h5, h3⟩)
    have keepB : ∀ id l b, id ∉ L → φ id = some l → l.in_ b → w'.heap[b]? = w.heap[b]? := fun id l b h1 h2 h3 =>
      g.evo.keep b (hr.ok id l b h2 h3).2 fun j lc h4 h5 => by
        obtain ⟨id', k1, k2⟩ := mapOf_some h4
        have := hr.inj id' id lc l b k2 h2 h5 h3
        subst this
        exact h1 (List.mem_of_getElem? k1)
    have immB : ∀ b, Imm (badOf Bad φ L) φc w' b → Imm Bad (mapBack φ φc L h.next) w' b := by
      intro b hb
      refine ⟨fun hbad => hb.1 (.inl hbad), hb.2.1, fun id l hl hin => ?_⟩
      rcases split_ id l hl with ⟨j, _, h2⟩ | ⟨h1, _, _, h2⟩
      · exact hb.2.2 j l h2 hin
      · exact hb.1 (.inr ⟨id, l, h2, hin, h1⟩)
    have ev : Evo φ h.next w (mapBack φ φc L h.next) (h.next + (hc'.next - L.length)) w' := by
      refine ⟨Nat.le_add_right _ _, g.evo.size, fun b hb hno => g.evo.keep b hb fun j l hj hin => ?_, fun id l b hl hin => ?_, fun id hid => ?_, g.evo.os, g.evo.tape, g.evo.output⟩
      · obtain ⟨id, _, k2⟩ := mapOf_some hj
        exact hno id l k2 hin
      · rcases split_ id l hl with ⟨j, _, h2⟩ | ⟨_, _, _, h2⟩
        · rcases g.evo.owned j l b h2 hin with h3 | ⟨j0, l0, h3, h4⟩
          · exact .inl h3
          · obtain ⟨id0, _, k2⟩ := mapOf_some h3
            exact .inr ⟨id0, l0, k2, h4⟩
        · exact .inr ⟨id, l, h2, hin⟩
      · rcases cs id with ⟨j, hj⟩ | ⟨h1, h2, _⟩
        · subst hj
          rw [mb]
          rcases Nat.lt_or_ge j L.length with h1 | h1
          · have hj' : L[j]? = some L[j] := by simp [h1]
            rw [backId_in hj']
            rcases g.evo.old j (by omega) with h2 | h2
            · rw [h2]; left; unfold mapOf; rw [hj']; rfl
            · exact .inr h2
          · rw [backId_out h1] at hid; omega
        · exact .inl (mapBack_old φ φc h1 h2)
    have simC : ∀ c v m, Sim (Imm (badOf Bad φ L) φc w') φc hc'.next w' c v → Sim (Imm Bad (mapBack φ φc L h.next) w') (mapBack φ φc L h.next) (h.next + (hc'.next - L.length)) w' (ren (fun k => some (backId L h.next k)) m c) v := by
      intro c v m hs
      refine ren_sim (fun b hb => ⟨immB b hb, rfl⟩) (fun id k hk l hl => ?_) (fun id k hk hlt' hn => ?_) hs m
      · simp only [Option.some.injEq] at hk
        subst hk
        left
        rw [mb]
        exact hl
      · simp only [Option.some.injEq] at hk
        subst hk
        rw [mb]
        refine ⟨hn, ?_⟩
        rcases Nat.lt_or_ge id L.length with h1 | h1
        · have hj' : L[id]? = some L[id] := by simp [h1]
          rw [backId_in hj']
          have := hlt L[id] (by simp)
          omega
        · rw [backId_out h1]; omega
    refine ⟨⟨⟨fun id r hg => ?_, fun b hb => ?_, fun id hg => ?_, fun id hid => ?_, fun id id' l l' b h1 h2 h3 h4 => ?_, fun id l b h1 h2 => ?_, fun id r l b o hg hl hat i c hc1 => ?_⟩, ev⟩, simC⟩
    · rcases cs id with ⟨j, hj⟩ | ⟨h1, h2, h3⟩
      · subst hj
        obtain ⟨k1, k2⟩ := getIn j
        cases hgc : hc'.get j with
        | none => rw [k1 hgc] at hg; cases hg
        | some r0 =>
          obtain ⟨r', k3, k4⟩ := k2 r0 hgc
          rw [k4] at hg
          simp only [Option.some.injEq] at hg
          subst hg
          obtain ⟨l, k5, k6⟩ := g.rel.live j r0 hgc
          obtain ⟨e1, e2⟩ := renRow_len k3
          exact ⟨l, by rw [mb]; exact k5, ⟨k6.len.trans e1.symm, k6.esz.trans e2.symm, k6.le, k6.max, k6.nowhere, k6.there⟩⟩
      · rw [getOut id h1 h3] at hg
        obtain ⟨l, k5, k6⟩ := hr.live id r hg
        refine ⟨l, by rw [mapBack_old φ φc h1 h2]; exact k5, ⟨k6.len, k6.esz, k6.le, k6.max, k6.nowhere, fun b o hat => ?_⟩⟩
        obtain ⟨c, e, fr, k7, k8, k9⟩ := k6.there b o hat
        have hk := keepB id l b h1 k5 ⟨o, hat⟩
        refine ⟨c, e, fr, by rw [hk]; exact k7, k8, fun k hk' => ?_⟩
        have := k9 k hk'
        unfold World.frozen? at this ⊢
        simp only at this ⊢
        rw [hk]
        exact this
    · exact Nat.lt_of_lt_of_le (hr.bad b hb) g.evo.size
    · rcases cs id with ⟨j, hj⟩ | ⟨h1, h2, h3⟩
      · subst hj
        rw [mb]
        obtain ⟨k1, k2⟩ := getIn j
        cases hgc : hc'.get j with
        | none => exact g.rel.gone j hgc
        | some r0 =>
          obtain ⟨r', k3, k4⟩ := k2 r0 hgc
          rw [k4] at hg; cases hg
      · rw [getOut id h1 h3] at hg
        rw [mapBack_old φ φc h1 h2]
        exact hr.gone id hg
    · have hid' : h.next + (hc'.next - L.length) ≤ id := hid
      rcases cs id with ⟨j, hj⟩ | ⟨h1, h2, h3⟩
      · subst hj
        rw [mb]
        refine g.rel.lt j ?_
        rcases Nat.lt_or_ge j L.length with h1 | h1
        · have hj' : L[j]? = some L[j] := by simp [h1]
          rw [backId_in hj'] at hid'
          have := hlt L[j] (by simp)
          omega
        · rw [backId_out h1] at hid'; omega
      · omega
    · rcases split_ id l h1 with ⟨j, k1, k2⟩ | ⟨k1, _, _, k2⟩
      · rcases split_ id' l' h2 with ⟨j', k3, k4⟩ | ⟨k3, _, _, k4⟩
        · have := g.rel.inj j j' l l' b k2 k4 h3 h4
          subst this
          exact k1.symm.trans k3
        · exact (notboth j l id' l' b k2 h3 k3 k4 h4).elim
      · rcases split_ id' l' h2 with ⟨j', k3, k4⟩ | ⟨k3, _, _, k4⟩
        · exact (notboth j' l' id l b k4 h4 k1 k2 h3).elim
        · exact hr.inj id id' l l' b k2 k4 h3 h4
    · rcases split_ id l h1 with ⟨j, k1, k2⟩ | ⟨k1, _, _, k2⟩
      · obtain ⟨o1, o2⟩ := g.rel.ok j l b k2 h2
        exact ⟨fun hb => o1 (.inl hb), o2⟩
      · obtain ⟨o1, o2⟩ := hr.ok id l b k2 h2
        exact ⟨o1, Nat.lt_of_lt_of_le o2 g.evo.size⟩
    · rcases split_ id l hl with ⟨j, k1, k2⟩ | ⟨k1, _, k0, k2⟩
      · subst k1
        obtain ⟨q1, q2⟩ := getIn j
        cases hgc : hc'.get j with
        | none => rw [q1 hgc] at hg; cases hg
        | some r0 =>
          obtain ⟨r', k3, k4⟩ := q2 r0 hgc
          rw [k4] at hg
          simp only [Option.some.injEq] at hg
          subst hg
          obtain ⟨c', h5, rfl, h7⟩ := renRow_flat k3 hc1
          obtain ⟨v, h8, h9, h10⟩ := g.rel.cells j r0 l b o hgc k2 hat i c' h5
          exact ⟨v, h8, h7 h9, simC _ _ _ h10⟩
      · rw [getOut id k1 k0] at hg
        obtain ⟨v, h8, h9, h10⟩ := hr.cells id r l b o hg k2 hat i c hc1
        refine ⟨v, ?_, h9, ev.sim hr.id_lt h10⟩
        rw [cell_of_heap (keepB id l b k1 k2 ⟨o, hat⟩)]
        exact h8
  · cases hb

end Go.Ph

/- Functions. -/
namespace Go.Ph
open Go.RowKit

abbrev Spec := List AV → AH → (Z : Type) → (AV → AH → Option Z) → Option Z

/-- What is taken for a function is so. -/
structure SpecTo (P : Program) (f : Nat) (S : Spec) (quiet tame : Bool) : Prop where
  to_ : ∀ (args : List AV) (h : AH) (Z : Type) (k : AV → AH → Option Z) (z : Z), S args h Z k = some z → ∃ r h', k r h' = some z ∧ h.next ≤ h'.next ∧ (quiet = true → h' = h ∧ ∀ h2 : AH, FnTo P f args h2 r h2) ∧ (tame = true → Keeps (reach h args) h h') ∧ FnTo P f args h r h'

structure Entry where
  f : Nat
  spec : Spec
  quiet : Bool
  tame : Bool

def find (f : Nat) : List Entry → Option Entry
  | [] => none
  | e :: t => bif Nat.beq e.f f then some e else find f t

theorem find_mem {f : Nat} : ∀ {l : List Entry} {e : Entry}, find f l = some e → e ∈ l ∧ e.f = f
  | [], e, h => by cases h
  | x :: t, e, h => by
    simp only [find] at h
    cases hx : Nat.beq x.f f with
    | true =>
      rw [hx] at h
      simp only [cond_true, Option.some.injEq] at h
      subst h
      exact ⟨by simp, Nat.eq_of_beq_eq_true hx⟩
    | false =>
      rw [hx] at h
      obtain ⟨h1, h2⟩ := find_mem h
      exact ⟨by simp [h1], h2⟩

/-- The functions that one knows. -/
def ctxOf (P : Program) (tbl : List Entry) (ann : List Nat) : Ctx where
  P := P
  env f args h Z k := match find f tbl with
    | some e => e.spec args h Z k
    | none => none
  quiet f := match find f tbl with
    | some e => e.quiet
    | none => false
  tame f := match find f tbl with
    | some e => e.tame
    | none => false
  ann t := ann.any (Nat.beq t)

def TblOk (P : Program) (tbl : List Entry) : Prop := ∀ e ∈ tbl, SpecTo P e.f e.spec e.quiet e.tame

/-- Is it a function with a body that may be called? -/
def hasBody (P : Program) (f : Nat) : Bool :=
  match P.funcs[f]? with
  | some fn => !fn.body.isNone && !(fn.name == "runtime.NumGoroutine")
  | none => false

theorem env_ok {P : Program} {tbl : List Entry} {ann : List Nat} (ht : TblOk P tbl) {f : Nat} (hb : hasBody P f = true) : EnvOk (ctxOf P tbl ann) f := by
  refine ⟨?_, fun args h Z k z hk => ?_⟩
  · unfold hasBody at hb
    split at hb
    · rename_i fn hf
      simp only [Bool.and_eq_true, Bool.not_eq_true'] at hb
      exact ⟨fn, hf, hb.1, hb.2⟩
    · cases hb
  · unfold ctxOf at hk
    simp only at hk
    split at hk
    · rename_i e he
      obtain ⟨h1, h2⟩ := find_mem he
      subst h2
      obtain ⟨r, h', k1, k2, k3, k5, k4⟩ := (ht e h1).to_ args h Z k z hk
      refine ⟨r, h', k1, k2, fun hq => k3 ?_, fun hq => k5 ?_, k4⟩
      · unfold ctxOf at hq
        simp only [he] at hq
        exact hq
      · unfold ctxOf at hq
        simp only [he] at hq
        exact hq
    · cases hk

/-- How a result variable is read. -/
def readVar (tmps : Array Value) : ResultVar → Sem Value
  | .tmp t => pure (tmps.getD t undef)
  | .cell q t => do loadVar t (← asAddr (tmps.getD q undef))

theorem results_eq (fn : Func) (tmps : Array Value) : results fn tmps = (do
    let vs ← fn.results.mapM (readVar tmps)
    pure (if h : vs.size = 1 then vs[0] else .tuple vs)) := by
  unfold results
  congr 1

/-- What a result variable holds. -/
def resOne (P : Program) (a : Act') (h : AH) : ResultVar → Option AV
  | .tmp t => some (AV.at_ a t)
  | .cell x t => match AV.at_ a x with
    | .ptr id i j => match h.get id with
      | some (.raw cs) => if i = 0 then partOf P t cs j else none
      | _ => none
    | _ => none

def resAll (P : Program) (a : Act') (h : AH) : List ResultVar → Option (List AV)
  | [] => some []
  | x :: t => match resOne P a h x with
    | some v => match resAll P a h t with
      | some vs => some (v :: vs)
      | none => none
    | none => none

def resK (P : Program) (fn : Func) (a : Act') (h : AH) : Option AV :=
  match resAll P a h fn.results.toList with
  | some [v] => some v
  | some vs => some (.tuple vs)
  | none => none

/-- A function's body, run. -/
def runFn (C : Ctx) (norm : Nat → Nat → Norm) (fuel : Nat) (fn : Func) : Spec := fun args h Z k =>
  match fn.body with
  | some c => bif Nat.ble fn.ntmps 512 && Nat.ble args.length fn.ntmps then runCode C (norm h.next) fuel 1 c (Act'.init args fn.ntmps) h fun e a h' => match e with
    | .exit _ => none
    | _ => match resK C.P fn a h' with
      | some r => bif Nat.ble h.next h'.next then k r h' else none
      | none => none
    else none
  | none => none

theorem resOne_to {P : Program} {Bad : Nat → Prop} {φ : Map} {h : AH} {w : World} {a : Act'} {y : Act} (hr : Rel Bad φ h w) (ha : ActSim (Imm Bad φ w) φ h.next w a y) {x : ResultVar} {v : AV} (hv : resOne P a h x = some v) :
    ∃ u, (readVar y.tmps x).run P w = .ok u w ∧ Sim (Imm Bad φ w) φ h.next w v u := by
  cases x with
  | tmp t =>
    simp only [resOne, Option.some.injEq] at hv
    subst hv
    exact ⟨_, rfl, ha.tmps t⟩
  | cell q t =>
    simp only [resOne] at hv
    split at hv
    · rename_i id i j hp
      split at hv
      · rename_i cs hg
        split at hv
        · rename_i hi
          subst hi
          have hs := ha.tmps q
          rw [hp] at hs
          obtain ⟨l, hl, hf⟩ := hr.live id _ hg
          simp only [readVar]
          generalize y.tmps.getD q undef = u at hs ⊢
          cases hs with
          | ptrDead h1 _ => rw [h1] at hl; cases hl
          | @ptr _ _ _ b o l' h1 h4 =>
            rw [h1] at hl
            simp only [Option.some.injEq] at hl
            subst hl
            obtain ⟨u, h5, h6⟩ := run_load (P := P) (b := b) (o := o) (w := w) hv (fun i x hx => by
              obtain ⟨v, h7, _, h8⟩ := hr.cells id _ l' b o hg h1 h4 i x hx
              exact ⟨v, h7, h8⟩)
            refine ⟨u, ?_, h6⟩
            have hz : o + (0 * l'.esz + j) = o + j := by simp
            rw [hz]
            simp only [Sem.run_bind]
            have : (asAddr (.pointer (some ⟨b, o + j, none⟩))).run P w = .ok ⟨b, o + j, none⟩ w := by simp [asAddr]
            rw [this]
            exact h5
        · cases hv
      · cases hv
    · cases hv

theorem resAll_to {P : Program} {Bad : Nat → Prop} {φ : Map} {h : AH} {w : World} {a : Act'} {y : Act} (hr : Rel Bad φ h w) (ha : ActSim (Imm Bad φ w) φ h.next w a y) : ∀ {l : List ResultVar} {vs : List AV}, resAll P a h l = some vs →
    ∃ us, (l.mapM (readVar y.tmps)).run P w = .ok us w ∧ VCells (Imm Bad φ w) φ h.next w vs us
  | [], vs, hv => by
    simp only [resAll, Option.some.injEq] at hv
    subst hv
    exact ⟨[], rfl, rfl, fun i c v hc => (by simp at hc)⟩
  | x :: t, vs, hv => by
    simp only [resAll] at hv
    split at hv
    · rename_i v hx
      split at hv
      · rename_i vs' ht
        simp only [Option.some.injEq] at hv
        subst hv
        obtain ⟨u, h1, h2⟩ := resOne_to (P := P) hr ha hx
        obtain ⟨us, h3, h4⟩ := resAll_to hr ha ht
        refine ⟨u :: us, ?_, VCells.cons h2 h4⟩
        rw [List.mapM_cons, Sem.run_bind, h1]
        simp only [Result.andThen, Sem.run_bind, h3]
        rfl
      · cases hv
    · cases hv

theorem resK_to {P : Program} {fn : Func} {Bad : Nat → Prop} {φ : Map} {h : AH} {w : World} {a : Act'} {y : Act} (hr : Rel Bad φ h w) (ha : ActSim (Imm Bad φ w) φ h.next w a y) {r : AV} (hv : resK P fn a h = some r) :
    ∃ u, (results fn y.tmps).run P w = .ok u w ∧ Sim (Imm Bad φ w) φ h.next w r u := by
  have key : ∀ vs, resAll P a h fn.results.toList = some vs → ∃ us, (results fn y.tmps).run P w = .ok (if h : us.toArray.size = 1 then us.toArray[0] else .tuple us.toArray) w ∧ VCells (Imm Bad φ w) φ h.next w vs us := by
    intro vs hvs
    obtain ⟨us, h1, h2⟩ := resAll_to (P := P) hr ha hvs
    refine ⟨us, ?_, h2⟩
    rw [results_eq, Array.mapM_eq_mapM_toList, Sem.run_bind, Sem.run_map, h1]
    rfl
  unfold resK at hv
  split at hv
  · rename_i v hvs
    simp only [Option.some.injEq] at hv
    subst hv
    obtain ⟨us, h1, h2⟩ := key _ hvs
    obtain ⟨u, rfl, h3⟩ := one_cell h2
    exact ⟨u, by simpa using h1, h3⟩
  · rename_i vs hne hvs
    simp only [Option.some.injEq] at hv
    subst hv
    obtain ⟨us, h1, h2⟩ := key _ hvs
    refine ⟨.tuple us.toArray, ?_, .tuple (by simpa using h2.1) fun i c v hc hv => h2.2 i c v hc (by simpa using hv)⟩
    have hlen : ¬ us.toArray.size = 1 := by
      intro h1
      have : vs.length = 1 := by rw [h2.1]; simpa using h1
      obtain ⟨v, rfl⟩ := List.length_eq_one_iff.1 this
      exact hne v rfl
    rw [dif_neg hlen] at h1
    exact h1
  · cases hv

/-- A function's body, run, is what a call comes to. -/
theorem run_ok {P : Program} {tbl : List Entry} {ann : List Nat} {norm : Nat → Nat → Norm} {fuel f : Nat} {fn : Func} {c : Code} (hm : P.follows .mixedOrders = true) (ht : TblOk P tbl) (hf : P.funcs[f]? = some fn) (hb : fn.body = some c)
    (hc : codeOk (ctxOf P tbl ann) c = true) (hcalls : (callsOf c).all (hasBody P) = true) (hnorm : ∀ n p, NormOk n (norm n p)) : SpecTo P f (runFn (ctxOf P tbl ann) norm fuel fn) false false := by
  refine ⟨fun args h Z k z hk => ?_⟩
  unfold runFn at hk
  rw [hb] at hk
  simp only at hk
  cases hsz : (Nat.ble fn.ntmps 512 && Nat.ble args.length fn.ntmps) with
  | false => rw [hsz] at hk; cases hk
  | true =>
  rw [hsz, cond_true] at hk
  rw [Bool.and_eq_true] at hsz
  have hs1 : fn.ntmps ≤ 512 := Nat.le_of_ble_eq_true hsz.1
  have hs2 : args.length ≤ fn.ntmps := Nat.le_of_ble_eq_true hsz.2
  obtain ⟨e, aF, hF, hz, hto⟩ := code_to (n0 := h.next) hm (hnorm h.next) c hc (fun g hg => env_ok ht (List.all_eq_true.1 hcalls g hg)) 1 _ h _ z hk
  have fin : e = .normal ∨ e = .ret → ∀ r, resK P fn aF hF = some r → FnTo P f args h r hF := by
    intro he r hr Bad φ w vs hrel hvs
    refine calls_of_wp hf hb ?_
    refine hto Bad φ h w φ w _ _ rfl (.refl hrel) ⟨?_, fun t => ?_⟩ fun φ' w' y' g ha hd => ?_
    · have := hvs.1
      have h2 : args.length = vs.size := by rw [this]; simp
      have h3 : (Act'.init args fn.ntmps).length = fn.ntmps := by
        unfold Act'.length
        have : Nat.ble (Act'.init args fn.ntmps).n 512 = true := Nat.ble_eq_true_of_le hs1
        rw [this]
        rfl
      rw [h3]
      simp only [Array.size_append, Array.size_replicate]
      omega
    · have hlen : args.length = vs.size := by rw [hvs.1]; simp
      rw [Act'.init_at hs1 hs2]
      by_cases h1 : t < args.length
      · have e1 : args.getD t .dead = args[t] := by simp [List.getD, h1]
        have e2 : (vs ++ Array.replicate (fn.ntmps - vs.size) undef).getD t undef = vs[t]'(by omega) := by
          rw [Array.getD_eq_getD_getElem?, Array.getElem?_append_left (by omega)]
          simp [show t < vs.size by omega]
        rw [e1, e2]
        exact hvs.2 t _ _ (by simp [h1]) (by simp [show t < vs.size by omega])
      · have e1 : args.getD t .dead = .dead := by
          rw [List.getD_eq_getElem?_getD, List.getElem?_eq_none (by omega)]
          rfl
        rw [e1]
        exact .dead
    · obtain ⟨u, h1, h2⟩ := resK_to (P := P) (fn := fn) g.rel ha hr
      have hd' : y'.defers = [] := hd
      rcases he with rfl | rfl
      · exact bodyPost_end h1 hd' ⟨φ', u, rfl, g, h2⟩
      · exact bodyPost_ret h1 hd' ⟨φ', u, rfl, g, h2⟩
  have leave : ∀ (he : e = .normal ∨ e = .ret), (match resK P fn aF hF with | some r => bif Nat.ble h.next hF.next then k r hF else none | none => none) = some z → ∃ r h', k r h' = some z ∧ h.next ≤ h'.next ∧ (false = true → h' = h ∧ ∀ h2 : AH, FnTo P f args h2 r h2) ∧ (false = true → Keeps (reach h args) h h') ∧ FnTo P f args h r h' := by
    intro he hz
    split at hz
    · rename_i r hr
      cases hn : Nat.ble h.next hF.next with
      | false => rw [hn] at hz; cases hz
      | true =>
        rw [hn] at hz
        exact ⟨r, hF, hz, Nat.le_of_ble_eq_true hn, fun h => (by cases h), fun h => (by cases h), fin he r hr⟩
    · cases hz
  cases e with
  | normal => exact leave (.inl rfl) hz
  | ret => exact leave (.inr rfl) hz
  | exit id => cases hz

theorem norm_id (n : Nat) : NormOk n fun a h => some (a, h) := by
  intro a h a1 h1 hn Bad φ0 h0 w0 φ w y h0n g ha
  simp only [Option.some.injEq, Prod.mk.injEq] at hn
  obtain ⟨rfl, rfl⟩ := hn
  exact ⟨φ, g, ha⟩

end Go.Ph

end
