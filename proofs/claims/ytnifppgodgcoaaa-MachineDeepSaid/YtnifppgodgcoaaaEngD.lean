/- An evaluator of the given program's form, and that it is sound: part 4. -/
import Derived.Test.YtnifppgodgcoaaaEngC
set_option linter.unusedVariables false
noncomputable section
/- append. -/
namespace Go.Ph
open Go.RowKit

/-- A list's cells lie in a row from a cell on. -/
theorem row_vals {w : World} {b o n : Nat} (h : ∀ i, i < n → ∃ v, w.cell? ⟨b, o + i, none⟩ = some v) :
    ∃ vs : List Value, vs.length = n ∧ ∀ i v, vs[i]? = some v → w.cell? ⟨b, o + i, none⟩ = some v := by
  refine ⟨(List.range n).map fun i => (w.cell? ⟨b, o + i, none⟩).getD undef, by simp, fun i v hv => ?_⟩
  rw [List.getElem?_map] at hv
  rcases Nat.lt_or_ge i n with hi | hi
  · rw [List.getElem?_range hi] at hv
    obtain ⟨u, hu⟩ := h i hi
    simp only [Option.map_some, Option.some.injEq, hu, Option.getD_some] at hv
    rw [hu, hv]
  · rw [List.getElem?_eq_none (by simpa using hi)] at hv; cases hv

/-- The first cells of a slice, in whatever world with this heap. -/
def Firsts (P : Program) (w : World) (size n : Nat) (v : Value) (vs : List Value) : Prop :=
  vs.length = n * size ∧ ∀ w', w'.heap = w.heap → (Builtin.firstCells size n v).run P w' = .ok vs.toArray w'

theorem firsts_some {P : Program} {w : World} {size n b o len cap : Nat} {vs : List Value} (hl : vs.length = n * size) (h : ∀ i v, vs[i]? = some v → w.cell? ⟨b, o + i, none⟩ = some v) :
    Firsts P w size n (.slice (some ⟨b, o, none⟩) len cap) vs :=
  ⟨hl, fun w' hw => run_firstCells_some (P := P) w' size n _ len cap vs hl (fun j v hv => by
    rw [addp]
    have := h j v hv
    simpa [World.cell?, hw] using this)⟩

theorem firsts_nil {P : Program} {w : World} {size : Nat} {a : Option Addr} {len cap : Nat} : Firsts P w size 0 (.slice a len cap) [] := by
  refine ⟨by simp, fun w' _ => ?_⟩
  cases a with
  | none => simp [Builtin.firstCells]
  | some a => simp [Builtin.firstCells, loadCells, loadCellsFrom]

/-- What a list that is never written holds. -/
theorem RepL.firsts {P : Program} {N : Nat → Prop} {φ : Map} {nx : Nat} {w : World} {τ : Ty} {l : List τ.D} {ex : Bool} {v : Value} (hr : RepL N w τ l ex v) :
    ∃ a c vs, v = .slice a l.length c ∧ l.length ≤ c ∧ (ex = true → c = l.length) ∧ Firsts P w τ.size l.length v vs ∧ VCells N φ nx w (l.flatMap (cellsOf τ)) vs := by
  obtain ⟨a, n, c, rfl, rfl, r3, r4, r5, r6⟩ := hr
  rcases Nat.eq_zero_or_pos l.length with h0 | h0
  · have : l = [] := List.eq_nil_of_length_eq_zero h0
    subst this
    exact ⟨a, c, [], rfl, r3, r5, firsts_nil, rfl, fun i c v hc => by simp at hc⟩
  · obtain ⟨b, o, rfl, hb, hrep⟩ := r6 h0
    have cell : ∀ i c, (l.flatMap (cellsOf τ))[i]? = some c → ∃ v, w.cell? ⟨b, o + i, none⟩ = some v ∧ Sim N φ nx w c v := by
      intro i c hc
      have hp := τ.size_pos
      have hm := Nat.mod_lt i hp
      have e : i = (i / τ.size) * τ.size + i % τ.size := by rw [Nat.mul_comm]; exact (Nat.div_add_mod i τ.size).symm
      rw [e, flat_typ_get _ _ _ _ hm] at hc
      cases hx : l[i / τ.size]? with
      | none => rw [hx] at hc; simp at hc
      | some x =>
        rw [hx] at hc
        simp only [Option.bind_some] at hc
        obtain ⟨v, h1, h2⟩ := RepC.cells (φ := φ) (nx := nx) τ x b _ (hrep _ x hx) _ c hc
        rw [Nat.add_assoc, ← e] at h1
        exact ⟨v, h1, h2⟩
    have hlen := flat_typ_length τ l
    obtain ⟨vs, v1, v2⟩ := row_vals (w := w) (b := b) (o := o) (n := l.length * τ.size) (fun i hi => by
      rw [← hlen] at hi
      obtain ⟨v, h1, _⟩ := cell i (l.flatMap (cellsOf τ))[i] (by simp [hi])
      exact ⟨v, h1⟩)
    refine ⟨_, c, vs, rfl, r3, r5, firsts_some v1 v2, by rw [hlen, v1], fun i c v hc hv => ?_⟩
    obtain ⟨u, h1, h2⟩ := cell i c hc
    rw [v2 i v hv] at h1
    simp only [Option.some.injEq] at h1
    exact h1 ▸ h2

/-- What a row of one's own holds, from an element on. -/
theorem Rel.rowVals {P : Program} {Bad : Nat → Prop} {φ : Map} {h : AH} {w : World} (hr : Rel Bad φ h w) {id : Nat} {τ : Ty} {l : List τ.D} (hg : h.get id = some (.typ τ l)) {lc : Loc} (hl : φ id = some lc) {b o : Nat} (hat : lc.at_ = some (b, o)) (off n len cap : Nat) (hn : off + n ≤ l.length) :
    ∃ vs, Firsts P w τ.size n (.slice (some ⟨b, o + off * τ.size, none⟩) len cap) vs ∧ VCells (Imm Bad φ w) φ h.next w (((l.drop off).take n).flatMap (cellsOf τ)) vs := by
  have cell : ∀ i c, (((l.drop off).take n).flatMap (cellsOf τ))[i]? = some c → ∃ v, w.cell? ⟨b, o + off * τ.size + i, none⟩ = some v ∧ Sim (Imm Bad φ w) φ h.next w c v := by
    intro i c hc
    obtain ⟨u, p1, p2, p3⟩ := hr.cells id _ lc b o hg hl hat (off * τ.size + i) c (flat_part τ l off n i c hc)
    exact ⟨u, by rw [Nat.add_assoc]; exact p1, p3⟩
  have hlen : (((l.drop off).take n).flatMap (cellsOf τ)).length = n * τ.size := by
    rw [flat_typ_length]
    congr 1
    simp
    omega
  obtain ⟨vs, v1, v2⟩ := row_vals (w := w) (b := b) (o := o + off * τ.size) (n := n * τ.size) (fun i hi => by
    rw [← hlen] at hi
    obtain ⟨v, h1, _⟩ := cell i (((l.drop off).take n).flatMap (cellsOf τ))[i] (by simp [hi])
    exact ⟨v, h1⟩)
  refine ⟨vs, firsts_some v1 v2, by rw [hlen, v1], fun i c v hc hv => ?_⟩
  obtain ⟨u, h1, h2⟩ := cell i c hc
  rw [v2 i v hv] at h1
  simp only [Option.some.injEq] at h1
  exact h1 ▸ h2

/-- What is appended, as the model finds it. -/
def Src (P : Program) (w : World) (τ : Ty) (xd : TypeDesc) (v : Value) (n : Nat) (nv : List Value) : Prop :=
  (∃ e, xd = .slice e ∧ (∀ w', (Builtin.lenOf v).run P w' = .ok n w') ∧ Firsts P w τ.size n v nv) ∨
  (∃ k k' m, xd = .int k ∧ v = .int k' m ∧ 0 ≤ m ∧ m ≤ 140737488355328 ∧ n = m.toNat)

theorem source_to {P : Program} {Bad : Nat → Prop} {φ : Map} {h h1 : AH} {w : World} {τ : Ty} {xd : TypeDesc} {x : AV} {v : Value} {new : List τ.D} (hs : source τ xd x h = some (new, h1)) (hx : intOk x = true) (hr : Rel Bad φ h w) (hv : Sim (Imm Bad φ w) φ h.next w x v) :
    ∃ φ1 nv, Goes Bad φ h w φ1 h1 w ∧ Src P w τ xd v new.length nv ∧ ((∃ e, xd = .slice e) → VCells (Imm Bad φ1 w) φ1 h1.next w (new.flatMap (cellsOf τ)) nv) ∧ ((∃ k, xd = .int k) → new = List.replicate new.length (zeroD τ)) := by
  unfold source at hs
  split at hs
  · rename_i e size cs
    split at hs
    · rename_i hsz
      cases hv with
      | @lits _ m _ a q1 q2 q3 q4 =>
      rcases Nat.eq_zero_or_pos m with h0 | h0
      · subst h0
        have hcs : cs = [] := List.eq_nil_of_length_eq_zero (by omega)
        subst hcs
        simp only [List.length_nil, data, Option.some.injEq, Prod.mk.injEq] at hs
        obtain ⟨rfl, rfl⟩ := hs
        exact ⟨φ, [], .refl hr, .inl ⟨e, rfl, fun w' => by simp [Builtin.lenOf], firsts_nil⟩, fun _ => ⟨rfl, fun i c v hc => by simp at hc⟩, fun ⟨k, hk⟩ => by cases hk⟩
      · obtain ⟨b, o, rfl, hb, hcell⟩ := q3 h0
        obtain ⟨vs, v1, v2⟩ := row_vals (w := w) (b := b) (o := o) (n := cs.length) (fun i hi => hcell i cs[i] (by simp [hi]))
        have hvc : VCells (Imm Bad φ w) φ h.next w cs vs := ⟨v1.symm, fun i c v hc hv => q4 b o rfl i c v hc (v2 i v hv)⟩
        obtain ⟨φ1, g1, w1⟩ := data_to τ _ _ _ _ _ _ _ hs hr hvc
        have hlen : new.length = m := by
          have h2 := w1.1
          rw [flat_typ_length, v1, ← q1, hsz] at h2
          exact Nat.eq_of_mul_eq_mul_right τ.size_pos h2
        refine ⟨φ1, vs, g1, .inl ⟨e, rfl, fun w' => by rw [hlen]; simp [Builtin.lenOf], ?_⟩, fun _ => w1, fun ⟨k, hk⟩ => by cases hk⟩
        rw [hlen]
        exact firsts_some (by rw [v1, ← q1, hsz]) v2
    · cases hs
  · rename_i e
    simp only [Option.some.injEq, Prod.mk.injEq] at hs
    obtain ⟨rfl, rfl⟩ := hs
    cases hv
    exact ⟨φ, [], .refl hr, .inl ⟨e, rfl, fun w' => by simp [Builtin.lenOf], firsts_nil⟩, fun _ => ⟨rfl, fun i c v hc => by simp at hc⟩, fun ⟨k, hk⟩ => by cases hk⟩
  · rename_i e τ' l ex
    split at hs
    · rename_i he
      subst he
      simp only [Option.some.injEq, Prod.mk.injEq] at hs
      obtain ⟨rfl, rfl⟩ := hs
      cases hv with
      | fz hrep =>
      obtain ⟨a, c, vs, rfl, _, _, f1, f2⟩ := hrep.firsts (P := P) (φ := φ) (nx := h.next)
      exact ⟨φ, vs, .refl hr, .inl ⟨e, rfl, fun w' => by simp [Builtin.lenOf], f1⟩, fun _ => f2, fun ⟨k, hk⟩ => by cases hk⟩
    · cases hs
  · rename_i e id
    split at hs
    · rename_i τ' l hg
      split at hs
      · rename_i he
        subst he
        simp only [Option.some.injEq, Prod.mk.injEq] at hs
        obtain ⟨rfl, rfl⟩ := hs
        obtain ⟨lc, hl, hf⟩ := hr.live id _ hg
        have hlen : lc.len = l.length := hf.len
        cases hv with
        | ownDead q1 _ => rw [q1] at hl; cases hl
        | ownNil q1 q2 =>
          rw [q1] at hl
          simp only [Option.some.injEq] at hl
          subst hl
          have hl0 : l = [] := List.eq_nil_of_length_eq_zero (by have := (hf.nowhere q2).1; omega)
          subst hl0
          exact ⟨φ, [], .refl hr, .inl ⟨e, rfl, fun w' => by simp [Builtin.lenOf], firsts_nil⟩, fun _ => ⟨rfl, fun i c v hc => by simp at hc⟩, fun ⟨k, hk⟩ => by cases hk⟩
        | @own _ b o l' q1 q2 =>
          rw [q1] at hl
          simp only [Option.some.injEq] at hl
          subst hl
          obtain ⟨vs, f1, f2⟩ := hr.rowVals (P := P) hg q1 q2 0 l.length l'.len l'.cap (by omega)
          simp only [Nat.zero_mul, Nat.add_zero, List.drop_zero, List.take_length] at f1 f2
          exact ⟨φ, vs, .refl hr, .inl ⟨e, rfl, fun w' => by simp [Builtin.lenOf, hlen], f1⟩, fun _ => f2, fun ⟨k, hk⟩ => by cases hk⟩
      · cases hs
    · cases hs
  · rename_i e id off n
    split at hs
    · rename_i τ' l hg
      split at hs
      · rename_i he
        subst he
        simp only [Option.some.injEq, Prod.mk.injEq] at hs
        obtain ⟨rfl, rfl⟩ := hs
        obtain ⟨lc, hl, hf⟩ := hr.live id _ hg
        have hlen : lc.len = l.length := hf.len
        have hesz : lc.esz = τ'.size := hf.esz
        cases hv with
        | ownpDead q1 _ => rw [q1] at hl; cases hl
        | ownpNil q1 q2 =>
          simp only [List.take_zero]
          exact ⟨φ, [], .refl hr, .inl ⟨e, rfl, fun w' => by simp [Builtin.lenOf], firsts_nil⟩, fun _ => ⟨rfl, fun i c v hc => by simp at hc⟩, fun ⟨k, hk⟩ => by cases hk⟩
        | @ownp _ _ _ c b o l' a q1 q2 q3 q4 q5 q6 =>
          rw [q1] at hl
          simp only [Option.some.injEq] at hl
          subst hl
          have hnl : ((l.drop off).take n).length = n := by simp; omega
          rcases Nat.eq_zero_or_pos n with h0 | h0
          · subst h0
            simp only [List.take_zero]
            exact ⟨φ, [], .refl hr, .inl ⟨e, rfl, fun w' => by simp [Builtin.lenOf], firsts_nil⟩, fun _ => ⟨rfl, fun i c v hc => by simp at hc⟩, fun ⟨k, hk⟩ => by cases hk⟩
          · obtain ⟨vs, f1, f2⟩ := hr.rowVals (P := P) hg q1 q2 off n n c (by omega)
            rw [hnl, q6 (by omega), hesz]
            exact ⟨φ, vs, .refl hr, .inl ⟨e, rfl, fun w' => by simp [Builtin.lenOf], f1⟩, fun _ => f2, fun ⟨k, hk⟩ => by cases hk⟩
      · cases hs
    · cases hs
  · rename_i k k' m
    simp only [Option.some.injEq, Prod.mk.injEq] at hs
    obtain ⟨rfl, rfl⟩ := hs
    cases hv
    simp only [intOk, Bool.and_eq_true, decide_eq_true_eq] at hx
    exact ⟨φ, [], .refl hr, .inr ⟨k, k', m, rfl, rfl, hx.1, hx.2, by simp⟩, (fun ⟨e, he⟩ => (by cases he)), fun _ => (by simp)⟩
  · cases hs

/-- The appended cells, whatever is appended. -/
structure Apps (P : Program) (w : World) (e : TypeId) (τ : Ty) (xd : TypeDesc) (v : Value) (n : Nat) (nv : List Value) (z : Value) : Prop where
  len : nv.length = n * τ.size
  src : (∃ e', xd = .slice e' ∧ (∀ w', (Builtin.lenOf v).run P w' = .ok n w') ∧ Firsts P w τ.size n v nv) ∨
    (∃ k k' m, xd = .int k ∧ v = .int k' m ∧ 0 ≤ m ∧ m ≤ 140737488355328 ∧ n = m.toNat ∧ (n * τ.size ≠ 0 → nv = (Builtin.zeroCells z.cells n).toList))

section
variable {P : Program} {st xt e : TypeId} {xd : TypeDesc} {τ : Ty} {i : TypeInfo} {z : Value} {vx : Value} {n : Nat} {nv : List Value} {w : World}

theorem run_append_room (hst : P.underlying st = some (.slice e)) (hxt : P.underlying xt = some xd) (hi : P.info? e = some i) (hz : i.zero = some z) (hsz : i.size = τ.size) (hby : n * i.bytes ≤ 140737488355328) (ha : Apps P w e τ xd vx n nv z)
    {base : Option Addr} {sLen sCap : Nat} (hroom : sLen + n ≤ sCap) {w' : World} (hstore : ∀ a, base = some a → (storeCells (a.add (sLen * i.size)) nv).run P w = .ok () w') (hnone : base = none → w' = w) (t : TypeId) :
    (Builtin.append_ #[st, xt] t #[.slice base sLen sCap, vx]).run P w = .ok (.slice base (sLen + n) sCap) w' := by
  unfold Builtin.append_
  have hsize : (sizeOf e).run P w = .ok i.size w := by simp [sizeOf, typeInfo, hi]
  have hzv : (zeroValue e).run P w = .ok z w := by simp [zeroValue, typeInfo, hi, hz]
  rcases ha.src with ⟨e', rfl, hl, hf⟩ | ⟨k, k', m, rfl, rfl, h0, h1, rfl, hnv⟩
  · have hf' : (Builtin.firstCells i.size n vx).run P w = .ok nv.toArray w := by rw [hsz]; exact hf.2 w rfl
    cases base with
    | none =>
      have := hnone rfl
      subst this
      simp [run_underlying hst, run_underlying hxt, hsize, hl, hroom, hf']
    | some a =>
      have := hstore a rfl
      simp [run_underlying hst, run_underlying hxt, hsize, hl, hroom, hf', this]
  · have hw : IntKind.i64.wrap m = m := wrap_i64 m (by omega) (by omega)
    have hm0 : ¬ m < 0 := by omega
    have e48 : (2 : Int) ^ 48 = 281474976710656 := by decide
    have hmb : ¬ (281474976710656 < m * (i.bytes : Int)) := by
      have h3 : ((m.toNat * i.bytes : Nat) : Int) ≤ 140737488355328 := by omega
      rw [Int.natCast_mul, Int.toNat_of_nonneg h0] at h3
      omega
    by_cases hnz : m.toNat * i.size = 0
    · have hnv0 : nv = [] := List.eq_nil_of_length_eq_zero (by rw [ha.len, ← hsz]; exact hnz)
      subst hnv0
      cases base with
      | none =>
        have := hnone rfl
        subst this
        simp [run_underlying hst, run_underlying hxt, hsize, asInt, asIntOf, hw, hm0, typeInfo, hi, hmb, hroom, hnz]
      | some a =>
        have := hstore a rfl
        simp [run_underlying hst, run_underlying hxt, hsize, asInt, asIntOf, hw, hm0, typeInfo, hi, hmb, hroom, hnz, this]
    · have hnv' := hnv (by rw [← hsz]; exact hnz)
      cases base with
      | none =>
        have := hnone rfl
        subst this
        simp [run_underlying hst, run_underlying hxt, hsize, asInt, asIntOf, hw, hm0, typeInfo, hi, hmb, hroom, hnz, hzv]
      | some a =>
        have := hstore a rfl
        rw [hnv'] at this
        simp [run_underlying hst, run_underlying hxt, hsize, asInt, asIntOf, hw, hm0, typeInfo, hi, hmb, hroom, hnz, hzv, this]

theorem cut_cap (need old : Nat) (e : TypeId) (t : Nat) (h : need ≤ 140737488355328) : need ≤ (Question.appendCap need old e).cut t ∧ (Question.appendCap need old e).cut t ≤ maxLen := by
  have e63 : (2 : Nat) ^ 63 = 9223372036854775808 := by decide
  simp only [Question.cut, e63]
  unfold maxLen
  have := Nat.mod_lt t (show 9223372036854775808 - need > 0 by omega)
  omega

theorem run_append_grow (hst : P.underlying st = some (.slice e)) (hxt : P.underlying xt = some xd) (hi : P.info? e = some i) (hz : i.zero = some z) (hsz : i.size = τ.size) (hzs : z.cells.size = τ.size) (ha : Apps P w e τ xd vx n nv z)
    {base : Option Addr} {sLen sCap : Nat} (hroom : ¬ sLen + n ≤ sCap) (hb : (sLen + n) * i.bytes ≤ 140737488355328) (hb2 : sLen + n ≤ 140737488355328) (hby : n * i.bytes ≤ 140737488355328) {ov : List Value} (ho : Firsts P w τ.size sLen (.slice base sLen sCap) ov) (t : TypeId) :
    ∃ (cap : Nat) (rest : Array Value), sLen + n ≤ cap ∧ cap ≤ maxLen ∧ rest.size = (cap - (sLen + n)) * τ.size ∧
    (Builtin.append_ #[st, xt] t #[.slice base sLen sCap, vx]).run P w = .ok (.slice (some ⟨w.heap.size, 0, none⟩) (sLen + n) cap) (w.drew.alloc (.cells ((ov ++ nv).toArray ++ rest) e)) := by
  obtain ⟨c1, c2⟩ := cut_cap (sLen + n) sCap e (w.tape w.drawn (.appendCap (sLen + n) sCap e)) hb2
  refine ⟨(Question.appendCap (sLen + n) sCap e).cut (w.tape w.drawn (.appendCap (sLen + n) sCap e)), Builtin.zeroCells z.cells ((Question.appendCap (sLen + n) sCap e).cut (w.tape w.drawn (.appendCap (sLen + n) sCap e)) - (sLen + n)), c1, c2, by simp [Builtin.zeroCells, hzs], ?_⟩
  generalize hcap : (Question.appendCap (sLen + n) sCap e).cut (w.tape w.drawn (.appendCap (sLen + n) sCap e)) = cap
  unfold Builtin.append_
  have hsize : (sizeOf e).run P w = .ok i.size w := by simp [sizeOf, typeInfo, hi]
  have hzv : (zeroValue e).run P w.drew = .ok z w.drew := by simp [zeroValue, typeInfo, hi, hz]
  have hfits := growslice_fits (need := sLen + n) (old := sCap) (bytes := i.bytes) (by omega) hb
  have hnf : ¬ 281474976710656 < Builtin.nextslicecap (sLen + n) sCap * i.bytes := by omega
  have hmax : ¬ ((sLen : Int) + (n : Int) > IntKind.i64.max) := by have e : IntKind.i64.max = 9223372036854775807 := rfl; omega
  have hmax' : ¬ ((9223372036854775807 : Int) < (sLen : Int) + (n : Int)) := by omega
  have hfo : (Builtin.firstCells i.size sLen (.slice base sLen sCap)).run P w.drew = .ok ov.toArray w.drew := by rw [hsz]; exact ho.2 w.drew rfl
  have hforced : (Question.appendCap (sLen + n) sCap e).forced = false := rfl
  rcases ha.src with ⟨e', rfl, hl, hf⟩ | ⟨k, k', m, rfl, rfl, h0, h1, rfl, hnv⟩
  · have hf' : (Builtin.firstCells i.size n vx).run P w.drew = .ok nv.toArray w.drew := by rw [hsz]; exact hf.2 w.drew rfl
    simp [run_underlying hst, run_underlying hxt, hsize, hl, hroom, typeInfo, hi, hnf, hmax', hforced, hcap, hfo, hf', hzv, newRow]
    rw [← Array.append_assoc]
    simp
  · have hw : IntKind.i64.wrap m = m := wrap_i64 m (by omega) (by omega)
    have hm0 : ¬ m < 0 := by omega
    have hmb : ¬ (281474976710656 < m * (i.bytes : Int)) := by
      have h3 : ((m.toNat * i.bytes : Nat) : Int) ≤ 140737488355328 := by omega
      rw [Int.natCast_mul, Int.toNat_of_nonneg h0] at h3
      omega
    have hmx : ((m.toNat : Nat) : Int) = m := Int.toNat_of_nonneg h0
    have hmax3 : ¬ ((9223372036854775807 : Int) < (sLen : Int) + max m 0) := by omega
    by_cases hnz : m.toNat * i.size = 0
    · have hnv0 : nv = [] := List.eq_nil_of_length_eq_zero (by rw [ha.len, ← hsz]; exact hnz)
      subst hnv0
      simp [run_underlying hst, run_underlying hxt, hsize, asInt, asIntOf, hw, hm0, typeInfo, hi, hmb, hroom, hnz, hnf, hmax3, hforced, hcap, hfo, hzv, newRow, h0]
    · have hnv' := hnv (by rw [← hsz]; exact hnz)
      simp [run_underlying hst, run_underlying hxt, hsize, asInt, asIntOf, hw, hm0, typeInfo, hi, hmb, hroom, hnz, hnf, hmax3, hforced, hcap, hfo, hzv, newRow, hnv', h0]
      rw [← Array.append_assoc]
      congr 3
      apply Array.toList_inj.1
      simp
end

end Go.Ph

/- append: what the evaluator says of it. -/
namespace Go.Ph
open Go.RowKit

theorem zeros_cells {N : Nat → Prop} {φ : Map} {nx : Nat} {w : World} (τ : Ty) (zs : List Value) (h : pureK.zeroOk τ zs = true) : VCells N φ nx w (cellsOf τ (zeroD τ)) zs := by
  refine ⟨by rw [cellsOf_length, (zero_rep (N := N) (w := w) τ zs h).1], ?_⟩
  revert zs
  induction τ with
  | int k =>
    intro zs h i c v hc hv
    match zs, h with
    | [.int k' n], h =>
      simp only [pureK.zeroOk, Bool.and_eq_true, decide_eq_true_eq] at h
      obtain ⟨rfl, rfl⟩ := h
      cases i with
      | zero => simp [cellsOf] at hc hv; subst hc; subst hv; exact .int _ _
      | succ i => simp [cellsOf] at hc
  | bool =>
    intro zs h i c v hc hv
    match zs, h with
    | [.bool b], h =>
      simp only [pureK.zeroOk, Bool.not_eq_true'] at h
      subst h
      cases i with
      | zero => simp [cellsOf] at hc hv; subst hc; subst hv; exact .bool _
      | succ i => simp [cellsOf] at hc
  | str =>
    intro zs h i c v hc hv
    match zs, h with
    | [.string s], h =>
      have hs : s = ByteArray.empty := by
        cases s with
        | mk d => simp [pureK.zeroOk] at h; subst h; rfl
      subst hs
      cases i with
      | zero => simp [cellsOf] at hc hv; subst hc; subst hv; exact .str _
      | succ i => simp [cellsOf] at hc
  | sl e ih =>
    intro zs h i c v hc hv
    match zs, h with
    | [.slice none 0 0], h =>
      cases i with
      | zero =>
        simp [cellsOf] at hc hv
        subst hc; subst hv
        exact .fz ⟨none, 0, 0, rfl, rfl, Nat.le_refl _, Nat.zero_le _, (fun h => by cases h), fun h => absurd h (by omega)⟩
      | succ i => simp [cellsOf] at hc
  | pair s t ihs iht =>
    intro zs h i c v hc hv
    simp only [pureK.zeroOk, Bool.and_eq_true] at h
    simp only [cellsOf, zeroD] at hc
    rw [List.getElem?_append, cellsOf_length] at hc
    split at hc
    · rename_i hi
      exact ihs _ h.1 i c v hc (by rw [List.getElem?_take, if_pos hi]; exact hv)
    · rename_i hi
      exact iht _ h.2 _ c v hc (by rw [List.getElem?_drop, show s.size + (i - s.size) = i by omega]; exact hv)

theorem VCells.append {N : Nat → Prop} {φ : Map} {nx : Nat} {w : World} {a b : List AV} {u v : List Value} (h : VCells N φ nx w a u) (k : VCells N φ nx w b v) : VCells N φ nx w (a ++ b) (u ++ v) :=
  ⟨by simp [h.1, k.1], fun i c x hc hx => by
    rw [List.getElem?_append] at hc hx
    rw [h.1] at hc
    split at hc
    · rename_i hi; rw [if_pos hi] at hx; exact h.2 i c x hc hx
    · rename_i hi; rw [if_neg hi] at hx; exact k.2 _ c x hc hx⟩

theorem zero_vals {N : Nat → Prop} {φ : Map} {nx : Nat} {w : World} {τ : Ty} {z : Value} (h : pureK.zeroOk τ z.cells.toList = true) (n : Nat) :
    VCells N φ nx w ((List.replicate n (zeroD τ)).flatMap (cellsOf τ)) (Builtin.zeroCells z.cells n).toList := by
  have hz := zeros_cells (N := N) (φ := φ) (nx := nx) (w := w) τ _ h
  have hzl : z.cells.size = τ.size := by have := hz.1; rw [cellsOf_length] at this; simpa using this.symm
  have hp := τ.size_pos
  refine ⟨by rw [flat_typ_length]; simp [Builtin.zeroCells, hzl], fun i c v hc hv => ?_⟩
  have hi := cell_len hc
  rw [flat_typ_length, List.length_replicate] at hi
  have hm := Nat.mod_lt i hp
  have hd : i / τ.size < n := (Nat.div_lt_iff_lt_mul hp).2 hi
  have e1 : i = (i / τ.size) * τ.size + i % τ.size := by rw [Nat.mul_comm]; exact (Nat.div_add_mod i τ.size).symm
  rw [e1, flat_typ_get _ _ _ _ hm, List.getElem?_replicate, if_pos hd] at hc
  simp only [Option.bind_some] at hc
  have hm2 : i % z.cells.size < z.cells.size := by rw [hzl]; exact hm
  refine hz.2 (i % τ.size) c v hc ?_
  simp only [Builtin.zeroCells, Array.toList_map, List.getElem?_map, Array.getElem?_toList, hzl] at hv
  rw [Array.getElem?_range, if_pos hi] at hv
  simp only [Option.map_some, Option.some.injEq] at hv
  rw [← hv, getElem!_pos z.cells _ (by rw [hzl]; exact hm)]
  simp [hzl, hm]

/-- What is appended to, as the model finds it. -/
structure Tgt (P : Program) (Bad : Nat → Prop) (φ : Map) (h : AH) (w : World) (τ : Ty) (old : List τ.D) (h2 : AH) (ex : Bool) (s : AV) (v : Value) : Prop where
  /-- the slice, and its cells -/
  form : ∃ a c ov, v = .slice a old.length c ∧ old.length ≤ c ∧ c ≤ maxLen ∧ (ex = true → c = old.length) ∧ Firsts P w τ.size old.length v ov ∧
    /- with no room, or none that is used -/
    (∃ φ2, Goes Bad φ h w φ2 h2 w ∧ VCells (Imm Bad φ2 w) φ2 h2.next w (old.flatMap (cellsOf τ)) ov) ∧
    /- in place -/
    (ex = false → ∀ (new : List τ.D) (nv : List Value), old.length + new.length ≤ c → VCells (Imm Bad φ w) φ h.next w (new.flatMap (cellsOf τ)) nv →
      ∃ φ3 w', Goes Bad φ h w φ3 (h2.add (.typ τ (old ++ new))) w' ∧ (∀ ad, a = some ad → (storeCells (ad.add (old.length * τ.size)) nv).run P w = .ok () w') ∧ (a = none → w' = w) ∧
        Sim (Imm Bad φ3 w') φ3 (h2.next + 1) w' (.own h2.next) (.slice a (old.length + new.length) c))

theorem tgt_nil {P : Program} {Bad : Nat → Prop} {φ : Map} {h h2 : AH} {w : World} {τ : Ty} {s : AV} {a : Option Addr} (g : ∃ φ2, Goes Bad φ h w φ2 h2 w) : Tgt P Bad φ h w τ [] h2 false s (.slice a 0 0) := by
  obtain ⟨φ2, g⟩ := g
  refine ⟨a, 0, [], rfl, Nat.le_refl _, Nat.zero_le _, (fun h => by cases h), firsts_nil, ⟨φ2, g, rfl, fun i c v hc => by simp at hc⟩, fun _ new nv hle hv => ?_⟩
  have hn : new = [] := List.eq_nil_of_length_eq_zero (by simpa using hle)
  subst hn
  have hnv : nv = [] := by have := hv.1; simp at this; exact List.eq_nil_of_length_eq_zero this.symm
  subst hnv
  have g3 := g.rel.addNil (.typ τ ([] : List τ.D)) rfl
  exact ⟨_, w, g.trans g3, fun ad _ => rfl, fun _ => rfl, .ownNil (l := ⟨none, 0, 0, τ.size⟩) (upd_same _ _ _) rfl⟩

theorem tgt_own {P : Program} {Bad : Nat → Prop} {φ : Map} {h : AH} {w : World} (hr : Rel Bad φ h w) {id : Nat} {τ : Ty} {l : List τ.D} (hg : h.get id = some (.typ τ l)) {lc : Loc} (hl : φ id = some lc) {b o : Nat} (hat : lc.at_ = some (b, o)) {off n c : Nat} (hn : off + n ≤ l.length) (hnc : n ≤ c) (hc : off + c ≤ lc.cap) {s : AV} :
    Tgt P Bad φ h w τ ((l.drop off).take n) (h.del id) false s (.slice (some ⟨b, o + off * τ.size, none⟩) n c) := by
  obtain ⟨lc', hl', hf⟩ := hr.live id _ hg
  rw [hl] at hl'
  simp only [Option.some.injEq] at hl'
  subst hl'
  have hesz : lc.esz = τ.size := hf.esz
  have hmax := hf.max
  have hlen : ((l.drop off).take n).length = n := by simp; omega
  obtain ⟨ov, f1, f2⟩ := hr.rowVals (P := P) hg hl hat off n n c hn
  have gk := hr.goesKill id
  have f2' := f2.evo gk.evo hr.id_lt
  refine ⟨some ⟨b, o + off * τ.size, none⟩, c, ov, by rw [hlen], by omega, by omega, (fun h => by cases h), by rw [hlen]; exact f1, ⟨_, gk, f2'⟩, fun _ new nv hle hv => ?_⟩
  rw [hlen] at hle ⊢
  obtain ⟨cs, e, fr, q1, q2, q3⟩ := hf.there b o hat
  have hnl : nv.length = new.length * τ.size := by rw [← hv.1, flat_typ_length]
  have hcap : (off + c) * τ.size ≤ lc.cap * lc.esz := by rw [hesz]; exact Nat.mul_le_mul_right _ hc
  have hfit : n * τ.size + nv.length ≤ c * τ.size := by
    rw [hnl, ← Nat.add_mul]
    exact Nat.mul_le_mul_right _ hle
  rw [Nat.add_mul] at hcap
  obtain ⟨cs', s1, s2, s3, s4⟩ := setCells_spec nv (o + off * τ.size + n * τ.size) w cs q1 (by omega)
  have hone : ∀ x ∈ nv, x.oneCell' = true := by
    intro x hx
    obtain ⟨q, hq⟩ := List.getElem?_of_mem hx
    have hqlt := (List.getElem?_eq_some_iff.1 hq).1
    rw [← hv.1] at hqlt
    have hcell : (new.flatMap (cellsOf τ))[q]? = some (new.flatMap (cellsOf τ))[q] := by simp [hqlt]
    have hsim := hv.2 q _ x hcell hq
    have hmem : (new.flatMap (cellsOf τ))[q] ∈ new.flatMap (cellsOf τ) := List.getElem_mem hqlt
    obtain ⟨y, _, hy⟩ := List.mem_flatMap.1 hmem
    exact (single_sim hsim (Rel.addRow.single_cells τ y _ hy)).1
  have hrun := run_storeCells_cells (P := P) b (o + off * τ.size + n * τ.size) nv 0 w (fun j hj => by
      have : o + off * τ.size + n * τ.size + j < cs.size := by omega
      simp [World.cell?, q1, this]) (fun j hj => q3 _ (by omega)) hone
  simp only [Nat.add_zero] at hrun
  have hmv := hr.move hg hl hat (w' := w.setCells b (o + off * τ.size + n * τ.size) nv) (r' := .typ τ ((l.drop off).take n ++ new)) (l' := ⟨some (b, o + off * τ.size), n + new.length, c, τ.size⟩) rfl s4
    ⟨by simp [Row.len]; omega, rfl, hle, by have : (⟨some (b, o + off * τ.size), n + new.length, c, τ.size⟩ : Loc).cap = c := rfl; omega, (fun h => by cases h), fun b1 o1 hat1 => by
      simp only [Option.some.injEq, Prod.mk.injEq] at hat1
      obtain ⟨rfl, rfl⟩ := hat1
      exact wrote_there s4 ⟨cs, e, fr, q1, by simp only; omega, q3⟩⟩ (fun i x hx => by
      simp only [Row.flat, List.flatMap_append] at hx
      have hol : (((l.drop off).take n).flatMap (cellsOf τ)).length = n * τ.size := by rw [flat_typ_length, hlen]
      rw [List.getElem?_append, hol] at hx
      have hcell : (w.setCells b (o + off * τ.size + n * τ.size) nv).cell? ⟨b, o + off * τ.size + i, none⟩ = cs'[o + off * τ.size + i]? := by simp [World.cell?, s1]
      rw [hcell, s3]
      split at hx
      · rename_i hi
        rw [if_neg (by omega)]
        obtain ⟨u, p1, p2, p3⟩ := hr.cells id _ lc b o hg hl hat (off * τ.size + i) x (flat_part τ l off n i x hx)
        have : w.cell? ⟨b, o + (off * τ.size + i), none⟩ = cs[o + off * τ.size + i]? := by simp [World.cell?, q1, Nat.add_assoc]
        rw [this] at p1
        exact ⟨u, p1, p2, p3⟩
      · rename_i hi
        have hlt := cell_len hx
        rw [hv.1] at hlt
        rw [if_pos (by omega)]
        have : o + off * τ.size + i - (o + off * τ.size + n * τ.size) = i - n * τ.size := by omega
        rw [this]
        have hmem : x ∈ new.flatMap (cellsOf τ) := List.mem_of_getElem? hx
        obtain ⟨y, _, hy⟩ := List.mem_flatMap.1 hmem
        exact ⟨nv[i - n * τ.size], by simp [hlt], Rel.addRow.single_cells τ y _ hy, hv.2 _ x _ hx (by simp [hlt])⟩)
  refine ⟨_, _, hmv, fun ad had => ?_, fun h => (by cases h), ?_⟩
  · simp only [Option.some.injEq] at had
    subst had
    rw [addp]
    exact hrun
  · exact .own (l := ⟨some (b, o + off * τ.size), n + new.length, c, τ.size⟩) (upd_same _ _ _) rfl

end Go.Ph

/- append, joined. -/
namespace Go.Ph
open Go.RowKit

theorem target_own {P : Program} {Bad : Nat → Prop} {φ : Map} {h h2 : AH} {w : World} {τ : Ty} {x : AV} {v : Value} {old : List τ.D} (ht : target τ x h = some (old, h2, false)) (hr : Rel Bad φ h w) (hv : Sim (Imm Bad φ w) φ h.next w x v) :
    Tgt P Bad φ h w τ old h2 false x v := by
  unfold target at ht
  split at ht
  · simp only [Option.some.injEq, Prod.mk.injEq] at ht
    obtain ⟨rfl, rfl, _⟩ := ht
    cases hv
    exact tgt_nil ⟨φ, .refl hr⟩
  · rename_i id
    split at ht
    · rename_i τ' l hg
      split at ht
      · rename_i he
        subst he
        simp only [Option.some.injEq, Prod.mk.injEq] at ht
        obtain ⟨rfl, rfl, _⟩ := ht
        obtain ⟨lc, hl, hf⟩ := hr.live id _ hg
        have hlen : lc.len = l.length := hf.len
        cases hv with
        | ownDead q1 _ => rw [q1] at hl; cases hl
        | ownNil q1 q2 =>
          rw [q1] at hl
          simp only [Option.some.injEq] at hl
          subst hl
          have hl0 : l = [] := List.eq_nil_of_length_eq_zero (by have := (hf.nowhere q2).1; omega)
          subst hl0
          exact tgt_nil ⟨_, hr.goesKill id⟩
        | @own _ b o l' q1 q2 =>
          rw [q1] at hl
          simp only [Option.some.injEq] at hl
          subst hl
          have := tgt_own (P := P) hr hg q1 q2 (off := 0) (n := l.length) (c := l'.cap) (by omega) (by rw [← hlen]; exact hf.le) (by omega) (s := .own id)
          simp only [Nat.zero_mul, Nat.add_zero, List.drop_zero, List.take_length] at this
          rw [hlen]
          exact this
      · cases ht
    · cases ht
  · rename_i id off n
    split at ht
    · rename_i τ' l hg
      split at ht
      · rename_i he
        subst he
        simp only [Option.some.injEq, Prod.mk.injEq] at ht
        obtain ⟨rfl, rfl, _⟩ := ht
        obtain ⟨lc, hl, hf⟩ := hr.live id _ hg
        have hlen : lc.len = l.length := hf.len
        have hesz : lc.esz = τ'.size := hf.esz
        cases hv with
        | ownpDead q1 _ => rw [q1] at hl; cases hl
        | ownpNil q1 q2 =>
          simp only [List.take_zero]
          exact tgt_nil ⟨_, hr.goesKill id⟩
        | @ownp _ _ _ c b o l' a q1 q2 q3 q4 q5 q6 =>
          rw [q1] at hl
          simp only [Option.some.injEq] at hl
          subst hl
          rcases Nat.eq_zero_or_pos c with h0 | h0
          · subst h0
            have hn0 : n = 0 := by omega
            subst hn0
            simp only [List.take_zero]
            exact tgt_nil ⟨_, hr.goesKill id⟩
          · rw [q6 h0, hesz]
            exact tgt_own (P := P) hr hg q1 q2 (by omega) q4 q5
      · cases ht
    · cases ht
  · split at ht
    · split at ht
      · simp at ht
      · cases ht
    · cases ht
  · split at ht
    · split at ht
      · simp at ht
      · cases ht
    · cases ht
  · cases ht

theorem target_ex {P : Program} {Bad : Nat → Prop} {φ : Map} {h h2 : AH} {w : World} {τ : Ty} {x : AV} {v : Value} {old : List τ.D} (ht : target τ x h = some (old, h2, true)) (hr : Rel Bad φ h w) (hv : Sim (Imm Bad φ w) φ h.next w x v) :
    ∃ a ov, v = .slice a old.length old.length ∧ Firsts P w τ.size old.length v ov ∧ ∃ φ2, Goes Bad φ h w φ2 h2 w ∧ VCells (Imm Bad φ2 w) φ2 h2.next w (old.flatMap (cellsOf τ)) ov := by
  unfold target at ht
  split at ht
  · simp at ht
  · split at ht
    · split at ht
      · simp at ht
      · cases ht
    · cases ht
  · split at ht
    · split at ht
      · simp at ht
      · cases ht
    · cases ht
  · rename_i τ' l ex
    split at ht
    · rename_i he
      subst he
      split at ht
      · rename_i hex
        subst hex
        simp only [Option.some.injEq, Prod.mk.injEq] at ht
        obtain ⟨rfl, rfl, _⟩ := ht
        cases hv with
        | fz hrep =>
        obtain ⟨a, c, vs, rfl, q1, q2, f1, f2⟩ := hrep.firsts (P := P) (φ := φ) (nx := h.next)
        have := q2 rfl
        subst this
        exact ⟨a, vs, rfl, f1, φ, .refl hr, f2⟩
      · cases ht
    · cases ht
  · rename_i size cs
    split at ht
    · rename_i hsz
      split at ht
      · rename_i l h' hd
        simp only [Option.some.injEq, Prod.mk.injEq] at ht
        obtain ⟨rfl, rfl, _⟩ := ht
        cases hv with
        | @lits _ m _ a q1 q2 q3 q4 =>
        rcases Nat.eq_zero_or_pos m with h0 | h0
        · subst h0
          have hcs : cs = [] := List.eq_nil_of_length_eq_zero (by omega)
          subst hcs
          simp only [List.length_nil, data, Option.some.injEq, Prod.mk.injEq] at hd
          obtain ⟨rfl, rfl⟩ := hd
          exact ⟨a, [], rfl, firsts_nil, φ, .refl hr, rfl, fun i c v hc => by simp at hc⟩
        · obtain ⟨b, o, rfl, hb, hcell⟩ := q3 h0
          obtain ⟨vs, v1, v2⟩ := row_vals (w := w) (b := b) (o := o) (n := cs.length) (fun i hi => hcell i cs[i] (by simp [hi]))
          have hvc : VCells (Imm Bad φ w) φ h.next w cs vs := ⟨v1.symm, fun i c v hc hv => q4 b o rfl i c v hc (v2 i v hv)⟩
          obtain ⟨φ1, g1, w1⟩ := data_to τ _ _ _ _ _ _ _ hd hr hvc
          have hlen : l.length = m := by
            have h2 := w1.1
            rw [flat_typ_length, v1, ← q1, hsz] at h2
            exact Nat.eq_of_mul_eq_mul_right τ.size_pos h2
          refine ⟨_, vs, by rw [hlen], ?_, φ1, g1, w1⟩
          rw [hlen]
          exact firsts_some (by rw [v1, ← q1, hsz]) v2
      · cases ht
    · cases ht
  · cases ht

theorem surely_pos {τ : Ty} {xd : TypeDesc} {x : AV} {h h1 : AH} {new : List τ.D} (hs : source τ xd x h = some (new, h1)) (hx : surely x = true) : 0 < new.length := by
  cases x with
  | lits size cs =>
    cases cs with
    | nil => simp [surely] at hx
    | cons c cs =>
      unfold source at hs
      split at hs <;> first | cases hs | skip
      · rename_i heq
        injection heq with e1 e2
        subst e1; subst e2
        split at hs
        · simp only [List.length_cons, data] at hs
          split at hs
          · split at hs
            · simp only [Option.some.injEq, Prod.mk.injEq] at hs
              rw [← hs.1]
              simp
            · cases hs
          · cases hs
        · cases hs
      all_goals (rename_i heq; cases heq)
  | _ => simp [surely] at hx

theorem empty_target {τ : Ty} {x : AV} {h h2 : AH} {old : List τ.D} {ex : Bool} (ht : target τ x h = some (old, h2, ex)) (hx : emptyT x = true) : old = [] := by
  cases x with
  | lits size cs =>
    cases cs with
    | nil =>
      simp only [target, List.length_nil, data] at ht
      split at ht
      · simp only [Option.some.injEq, Prod.mk.injEq] at ht
        exact ht.1.symm
      · cases ht
    | cons c cs => simp [emptyT] at hx
  | fz τ' l ex' =>
    cases l with
    | nil =>
      simp only [target] at ht
      split at ht
      · rename_i he
        subst he
        split at ht
        · simp only [Option.some.injEq, Prod.mk.injEq] at ht
          exact ht.1.symm
        · cases ht
      · cases ht
    | cons c cs => simp [emptyT] at hx
  | _ => simp [emptyT] at hx

end Go.Ph

/- append: the operation. -/
namespace Go.Ph
open Go.RowKit

theorem elemTy_some {P : Program} {t e : TypeId} {τ : Ty} (h : elemTy P t = some (e, τ)) : P.underlying t = some (.slice e) ∧ τ.size = P.cellsOf e := by
  unfold elemTy at h
  split at h
  · rename_i e' hu
    split at h
    · split at h
      · rename_i hsz
        simp only [Option.some.injEq, Prod.mk.injEq] at h
        obtain ⟨rfl, rfl⟩ := h
        exact ⟨hu, hsz⟩
      · cases h
    · cases h
  · cases h

theorem append_to {C : Ctx} {o : Oper} {ρ : Operand → AV} {h : AH} {args : Array Operand} {argTypes : Array TypeId} (ho : o.op = .call { callee := .builtin .append, args := args, argTypes := argTypes }) {Z : Type} {k : AV → AH → Option Z} {z : Z}
    (hk : effK C o ρ h k = some z) : ∃ v h', k v h' = some z ∧ OpTo C.P o ρ h v h' ∧ ModOk C o ρ h h' := by
  unfold effK at hk
  rw [ho] at hk
  simp only at hk
  split at hk
  · rename_i s x st xt hargs htypes
    have ea : args = #[s, x] := by apply Array.toList_inj.1; rw [hargs]
    have et : argTypes = #[st, xt] := by apply Array.toList_inj.1; rw [htypes]
    subst ea; subst et
    split at hk
    · rename_i e τ xd hel hxt
      obtain ⟨hst, hsz⟩ := elemTy_some hel
      split at hk
      · rename_i new h1 hsrc
        split at hk
        · rename_i old h2 ex htgt
          split at hk
          · rename_i hc
            obtain ⟨hex, hzf, hint⟩ := hc
            split at hk
            · rename_i hb
              obtain ⟨hb1, hb2⟩ := hb
              refine ⟨_, _, hk, .of_value fun Bad φ w η hr hs => ?_, append_mod ho hsrc htgt _⟩
              have s1 := hs s (by simp [ho, Op.operands, Call.operands])
              have s2 := hs x (by simp [ho, Op.operands, Call.operands])
              -- the element's type
              have hpos : 0 < C.P.cellsOf e := by rw [← hsz]; exact τ.size_pos
              obtain ⟨i, hi⟩ : ∃ i, C.P.info? e = some i := by
                unfold Program.cellsOf at hpos
                cases hi : C.P.info? e with
                | none => simp [hi] at hpos
                | some i => exact ⟨i, rfl⟩
              have hisz : i.size = τ.size := by rw [hsz]; simp [Program.cellsOf, hi]
              have hbytes : C.P.bytesOf e = i.bytes := by simp [Program.bytesOf, hi]
              obtain ⟨zz, hz, hz0⟩ : ∃ zz, i.zero = some zz ∧ pureK.zeroOk τ zz.cells.toList = true := by
                unfold zeroFits at hzf
                simp only [hi, Option.bind_some] at hzf
                split at hzf
                · exact ⟨_, by assumption, hzf⟩
                · cases hzf
              have hzs : zz.cells.size = τ.size := by simpa using (zero_rep (N := fun _ => True) (w := w) τ _ hz0).1
              rw [hbytes] at hb1
              have hnb : new.length * i.bytes ≤ 140737488355328 := Nat.le_trans (Nat.mul_le_mul_right _ (Nat.le_add_left _ _)) hb1
              -- what is appended
              obtain ⟨φ1, nv0, g1, hsrc', hv0, hrep⟩ := source_to (P := C.P) hsrc hint hr s2
              obtain ⟨nv, hap, hv⟩ : ∃ nv, Apps C.P w e τ xd (η x) new.length nv zz ∧ VCells (Imm Bad φ1 w) φ1 h1.next w (new.flatMap (cellsOf τ)) nv := by
                rcases hsrc' with ⟨e', he', hl, hf⟩ | ⟨k1, k2, m, hk1, hm, h0, hm2, hn⟩
                · exact ⟨nv0, ⟨hf.1, .inl ⟨e', he', hl, hf⟩⟩, hv0 ⟨e', he'⟩⟩
                · refine ⟨(Builtin.zeroCells zz.cells new.length).toList, ⟨by simp [Builtin.zeroCells, hzs], .inr ⟨k1, k2, m, hk1, hm, h0, hm2, hn, fun _ => rfl⟩⟩, ?_⟩
                  have := zero_vals (N := Imm Bad φ1 w) (φ := φ1) (nx := h1.next) (w := w) hz0 new.length
                  rw [← hrep ⟨k1, hk1⟩] at this
                  exact this
              have s1' := g1.evo.sim hr.id_lt s1
              have exec : ∀ (r : Value) (w' : World), (Builtin.append_ #[st, xt] o.type #[η s, η x]).run C.P w = .ok r w' → (execOp η o).run C.P w = .ok (.value r) w' := by
                intro r w' hrun
                simp [execOp, ho, resolve, invoke, builtin, hrun]
              -- in place
              have room : ∀ ex' s', Tgt C.P Bad φ1 h1 w τ old h2 ex' s' (η s) → ex' = false → (∀ a c, η s = .slice a old.length c → old.length + new.length ≤ c) →
                  ∃ φ' w' v', (execOp η o).run C.P w = .ok (.value v') w' ∧ Goes Bad φ h w φ' (h2.add (.typ τ (old ++ new))) w' ∧ Sim (Imm Bad φ' w') φ' (h2.add (.typ τ (old ++ new))).next w' (.own h2.next) v' := by
                intro ex' s' T hex' hroom
                obtain ⟨a, c, ov, hv1, _, _, _, _, _, hin⟩ := T.form
                have hr2 := hroom a c hv1
                obtain ⟨φ3, w', g3, hst1, hst2, hsim⟩ := hin hex' new nv hr2 hv
                refine ⟨φ3, w', _, exec _ _ ?_, g1.trans g3, hsim⟩
                rw [hv1]
                exact run_append_room hst hxt hi hz hisz hnb hap hr2 (fun ad had => by rw [hisz]; exact hst1 ad had) hst2 o.type
              -- a new block
              have grow : ∀ a c ov, η s = .slice a old.length c → ¬ old.length + new.length ≤ c → Firsts C.P w τ.size old.length (η s) ov → (∃ φ2, Goes Bad φ1 h1 w φ2 h2 w ∧ VCells (Imm Bad φ2 w) φ2 h2.next w (old.flatMap (cellsOf τ)) ov) →
                  ∃ φ' w' v', (execOp η o).run C.P w = .ok (.value v') w' ∧ Goes Bad φ h w φ' (h2.add (.typ τ (old ++ new))) w' ∧ Sim (Imm Bad φ' w') φ' (h2.add (.typ τ (old ++ new))).next w' (.own h2.next) v' := by
                intro a c ov hv1 hnr hf ⟨φ2, g2, ho2⟩
                rw [hv1] at hf
                obtain ⟨cap, rest, c1, c2, c3, hrun⟩ := run_append_grow hst hxt hi hz hisz hzs hap hnr hb1 hb2 hnb hf o.type
                have hgrew : Grew w (w.drew.alloc (.cells ((ov ++ nv).toArray ++ rest) e)) := (Grew.drew w).trans (Grew.alloc _ _)
                have hall := ho2.append (hv.evo g2.evo g1.rel.id_lt)
                have hlen : (ov ++ nv).length = (old.length + new.length) * τ.size := by rw [← hall.1, List.length_append, flat_typ_length, flat_typ_length, Nat.add_mul]
                obtain ⟨φ3, g3, hsim⟩ := g2.rel.addRow hgrew (old ++ new) (A := (ov ++ nv).toArray ++ rest) (t := e) w.heap.size (by show (w.heap.push _)[w.heap.size]? = _; simp) (Nat.le_refl _) (old.length + new.length) cap (by simp) c1 c2 (by
                    simp only [Array.size_append, List.size_toArray, hlen, c3]
                    rw [← Nat.add_mul]
                    exact Nat.mul_le_mul_right _ (by omega)) (fun q y hy => by
                  rw [List.flatMap_append] at hy
                  have hq := cell_len hy
                  rw [hall.1] at hq
                  refine ⟨(ov ++ nv)[q], ?_, hall.2 q y _ hy (by simp [hq])⟩
                  rw [Array.getElem?_append_left (by simpa using hq)]
                  simp [hq])
                refine ⟨φ3, _, _, exec _ _ (by rw [hv1]; exact hrun), (g1.trans g2).trans g3, hsim⟩
              cases ex with
              | false =>
                have T := target_own (P := C.P) htgt g1.rel s1'
                obtain ⟨a, c, ov, hv1, q1, q2, q3, hf, ho2, hin⟩ := T.form
                by_cases hr2 : old.length + new.length ≤ c
                · refine room false _ T rfl fun a' c' hv2 => ?_
                  rw [hv1] at hv2
                  injection hv2 with _ _ e3
                  omega
                · exact grow a c ov hv1 hr2 hf ho2
              | true =>
                obtain ⟨a, ov, hv1, hf, φ2, g2, ho2⟩ := target_ex (P := C.P) htgt g1.rel s1'
                by_cases hn : new.length = 0
                · have hem : emptyT (ρ s) = true := by
                    rcases hex with h1 | h1 | h1
                    · cases h1
                    · have := surely_pos hsrc h1; omega
                    · exact h1
                  have hold := empty_target htgt hem
                  subst hold
                  have T := tgt_nil (P := C.P) (τ := τ) (s := ρ s) (a := a) ⟨φ2, g2⟩
                  simp only [List.length_nil] at hv1
                  rw [← hv1] at T
                  refine room false _ T rfl fun a' c' hv2 => by simp; omega
                · exact grow a old.length ov hv1 (by omega) hf ⟨φ2, g2, ho2⟩
            · cases hk
          · cases hk
        · cases hk
      · cases hk
    · cases hk
  · cases hk

end Go.Ph

/- copy. -/
namespace Go.Ph
open Go.RowKit

theorem patch_get {α : Type} (l new : List α) (off m : Nat) (hm : m ≤ new.length) (hfit : off + m ≤ l.length) (i : Nat) :
    (l.take off ++ new.take m ++ l.drop (off + m))[i]? = if i < off then l[i]? else if i < off + m then new[i - off]? else l[i]? := by
  have h1 : (l.take off).length = off := by simp; omega
  have h2 : (new.take m).length = m := by simp; omega
  by_cases hi : i < off
  · rw [if_pos hi, List.append_assoc, List.getElem?_append_left (by omega), List.getElem?_take, if_pos hi]
  · rw [if_neg hi]
    by_cases hj : i < off + m
    · rw [if_pos hj, List.append_assoc, List.getElem?_append_right (by omega), h1, List.getElem?_append_left (by omega), List.getElem?_take, if_pos (by omega)]
    · rw [if_neg hj, List.getElem?_append_right (by simp; omega)]
      have h3 : (l.take off ++ new.take m).length = off + m := by rw [List.length_append, h1, h2]
      rw [h3, List.getElem?_drop]
      congr 1
      omega

theorem patch_len {α : Type} (l new : List α) (off m : Nat) (hm : m ≤ new.length) (hfit : off + m ≤ l.length) : (l.take off ++ new.take m ++ l.drop (off + m)).length = l.length := by
  simp; omega

/-- Elements of a row are written over. -/
theorem copy_write {P : Program} {Bad : Nat → Prop} {φ : Map} {h : AH} {w : World} (hr : Rel Bad φ h w) {id : Nat} {τ : Ty} {l : List τ.D} (hg : h.get id = some (.typ τ l)) {lc : Loc} (hl : φ id = some lc) {b o : Nat} (hat : lc.at_ = some (b, o)) {off m : Nat} {new : List τ.D} {nv : List Value}
    (hm : m ≤ new.length) (hfit : off + m ≤ l.length) (hv : VCells (Imm Bad φ w) φ h.next w (new.flatMap (cellsOf τ)) nv) :
    ∃ w', (storeCells ⟨b, o + off * τ.size, none⟩ (nv.take (m * τ.size))).run P w = .ok () w' ∧ Goes Bad φ h w φ (h.put id (.typ τ (l.take off ++ new.take m ++ l.drop (off + m)))) w' := by
  obtain ⟨l', hl', hf⟩ := hr.live id _ hg
  rw [hl] at hl'
  simp only [Option.some.injEq] at hl'
  subst hl'
  obtain ⟨c, e, fr, q1, q2, q3⟩ := hf.there b o hat
  have hlen : lc.len = l.length := hf.len
  have hesz : lc.esz = τ.size := hf.esz
  have hle := hf.le
  have hnv : nv.length = new.length * τ.size := by rw [← hv.1, flat_typ_length]
  have htl : (nv.take (m * τ.size)).length = m * τ.size := by
    rw [List.length_take, hnv]
    exact Nat.min_eq_left (Nat.mul_le_mul_right _ hm)
  have hroom : o + off * τ.size + m * τ.size ≤ c.size := by
    have h1 : (off + m) * τ.size ≤ lc.cap * lc.esz := by rw [hesz]; exact Nat.mul_le_mul_right _ (by omega)
    rw [Nat.add_mul] at h1
    omega
  obtain ⟨c', s1, s2, s3, s4⟩ := setCells_spec (nv.take (m * τ.size)) (o + off * τ.size) w c q1 (by rw [htl]; omega)
  refine ⟨w.setCells b (o + off * τ.size) (nv.take (m * τ.size)), ?_, ?_⟩
  · have hrun := run_storeCells_cells (P := P) b (o + off * τ.size) (nv.take (m * τ.size)) 0 w (fun j hj => by
        rw [htl] at hj
        have : o + off * τ.size + j < c.size := by omega
        simp [World.cell?, q1, this]) (fun j hj => by
        rw [htl] at hj
        exact q3 _ (by omega)) (fun x hx => by
        obtain ⟨i, hi⟩ := List.getElem?_of_mem (List.mem_of_mem_take hx)
        have hi2 : i < (new.flatMap (cellsOf τ)).length := by rw [hv.1]; exact (List.getElem?_eq_some_iff.1 hi).1
        have hs := hv.2 i _ x (List.getElem?_eq_getElem hi2) hi
        refine (single_sim hs ?_).1
        obtain ⟨y, _, hy⟩ := List.mem_flatMap.1 (List.getElem_mem hi2)
        exact Rel.addRow.single_cells τ y _ hy)
    simpa using hrun
  · refine hr.write hg hl hat s4 ⟨by rw [hlen]; exact (patch_len l new off m hm hfit).symm, hesz, hle, hf.max, hf.nowhere, fun b' o' hat' => ?_⟩ fun i x hx => ?_
    · rw [hat] at hat'
      simp only [Option.some.injEq, Prod.mk.injEq] at hat'
      obtain ⟨rfl, rfl⟩ := hat'
      exact wrote_there s4 ⟨c, e, fr, q1, q2, q3⟩
    · simp only [Row.flat] at hx
      have hp := τ.size_pos
      have hmod := Nat.mod_lt i hp
      have ei : i = (i / τ.size) * τ.size + i % τ.size := by rw [Nat.mul_comm]; exact (Nat.div_add_mod i τ.size).symm
      have hx0 := hx
      rw [ei, flat_typ_get _ _ _ _ hmod, patch_get l new off m hm hfit] at hx
      have hsing : x.single = true := by
        obtain ⟨y, _, hy⟩ := List.mem_flatMap.1 (List.mem_of_getElem? hx0)
        exact Rel.addRow.single_cells τ y _ hy
      have cellE : (w.setCells b (o + off * τ.size) (nv.take (m * τ.size))).cell? ⟨b, o + i, none⟩ = c'[o + i]? := by simp [World.cell?, s1]
      have oldcell : i / τ.size < off ∨ off + m ≤ i / τ.size → (l[i / τ.size]?.bind fun y => (cellsOf τ y)[i % τ.size]?) = some x →
          ∃ v, (w.setCells b (o + off * τ.size) (nv.take (m * τ.size))).cell? ⟨b, o + i, none⟩ = some v ∧ x.single = true ∧ Sim (Imm Bad φ w) φ h.next w x v := by
        intro hout hb
        rw [← flat_typ_get _ _ _ _ hmod, ← ei] at hb
        obtain ⟨v, k1, k2, k3⟩ := hr.cells id _ lc b o hg hl hat i x hb
        refine ⟨v, ?_, k2, k3⟩
        rw [cellE, s3 (o + i), htl, if_neg, ← k1]
        · simp [World.cell?, q1]
        · rintro ⟨a1, a2⟩
          have a3 : off * τ.size ≤ i := by omega
          have a4 : i < (off + m) * τ.size := by rw [Nat.add_mul]; omega
          have b1 : off ≤ i / τ.size := (Nat.le_div_iff_mul_le hp).2 a3
          have b2 : i / τ.size < off + m := (Nat.div_lt_iff_lt_mul hp).2 a4
          omega
      by_cases h1 : i / τ.size < off
      · rw [if_pos h1] at hx
        exact oldcell (.inl h1) hx
      · rw [if_neg h1] at hx
        by_cases h2 : i / τ.size < off + m
        · rw [if_pos h2] at hx
          have a3 : off * τ.size ≤ i := (Nat.le_div_iff_mul_le hp).1 (by omega)
          have a4 : i < (off + m) * τ.size := (Nat.div_lt_iff_lt_mul hp).1 h2
          rw [Nat.add_mul] at a4
          have hidx : (i / τ.size - off) * τ.size + i % τ.size = i - off * τ.size := by
            have a5 : off * τ.size ≤ (i / τ.size) * τ.size := Nat.mul_le_mul_right _ (by omega)
            rw [Nat.sub_mul]; omega
          rw [← flat_typ_get _ _ _ _ hmod, hidx] at hx
          have hlt : i - off * τ.size < nv.length := by rw [← hv.1]; exact (List.getElem?_eq_some_iff.1 hx).1
          refine ⟨nv[i - off * τ.size], ?_, hsing, hv.2 _ x _ hx (by simp [hlt])⟩
          rw [cellE, s3 (o + i), htl, if_pos ⟨by omega, by omega⟩, List.getElem?_take, if_pos (by omega)]
          have : o + i - (o + off * τ.size) = i - off * τ.size := by omega
          rw [this]
          simp [hlt]
        · rw [if_neg h2] at hx
          exact oldcell (.inr (by omega)) hx

/-- Nothing is written over. -/
theorem Rel.put_same {Bad : Nat → Prop} {φ : Map} {h : AH} {w : World} (hr : Rel Bad φ h w) {id : Nat} {r : Row} (hg : h.get id = some r) : Goes Bad φ h w φ (h.put id r) w := by
  have hget : ∀ k, (h.put id r).get k = h.get k := fun k => by
    by_cases he : k = id
    · subst he; rw [AH.get_put_same, hg]
    · exact AH.get_put_ne _ _ _ _ he
  exact ⟨⟨fun k r' h1 => hr.live k r' (by rw [← hget]; exact h1), hr.bad, fun k h1 => hr.gone k (by rw [← hget]; exact h1), hr.lt, hr.inj, hr.ok,
    fun k r' l b o h1 h2 h3 i c hc => hr.cells k r' l b o (by rw [← hget]; exact h1) h2 h3 i c hc⟩, .refl _ _ _⟩

theorem loadFrom_prefix {P : Program} {w : World} {a : Addr} : ∀ (n i : Nat) (acc r : Array Value) (w' : World), (loadCellsFrom a i n acc).run P w = .ok r w' →
    ∃ vs : List Value, vs.length = n ∧ r = acc ++ vs.toArray ∧ ∀ m, m ≤ n → (loadCellsFrom a i m acc).run P w = .ok (acc ++ (vs.take m).toArray) w
  | 0, i, acc, r, w', h => by
    simp only [loadCellsFrom, Sem.run_pure, Result.ok.injEq] at h
    refine ⟨[], rfl, by simp [h.1], fun m hm => ?_⟩
    have : m = 0 := by omega
    subst this
    simp [loadCellsFrom]
  | n + 1, i, acc, r, w', h => by
    have hld : ∃ v, (load (a.add i)).run P w = .ok v w := by
      cases hl : (load (a.add i)).run P w with
      | halt x w2 => simp only [loadCellsFrom, Sem.run_bind, hl] at h; simp at h
      | ok v w2 =>
        have : w2 = w := by
          rw [Go.run_load] at hl
          split at hl
          · simp only [Result.ok.injEq] at hl; exact hl.2.symm
          · split at hl
            · simp only [Result.ok.injEq] at hl; exact hl.2.symm
            · cases hl
        subst this
        exact ⟨v, rfl⟩
    obtain ⟨v, hv⟩ := hld
    have h2 : (loadCellsFrom a (i + 1) n (acc.push v)).run P w = .ok r w' := by
      simpa only [loadCellsFrom, Sem.run_bind, hv, Result.andThen_ok] using h
    obtain ⟨vs, k1, k2, k3⟩ := loadFrom_prefix n (i + 1) (acc.push v) r w' h2
    refine ⟨v :: vs, by simp [k1], by rw [k2]; simp, fun m hm => ?_⟩
    cases m with
    | zero => simp [loadCellsFrom]
    | succ m =>
      simp only [loadCellsFrom, Sem.run_bind, hv, Result.andThen_ok]
      rw [k3 m (by omega)]
      simp

/-- Fewer first cells. -/
theorem Firsts.take {P : Program} {w : World} {size n m : Nat} {a : Option Addr} {ln cp : Nat} {vs : List Value} (h : Firsts P w size n (.slice a ln cp) vs) (hm : m ≤ n) : Firsts P w size m (.slice a ln cp) (vs.take (m * size)) := by
  have hle : m * size ≤ n * size := Nat.mul_le_mul_right _ hm
  refine ⟨by rw [List.length_take, h.1]; exact Nat.min_eq_left hle, fun w' hw => ?_⟩
  have h2 := h.2 w' hw
  cases a with
  | none =>
    simp only [Builtin.firstCells, Sem.run_pure, Result.ok.injEq] at h2 ⊢
    have : vs = [] := by
      have h3 := congrArg Array.toList h2.1
      simpa using h3.symm
    simp [this]
  | some ad =>
    simp only [Builtin.firstCells, loadCells] at h2 ⊢
    obtain ⟨vs', k1, k2, k3⟩ := loadFrom_prefix _ _ _ _ _ h2
    have : vs' = vs := by
      have h3 := congrArg Array.toList k2
      simpa using h3.symm
    subst this
    simpa using k3 _ hle

theorem run_copy {P : Program} {dt xt e : TypeId} {τ : Ty} {t : TypeId} {w w' : World} {base : Option Addr} {dLen dCap n : Nat} {vx : Value} {nv : List Value} (hu : P.underlying dt = some (.slice e)) (hsz : τ.size = P.cellsOf e)
    (hl : ∀ w', (Builtin.lenOf vx).run P w' = .ok n w') (hf : Firsts P w τ.size (min n dLen) vx nv) (hst : ∀ ad, base = some ad → (storeCells ad nv).run P w = .ok () w') (hno : base = none → w' = w) :
    (Builtin.copy_ #[dt, xt] t #[.slice base dLen dCap, vx]).run P w = .ok (.int .i64 (min n dLen : Nat)) w' := by
  have hs := run_size' (P := P) (t := e) (by rw [← hsz]; exact τ.size_pos) w
  have hf2 := hf.2 w rfl
  unfold Builtin.copy_
  cases base with
  | none =>
    obtain rfl := hno rfl
    simp [run_underlying hu, hl, hs, ← hsz, hf2, goInt]
  | some ad =>
    have := hst ad rfl
    simp [run_underlying hu, hl, hs, ← hsz, hf2, this, goInt]

/-- A value that 'source' takes for a slice is a slice; it is empty where it is nil. -/
theorem source_slice {Bad : Nat → Prop} {φ : Map} {h h1 : AH} {w : World} {τ : Ty} {e : TypeId} {x : AV} {v : Value} {l : List τ.D} (hs : source τ (.slice e) x h = some (l, h1)) (hr : Rel Bad φ h w) (hv : Sim (Imm Bad φ w) φ h.next w x v) :
    ∃ a n c, v = .slice a n c ∧ (a = none → l = [] ∧ h1 = h) := by
  unfold source at hs
  split at hs
  · split at hs
    · cases hv with
      | @lits _ m _ a q1 q2 q3 q4 =>
        refine ⟨_, _, _, rfl, fun ha => ?_⟩
        rcases Nat.eq_zero_or_pos m with h0 | h0
        · subst h0
          rename_i cs _ _
          have hcs : cs = [] := List.eq_nil_of_length_eq_zero (by omega)
          subst hcs
          simp only [List.length_nil, data, Option.some.injEq, Prod.mk.injEq] at hs
          exact ⟨hs.1.symm, hs.2.symm⟩
        · obtain ⟨b, o, hb, _⟩ := q3 h0
          rw [ha] at hb; cases hb
    · cases hs
  · simp only [Option.some.injEq, Prod.mk.injEq] at hs
    cases hv
    exact ⟨_, _, _, rfl, fun _ => ⟨hs.1.symm, hs.2.symm⟩⟩
  · split at hs
    · rename_i he
      subst he
      simp only [Option.some.injEq, Prod.mk.injEq] at hs
      cases hv with
      | fz hl =>
        obtain ⟨a, n, c, rfl, r2, r3, r4, r5, r6⟩ := hl
        refine ⟨a, n, c, rfl, fun ha => ⟨?_, hs.2.symm⟩⟩
        rw [← hs.1]
        rcases Nat.eq_zero_or_pos n with h0 | h0
        · exact List.eq_nil_of_length_eq_zero (by omega)
        · obtain ⟨b, o, hb, _⟩ := r6 h0
          rw [ha] at hb; cases hb
    · cases hs
  · split at hs
    · rename_i hg
      split at hs
      · rename_i he
        subst he
        simp only [Option.some.injEq, Prod.mk.injEq] at hs
        obtain ⟨lc, h2, hf⟩ := hr.live _ _ hg
        cases hv with
        | ownDead h3 _ => rw [h3] at h2; cases h2
        | ownNil h3 h4 =>
          rw [h3] at h2
          simp only [Option.some.injEq] at h2
          subst h2
          refine ⟨_, _, _, rfl, fun _ => ⟨?_, hs.2.symm⟩⟩
          rw [← hs.1]
          have h5 := (hf.nowhere h4).1
          have h6 : _ = (Row.typ _ _).len := hf.len
          exact List.eq_nil_of_length_eq_zero (by simp only [Row.len] at h6; omega)
        | own h3 h4 => exact ⟨_, _, _, rfl, fun ha => (by cases ha)⟩
      · cases hs
    · cases hs
  · rename_i e' id off n _
    split at hs
    · rename_i hg
      split at hs
      · rename_i he
        subst he
        simp only [Option.some.injEq, Prod.mk.injEq] at hs
        obtain ⟨lc, h2, hf⟩ := hr.live _ _ hg
        cases hv with
        | ownpDead h3 _ => rw [h3] at h2; cases h2
        | ownpNil h3 h4 => exact ⟨_, _, _, rfl, fun _ => ⟨by rw [← hs.1]; simp, hs.2.symm⟩⟩
        | @ownp _ _ _ c b o l' a h3 h4 h5 h6 h7 h8 =>
          refine ⟨_, _, _, rfl, fun ha => ⟨?_, hs.2.symm⟩⟩
          have h0 : n = 0 := by
            rcases Nat.eq_zero_or_pos c with h0 | h0
            · omega
            · rw [h8 h0] at ha; cases ha
          rw [← hs.1, h0]
          simp
      · cases hs
    · cases hs
  · rename_i ht; cases ht
  · cases hs

theorem overK_to {C : Ctx} {o : Oper} {ρ : Operand → AV} {h h1 : AH} {dt xt e e' : TypeId} {τ : Ty} {d x : Operand} (ho : o.op = .call { callee := .builtin .copy, args := #[d, x], argTypes := #[dt, xt] })
    (hu : C.P.underlying dt = some (.slice e)) (hsz : τ.size = C.P.cellsOf e) {new : List τ.D} (hsrc : source τ (.slice e') (ρ x) h = some (new, h1)) (hx : intOk (ρ x) = true) {id off n : Nat} {Z : Type} {k : AV → AH → Option Z} {z : Z}
    (hd : ρ d = .ownp id off n ∨ (ρ d = .own id ∧ off = 0 ∧ ∃ r, h1.get id = some r ∧ n = r.len)) (hk : overK τ id off n new h1 k = some z) : ∃ v h', k v h' = some z ∧ OpTo C.P o ρ h v h' ∧ ModOk C o ρ h h' := by
  unfold overK at hk
  split at hk
  · rename_i τ' l hg
    split at hk
    · rename_i he
      subst he
      simp only at hk
      split at hk
      · rename_i hfit
        have hmem : id ∈ idsOf [ρ d, ρ x] := by
          rcases hd with hd | ⟨hd, _⟩ <;> rw [hd] <;> simp [idsOf]
        refine ⟨_, _, hk, .of_value fun Bad φ w η hr hs => ?_, ?_⟩
        · have s1 := hs d (by simp [ho, Op.operands, Call.operands])
          have s2 := hs x (by simp [ho, Op.operands, Call.operands])
          obtain ⟨φ1, nv, g1, hsrc', hv0, _⟩ := source_to (P := C.P) hsrc hx hr s2
          have hv := hv0 ⟨e', rfl⟩
          obtain ⟨hl, hf⟩ : (∀ w', (Builtin.lenOf (η x)).run C.P w' = .ok new.length w') ∧ Firsts C.P w τ'.size new.length (η x) nv := by
            rcases hsrc' with ⟨e2, _, h3, h4⟩ | ⟨k1, k2, m, hk1, _⟩
            · exact ⟨h3, h4⟩
            · cases hk1
          obtain ⟨ax, nx, cx, hvx, _⟩ := source_slice hsrc hr s2
          rw [hvx] at hf
          have hf' := hf.take (m := min new.length n) (Nat.min_le_left _ _)
          rw [← hvx] at hf'
          have s1' := g1.evo.sim hr.id_lt s1
          have hm1 : min new.length n ≤ new.length := Nat.min_le_left _ _
          have hm2 : off + min new.length n ≤ l.length := Nat.le_trans (Nat.add_le_add_left (Nat.min_le_right _ _) _) hfit
          -- where it is written
          obtain ⟨lc, hlc, hfits⟩ := g1.rel.live id _ hg
          have hlen : lc.len = l.length := hfits.len
          have hesz : lc.esz = τ'.size := hfits.esz
          have done : ∀ base dCap w', η d = .slice base n dCap → (∀ ad, base = some ad → (storeCells ad (nv.take (min new.length n * τ'.size))).run C.P w = .ok () w') → (base = none → w' = w) →
              (execOp η o).run C.P w = .ok (.value (.int .i64 (min new.length n : Nat))) w' := by
            intro base dCap w' h1 h2 h3
            have := run_copy (P := C.P) (xt := xt) (t := o.type) (dCap := dCap) hu hsz hl hf' h2 h3
            simp [execOp, ho, resolve, invoke, builtin, h1, this]
          -- nothing is written
          have none_ : ∀ base dCap, η d = .slice base n dCap → min new.length n = 0 → ∃ φ' w' v', (execOp η o).run C.P w = .ok (.value v') w' ∧
              Goes Bad φ h w φ' (h1.put id (.typ τ' (l.take off ++ new.take (min new.length n) ++ l.drop (off + min new.length n)))) w' ∧ Sim (Imm Bad φ' w') φ' (h1.put id (.typ τ' (l.take off ++ new.take (min new.length n) ++ l.drop (off + min new.length n)))).next w' (.int .i64 (min new.length n : Nat)) v' := by
            intro base dCap h1 h0
            refine ⟨φ1, w, _, done base dCap w h1 (fun ad _ => by rw [h0]; simp [storeCells]) (fun _ => rfl), g1.trans ?_, .int _ _⟩
            have : l.take off ++ new.take (min new.length n) ++ l.drop (off + min new.length n) = l := by rw [h0]; simp
            rw [this]
            exact g1.rel.put_same hg
          have some_ : ∀ b p dCap, lc.at_ = some (b, p) → η d = .slice (some ⟨b, p + off * τ'.size, none⟩) n dCap → ∃ φ' w' v', (execOp η o).run C.P w = .ok (.value v') w' ∧
              Goes Bad φ h w φ' (h1.put id (.typ τ' (l.take off ++ new.take (min new.length n) ++ l.drop (off + min new.length n)))) w' ∧ Sim (Imm Bad φ' w') φ' (h1.put id (.typ τ' (l.take off ++ new.take (min new.length n) ++ l.drop (off + min new.length n)))).next w' (.int .i64 (min new.length n : Nat)) v' := by
            intro b p dCap hat h1
            obtain ⟨w', k1, k2⟩ := copy_write (P := C.P) g1.rel hg hlc hat hm1 hm2 hv
            exact ⟨φ1, w', _, done _ dCap w' h1 (fun ad had => by cases had; exact k1) (fun h => by cases h), g1.trans k2, .int _ _⟩
          rcases hd with hd | ⟨hd, rfl, r, hr1, rfl⟩
          · rw [hd] at s1'
            generalize hvd : η d = vd at s1'
            cases s1' with
            | ownpDead q1 _ => rw [q1] at hlc; cases hlc
            | ownpNil q1 q2 => exact none_ _ _ hvd (by simp)
            | @ownp _ _ _ c b o' l' a q1 q2 q3 q4 q5 q6 =>
              rw [q1] at hlc
              simp only [Option.some.injEq] at hlc
              subst hlc
              rcases Nat.eq_zero_or_pos n with h0 | h0
              · exact none_ _ _ hvd (by rw [h0]; simp)
              · have := q6 (by omega)
                rw [hesz] at this
                subst this
                exact some_ b o' c q2 hvd
          · rw [hg] at hr1
            simp only [Option.some.injEq] at hr1
            subst hr1
            rw [hd] at s1'
            generalize hvd : η d = vd at s1'
            cases s1' with
            | ownDead q1 _ => rw [q1] at hlc; cases hlc
            | ownNil q1 q2 =>
              rw [q1] at hlc
              simp only [Option.some.injEq] at hlc
              subst hlc
              have h0 := (hfits.nowhere q2).1
              have h0' : (Row.typ τ' l).len = 0 := by simp only [Row.len]; omega
              refine none_ _ _ (by rw [h0']; exact hvd) (by rw [h0']; simp)
            | @own _ b o' l' q1 q2 =>
              rw [q1] at hlc
              simp only [Option.some.injEq] at hlc
              subst hlc
              refine some_ b o' l'.cap q2 ?_
              simp only [Nat.zero_mul, Nat.add_zero, Row.len]
              rw [← hlen]
              exact hvd
        · have k := ((source_keeps hsrc).weak (ids_cons (ρ d) (ρ x)).2).trans (Keeps.put (l := idsOf [ρ d, ρ x]) h1 (.typ τ' (l.take off ++ new.take (min new.length n) ++ l.drop (off + min new.length n))) hmem) (fun q hq => .inl hq)
          exact ⟨k.next, fun l hl => by
            simp only [modsOf, ho, Option.some.injEq] at hl
            subst hl
            exact k⟩
      · cases hk
    · cases hk
  · cases hk

theorem copy_to {C : Ctx} {o : Oper} {ρ : Operand → AV} {h : AH} {args : Array Operand} {argTypes : Array TypeId} (ho : o.op = .call { callee := .builtin .copy, args := args, argTypes := argTypes }) {Z : Type} {k : AV → AH → Option Z} {z : Z}
    (hk : effK C o ρ h k = some z) : ∃ v h', k v h' = some z ∧ OpTo C.P o ρ h v h' ∧ ModOk C o ρ h h' := by
  unfold effK at hk
  rw [ho] at hk
  simp only at hk
  split at hk
  · rename_i d x dt xt hargs htypes
    have ea : args = #[d, x] := by apply Array.toList_inj.1; rw [hargs]
    have et : argTypes = #[dt, xt] := by apply Array.toList_inj.1; rw [htypes]
    subst ea; subst et
    unfold copyK at hk
    split at hk
    · rename_i e τ e' hel hxt
      obtain ⟨hst, hsz⟩ := elemTy_some hel
      split at hk
      · rename_i new h1 hsrc
        have hx : intOk (ρ x) = true := by
          generalize ρ x = c at hsrc
          cases c <;> first | rfl | (simp [source] at hsrc)
        split at hk
        · rename_i id hd
          split at hk
          · rename_i r hr
            exact overK_to ho hst hsz hsrc hx (.inr ⟨hd, rfl, r, hr, rfl⟩) hk
          · cases hk
        · rename_i id off n hd
          exact overK_to ho hst hsz hsrc hx (.inl hd) hk
        · cases hk
      · cases hk
    · cases hk
  · cases hk

end Go.Ph

/- Calls, and every operation. -/
namespace Go.Ph
open Go.RowKit

/-- A call comes to the value, and to the heap behind it. -/
def FnTo (P : Program) (f : Nat) (args : List AV) (h : AH) (r : AV) (h' : AH) : Prop :=
  ∀ (Bad : Nat → Prop) (φ : Map) (w : World) (vs : Array Value), Rel Bad φ h w → VCells (Imm Bad φ w) φ h.next w args vs.toList →
    Calls P f vs w fun e w' => ∃ φ' v, e = .returned v ∧ Goes Bad φ h w φ' h' w' ∧ Sim (Imm Bad φ' w') φ' h'.next w' r v

/-- What the evaluator takes for a function is sound. -/
structure EnvOk (C : Ctx) (f : Nat) : Prop where
  body : ∃ fn, C.P.funcs[f]? = some fn ∧ fn.body.isNone = false ∧ (fn.name == "runtime.NumGoroutine") = false
  to_ : ∀ (args : List AV) (h : AH) (Z : Type) (k : AV → AH → Option Z) (z : Z), C.env f args h Z k = some z → ∃ r h', k r h' = some z ∧ h.next ≤ h'.next ∧ (C.quiet f = true → h' = h ∧ ∀ h2 : AH, FnTo C.P f args h2 r h2) ∧ (C.tame f = true → Keeps (reach h args) h h') ∧ FnTo C.P f args h r h'

theorem call_op {C : Ctx} {o : Oper} {ρ : Operand → AV} {h h' : AH} {r : AV} {f : Nat} {args : Array Operand} {argTypes : Array TypeId} (ho : o.op = .call { callee := .value (.func f), args := args, argTypes := argTypes })
    (hb : ∃ fn, C.P.funcs[f]? = some fn ∧ fn.body.isNone = false ∧ (fn.name == "runtime.NumGoroutine") = false) (hf : FnTo C.P f (args.toList.map ρ) h r h') : OpTo C.P o ρ h r h' := by
  intro Bad φ w a K Q hrel hs hk
  obtain ⟨fn, h1, h2, h3⟩ := hb
  have hrun : (execOp a.eval o).run C.P w = .ok (.enter f (args.map a.eval)) w := by
    simp only [execOp, ho, resolve, Act.eval, Deferred.ofValue, invoke]
    have h3' : ¬ fn.name = "runtime.NumGoroutine" := by simpa using h3
    have h2' : ¬ fn.body = none := by
      cases hfb : fn.body with
      | none => simp [hfb] at h2
      | some b => simp
    simp [callFunc, h1, h3', h2']
  unfold Oper.wp
  rw [hrun]
  simp only [Oper.upon]
  refine (hf Bad φ w (args.map a.eval) hrel ⟨by simp, fun i c v hc hv => ?_⟩).mono ?_
  · simp only [Array.toList_map, List.getElem?_map] at hc hv
    cases hx : args.toList[i]? with
    | none => simp [hx] at hc
    | some x =>
      simp only [hx, Option.map_some, Option.some.injEq] at hc hv
      subst hc; subst hv
      refine hs x ?_
      have hm : x ∈ args.toList := List.mem_of_getElem? hx
      simp only [ho, Op.operands, Call.operands, Array.mem_append]
      exact .inr (Array.mem_toList_iff.1 hm)
  · rintro e w' ⟨φ', v, rfl, g, hv⟩
    exact hk φ' w' v g hv

/-- Is every function that an operation calls sound? -/
def callsOk (ok : Nat → Prop) (o : Oper) : Prop := ∀ f args argTypes, o.op = .call { callee := .value (.func f), args := args, argTypes := argTypes } → ok f

/-- Operations that change nothing: they come to the same in every heap in which the rows that they read are the same. -/
theorem quiet_to {C : Ctx} {o : Oper} {ρ : Operand → AV} {h : AH} {Z : Type} {k : AV → AH → Option Z} {z : Z} (hok : callsOk (EnvOk C) o) (he : isEff C o = false) (hk : opK C o ρ h k = some z) :
    ∃ v, k v h = some z ∧ ∀ h2 : AH, (∀ id ∈ readsOf o ρ, h2.get id = h.get id) → OpTo C.P o ρ h2 v h2 := by
  unfold opK at hk
  rw [he] at hk
  simp only [Bool.false_eq_true, if_false] at hk
  split at hk
  · rename_i f args argTypes ho
    have hq : C.quiet f = true := by
      unfold isEff at he
      rw [ho] at he
      simpa using he
    obtain ⟨r, h', h1, _, h2, _, h3⟩ := (hok f args argTypes ho).to_ _ _ _ _ _ hk
    obtain ⟨rfl, h4⟩ := h2 hq
    exact ⟨r, h1, fun h2 _ => call_op ho (hok f args argTypes ho).body (h4 h2)⟩
  · obtain ⟨v, h1, h2⟩ := readK_to hk
    exact ⟨v, h1, fun h2' hh => (h2 h2' hh).op⟩

theorem eff_to {C : Ctx} {o : Oper} {ρ : Operand → AV} {h : AH} {Z : Type} {k : AV → AH → Option Z} {z : Z} (hok : callsOk (EnvOk C) o) (he : isEff C o = true) (hk : opK C o ρ h k = some z) :
    ∃ v h', k v h' = some z ∧ OpTo C.P o ρ h v h' ∧ ModOk C o ρ h h' := by
  unfold opK at hk
  rw [he, if_pos rfl] at hk
  have he' := he
  unfold isEff at he
  split at he
  · rename_i t x ho
    unfold effK at hk
    rw [ho] at hk
    simp only at hk
    split at hk
    · rename_i hc
      exact ⟨_, _, hk, box_to ho hc, (Keeps.add h _).mod⟩
    · cases hk
  · rename_i t ho
    unfold effK at hk
    rw [ho] at hk
    simp only at hk
    split at hk
    · rename_i zz hz
      split at hk
      · rename_i hc
        exact ⟨_, _, hk, alloc_to ho hz hc, (Keeps.add h _).mod⟩
      · cases hk
    · cases hk
  · rename_i t a x ho
    exact store_to ho he' hk
  · rename_i t l c ho
    unfold effK at hk
    rw [ho] at hk
    simp only at hk
    obtain ⟨v, h', h1, h2, r, rfl⟩ := make_to ho hk
    exact ⟨v, _, h1, h2, (Keeps.add h r).mod⟩
  · rename_i t len parts ho
    unfold effK at hk
    rw [ho] at hk
    simp only at hk
    obtain ⟨v, h', h1, h2, r, rfl⟩ := bslice_to ho hk
    exact ⟨v, _, h1, h2, (Keeps.add h r).mod⟩
  · rename_i args argTypes ho
    exact append_to ho hk
  · rename_i args argTypes ho
    exact copy_to ho hk
  · rename_i f args argTypes ho
    unfold effK at hk
    rw [ho] at hk
    simp only at hk
    obtain ⟨r, h', h1, hn, _, ht, h3⟩ := (hok f args argTypes ho).to_ _ _ _ _ _ hk
    refine ⟨r, h', h1, call_op ho (hok f args argTypes ho).body h3, hn, fun l hl => ?_⟩
    simp only [modsOf, ho] at hl
    cases hq : C.tame f with
    | false => rw [hq] at hl; cases hl
    | true =>
      rw [hq] at hl
      simp only [cond_true, Option.some.injEq] at hl
      subst hl
      exact ht hq
  · cases he

end Go.Ph

/- Regions in the order of the text. -/
namespace Go.Ph
open Go.RowKit

/-- The variables are what the evaluator says. -/
structure ActSim (N : Nat → Prop) (φ : Map) (nx : Nat) (w : World) (a : Act') (x : Act) : Prop where
  size : a.length = x.tmps.size
  tmps : ∀ t, Sim N φ nx w (AV.at_ a t) (x.tmps.getD t undef)

theorem ActSim.eval {N : Nat → Prop} {φ : Map} {nx : Nat} {w : World} {a : Act'} {x : Act} (h : ActSim N φ nx w a x) (y : Operand) : Sim N φ nx w (evalA a y) (x.eval y) := by
  cases y with
  | tmp t => exact h.tmps t
  | const v => exact ofConst_sim N v
  | global g => exact .dead
  | func f => exact .fn f

theorem ActSim.evo {Bad : Nat → Prop} {φ φ' : Map} {n n' : Nat} {w w' : World} (h : Evo φ n w φ' n' w') (hlt : ∀ id l, φ id = some l → id < n) {a : Act'} {x : Act} (ha : ActSim (Imm Bad φ w) φ n w a x) :
    ActSim (Imm Bad φ' w') φ' n' w' a x := ⟨ha.size, fun t => h.sim hlt (ha.tmps t)⟩

theorem ActSim.put {N : Nat → Prop} {φ : Map} {nx : Nat} {w : World} {a : Act'} {x : Act} (h : ActSim N φ nx w a x) (dst : Option Nat) {c : AV} {v : Value} (hv : Sim N φ nx w c v) : ActSim N φ nx w (putA a dst c) (x.put dst v) := by
  cases dst with
  | none => exact h
  | some d =>
    refine ⟨by rw [putA_len]; simp [Act.put, h.size], fun t => ?_⟩
    rw [at_set]
    simp only [Act.put]
    split
    · rename_i ht
      obtain ⟨rfl, hlt⟩ := ht
      have : t < x.tmps.size := by rw [← h.size]; exact hlt
      simp [Array.getD, this, hv]
    · rename_i ht
      have : (x.tmps.setIfInBounds d v).getD t undef = x.tmps.getD t undef := by
        by_cases he : t = d
        · subst he
          have : ¬ t < x.tmps.size := by rw [← h.size]; exact fun hh => ht ⟨rfl, hh⟩
          simp [Array.getD, this]
        · simp only [Array.getD_eq_getD_getElem?]
          rw [Array.getElem?_setIfInBounds_ne (Ne.symm he)]
      rw [this]
      exact h.tmps t

theorem put_defers (x : Act) (dst : Option Nat) (v : Value) : (x.put dst v).defers = x.defers := by
  cases dst <;> rfl

/-- What a guard yielded. -/
theorem yield_sim {N : Nat → Prop} {φ : Map} {nx : Nat} {w : World} {a : Act'} {x : Act} (h : ActSim N φ nx w a x) (ops : Array Oper) (j : Nat) {y : Option Bool} (hy : yieldA ops.toList a j = some y) : yielded ops x.tmps j = y := by
  unfold yieldA at hy
  unfold yielded
  simp only [Array.getElem?_toList] at hy
  split at hy
  · rename_i d hd
    rw [hd]
    simp only [Option.bind_some]
    have hs := h.tmps d
    split at hy
    · rename_i b hb
      simp only [Option.some.injEq] at hy
      subst hy
      have hlt : d < x.tmps.size := by
        rw [← h.size]
        rcases Nat.lt_or_ge d a.length with h1 | h1
        · exact h1
        · rw [AV.at_ge h1] at hb; cases hb
      rw [hb] at hs
      simp only [Array.getD, hlt, dite_true] at hs
      have : x.tmps[d]? = some x.tmps[d] := by simp [hlt]
      rw [this]
      generalize hv : x.tmps[d] = v at hs ⊢
      have hv2 : (x.tmps.getInternal d hlt) = v := hv
      rw [hv2] at hs
      cases hs
      rfl
    · rename_i hb
      simp only [Option.some.injEq] at hy
      subst hy
      have hlt : d < x.tmps.size := by
        rw [← h.size]
        rcases Nat.lt_or_ge d a.length with h1 | h1
        · exact h1
        · rw [AV.at_ge h1] at hb; cases hb
      rw [hb] at hs
      simp only [Array.getD, hlt, dite_true] at hs
      have : x.tmps[d]? = some x.tmps[d] := by simp [hlt]
      rw [this]
      generalize hv : x.tmps[d] = v at hs ⊢
      have hv2 : (x.tmps.getInternal d hlt) = v := hv
      rw [hv2] at hs
      cases hs
      rfl
    · cases hy
  · rename_i hd
    simp only [Option.some.injEq] at hy
    subst hy
    rw [hd]
    rfl

/-- One operation of a region, as the evaluator carries it out. -/
structure StepAt (C : Ctx) (all : List Oper) (o : Oper) (a : Act') (h : AH) (x : Bool) (v : AV) (h' : AH) : Prop where
  skip : x = false → v = .tuple [] ∧ h' = h ∧ ∃ j want, o.guard = some (j, want) ∧ ((∃ b, yieldA all a j = some (some b) ∧ b ≠ want) ∨ yieldA all a j = some none)
  run : x = true → (o.guard = none ∨ ∃ j want, o.guard = some (j, want) ∧ yieldA all a j = some (some want))
  eff : x = true → isEff C o = true → OpTo C.P o (evalA a) h v h' ∧ ModOk C o (evalA a) h h'
  same : x = true → isEff C o = false → h' = h ∧ (∀ id ∈ readsOf o (evalA a), id < h.next) ∧ ∀ h2 : AH, (∀ id ∈ readsOf o (evalA a), h2.get id = h.get id) → OpTo C.P o (evalA a) h2 v h2

theorem one_step {Z : Type} {C : Ctx} {all : List Oper} {bf : List Nat} {i : Nat} {o : Oper} {rd : List (Nat × List Nat)} {md : List (Nat × Option (List Nat))} {a : Act'} {h : AH} {next : List (Nat × List Nat) → List (Nat × Option (List Nat)) → Act' → AH → Option Z} {z : Z} (hok : callsOk (EnvOk C) o)
    (hg : o.guard = none ∨ ∃ j want, o.guard = some (j, want) ∧ yieldA all a j = some (some want)) (hk : oneK C bf i o rd md a h next = some z) :
    ∃ v h', StepAt C all o a h true v h' ∧
      (isEff C o = true → apartOk' bf (modsOf C o (evalA a) h) rd = true ∧ next rd ((i, modsOf C o (evalA a) h) :: md) (putA a o.dst v) h' = some z) ∧
      (isEff C o = false → apartOk bf (readsOf o (evalA a)) md = true ∧ next ((i, readsOf o (evalA a)) :: rd) md (putA a o.dst v) h' = some z) := by
  unfold oneK at hk
  split at hk
  · rename_i he
    split at hk
    · rename_i hap
      obtain ⟨v, h', h1, h2, h3⟩ := eff_to hok he hk
      exact ⟨v, h', ⟨fun h => (by cases h), fun _ => hg, fun _ _ => ⟨h2, h3⟩, fun _ h => (by rw [he] at h; cases h)⟩, fun _ => ⟨hap, h1⟩, fun h => (by rw [he] at h; cases h)⟩
    · cases hk
  · rename_i he
    have he' : isEff C o = false := by simpa using he
    split at hk
    · rename_i hap
      rw [Bool.and_eq_true] at hap
      obtain ⟨v, h1, h2⟩ := quiet_to hok he' hk
      refine ⟨v, h, ⟨fun h => (by cases h), fun _ => hg, fun _ h => (by rw [he'] at h; cases h), fun _ _ => ⟨rfl, fun id hid => ?_, h2⟩⟩, fun h => (by rw [he'] at h; cases h), fun _ => ⟨hap.1, h1⟩⟩
      exact Nat.le_of_ble_eq_true (List.all_eq_true.1 hap.2 id hid)
    · cases hk

theorem wanted_of {ops : Array Oper} {o : Oper} {tmps : Array Value} (h : o.guard = none ∨ ∃ j want, o.guard = some (j, want) ∧ yielded ops tmps j = some want) : Region.wanted o (yielded ops tmps) = true := by
  unfold Region.wanted
  rcases h with h | ⟨j, want, h1, h2⟩
  · rw [h]
  · rw [h1]; simp [h2]

theorem unwanted_of {ops : Array Oper} {o : Oper} {tmps : Array Value} {j : Nat} {want : Bool} (h1 : o.guard = some (j, want)) (h2 : yielded ops tmps j ≠ some want) : Region.wanted o (yielded ops tmps) = false := by
  unfold Region.wanted
  rw [h1]
  simp [h2]

/-- One operation of a region, in the model. -/
theorem StepAt.wp {C : Ctx} {ops : Array Oper} {o : Oper} {a : Act'} {h : AH} {x : Bool} {v : AV} {h' : AH} (hs : StepAt C ops.toList o a h x v h') {i : Nat} (hi : ops[i]? = some o) {Bad : Nat → Prop} {φ : Map} {hS : AH} {w : World} {y : Act} {Q : Exit → Act → World → Prop} {K : Act → World → Prop}
    (hrel : Rel Bad φ hS w) (heval : ∀ u ∈ o.op.operands, Sim (Imm Bad φ w) φ hS.next w (evalA a u) (y.eval u)) (hyield : ∀ j want, o.guard = some (j, want) → ∀ r, yieldA ops.toList a j = some r → yielded ops y.tmps j = r)
    (heff : x = true → isEff C o = true → hS = h) (hsame : x = true → isEff C o = false → ∀ id ∈ readsOf o (evalA a), hS.get id = h.get id)
    (hK : ∀ φ' w' v', Goes Bad φ hS w φ' (if x = true ∧ isEff C o = true then h' else hS) w' → Sim (Imm Bad φ' w') φ' (if x = true ∧ isEff C o = true then h' else hS).next w' v v' → K (y.put o.dst v') w') : wpOp C.P ops Q i K y w := by
  unfold wpOp
  simp only [hi]
  cases x with
  | false =>
    obtain ⟨rfl, rfl, j, want, hg, hyl⟩ := hs.skip rfl
    have hne : yielded ops y.tmps j ≠ some want := by
      rcases hyl with ⟨b, h1, h2⟩ | h1
      · rw [hyield j want hg _ h1]; simpa using h2
      · rw [hyield j want hg _ h1]; simp
    rw [unwanted_of hg hne]
    simp only [Bool.false_eq_true, if_false]
    have := hK φ w undef
    simp only [Bool.false_eq_true, false_and, if_false] at this
    exact this (.refl hrel) (.tuple rfl (fun i c v hc => by simp at hc))
  | true =>
    have hw : Region.wanted o (yielded ops y.tmps) = true := by
      rcases hs.run rfl with h1 | ⟨j, want, h1, h2⟩
      · exact wanted_of (.inl h1)
      · exact wanted_of (.inr ⟨j, want, h1, hyield j want h1 _ h2⟩)
    rw [hw, if_pos rfl]
    left
    cases he : isEff C o with
    | true =>
      have := heff rfl he
      subst this
      simp only [he, and_self, if_true] at hK
      exact (hs.eff rfl he).1 Bad φ w y K Q hrel heval hK
    | false =>
      obtain ⟨rfl, hlt, hop⟩ := hs.same rfl he
      simp only [he, Bool.false_eq_true, and_false, if_false] at hK
      exact hop hS (hsame rfl he) Bad φ w y K Q hrel heval hK

theorem fixA_eq {all : List Oper} {a : Act'} {j : Nat} {b : Bool} (h : yieldA all a j = some (some b)) : fixA all a j b = a := by
  unfold yieldA at h
  unfold fixA
  split at h
  · rename_i d hd
    rw [hd]
    have hat : AV.at_ a d = .bool b := by
      split at h
      · rename_i b' he
        simp only [Option.some.injEq] at h
        rw [he, h]
      · cases h
      · cases h
    have hlt : d < a.length := by
      rcases Nat.lt_or_ge d a.length with hl | hl
      · exact hl
      · rw [AV.at_ge hl] at hat
        cases hat
    have hb : Nat.blt d a.length = true := Nat.ble_eq_true_of_le hlt
    simp only [putA, hb, cond_true]
    rw [AV.at_lt hlt] at hat
    rw [← hat, PT.put_get]
    rfl
  · cases h

/-- A region whose operations come in the order of the text. -/
theorem ops_text {Z : Type} {C : Ctx} {ops : Array Oper} {bf : List (List Nat)} {k : Act' → AH → Option Z} {z : Z} : ∀ (rest : List Oper) (i : Nat) (rd : List (Nat × List Nat)) (md : List (Nat × Option (List Nat))) (a : Act') (h : AH),
    (∀ j, rest[j]? = ops[i + j]?) → (∀ o ∈ rest, callsOk (EnvOk C) o) → runOps C ops.toList bf i rest rd md a h k = some z →
    ∃ aF hF, k aF hF = some z ∧ ∀ (Bad : Nat → Prop) (φ : Map) (w : World) (y : Act) (Q : Exit → Act → World → Prop), Rel Bad φ h w → ActSim (Imm Bad φ w) φ h.next w a y →
      (∀ φ' w' y', Goes Bad φ h w φ' hF w' → ActSim (Imm Bad φ' w') φ' hF.next w' aF y' → y'.defers = y.defers → Q .normal y' w') → wpOps C.P ops Q (List.range' i rest.length) y w := by
  intro rest
  induction rest with
  | nil =>
    intro i rd md a h _ _ hk
    exact ⟨a, h, hk, fun Bad φ w y Q hr ha hQ => by simp only [List.length_nil, List.range'_zero, wpOps]; exact hQ φ w y (.refl hr) ha rfl⟩
  | cons o rest ih =>
    intro i rd md a h hrest hok hk
    have hi : ops[i]? = some o := by have := hrest 0; simp at this; exact this.symm
    have hrest' : ∀ j, rest[j]? = ops[i + 1 + j]? := fun j => by have := hrest (j + 1); simp at this; rw [this]; congr 1; omega
    have hok' : ∀ o ∈ rest, callsOk (EnvOk C) o := fun o ho => hok o (by simp [ho])
    have key : ∀ (x : Bool) (v : AV) (h' : AH) (rd' : List (Nat × List Nat)) (md' : List (Nat × Option (List Nat))), StepAt C ops.toList o a h x v h' → (isEff C o = false ∨ x = false → h' = h) → runOps C ops.toList bf (i + 1) rest rd' md' (putA a o.dst v) h' k = some z →
        ∃ aF hF, k aF hF = some z ∧ ∀ (Bad : Nat → Prop) (φ : Map) (w : World) (y : Act) (Q : Exit → Act → World → Prop), Rel Bad φ h w → ActSim (Imm Bad φ w) φ h.next w a y →
          (∀ φ' w' y', Goes Bad φ h w φ' hF w' → ActSim (Imm Bad φ' w') φ' hF.next w' aF y' → y'.defers = y.defers → Q .normal y' w') → wpOps C.P ops Q (List.range' i (o :: rest).length) y w := by
      intro x v h' rd' md' hs hsm hk
      obtain ⟨aF, hF, h1, h2⟩ := ih (i + 1) rd' md' _ h' hrest' hok' hk
      refine ⟨aF, hF, h1, fun Bad φ w y Q hr ha hQ => ?_⟩
      simp only [List.length_cons, List.range'_succ]
      rw [wpOps_cons]
      refine hs.wp hi hr (fun u _ => ha.eval u) (fun j want _ r hy => yield_sim ha ops j hy) (fun _ _ => rfl) (fun _ _ _ _ => rfl) fun φ' w' v' g hv => ?_
      have he : (if x = true ∧ isEff C o = true then h' else h) = h' := by
        split
        · rfl
        · rename_i hn
          refine (hsm ?_).symm
          cases x <;> cases hi : isEff C o <;> simp_all
      rw [he] at g hv
      refine h2 Bad φ' w' _ Q g.rel ((ha.evo g.evo hr.id_lt).put o.dst hv) fun φ'' w'' y' g' ha' hd => hQ φ'' w'' y' (g.trans g') ha' (by rw [hd, put_defers])
    simp only [runOps] at hk
    split at hk
    · rename_i hg
      obtain ⟨v, h', hs, h1, h2⟩ := one_step (all := ops.toList) (hok o (by simp)) (.inl hg) hk
      cases he : isEff C o with
      | true => exact key true v h' _ _ hs (fun h => by rcases h with h | h <;> simp_all) (h1 he).2
      | false => exact key true v h' _ _ hs (fun _ => (hs.same rfl he).1) (h2 he).2
    · rename_i j want hg
      split at hk
      · rename_i b hy
        cases hbw : (b == want) with
        | true =>
          rw [hbw] at hk
          simp only [cond_true] at hk
          have hb : b = want := by simpa using hbw
          subst hb
          rw [fixA_eq hy] at hk
          obtain ⟨v, h', hs, h1, h2⟩ := one_step (all := ops.toList) (hok o (by simp)) (.inr ⟨j, b, hg, hy⟩) hk
          cases he : isEff C o with
          | true => exact key true v h' _ _ hs (fun h => by rcases h with h | h <;> simp_all) (h1 he).2
          | false => exact key true v h' _ _ hs (fun _ => (hs.same rfl he).1) (h2 he).2
        | false =>
          rw [hbw] at hk
          simp only [cond_false] at hk
          have hb : b ≠ want := by simpa using hbw
          have hnb : (!want) = b := by cases b <;> cases want <;> simp_all
          rw [hnb, fixA_eq hy] at hk
          exact key false (.tuple []) h _ _ ⟨fun _ => ⟨rfl, rfl, j, want, hg, .inl ⟨b, hy, hb⟩⟩, fun h => (by cases h), fun h => (by cases h), fun h => (by cases h)⟩ (fun _ => rfl) hk
      · rename_i hy
        exact key false (.tuple []) h _ _ ⟨fun _ => ⟨rfl, rfl, j, want, hg, .inr hy⟩, fun h => (by cases h), fun h => (by cases h), fun h => (by cases h)⟩ (fun _ => rfl) hk
      · cases hk

end Go.Ph

/- Regions whose order is drawn: the run in the order of the text, taken apart. -/
namespace Go.Ph
open Go.RowKit

/-- A run of a region's operations, from number i on. -/
structure Trace (C : Ctx) (all : List Oper) (bf : List (List Nat)) (i n : Nat) (A : Nat → Act') (H : Nat → AH) (V : Nat → AV) (X : Nat → Bool) (rd : List (Nat × List Nat)) (md : List (Nat × Option (List Nat))) : Prop where
  step : ∀ k o, i ≤ k → k < n → all[k]? = some o → StepAt C all o (A k) (H k) (X k) (V k) (H (k + 1)) ∧ A (k + 1) = putA (A k) o.dst (V k)
  rd : ∀ k o, i ≤ k → k < n → all[k]? = some o → X k = true → isEff C o = true → ∀ p ∈ rd, (bf.getD k []).contains p.1 = true ∨ meet p.2 (modsOf C o (evalA (A k)) (H k)) = false
  md : ∀ k o, i ≤ k → k < n → all[k]? = some o → X k = true → isEff C o = false → ∀ p ∈ md, (bf.getD k []).contains p.1 = true ∨ meet (readsOf o (evalA (A k))) p.2 = false
  re : ∀ k o l q, i ≤ k → k < l → l < n → all[k]? = some o → all[l]? = some q → X k = true → X l = true → isEff C o = false → isEff C q = true → (bf.getD l []).contains k = true ∨ meet (readsOf o (evalA (A k))) (modsOf C q (evalA (A l)) (H l)) = false
  er : ∀ k o l q, i ≤ k → k < l → l < n → all[k]? = some o → all[l]? = some q → X k = true → X l = true → isEff C o = true → isEff C q = false → (bf.getD l []).contains k = true ∨ meet (readsOf q (evalA (A l))) (modsOf C o (evalA (A k)) (H k)) = false

theorem trace_of {Z : Type} {C : Ctx} {all : List Oper} {bf : List (List Nat)} {k : Act' → AH → Option Z} {z : Z} : ∀ (rest : List Oper) (i : Nat) (rd : List (Nat × List Nat)) (md : List (Nat × Option (List Nat))) (a : Act') (h : AH),
    (∀ j, rest[j]? = all[i + j]?) → (∀ o ∈ rest, callsOk (EnvOk C) o) → runOps C all bf i rest rd md a h k = some z →
    ∃ A H V X, A i = a ∧ H i = h ∧ k (A (i + rest.length)) (H (i + rest.length)) = some z ∧ Trace C all bf i (i + rest.length) A H V X rd md := by
  intro rest
  induction rest with
  | nil =>
    intro i rd md a h _ _ hk
    exact ⟨fun _ => a, fun _ => h, fun _ => .dead, fun _ => false, rfl, rfl, hk, ⟨fun k o h1 h2 => (by simp at h2; omega), fun k o h1 h2 => (by simp at h2; omega), fun k o h1 h2 => (by simp at h2; omega), fun k o l q h1 h2 h3 => (by simp at h3; omega), fun k o l q h1 h2 h3 => (by simp at h3; omega)⟩⟩
  | cons o rest ih =>
    intro i rd md a h hrest hok hk
    have hi : all[i]? = some o := by have := hrest 0; simp at this; exact this.symm
    have hrest' : ∀ j, rest[j]? = all[i + 1 + j]? := fun j => by have := hrest (j + 1); simp at this; rw [this]; congr 1; omega
    have hok' : ∀ o ∈ rest, callsOk (EnvOk C) o := fun o ho => hok o (by simp [ho])
    have hn : i + (o :: rest).length = i + 1 + rest.length := by simp; omega
    have key : ∀ (x : Bool) (v : AV) (h' : AH) (rd' : List (Nat × List Nat)) (md' : List (Nat × Option (List Nat))), StepAt C all o a h x v h' →
        (x = true → isEff C o = true → apartOk' (bf.getD i []) (modsOf C o (evalA a) h) rd = true ∧ rd' = rd ∧ md' = (i, modsOf C o (evalA a) h) :: md) →
        (x = true → isEff C o = false → apartOk (bf.getD i []) (readsOf o (evalA a)) md = true ∧ rd' = (i, readsOf o (evalA a)) :: rd ∧ md' = md) →
        (x = false → rd' = rd ∧ md' = md) →
        runOps C all bf (i + 1) rest rd' md' (putA a o.dst v) h' k = some z →
        ∃ A H V X, A i = a ∧ H i = h ∧ k (A (i + (o :: rest).length)) (H (i + (o :: rest).length)) = some z ∧ Trace C all bf i (i + (o :: rest).length) A H V X rd md := by
      intro x v h' rd' md' hs he hr hx hk
      obtain ⟨A, H, V, X, hA, hH, hz, tr⟩ := ih (i + 1) rd' md' _ h' hrest' hok' hk
      have subrd : ∀ p ∈ rd, p ∈ rd' := by
        intro p hp
        cases x with
        | false => rw [(hx rfl).1]; exact hp
        | true =>
          cases hE : isEff C o with
          | true => rw [(he rfl hE).2.1]; exact hp
          | false => rw [(hr rfl hE).2.1]; exact List.mem_cons_of_mem _ hp
      have submd : ∀ p ∈ md, p ∈ md' := by
        intro p hp
        cases x with
        | false => rw [(hx rfl).2]; exact hp
        | true =>
          cases hE : isEff C o with
          | true => rw [(he rfl hE).2.2]; exact List.mem_cons_of_mem _ hp
          | false => rw [(hr rfl hE).2.2]; exact hp
      refine ⟨fun k => if k = i then a else A k, fun k => if k = i then h else H k, fun k => if k = i then v else V k, fun k => if k = i then x else X k, by simp, by simp, ?_, ?_⟩
      · rw [hn]
        simp only [if_neg (show ¬ i + 1 + rest.length = i by omega)]
        exact hz
      · rw [hn]
        refine ⟨fun k q h1 h2 hq => ?_, fun k q h1 h2 hq hX hE p hp => ?_, fun k q h1 h2 hq hX hE p hp => ?_, fun k q l r h1 h2 h3 hq hr' hX hX' hE hE' => ?_, fun k q l r h1 h2 h3 hq hr' hX hX' hE hE' => ?_⟩
        · by_cases hki : k = i
          · subst hki
            rw [hi] at hq
            simp only [Option.some.injEq] at hq
            subst hq
            simp only [if_true, if_neg (show ¬ k + 1 = k by omega), hA, hH]
            refine ⟨hs, ?_⟩; first | rfl | trivial
          · simp only [if_neg hki, if_neg (show ¬ k + 1 = i by omega)]
            exact tr.step k q (by omega) h2 hq
        · by_cases hki : k = i
          · subst hki
            rw [hi] at hq
            simp only [Option.some.injEq] at hq
            subst hq
            simp only [if_true] at hX ⊢
            have := List.all_eq_true.1 (he hX hE).1 p hp
            simpa using this
          · simp only [if_neg hki] at hX ⊢
            exact tr.rd k q (by omega) h2 hq hX hE p (subrd p hp)
        · by_cases hki : k = i
          · subst hki
            rw [hi] at hq
            simp only [Option.some.injEq] at hq
            subst hq
            simp only [if_true] at hX ⊢
            have := List.all_eq_true.1 (hr hX hE).1 p hp
            simpa using this
          · simp only [if_neg hki] at hX ⊢
            exact tr.md k q (by omega) h2 hq hX hE p (submd p hp)
        · have hli : ¬ l = i := by omega
          simp only [if_neg hli] at hX' ⊢
          by_cases hki : k = i
          · subst hki
            rw [hi] at hq
            simp only [Option.some.injEq] at hq
            subst hq
            simp only [if_true] at hX ⊢
            exact tr.rd l r (by omega) h3 hr' hX' hE' (k, readsOf o (evalA a)) (by rw [(hr hX hE).2.1]; simp)
          · simp only [if_neg hki] at hX ⊢
            exact tr.re k q l r (by omega) h2 h3 hq hr' hX hX' hE hE'
        · have hli : ¬ l = i := by omega
          simp only [if_neg hli] at hX' ⊢
          by_cases hki : k = i
          · subst hki
            rw [hi] at hq
            simp only [Option.some.injEq] at hq
            subst hq
            simp only [if_true] at hX ⊢
            exact tr.md l r (by omega) h3 hr' hX' hE' (k, modsOf C o (evalA a) h) (by rw [(he hX hE).2.2]; simp)
          · simp only [if_neg hki] at hX ⊢
            exact tr.er k q l r (by omega) h2 h3 hq hr' hX hX' hE hE'
    have go : ∀ (hg : o.guard = none ∨ ∃ j want, o.guard = some (j, want) ∧ yieldA all a j = some (some want)), oneK C (bf.getD i []) i o rd md a h (fun rd md a h => runOps C all bf (i + 1) rest rd md a h k) = some z →
        ∃ A H V X, A i = a ∧ H i = h ∧ k (A (i + (o :: rest).length)) (H (i + (o :: rest).length)) = some z ∧ Trace C all bf i (i + (o :: rest).length) A H V X rd md := by
      intro hg hk
      obtain ⟨v, h', hs, h1, h2⟩ := one_step (all := all) (hok o (by simp)) hg hk
      cases he : isEff C o with
      | true => exact key true v h' _ _ hs (fun _ _ => ⟨(h1 he).1, rfl, rfl⟩) (fun _ h => (by rw [he] at h; cases h)) (fun h => (by cases h)) (h1 he).2
      | false => exact key true v h' _ _ hs (fun _ h => (by rw [he] at h; cases h)) (fun _ _ => ⟨(h2 he).1, rfl, rfl⟩) (fun h => (by cases h)) (h2 he).2
    have skip : ∀ (hs : StepAt C all o a h false (.tuple []) h), runOps C all bf (i + 1) rest rd md (putA a o.dst (.tuple [])) h k = some z →
        ∃ A H V X, A i = a ∧ H i = h ∧ k (A (i + (o :: rest).length)) (H (i + (o :: rest).length)) = some z ∧ Trace C all bf i (i + (o :: rest).length) A H V X rd md :=
      fun hs hk => key false (.tuple []) h rd md hs (fun h => (by cases h)) (fun h => (by cases h)) (fun _ => ⟨rfl, rfl⟩) hk
    simp only [runOps] at hk
    split at hk
    · rename_i hg
      exact go (.inl hg) hk
    · rename_i j want hg
      split at hk
      · rename_i b hy
        cases hbw : (b == want) with
        | true =>
          rw [hbw] at hk
          simp only [cond_true] at hk
          have hb : b = want := by simpa using hbw
          subst hb
          rw [fixA_eq hy] at hk
          exact go (.inr ⟨j, b, hg, hy⟩) hk
        | false =>
          rw [hbw] at hk
          simp only [cond_false] at hk
          have hb : b ≠ want := by simpa using hbw
          have hnb : (!want) = b := by cases b <;> cases want <;> simp_all
          rw [hnb, fixA_eq hy] at hk
          exact skip ⟨fun _ => ⟨rfl, rfl, j, want, hg, .inl ⟨b, hy, hb⟩⟩, fun h => (by cases h), fun h => (by cases h), fun h => (by cases h)⟩ hk
      · rename_i hy
        exact skip ⟨fun _ => ⟨rfl, rfl, j, want, hg, .inr hy⟩, fun h => (by cases h), fun h => (by cases h), fun h => (by cases h)⟩ hk
      · cases hk

/-- The last number below n for which p. -/
def lastOf (p : Nat → Bool) : Nat → Option Nat
  | 0 => none
  | n + 1 => if p n then some n else lastOf p n

theorem lastOf_congr {p q : Nat → Bool} : ∀ n, (∀ k, k < n → p k = q k) → lastOf p n = lastOf q n
  | 0, _ => rfl
  | n + 1, h => by simp only [lastOf, h n (by omega), lastOf_congr n (fun k hk => h k (by omega))]

theorem lastOf_some {p : Nat → Bool} : ∀ n k, lastOf p n = some k → k < n ∧ p k = true ∧ ∀ j, k < j → j < n → p j = false
  | 0, k, h => by simp [lastOf] at h
  | n + 1, k, h => by
    simp only [lastOf] at h
    split at h
    · rename_i hp
      simp only [Option.some.injEq] at h
      subst h
      exact ⟨by omega, hp, fun j h1 h2 => by omega⟩
    · rename_i hp
      obtain ⟨h1, h2, h3⟩ := lastOf_some n k h
      refine ⟨by omega, h2, fun j h4 h5 => ?_⟩
      by_cases hj : j = n
      · subst hj; simpa using hp
      · exact h3 j h4 (by omega)

theorem lastOf_none {p : Nat → Bool} : ∀ n, lastOf p n = none → ∀ j, j < n → p j = false
  | 0, _, j, hj => by omega
  | n + 1, h, j, hj => by
    simp only [lastOf] at h
    split at h
    · cases h
    · rename_i hp
      by_cases he : j = n
      · subst he; simpa using hp
      · exact lastOf_none n h j (by omega)

theorem lastOf_is {p : Nat → Bool} {n k : Nat} (hk : k < n) (hp : p k = true) (hmax : ∀ j, k < j → j < n → p j = false) : lastOf p n = some k := by
  cases h : lastOf p n with
  | none => have := lastOf_none n h k hk; rw [hp] at this; cases this
  | some m =>
    obtain ⟨h1, h2, h3⟩ := lastOf_some n m h
    rcases Nat.lt_trichotomy m k with h4 | h4 | h4
    · have := h3 k h4 hk; rw [hp] at this; cases this
    · rw [h4]
    · have := hmax m h4 h1; rw [h2] at this; cases this

end Go.Ph

end
