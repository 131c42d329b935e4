/- An evaluator of the given program's form, and that it is sound: part 4. -/
import Derived.Test.YtfnagbpaolklgaaGreatEngC
import Derived.Laws.Slices
set_option linter.unusedVariables false
noncomputable section
/- append. -/
namespace Go.Ph
open Go.RowKit

/-- A list's cells lie in a row from a cell on. -/
theorem row_vals {w : World} {b o n : Nat} (h : ∀ i, i < n → ∃ v, w.cell? ⟨b, o + i, none⟩ = some v) :
    ∃ vs : List Value, vs.length = n ∧ ∀ i v, vs[i]? = some v → w.cell? ⟨b, o + i, none⟩ = some v := by
  refine ⟨(List.range n).map fun i => (w.cell? ⟨b, o + i, none⟩).getD undef, by simp, fun i v hv => ?_⟩
  rw [List.getElem?_map] at hv
  rcases Nat.lt_or_ge i n with hi | hi
  · rw [List.getElem?_range hi] at hv
    obtain ⟨u, hu⟩ := h i hi
    simp only [Option.map_some, Option.some.injEq, hu, Option.getD_some] at hv
    rw [hu, hv]
  · rw [List.getElem?_eq_none (by simpa using hi)] at hv; cases hv

/-- The first cells of a slice, in whatever world with this heap. -/
def Firsts (P : Program) (w : World) (size n : Nat) (v : Value) (vs : List Value) : Prop :=
  vs.length = n * size ∧ ∀ w', w'.heap = w.heap → (Builtin.firstCells size n v).run P w' = .ok vs.toArray w'

theorem firsts_some {P : Program} {w : World} {size n b o len cap : Nat} {vs : List Value} (hl : vs.length = n * size) (h : ∀ i v, vs[i]? = some v → w.cell? ⟨b, o + i, none⟩ = some v) :
    Firsts P w size n (.slice (some ⟨b, o, none⟩) len cap) vs :=
  ⟨hl, fun w' hw => run_firstCells_some (P := P) w' size n _ len cap vs hl (fun j v hv => by
    rw [addp]
    have := h j v hv
    simpa [World.cell?, hw] using this)⟩

theorem firsts_nil {P : Program} {w : World} {size : Nat} {a : Option Addr} {len cap : Nat} : Firsts P w size 0 (.slice a len cap) [] := by
  refine ⟨by simp, fun w' _ => ?_⟩
  cases a with
  | none => simp [Builtin.firstCells]
  | some a => simp [Builtin.firstCells, loadCells, loadCellsFrom]

/-- What a list that is never written holds. -/
theorem RepL.firsts {P : Program} {N : Nat → Prop} {φ : Map} {nx : Nat} {w : World} {τ : Ty} {l : List τ.D} {ex : Bool} {v : Value} (hr : RepL N w τ l ex v) :
    ∃ a c vs, v = .slice a l.length c ∧ l.length ≤ c ∧ (ex = true → c = l.length) ∧ Firsts P w τ.size l.length v vs ∧ VCells N φ nx w (l.flatMap (cellsOf τ)) vs := by
  obtain ⟨a, n, c, rfl, rfl, r3, r4, r5, r6⟩ := hr
  rcases Nat.eq_zero_or_pos l.length with h0 | h0
  · have : l = [] := List.eq_nil_of_length_eq_zero h0
    subst this
    exact ⟨a, c, [], rfl, r3, r5, firsts_nil, rfl, fun i c v hc => by simp at hc⟩
  · obtain ⟨b, o, rfl, hb, hrep⟩ := r6 h0
    have cell : ∀ i c, (l.flatMap (cellsOf τ))[i]? = some c → ∃ v, w.cell? ⟨b, o + i, none⟩ = some v ∧ Sim N φ nx w c v := by
      intro i c hc
      have hp := τ.size_pos
      have hm := Nat.mod_lt i hp
      have e : i = (i / τ.size) * τ.size + i % τ.size := by rw [Nat.mul_comm]; exact (Nat.div_add_mod i τ.size).symm
      rw [e, flat_typ_get _ _ _ _ hm] at hc
      cases hx : l[i / τ.size]? with
      | none => rw [hx] at hc; simp at hc
      | some x =>
        rw [hx] at hc
        simp only [Option.bind_some] at hc
        obtain ⟨v, h1, h2⟩ := RepC.cells (φ := φ) (nx := nx) τ x b _ (hrep _ x hx) _ c hc
        rw [Nat.add_assoc, ← e] at h1
        exact ⟨v, h1, h2⟩
    have hlen := flat_typ_length τ l
    obtain ⟨vs, v1, v2⟩ := row_vals (w := w) (b := b) (o := o) (n := l.length * τ.size) (fun i hi => by
      rw [← hlen] at hi
      obtain ⟨v, h1, _⟩ := cell i (l.flatMap (cellsOf τ))[i] (by simp)
      exact ⟨v, h1⟩)
    refine ⟨_, c, vs, rfl, r3, r5, firsts_some v1 v2, by rw [hlen, v1], fun i c v hc hv => ?_⟩
    obtain ⟨u, h1, h2⟩ := cell i c hc
    rw [v2 i v hv] at h1
    simp only [Option.some.injEq] at h1
    exact h1 ▸ h2

/-- What a row of one's own holds, from an element on. -/
theorem Rel.rowVals {P : Program} {Bad : Nat → Prop} {φ : Map} {h : AH} {w : World} (hr : Rel Bad φ h w) {id : Nat} {τ : Ty} {l : List τ.D} (hg : h.get id = some (.typ τ l)) {lc : Loc} (hl : φ id = some lc) {b o : Nat} (hat : lc.at_ = some (b, o)) (off n len cap : Nat) (hn : off + n ≤ l.length) :
    ∃ vs, Firsts P w τ.size n (.slice (some ⟨b, o + off * τ.size, none⟩) len cap) vs ∧ VCells (Imm Bad φ w) φ h.next w (((l.drop off).take n).flatMap (cellsOf τ)) vs := by
  have cell : ∀ i c, (((l.drop off).take n).flatMap (cellsOf τ))[i]? = some c → ∃ v, w.cell? ⟨b, o + off * τ.size + i, none⟩ = some v ∧ Sim (Imm Bad φ w) φ h.next w c v := by
    intro i c hc
    obtain ⟨u, p1, p2, p3⟩ := hr.cells id _ lc b o hg hl hat (off * τ.size + i) c (flat_part τ l off n i c hc)
    exact ⟨u, by rw [Nat.add_assoc]; exact p1, p3⟩
  have hlen : (((l.drop off).take n).flatMap (cellsOf τ)).length = n * τ.size := by
    rw [flat_typ_length]
    congr 1
    simp
    omega
  obtain ⟨vs, v1, v2⟩ := row_vals (w := w) (b := b) (o := o + off * τ.size) (n := n * τ.size) (fun i hi => by
    rw [← hlen] at hi
    obtain ⟨v, h1, _⟩ := cell i (((l.drop off).take n).flatMap (cellsOf τ))[i] (by simp)
    exact ⟨v, h1⟩)
  refine ⟨vs, firsts_some v1 v2, by rw [hlen, v1], fun i c v hc hv => ?_⟩
  obtain ⟨u, h1, h2⟩ := cell i c hc
  rw [v2 i v hv] at h1
  simp only [Option.some.injEq] at h1
  exact h1 ▸ h2

/-- What is appended, as the model finds it. -/
def Src (P : Program) (w : World) (τ : Ty) (xd : TypeDesc) (v : Value) (n : Nat) (nv : List Value) : Prop :=
  (∃ e, xd = .slice e ∧ (∀ w', (Builtin.lenOf v).run P w' = .ok n w') ∧ Firsts P w τ.size n v nv) ∨
  (∃ k k' m, xd = .int k ∧ v = .int k' m ∧ 0 ≤ m ∧ m ≤ 140737488355328 ∧ n = m.toNat)

theorem source_to {P : Program} {Bad : Nat → Prop} {φ : Map} {h h1 : AH} {w : World} {τ : Ty} {xd : TypeDesc} {x : AV} {v : Value} {new : List τ.D} (hs : source τ xd x h = some (new, h1)) (hx : intOk x = true) (hr : Rel Bad φ h w) (hv : Sim (Imm Bad φ w) φ h.next w x v) :
    ∃ φ1 nv, Goes Bad φ h w φ1 h1 w ∧ Src P w τ xd v new.length nv ∧ ((∃ e, xd = .slice e) → VCells (Imm Bad φ1 w) φ1 h1.next w (new.flatMap (cellsOf τ)) nv) ∧ ((∃ k, xd = .int k) → new = List.replicate new.length (zeroD τ)) := by
  unfold source at hs
  split at hs
  · rename_i e size cs
    split at hs
    · rename_i hsz
      cases hv with
      | @lits _ m _ a q1 q2 q3 q4 =>
      rcases Nat.eq_zero_or_pos m with h0 | h0
      · subst h0
        have hcs : cs = [] := List.eq_nil_of_length_eq_zero (by omega)
        subst hcs
        simp only [List.length_nil, data, Option.some.injEq, Prod.mk.injEq] at hs
        obtain ⟨rfl, rfl⟩ := hs
        exact ⟨φ, [], .refl hr, .inl ⟨e, rfl, fun w' => by simp [Builtin.lenOf], firsts_nil⟩, fun _ => ⟨rfl, fun i c v hc => by simp at hc⟩, fun ⟨k, hk⟩ => by cases hk⟩
      · obtain ⟨b, o, rfl, hb, hcell⟩ := q3 h0
        obtain ⟨vs, v1, v2⟩ := row_vals (w := w) (b := b) (o := o) (n := cs.length) (fun i hi => hcell i cs[i] (by simp [hi]))
        have hvc : VCells (Imm Bad φ w) φ h.next w cs vs := ⟨v1.symm, fun i c v hc hv => q4 b o rfl i c v hc (v2 i v hv)⟩
        obtain ⟨φ1, g1, w1⟩ := data_to τ _ _ _ _ _ _ _ hs hr hvc
        have hlen : new.length = m := by
          have h2 := w1.1
          rw [flat_typ_length, v1, ← q1, hsz] at h2
          exact Nat.eq_of_mul_eq_mul_right τ.size_pos h2
        refine ⟨φ1, vs, g1, .inl ⟨e, rfl, fun w' => by rw [hlen]; simp [Builtin.lenOf], ?_⟩, fun _ => w1, fun ⟨k, hk⟩ => by cases hk⟩
        rw [hlen]
        exact firsts_some (by rw [v1, ← q1, hsz]) v2
    · cases hs
  · rename_i e
    simp only [Option.some.injEq, Prod.mk.injEq] at hs
    obtain ⟨rfl, rfl⟩ := hs
    cases hv
    exact ⟨φ, [], .refl hr, .inl ⟨e, rfl, fun w' => by simp [Builtin.lenOf], firsts_nil⟩, fun _ => ⟨rfl, fun i c v hc => by simp at hc⟩, fun ⟨k, hk⟩ => by cases hk⟩
  · rename_i e τ' l ex
    split at hs
    · rename_i he
      subst he
      simp only [Option.some.injEq, Prod.mk.injEq] at hs
      obtain ⟨rfl, rfl⟩ := hs
      cases hv with
      | fz hrep =>
      obtain ⟨a, c, vs, rfl, _, _, f1, f2⟩ := hrep.firsts (P := P) (φ := φ) (nx := h.next)
      exact ⟨φ, vs, .refl hr, .inl ⟨e, rfl, fun w' => by simp [Builtin.lenOf], f1⟩, fun _ => f2, fun ⟨k, hk⟩ => by cases hk⟩
    · cases hs
  · rename_i e id
    split at hs
    · rename_i τ' l hg
      split at hs
      · rename_i he
        subst he
        simp only [Option.some.injEq, Prod.mk.injEq] at hs
        obtain ⟨rfl, rfl⟩ := hs
        obtain ⟨lc, hl, hf⟩ := hr.live id _ hg
        have hlen : lc.len = l.length := hf.len
        cases hv with
        | ownDead q1 _ => rw [q1] at hl; cases hl
        | ownNil q1 q2 =>
          rw [q1] at hl
          simp only [Option.some.injEq] at hl
          subst hl
          have hl0 : l = [] := List.eq_nil_of_length_eq_zero (by have := (hf.nowhere q2).1; omega)
          subst hl0
          exact ⟨φ, [], .refl hr, .inl ⟨e, rfl, fun w' => by simp [Builtin.lenOf], firsts_nil⟩, fun _ => ⟨rfl, fun i c v hc => by simp at hc⟩, fun ⟨k, hk⟩ => by cases hk⟩
        | @own _ b o l' q1 q2 =>
          rw [q1] at hl
          simp only [Option.some.injEq] at hl
          subst hl
          obtain ⟨vs, f1, f2⟩ := hr.rowVals (P := P) hg q1 q2 0 l.length l'.len l'.cap (by omega)
          simp only [Nat.zero_mul, Nat.add_zero, List.drop_zero, List.take_length] at f1 f2
          exact ⟨φ, vs, .refl hr, .inl ⟨e, rfl, fun w' => by simp [Builtin.lenOf, hlen], f1⟩, fun _ => f2, fun ⟨k, hk⟩ => by cases hk⟩
      · cases hs
    · cases hs
  · rename_i e id off n
    split at hs
    · rename_i τ' l hg
      split at hs
      · rename_i he
        subst he
        simp only [Option.some.injEq, Prod.mk.injEq] at hs
        obtain ⟨rfl, rfl⟩ := hs
        obtain ⟨lc, hl, hf⟩ := hr.live id _ hg
        have hlen : lc.len = l.length := hf.len
        have hesz : lc.esz = τ'.size := hf.esz
        cases hv with
        | ownpDead q1 _ => rw [q1] at hl; cases hl
        | ownpNil q1 q2 =>
          simp only [List.take_zero]
          exact ⟨φ, [], .refl hr, .inl ⟨e, rfl, fun w' => by simp [Builtin.lenOf], firsts_nil⟩, fun _ => ⟨rfl, fun i c v hc => by simp at hc⟩, fun ⟨k, hk⟩ => by cases hk⟩
        | @ownp _ _ _ c b o l' a q1 q2 q3 q4 q5 q6 =>
          rw [q1] at hl
          simp only [Option.some.injEq] at hl
          subst hl
          have hnl : ((l.drop off).take n).length = n := by simp; omega
          rcases Nat.eq_zero_or_pos n with h0 | h0
          · subst h0
            simp only [List.take_zero]
            exact ⟨φ, [], .refl hr, .inl ⟨e, rfl, fun w' => by simp [Builtin.lenOf], firsts_nil⟩, fun _ => ⟨rfl, fun i c v hc => by simp at hc⟩, fun ⟨k, hk⟩ => by cases hk⟩
          · obtain ⟨vs, f1, f2⟩ := hr.rowVals (P := P) hg q1 q2 off n n c (by omega)
            rw [hnl, q6 (by omega), hesz]
            exact ⟨φ, vs, .refl hr, .inl ⟨e, rfl, fun w' => by simp [Builtin.lenOf], f1⟩, fun _ => f2, fun ⟨k, hk⟩ => by cases hk⟩
      · cases hs
    · cases hs
  · rename_i k k' m
    simp only [Option.some.injEq, Prod.mk.injEq] at hs
    obtain ⟨rfl, rfl⟩ := hs
    cases hv
    simp only [intOk, Bool.and_eq_true, decide_eq_true_eq] at hx
    exact ⟨φ, [], .refl hr, .inr ⟨k, k', m, rfl, rfl, hx.1, hx.2, by simp⟩, (fun ⟨e, he⟩ => (by cases he)), fun _ => (by simp)⟩
  · cases hs

/-- The appended cells, whatever is appended. -/
structure Apps (P : Program) (w : World) (e : TypeId) (τ : Ty) (xd : TypeDesc) (v : Value) (n : Nat) (nv : List Value) (z : Value) : Prop where
  len : nv.length = n * τ.size
  src : (∃ e', xd = .slice e' ∧ (∀ w', (Builtin.lenOf v).run P w' = .ok n w') ∧ Firsts P w τ.size n v nv) ∨
    (∃ k k' m, xd = .int k ∧ v = .int k' m ∧ 0 ≤ m ∧ m ≤ 140737488355328 ∧ n = m.toNat ∧ (n * τ.size ≠ 0 → nv = (Builtin.zeroCells z.cells n).toList))

section
variable {P : Program} {st xt e : TypeId} {xd : TypeDesc} {τ : Ty} {i : TypeInfo} {z : Value} {vx : Value} {n : Nat} {nv : List Value} {w : World}

theorem run_append_room (hst : P.underlying st = some (.slice e)) (hxt : P.underlying xt = some xd) (hi : P.info? e = some i) (hz : i.zero = some z) (hsz : i.size = τ.size) (hby : n * i.bytes ≤ 140737488355328) (ha : Apps P w e τ xd vx n nv z)
    {base : Option Addr} {sLen sCap : Nat} (hroom : sLen + n ≤ sCap) {w' : World} (hstore : ∀ a, base = some a → (storeCells (a.add (sLen * i.size)) nv).run P w = .ok () w') (hnone : base = none → w' = w) (t : TypeId) :
    (Builtin.append_ #[st, xt] t #[.slice base sLen sCap, vx]).run P w = .ok (.slice base (sLen + n) sCap) w' := by
  unfold Builtin.append_
  have hsize : (sizeOf e).run P w = .ok i.size w := by simp [sizeOf, typeInfo, hi]
  have hzv : (zeroValue e).run P w = .ok z w := by simp [zeroValue, typeInfo, hi, hz]
  rcases ha.src with ⟨e', rfl, hl, hf⟩ | ⟨k, k', m, rfl, rfl, h0, h1, rfl, hnv⟩
  · have hf' : (Builtin.firstCells i.size n vx).run P w = .ok nv.toArray w := by rw [hsz]; exact hf.2 w rfl
    cases base with
    | none =>
      have := hnone rfl
      subst this
      simp [run_underlying hst, run_underlying hxt, hsize, hl, hroom, hf']
    | some a =>
      have := hstore a rfl
      simp [run_underlying hst, run_underlying hxt, hsize, hl, hroom, hf', this]
  · have hw : IntKind.i64.wrap m = m := wrap_i64 m (by omega) (by omega)
    have hm0 : ¬ m < 0 := by omega
    have e48 : (2 : Int) ^ 48 = 281474976710656 := by decide
    have hmb : ¬ (281474976710656 < m * (i.bytes : Int)) := by
      have h3 : ((m.toNat * i.bytes : Nat) : Int) ≤ 140737488355328 := by omega
      rw [Int.natCast_mul, Int.toNat_of_nonneg h0] at h3
      omega
    by_cases hnz : m.toNat * i.size = 0
    · have hnv0 : nv = [] := List.eq_nil_of_length_eq_zero (by rw [ha.len, ← hsz]; exact hnz)
      subst hnv0
      cases base with
      | none =>
        have := hnone rfl
        subst this
        simp [run_underlying hst, run_underlying hxt, hsize, asInt, asIntOf, hw, hm0, typeInfo, hi, hmb, hroom, hnz]
      | some a =>
        have := hstore a rfl
        simp [run_underlying hst, run_underlying hxt, hsize, asInt, asIntOf, hw, hm0, typeInfo, hi, hmb, hroom, hnz, this]
    · have hnv' := hnv (by rw [← hsz]; exact hnz)
      cases base with
      | none =>
        have := hnone rfl
        subst this
        simp [run_underlying hst, run_underlying hxt, hsize, asInt, asIntOf, hw, hm0, typeInfo, hi, hmb, hroom, hnz, hzv]
      | some a =>
        have := hstore a rfl
        rw [hnv'] at this
        simp [run_underlying hst, run_underlying hxt, hsize, asInt, asIntOf, hw, hm0, typeInfo, hi, hmb, hroom, hnz, hzv, this]

theorem cut_cap (need old : Nat) (e : TypeId) (t : Nat) (h : need ≤ 140737488355328) : need ≤ (Question.appendCap need old e).cut t ∧ (Question.appendCap need old e).cut t ≤ maxLen := by
  have e63 : (2 : Nat) ^ 63 = 9223372036854775808 := by decide
  simp only [Question.cut, e63]
  unfold maxLen
  have := Nat.mod_lt t (show 9223372036854775808 - need > 0 by omega)
  omega

theorem run_append_grow (hst : P.underlying st = some (.slice e)) (hxt : P.underlying xt = some xd) (hi : P.info? e = some i) (hz : i.zero = some z) (hsz : i.size = τ.size) (hzs : z.cells.size = τ.size) (ha : Apps P w e τ xd vx n nv z)
    {base : Option Addr} {sLen sCap : Nat} (hroom : ¬ sLen + n ≤ sCap) (hb : (sLen + n) * i.bytes ≤ 140737488355328) (hb2 : sLen + n ≤ 140737488355328) (hby : n * i.bytes ≤ 140737488355328) {ov : List Value} (ho : Firsts P w τ.size sLen (.slice base sLen sCap) ov) (t : TypeId) :
    ∃ (cap : Nat) (rest : Array Value), sLen + n ≤ cap ∧ cap ≤ maxLen ∧ rest.size = (cap - (sLen + n)) * τ.size ∧
    (Builtin.append_ #[st, xt] t #[.slice base sLen sCap, vx]).run P w = .ok (.slice (some ⟨w.heap.size, 0, none⟩) (sLen + n) cap) (w.drew.alloc (.cells ((ov ++ nv).toArray ++ rest) e)) := by
  obtain ⟨c1, c2⟩ := cut_cap (sLen + n) sCap e (w.tape w.drawn (.appendCap (sLen + n) sCap e)) hb2
  refine ⟨(Question.appendCap (sLen + n) sCap e).cut (w.tape w.drawn (.appendCap (sLen + n) sCap e)), Builtin.zeroCells z.cells ((Question.appendCap (sLen + n) sCap e).cut (w.tape w.drawn (.appendCap (sLen + n) sCap e)) - (sLen + n)), c1, c2, by simp [Builtin.zeroCells, hzs], ?_⟩
  generalize hcap : (Question.appendCap (sLen + n) sCap e).cut (w.tape w.drawn (.appendCap (sLen + n) sCap e)) = cap
  unfold Builtin.append_
  have hsize : (sizeOf e).run P w = .ok i.size w := by simp [sizeOf, typeInfo, hi]
  have hzv : (zeroValue e).run P w.drew = .ok z w.drew := by simp [zeroValue, typeInfo, hi, hz]
  have hfits := growslice_fits (need := sLen + n) (old := sCap) (bytes := i.bytes) (by omega) hb
  have hnf : ¬ 281474976710656 < Builtin.nextslicecap (sLen + n) sCap * i.bytes := by omega
  have hmax : ¬ ((sLen : Int) + (n : Int) > IntKind.i64.max) := by have e : IntKind.i64.max = 9223372036854775807 := rfl; omega
  have hmax' : ¬ ((9223372036854775807 : Int) < (sLen : Int) + (n : Int)) := by omega
  have hfo : (Builtin.firstCells i.size sLen (.slice base sLen sCap)).run P w.drew = .ok ov.toArray w.drew := by rw [hsz]; exact ho.2 w.drew rfl
  have hforced : (Question.appendCap (sLen + n) sCap e).forced = false := rfl
  rcases ha.src with ⟨e', rfl, hl, hf⟩ | ⟨k, k', m, rfl, rfl, h0, h1, rfl, hnv⟩
  · have hf' : (Builtin.firstCells i.size n vx).run P w.drew = .ok nv.toArray w.drew := by rw [hsz]; exact hf.2 w.drew rfl
    simp [run_underlying hst, run_underlying hxt, hsize, hl, hroom, typeInfo, hi, hnf, hmax', hforced, hcap, hfo, hf', hzv, newRow]
    rw [← Array.append_assoc]
    simp
  · have hw : IntKind.i64.wrap m = m := wrap_i64 m (by omega) (by omega)
    have hm0 : ¬ m < 0 := by omega
    have hmb : ¬ (281474976710656 < m * (i.bytes : Int)) := by
      have h3 : ((m.toNat * i.bytes : Nat) : Int) ≤ 140737488355328 := by omega
      rw [Int.natCast_mul, Int.toNat_of_nonneg h0] at h3
      omega
    have hmx : ((m.toNat : Nat) : Int) = m := Int.toNat_of_nonneg h0
    have hmax3 : ¬ ((9223372036854775807 : Int) < (sLen : Int) + max m 0) := by omega
    by_cases hnz : m.toNat * i.size = 0
    · have hnv0 : nv = [] := List.eq_nil_of_length_eq_zero (by rw [ha.len, ← hsz]; exact hnz)
      subst hnv0
      simp [run_underlying hst, run_underlying hxt, hsize, asInt, asIntOf, hw, hm0, typeInfo, hi, hmb, hroom, hnz, hnf, hmax3, hforced, hcap, hfo, hzv, newRow]
    · have hnv' := hnv (by rw [← hsz]; exact hnz)
      simp [run_underlying hst, run_underlying hxt, hsize, asInt, asIntOf, hw, hm0, typeInfo, hi, hmb, hroom, hnz, hnf, hmax3, hforced, hcap, hfo, hzv, newRow, hnv']
      rw [← Array.append_assoc]
      congr 3
      apply Array.toList_inj.1
      simp
end

end Go.Ph

/- append: what the evaluator says of it. -/
namespace Go.Ph
open Go.RowKit

theorem zeros_cells {N : Nat → Prop} {φ : Map} {nx : Nat} {w : World} (τ : Ty) (zs : List Value) (h : pureK.zeroOk τ zs = true) : VCells N φ nx w (cellsOf τ (zeroD τ)) zs := by
  refine ⟨by rw [cellsOf_length, (zero_rep (N := N) (w := w) τ zs h).1], ?_⟩
  revert zs
  induction τ with
  | int k =>
    intro zs h i c v hc hv
    match zs, h with
    | [.int k' n], h =>
      simp only [pureK.zeroOk, Bool.and_eq_true, decide_eq_true_eq] at h
      obtain ⟨rfl, rfl⟩ := h
      cases i with
      | zero => simp [cellsOf] at hc hv; subst hc; subst hv; exact .int _ _
      | succ i => simp [cellsOf] at hc
  | bool =>
    intro zs h i c v hc hv
    match zs, h with
    | [.bool b], h =>
      simp only [pureK.zeroOk, Bool.not_eq_true'] at h
      subst h
      cases i with
      | zero => simp [cellsOf] at hc hv; subst hc; subst hv; exact .bool _
      | succ i => simp [cellsOf] at hc
  | str =>
    intro zs h i c v hc hv
    match zs, h with
    | [.string s], h =>
      have hs : s = ByteArray.empty := by
        cases s with
        | mk d => simp [pureK.zeroOk] at h; subst h; rfl
      subst hs
      cases i with
      | zero => simp [cellsOf] at hc hv; subst hc; subst hv; exact .str _
      | succ i => simp [cellsOf] at hc
  | sl e ih =>
    intro zs h i c v hc hv
    match zs, h with
    | [.slice none 0 0], h =>
      cases i with
      | zero =>
        simp [cellsOf] at hc hv
        subst hc; subst hv
        exact .fz ⟨none, 0, 0, rfl, rfl, Nat.le_refl _, Nat.zero_le _, (fun h => by cases h), fun h => absurd h (by omega)⟩
      | succ i => simp [cellsOf] at hc
  | pair s t ihs iht =>
    intro zs h i c v hc hv
    simp only [pureK.zeroOk, Bool.and_eq_true] at h
    simp only [cellsOf, zeroD] at hc
    rw [List.getElem?_append, cellsOf_length] at hc
    split at hc
    · rename_i hi
      exact ihs _ h.1 i c v hc (by rw [List.getElem?_take, if_pos hi]; exact hv)
    · rename_i hi
      exact iht _ h.2 _ c v hc (by rw [List.getElem?_drop, show s.size + (i - s.size) = i by omega]; exact hv)

theorem VCells.append {N : Nat → Prop} {φ : Map} {nx : Nat} {w : World} {a b : List AV} {u v : List Value} (h : VCells N φ nx w a u) (k : VCells N φ nx w b v) : VCells N φ nx w (a ++ b) (u ++ v) :=
  ⟨by simp [h.1, k.1], fun i c x hc hx => by
    rw [List.getElem?_append] at hc hx
    rw [h.1] at hc
    split at hc
    · rename_i hi; rw [if_pos hi] at hx; exact h.2 i c x hc hx
    · rename_i hi; rw [if_neg hi] at hx; exact k.2 _ c x hc hx⟩

theorem zero_vals {N : Nat → Prop} {φ : Map} {nx : Nat} {w : World} {τ : Ty} {z : Value} (h : pureK.zeroOk τ z.cells.toList = true) (n : Nat) :
    VCells N φ nx w ((List.replicate n (zeroD τ)).flatMap (cellsOf τ)) (Builtin.zeroCells z.cells n).toList := by
  have hz := zeros_cells (N := N) (φ := φ) (nx := nx) (w := w) τ _ h
  have hzl : z.cells.size = τ.size := by have := hz.1; rw [cellsOf_length] at this; simpa using this.symm
  have hp := τ.size_pos
  refine ⟨by rw [flat_typ_length]; simp [Builtin.zeroCells, hzl], fun i c v hc hv => ?_⟩
  have hi := cell_len hc
  rw [flat_typ_length, List.length_replicate] at hi
  have hm := Nat.mod_lt i hp
  have hd : i / τ.size < n := (Nat.div_lt_iff_lt_mul hp).2 hi
  have e1 : i = (i / τ.size) * τ.size + i % τ.size := by rw [Nat.mul_comm]; exact (Nat.div_add_mod i τ.size).symm
  rw [e1, flat_typ_get _ _ _ _ hm, List.getElem?_replicate, if_pos hd] at hc
  simp only [Option.bind_some] at hc
  have hm2 : i % z.cells.size < z.cells.size := by rw [hzl]; exact hm
  refine hz.2 (i % τ.size) c v hc ?_
  simp only [Builtin.zeroCells, Array.toList_map, List.getElem?_map, Array.getElem?_toList, hzl] at hv
  rw [Array.getElem?_range, if_pos hi] at hv
  simp only [Option.map_some, Option.some.injEq] at hv
  rw [← hv, getElem!_pos z.cells _ (by rw [hzl]; exact hm)]
  simp [hzl, hm]

/-- What is appended to, as the model finds it. -/
structure Tgt (P : Program) (Bad : Nat → Prop) (φ : Map) (h : AH) (w : World) (τ : Ty) (old : List τ.D) (h2 : AH) (ex : Bool) (s : AV) (v : Value) : Prop where
  /-- the slice, and its cells -/
  form : ∃ a c ov, v = .slice a old.length c ∧ old.length ≤ c ∧ c ≤ maxLen ∧ (ex = true → c = old.length) ∧ Firsts P w τ.size old.length v ov ∧
    /- with no room, or none that is used -/
    (∃ φ2, Goes Bad φ h w φ2 h2 w ∧ VCells (Imm Bad φ2 w) φ2 h2.next w (old.flatMap (cellsOf τ)) ov) ∧
    /- in place -/
    (ex = false → ∀ (new : List τ.D) (nv : List Value), old.length + new.length ≤ c → VCells (Imm Bad φ w) φ h.next w (new.flatMap (cellsOf τ)) nv →
      ∃ φ3 w', Goes Bad φ h w φ3 (h2.add (.typ τ (old ++ new))) w' ∧ (∀ ad, a = some ad → (storeCells (ad.add (old.length * τ.size)) nv).run P w = .ok () w') ∧ (a = none → w' = w) ∧
        Sim (Imm Bad φ3 w') φ3 (h2.next + 1) w' (.own h2.next) (.slice a (old.length + new.length) c))

theorem tgt_nil {P : Program} {Bad : Nat → Prop} {φ : Map} {h h2 : AH} {w : World} {τ : Ty} {s : AV} {a : Option Addr} (g : ∃ φ2, Goes Bad φ h w φ2 h2 w) : Tgt P Bad φ h w τ [] h2 false s (.slice a 0 0) := by
  obtain ⟨φ2, g⟩ := g
  refine ⟨a, 0, [], rfl, Nat.le_refl _, Nat.zero_le _, (fun h => by cases h), firsts_nil, ⟨φ2, g, rfl, fun i c v hc => by simp at hc⟩, fun _ new nv hle hv => ?_⟩
  have hn : new = [] := List.eq_nil_of_length_eq_zero (by simpa using hle)
  subst hn
  have hnv : nv = [] := by have := hv.1; simp at this; exact List.eq_nil_of_length_eq_zero this.symm
  subst hnv
  have g3 := g.rel.addNil (.typ τ ([] : List τ.D)) rfl
  exact ⟨_, w, g.trans g3, fun ad _ => rfl, fun _ => rfl, .ownNil (l := ⟨none, 0, 0, τ.size, none⟩) (upd_same _ _ _) rfl⟩

theorem tgt_own {P : Program} {Bad : Nat → Prop} {φ : Map} {h : AH} {w : World} (hr : Rel Bad φ h w) {id : Nat} {τ : Ty} {l : List τ.D} (hg : h.get id = some (.typ τ l)) {lc : Loc} (hl : φ id = some lc) {b o : Nat} (hat : lc.at_ = some (b, o)) {off n c : Nat} (hn : off + n ≤ l.length) (hnc : n ≤ c) (hc : off + c ≤ lc.cap) {s : AV} :
    Tgt P Bad φ h w τ ((l.drop off).take n) (h.del id) false s (.slice (some ⟨b, o + off * τ.size, none⟩) n c) := by
  obtain ⟨lc', hl', hf⟩ := hr.live id _ hg
  rw [hl] at hl'
  simp only [Option.some.injEq] at hl'
  subst hl'
  have hesz : lc.esz = τ.size := hf.esz
  have hmax := hf.max
  have hlen : ((l.drop off).take n).length = n := by simp; omega
  obtain ⟨ov, f1, f2⟩ := hr.rowVals (P := P) hg hl hat off n n c hn
  have gk := hr.goesKill id
  have f2' := f2.evo gk.evo hr.id_lt
  refine ⟨some ⟨b, o + off * τ.size, none⟩, c, ov, by rw [hlen], by omega, by omega, (fun h => by cases h), by rw [hlen]; exact f1, ⟨_, gk, f2'⟩, fun _ new nv hle hv => ?_⟩
  rw [hlen] at hle ⊢
  obtain ⟨cs, e, fr, q1, q2, q3⟩ := hf.there b o hat
  have hnl : nv.length = new.length * τ.size := by rw [← hv.1, flat_typ_length]
  have hcap : (off + c) * τ.size ≤ lc.cap * lc.esz := by rw [hesz]; exact Nat.mul_le_mul_right _ hc
  have hfit : n * τ.size + nv.length ≤ c * τ.size := by
    rw [hnl, ← Nat.add_mul]
    exact Nat.mul_le_mul_right _ hle
  rw [Nat.add_mul] at hcap
  obtain ⟨cs', s1, s2, s3, s4⟩ := setCells_spec nv (o + off * τ.size + n * τ.size) w cs q1 (by omega)
  have hone : ∀ x ∈ nv, x.oneCell' = true := by
    intro x hx
    obtain ⟨q, hq⟩ := List.getElem?_of_mem hx
    have hqlt := (List.getElem?_eq_some_iff.1 hq).1
    rw [← hv.1] at hqlt
    have hcell : (new.flatMap (cellsOf τ))[q]? = some (new.flatMap (cellsOf τ))[q] := by simp
    have hsim := hv.2 q _ x hcell hq
    have hmem : (new.flatMap (cellsOf τ))[q] ∈ new.flatMap (cellsOf τ) := List.getElem_mem hqlt
    obtain ⟨y, _, hy⟩ := List.mem_flatMap.1 hmem
    exact (single_sim hsim (Rel.addRow.single_cells τ y _ hy)).1
  have hrun := run_storeCells_cells (P := P) b (o + off * τ.size + n * τ.size) nv 0 w (fun j hj => by
      have : o + off * τ.size + n * τ.size + j < cs.size := by omega
      simp [World.cell?, q1, this]) (fun j hj => q3 _ (by omega)) hone
  simp only [Nat.add_zero] at hrun
  have hmv := hr.move hg hl hat (w' := w.setCells b (o + off * τ.size + n * τ.size) nv) (r' := .typ τ ((l.drop off).take n ++ new)) (l' := ⟨some (b, o + off * τ.size), n + new.length, c, τ.size, none⟩) rfl s4
    ⟨by simp [Row.len]; omega, rfl, hle, by have : (⟨some (b, o + off * τ.size), n + new.length, c, τ.size, none⟩ : Loc).cap = c := rfl; omega, (fun h => by cases h), fun b1 o1 hat1 => by
      simp only [Option.some.injEq, Prod.mk.injEq] at hat1
      obtain ⟨rfl, rfl⟩ := hat1
      exact wrote_there s4 ⟨cs, e, fr, q1, by simp only; omega, q3⟩⟩ (fun i x hx => by
      simp only [Row.flat, List.flatMap_append] at hx
      have hol : (((l.drop off).take n).flatMap (cellsOf τ)).length = n * τ.size := by rw [flat_typ_length, hlen]
      rw [List.getElem?_append, hol] at hx
      have hcell : (w.setCells b (o + off * τ.size + n * τ.size) nv).cell? ⟨b, o + off * τ.size + i, none⟩ = cs'[o + off * τ.size + i]? := by simp [World.cell?, s1]
      rw [hcell, s3]
      split at hx
      · rename_i hi
        rw [if_neg (by omega)]
        obtain ⟨u, p1, p2, p3⟩ := hr.cells id _ lc b o hg hl hat (off * τ.size + i) x (flat_part τ l off n i x hx)
        have : w.cell? ⟨b, o + (off * τ.size + i), none⟩ = cs[o + off * τ.size + i]? := by simp [World.cell?, q1, Nat.add_assoc]
        rw [this] at p1
        exact ⟨u, p1, p2, p3⟩
      · rename_i hi
        have hlt := cell_len hx
        rw [hv.1] at hlt
        rw [if_pos (by omega)]
        have : o + off * τ.size + i - (o + off * τ.size + n * τ.size) = i - n * τ.size := by omega
        rw [this]
        have hmem : x ∈ new.flatMap (cellsOf τ) := List.mem_of_getElem? hx
        obtain ⟨y, _, hy⟩ := List.mem_flatMap.1 hmem
        exact ⟨nv[i - n * τ.size], by simp [hlt], Rel.addRow.single_cells τ y _ hy, hv.2 _ x _ hx (by simp [hlt])⟩)
  refine ⟨_, _, hmv, fun ad had => ?_, fun h => (by cases h), ?_⟩
  · simp only [Option.some.injEq] at had
    subst had
    rw [addp]
    exact hrun
  · exact .own (l := ⟨some (b, o + off * τ.size), n + new.length, c, τ.size, none⟩) (upd_same _ _ _) rfl

end Go.Ph

/- append, joined. -/
namespace Go.Ph
open Go.RowKit

theorem target_own {P : Program} {Bad : Nat → Prop} {φ : Map} {h h2 : AH} {w : World} {τ : Ty} {x : AV} {v : Value} {old : List τ.D} (ht : target τ x h = some (old, h2, false)) (hr : Rel Bad φ h w) (hv : Sim (Imm Bad φ w) φ h.next w x v) :
    Tgt P Bad φ h w τ old h2 false x v := by
  unfold target at ht
  split at ht
  · simp only [Option.some.injEq, Prod.mk.injEq] at ht
    obtain ⟨rfl, rfl, _⟩ := ht
    cases hv
    exact tgt_nil ⟨φ, .refl hr⟩
  · rename_i id
    split at ht
    · rename_i τ' l hg
      split at ht
      · rename_i he
        subst he
        simp only [Option.some.injEq, Prod.mk.injEq] at ht
        obtain ⟨rfl, rfl, _⟩ := ht
        obtain ⟨lc, hl, hf⟩ := hr.live id _ hg
        have hlen : lc.len = l.length := hf.len
        cases hv with
        | ownDead q1 _ => rw [q1] at hl; cases hl
        | ownNil q1 q2 =>
          rw [q1] at hl
          simp only [Option.some.injEq] at hl
          subst hl
          have hl0 : l = [] := List.eq_nil_of_length_eq_zero (by have := (hf.nowhere q2).1; omega)
          subst hl0
          exact tgt_nil ⟨_, hr.goesKill id⟩
        | @own _ b o l' q1 q2 =>
          rw [q1] at hl
          simp only [Option.some.injEq] at hl
          subst hl
          have := tgt_own (P := P) hr hg q1 q2 (off := 0) (n := l.length) (c := l'.cap) (by omega) (by rw [← hlen]; exact hf.le) (by omega) (s := .own id)
          simp only [Nat.zero_mul, Nat.add_zero, List.drop_zero, List.take_length] at this
          rw [hlen]
          exact this
      · cases ht
    · cases ht
  · rename_i id off n
    split at ht
    · rename_i τ' l hg
      split at ht
      · rename_i he
        subst he
        simp only [Option.some.injEq, Prod.mk.injEq] at ht
        obtain ⟨rfl, rfl, _⟩ := ht
        obtain ⟨lc, hl, hf⟩ := hr.live id _ hg
        have hlen : lc.len = l.length := hf.len
        have hesz : lc.esz = τ'.size := hf.esz
        cases hv with
        | ownpDead q1 _ => rw [q1] at hl; cases hl
        | ownpNil q1 q2 =>
          simp only [List.take_zero]
          exact tgt_nil ⟨_, hr.goesKill id⟩
        | @ownp _ _ _ c b o l' a q1 q2 q3 q4 q5 q6 =>
          rw [q1] at hl
          simp only [Option.some.injEq] at hl
          subst hl
          rcases Nat.eq_zero_or_pos c with h0 | h0
          · subst h0
            have hn0 : n = 0 := by omega
            subst hn0
            simp only [List.take_zero]
            exact tgt_nil ⟨_, hr.goesKill id⟩
          · rw [q6 h0, hesz]
            exact tgt_own (P := P) hr hg q1 q2 (by omega) q4 q5
      · cases ht
    · cases ht
  · split at ht
    · split at ht
      · simp at ht
      · cases ht
    · cases ht
  · split at ht
    · split at ht
      · simp at ht
      · cases ht
    · cases ht
  · cases ht

theorem target_ex {P : Program} {Bad : Nat → Prop} {φ : Map} {h h2 : AH} {w : World} {τ : Ty} {x : AV} {v : Value} {old : List τ.D} (ht : target τ x h = some (old, h2, true)) (hr : Rel Bad φ h w) (hv : Sim (Imm Bad φ w) φ h.next w x v) :
    ∃ a ov, v = .slice a old.length old.length ∧ Firsts P w τ.size old.length v ov ∧ ∃ φ2, Goes Bad φ h w φ2 h2 w ∧ VCells (Imm Bad φ2 w) φ2 h2.next w (old.flatMap (cellsOf τ)) ov := by
  unfold target at ht
  split at ht
  · simp at ht
  · split at ht
    · split at ht
      · simp at ht
      · cases ht
    · cases ht
  · split at ht
    · split at ht
      · simp at ht
      · cases ht
    · cases ht
  · rename_i τ' l ex
    split at ht
    · rename_i he
      subst he
      split at ht
      · rename_i hex
        subst hex
        simp only [Option.some.injEq, Prod.mk.injEq] at ht
        obtain ⟨rfl, rfl, _⟩ := ht
        cases hv with
        | fz hrep =>
        obtain ⟨a, c, vs, rfl, q1, q2, f1, f2⟩ := hrep.firsts (P := P) (φ := φ) (nx := h.next)
        have := q2 rfl
        subst this
        exact ⟨a, vs, rfl, f1, φ, .refl hr, f2⟩
      · cases ht
    · cases ht
  · rename_i size cs
    split at ht
    · rename_i hsz
      split at ht
      · rename_i l h' hd
        simp only [Option.some.injEq, Prod.mk.injEq] at ht
        obtain ⟨rfl, rfl, _⟩ := ht
        cases hv with
        | @lits _ m _ a q1 q2 q3 q4 =>
        rcases Nat.eq_zero_or_pos m with h0 | h0
        · subst h0
          have hcs : cs = [] := List.eq_nil_of_length_eq_zero (by omega)
          subst hcs
          simp only [List.length_nil, data, Option.some.injEq, Prod.mk.injEq] at hd
          obtain ⟨rfl, rfl⟩ := hd
          exact ⟨a, [], rfl, firsts_nil, φ, .refl hr, rfl, fun i c v hc => by simp at hc⟩
        · obtain ⟨b, o, rfl, hb, hcell⟩ := q3 h0
          obtain ⟨vs, v1, v2⟩ := row_vals (w := w) (b := b) (o := o) (n := cs.length) (fun i hi => hcell i cs[i] (by simp [hi]))
          have hvc : VCells (Imm Bad φ w) φ h.next w cs vs := ⟨v1.symm, fun i c v hc hv => q4 b o rfl i c v hc (v2 i v hv)⟩
          obtain ⟨φ1, g1, w1⟩ := data_to τ _ _ _ _ _ _ _ hd hr hvc
          have hlen : l.length = m := by
            have h2 := w1.1
            rw [flat_typ_length, v1, ← q1, hsz] at h2
            exact Nat.eq_of_mul_eq_mul_right τ.size_pos h2
          refine ⟨_, vs, by rw [hlen], ?_, φ1, g1, w1⟩
          rw [hlen]
          exact firsts_some (by rw [v1, ← q1, hsz]) v2
      · cases ht
    · cases ht
  · cases ht

theorem surely_pos {τ : Ty} {xd : TypeDesc} {x : AV} {h h1 : AH} {new : List τ.D} (hs : source τ xd x h = some (new, h1)) (hx : surely x = true) : 0 < new.length := by
  cases x with
  | lits size cs =>
    cases cs with
    | nil => simp [surely] at hx
    | cons c cs =>
      unfold source at hs
      split at hs <;> first | cases hs | skip
      · rename_i heq
        injection heq with e1 e2
        subst e1; subst e2
        split at hs
        · simp only [List.length_cons, data] at hs
          split at hs
          · split at hs
            · simp only [Option.some.injEq, Prod.mk.injEq] at hs
              rw [← hs.1]
              simp
            · cases hs
          · cases hs
        · cases hs
      all_goals (rename_i heq; cases heq)
  | _ => simp [surely] at hx

theorem empty_target {τ : Ty} {x : AV} {h h2 : AH} {old : List τ.D} {ex : Bool} (ht : target τ x h = some (old, h2, ex)) (hx : emptyT x = true) : old = [] := by
  cases x with
  | lits size cs =>
    cases cs with
    | nil =>
      simp only [target, List.length_nil, data] at ht
      split at ht
      · simp only [Option.some.injEq, Prod.mk.injEq] at ht
        exact ht.1.symm
      · cases ht
    | cons c cs => simp [emptyT] at hx
  | fz τ' l ex' =>
    cases l with
    | nil =>
      simp only [target] at ht
      split at ht
      · rename_i he
        subst he
        split at ht
        · simp only [Option.some.injEq, Prod.mk.injEq] at ht
          exact ht.1.symm
        · cases ht
      · cases ht
    | cons c cs => simp [emptyT] at hx
  | _ => simp [emptyT] at hx

end Go.Ph

/- append: the operation. -/
namespace Go.Ph
open Go.RowKit

theorem elemTy_some {P : Program} {t e : TypeId} {τ : Ty} (h : elemTy P t = some (e, τ)) : P.underlying t = some (.slice e) ∧ τ.size = P.cellsOf e := by
  unfold elemTy at h
  split at h
  · rename_i e' hu
    split at h
    · split at h
      · rename_i hsz
        simp only [Option.some.injEq, Prod.mk.injEq] at h
        obtain ⟨rfl, rfl⟩ := h
        exact ⟨hu, hsz⟩
      · cases h
    · cases h
  · cases h

theorem append_to {C : Ctx} {o : Oper} {ρ : Operand → AV} {h : AH} {args : Array Operand} {argTypes : Array TypeId} (ho : o.op = .call { callee := .builtin .append, args := args, argTypes := argTypes }) {Z : Type} {k : AV → AH → Option Z} {z : Z}
    (hk : effK C o ρ h k = some z) : ∃ v h', k v h' = some z ∧ OpTo C.P o ρ h v h' ∧ ModOk C o ρ h h' := by
  unfold effK at hk
  rw [ho] at hk
  simp only at hk
  split at hk
  · rename_i s x st xt hargs htypes
    have ea : args = #[s, x] := by apply Array.toList_inj.1; rw [hargs]
    have et : argTypes = #[st, xt] := by apply Array.toList_inj.1; rw [htypes]
    subst ea; subst et
    split at hk
    · rename_i e τ xd hel hxt
      obtain ⟨hst, hsz⟩ := elemTy_some hel
      split at hk
      · rename_i new h1 hsrc
        split at hk
        · rename_i old h2 ex htgt
          split at hk
          · rename_i hc
            obtain ⟨hex, hzf, hint⟩ := hc
            split at hk
            · rename_i hb
              obtain ⟨hb1, hb2⟩ := hb
              refine ⟨_, _, hk, .of_value fun Bad φ w η hr hs => ?_, append_mod ho hsrc htgt _⟩
              have s1 := hs s (by simp [ho, Op.operands, Call.operands])
              have s2 := hs x (by simp [ho, Op.operands, Call.operands])
              -- the element's type
              have hpos : 0 < C.P.cellsOf e := by rw [← hsz]; exact τ.size_pos
              obtain ⟨i, hi⟩ : ∃ i, C.P.info? e = some i := by
                unfold Program.cellsOf at hpos
                cases hi : C.P.info? e with
                | none => simp [hi] at hpos
                | some i => exact ⟨i, rfl⟩
              have hisz : i.size = τ.size := by rw [hsz]; simp [Program.cellsOf, hi]
              have hbytes : C.P.bytesOf e = i.bytes := by simp [Program.bytesOf, hi]
              obtain ⟨zz, hz, hz0⟩ : ∃ zz, i.zero = some zz ∧ pureK.zeroOk τ zz.cells.toList = true := by
                unfold zeroFits at hzf
                simp only [hi, Option.bind_some] at hzf
                split at hzf
                · exact ⟨_, by assumption, hzf⟩
                · cases hzf
              have hzs : zz.cells.size = τ.size := by simpa using (zero_rep (N := fun _ => True) (w := w) τ _ hz0).1
              rw [hbytes] at hb1
              have hnb : new.length * i.bytes ≤ 140737488355328 := Nat.le_trans (Nat.mul_le_mul_right _ (Nat.le_add_left _ _)) hb1
              -- what is appended
              obtain ⟨φ1, nv0, g1, hsrc', hv0, hrep⟩ := source_to (P := C.P) hsrc hint hr s2
              obtain ⟨nv, hap, hv⟩ : ∃ nv, Apps C.P w e τ xd (η x) new.length nv zz ∧ VCells (Imm Bad φ1 w) φ1 h1.next w (new.flatMap (cellsOf τ)) nv := by
                rcases hsrc' with ⟨e', he', hl, hf⟩ | ⟨k1, k2, m, hk1, hm, h0, hm2, hn⟩
                · exact ⟨nv0, ⟨hf.1, .inl ⟨e', he', hl, hf⟩⟩, hv0 ⟨e', he'⟩⟩
                · refine ⟨(Builtin.zeroCells zz.cells new.length).toList, ⟨by simp [Builtin.zeroCells, hzs], .inr ⟨k1, k2, m, hk1, hm, h0, hm2, hn, fun _ => rfl⟩⟩, ?_⟩
                  have := zero_vals (N := Imm Bad φ1 w) (φ := φ1) (nx := h1.next) (w := w) hz0 new.length
                  rw [← hrep ⟨k1, hk1⟩] at this
                  exact this
              have s1' := g1.evo.sim hr.id_lt s1
              have exec : ∀ (r : Value) (w' : World), (Builtin.append_ #[st, xt] o.type #[η s, η x]).run C.P w = .ok r w' → (execOp η o).run C.P w = .ok (.value r) w' := by
                intro r w' hrun
                simp [execOp, ho, resolve, invoke, builtin, hrun]
              -- in place
              have room : ∀ ex' s', Tgt C.P Bad φ1 h1 w τ old h2 ex' s' (η s) → ex' = false → (∀ a c, η s = .slice a old.length c → old.length + new.length ≤ c) →
                  ∃ φ' w' v', (execOp η o).run C.P w = .ok (.value v') w' ∧ Goes Bad φ h w φ' (h2.add (.typ τ (old ++ new))) w' ∧ Sim (Imm Bad φ' w') φ' (h2.add (.typ τ (old ++ new))).next w' (.own h2.next) v' := by
                intro ex' s' T hex' hroom
                obtain ⟨a, c, ov, hv1, _, _, _, _, _, hin⟩ := T.form
                have hr2 := hroom a c hv1
                obtain ⟨φ3, w', g3, hst1, hst2, hsim⟩ := hin hex' new nv hr2 hv
                refine ⟨φ3, w', _, exec _ _ ?_, g1.trans g3, hsim⟩
                rw [hv1]
                exact run_append_room hst hxt hi hz hisz hnb hap hr2 (fun ad had => by rw [hisz]; exact hst1 ad had) hst2 o.type
              -- a new block
              have grow : ∀ a c ov, η s = .slice a old.length c → ¬ old.length + new.length ≤ c → Firsts C.P w τ.size old.length (η s) ov → (∃ φ2, Goes Bad φ1 h1 w φ2 h2 w ∧ VCells (Imm Bad φ2 w) φ2 h2.next w (old.flatMap (cellsOf τ)) ov) →
                  ∃ φ' w' v', (execOp η o).run C.P w = .ok (.value v') w' ∧ Goes Bad φ h w φ' (h2.add (.typ τ (old ++ new))) w' ∧ Sim (Imm Bad φ' w') φ' (h2.add (.typ τ (old ++ new))).next w' (.own h2.next) v' := by
                intro a c ov hv1 hnr hf ⟨φ2, g2, ho2⟩
                rw [hv1] at hf
                obtain ⟨cap, rest, c1, c2, c3, hrun⟩ := run_append_grow hst hxt hi hz hisz hzs hap hnr hb1 hb2 hnb hf o.type
                have hgrew : Grew w (w.drew.alloc (.cells ((ov ++ nv).toArray ++ rest) e)) := (Grew.drew w).trans (Grew.alloc _ _)
                have hall := ho2.append (hv.evo g2.evo g1.rel.id_lt)
                have hlen : (ov ++ nv).length = (old.length + new.length) * τ.size := by rw [← hall.1, List.length_append, flat_typ_length, flat_typ_length, Nat.add_mul]
                obtain ⟨φ3, g3, hsim⟩ := g2.rel.addRow hgrew (old ++ new) (A := (ov ++ nv).toArray ++ rest) (t := e) w.heap.size (by show (w.heap.push _)[w.heap.size]? = _; simp) (Nat.le_refl _) (old.length + new.length) cap (by simp) c1 c2 (by
                    simp only [Array.size_append, List.size_toArray, hlen, c3]
                    rw [← Nat.add_mul]
                    exact Nat.mul_le_mul_right _ (by omega)) (fun q y hy => by
                  rw [List.flatMap_append] at hy
                  have hq := cell_len hy
                  rw [hall.1] at hq
                  refine ⟨(ov ++ nv)[q], ?_, hall.2 q y _ hy (by simp)⟩
                  rw [Array.getElem?_append_left (by simpa using hq)]
                  simp)
                refine ⟨φ3, _, _, exec _ _ (by rw [hv1]; exact hrun), (g1.trans g2).trans g3, hsim⟩
              cases ex with
              | false =>
                have T := target_own (P := C.P) htgt g1.rel s1'
                obtain ⟨a, c, ov, hv1, q1, q2, q3, hf, ho2, hin⟩ := T.form
                by_cases hr2 : old.length + new.length ≤ c
                · refine room false _ T rfl fun a' c' hv2 => ?_
                  rw [hv1] at hv2
                  injection hv2 with _ _ e3
                  omega
                · exact grow a c ov hv1 hr2 hf ho2
              | true =>
                obtain ⟨a, ov, hv1, hf, φ2, g2, ho2⟩ := target_ex (P := C.P) htgt g1.rel s1'
                by_cases hn : new.length = 0
                · have hem : emptyT (ρ s) = true := by
                    rcases hex with h1 | h1 | h1
                    · cases h1
                    · have := surely_pos hsrc h1; omega
                    · exact h1
                  have hold := empty_target htgt hem
                  subst hold
                  have T := tgt_nil (P := C.P) (τ := τ) (s := ρ s) (a := a) ⟨φ2, g2⟩
                  simp only [List.length_nil] at hv1
                  rw [← hv1] at T
                  refine room false _ T rfl fun a' c' hv2 => by simp; omega
                · exact grow a old.length ov hv1 (by omega) hf ⟨φ2, g2, ho2⟩
            · cases hk
          · cases hk
        · cases hk
      · cases hk
    · cases hk
  · cases hk

end Go.Ph

/- copy. -/
namespace Go.Ph
open Go.RowKit

theorem patch_get {α : Type} (l new : List α) (off m : Nat) (hm : m ≤ new.length) (hfit : off + m ≤ l.length) (i : Nat) :
    (l.take off ++ new.take m ++ l.drop (off + m))[i]? = if i < off then l[i]? else if i < off + m then new[i - off]? else l[i]? := by
  have h1 : (l.take off).length = off := by simp; omega
  have h2 : (new.take m).length = m := by simp; omega
  by_cases hi : i < off
  · rw [if_pos hi, List.append_assoc, List.getElem?_append_left (by omega), List.getElem?_take, if_pos hi]
  · rw [if_neg hi]
    by_cases hj : i < off + m
    · rw [if_pos hj, List.append_assoc, List.getElem?_append_right (by omega), h1, List.getElem?_append_left (by omega), List.getElem?_take, if_pos (by omega)]
    · rw [if_neg hj, List.getElem?_append_right (by simp; omega)]
      have h3 : (l.take off ++ new.take m).length = off + m := by rw [List.length_append, h1, h2]
      rw [h3, List.getElem?_drop]
      congr 1
      omega

theorem patch_len {α : Type} (l new : List α) (off m : Nat) (hm : m ≤ new.length) (hfit : off + m ≤ l.length) : (l.take off ++ new.take m ++ l.drop (off + m)).length = l.length := by
  simp; omega

/-- Elements of a row are written over. -/
theorem copy_write {P : Program} {Bad : Nat → Prop} {φ : Map} {h : AH} {w : World} (hr : Rel Bad φ h w) {id : Nat} {τ : Ty} {l : List τ.D} (hg : h.get id = some (.typ τ l)) {lc : Loc} (hl : φ id = some lc) {b o : Nat} (hat : lc.at_ = some (b, o)) {off m : Nat} {new : List τ.D} {nv : List Value}
    (hm : m ≤ new.length) (hfit : off + m ≤ l.length) (hv : VCells (Imm Bad φ w) φ h.next w (new.flatMap (cellsOf τ)) nv) :
    ∃ w', (storeCells ⟨b, o + off * τ.size, none⟩ (nv.take (m * τ.size))).run P w = .ok () w' ∧ Goes Bad φ h w φ (h.put id (.typ τ (l.take off ++ new.take m ++ l.drop (off + m)))) w' := by
  obtain ⟨l', hl', hf⟩ := hr.live id _ hg
  rw [hl] at hl'
  simp only [Option.some.injEq] at hl'
  subst hl'
  obtain ⟨c, e, fr, q1, q2, q3⟩ := hf.there b o hat
  have hlen : lc.len = l.length := hf.len
  have hesz : lc.esz = τ.size := hf.esz
  have hle := hf.le
  have hnv : nv.length = new.length * τ.size := by rw [← hv.1, flat_typ_length]
  have htl : (nv.take (m * τ.size)).length = m * τ.size := by
    rw [List.length_take, hnv]
    exact Nat.min_eq_left (Nat.mul_le_mul_right _ hm)
  have hroom : o + off * τ.size + m * τ.size ≤ c.size := by
    have h1 : (off + m) * τ.size ≤ lc.cap * lc.esz := by rw [hesz]; exact Nat.mul_le_mul_right _ (by omega)
    rw [Nat.add_mul] at h1
    omega
  obtain ⟨c', s1, s2, s3, s4⟩ := setCells_spec (nv.take (m * τ.size)) (o + off * τ.size) w c q1 (by rw [htl]; omega)
  refine ⟨w.setCells b (o + off * τ.size) (nv.take (m * τ.size)), ?_, ?_⟩
  · have hrun := run_storeCells_cells (P := P) b (o + off * τ.size) (nv.take (m * τ.size)) 0 w (fun j hj => by
        rw [htl] at hj
        have : o + off * τ.size + j < c.size := by omega
        simp [World.cell?, q1, this]) (fun j hj => by
        rw [htl] at hj
        exact q3 _ (by omega)) (fun x hx => by
        obtain ⟨i, hi⟩ := List.getElem?_of_mem (List.mem_of_mem_take hx)
        have hi2 : i < (new.flatMap (cellsOf τ)).length := by rw [hv.1]; exact (List.getElem?_eq_some_iff.1 hi).1
        have hs := hv.2 i _ x (List.getElem?_eq_getElem hi2) hi
        refine (single_sim hs ?_).1
        obtain ⟨y, _, hy⟩ := List.mem_flatMap.1 (List.getElem_mem hi2)
        exact Rel.addRow.single_cells τ y _ hy)
    simpa using hrun
  · refine hr.write hg hl hat s4 ⟨by rw [hlen]; exact (patch_len l new off m hm hfit).symm, hesz, hle, hf.max, hf.nowhere, fun b' o' hat' => ?_⟩ fun i x hx => ?_
    · rw [hat] at hat'
      simp only [Option.some.injEq, Prod.mk.injEq] at hat'
      obtain ⟨rfl, rfl⟩ := hat'
      exact wrote_there s4 ⟨c, e, fr, q1, q2, q3⟩
    · simp only [Row.flat] at hx
      have hp := τ.size_pos
      have hmod := Nat.mod_lt i hp
      have ei : i = (i / τ.size) * τ.size + i % τ.size := by rw [Nat.mul_comm]; exact (Nat.div_add_mod i τ.size).symm
      have hx0 := hx
      rw [ei, flat_typ_get _ _ _ _ hmod, patch_get l new off m hm hfit] at hx
      have hsing : x.single = true := by
        obtain ⟨y, _, hy⟩ := List.mem_flatMap.1 (List.mem_of_getElem? hx0)
        exact Rel.addRow.single_cells τ y _ hy
      have cellE : (w.setCells b (o + off * τ.size) (nv.take (m * τ.size))).cell? ⟨b, o + i, none⟩ = c'[o + i]? := by simp [World.cell?, s1]
      have oldcell : i / τ.size < off ∨ off + m ≤ i / τ.size → (l[i / τ.size]?.bind fun y => (cellsOf τ y)[i % τ.size]?) = some x →
          ∃ v, (w.setCells b (o + off * τ.size) (nv.take (m * τ.size))).cell? ⟨b, o + i, none⟩ = some v ∧ x.single = true ∧ Sim (Imm Bad φ w) φ h.next w x v := by
        intro hout hb
        rw [← flat_typ_get _ _ _ _ hmod, ← ei] at hb
        obtain ⟨v, k1, k2, k3⟩ := hr.cells id _ lc b o hg hl hat i x hb
        refine ⟨v, ?_, k2, k3⟩
        rw [cellE, s3 (o + i), htl, if_neg, ← k1]
        · simp [World.cell?, q1]
        · rintro ⟨a1, a2⟩
          have a3 : off * τ.size ≤ i := by omega
          have a4 : i < (off + m) * τ.size := by rw [Nat.add_mul]; omega
          have b1 : off ≤ i / τ.size := (Nat.le_div_iff_mul_le hp).2 a3
          have b2 : i / τ.size < off + m := (Nat.div_lt_iff_lt_mul hp).2 a4
          omega
      by_cases h1 : i / τ.size < off
      · rw [if_pos h1] at hx
        exact oldcell (.inl h1) hx
      · rw [if_neg h1] at hx
        by_cases h2 : i / τ.size < off + m
        · rw [if_pos h2] at hx
          have a3 : off * τ.size ≤ i := (Nat.le_div_iff_mul_le hp).1 (by omega)
          have a4 : i < (off + m) * τ.size := (Nat.div_lt_iff_lt_mul hp).1 h2
          rw [Nat.add_mul] at a4
          have hidx : (i / τ.size - off) * τ.size + i % τ.size = i - off * τ.size := by
            have a5 : off * τ.size ≤ (i / τ.size) * τ.size := Nat.mul_le_mul_right _ (by omega)
            rw [Nat.sub_mul]; omega
          rw [← flat_typ_get _ _ _ _ hmod, hidx] at hx
          have hlt : i - off * τ.size < nv.length := by rw [← hv.1]; exact (List.getElem?_eq_some_iff.1 hx).1
          refine ⟨nv[i - off * τ.size], ?_, hsing, hv.2 _ x _ hx (by simp [hlt])⟩
          rw [cellE, s3 (o + i), htl, if_pos ⟨by omega, by omega⟩, List.getElem?_take, if_pos (by omega)]
          have : o + i - (o + off * τ.size) = i - off * τ.size := by omega
          rw [this]
          simp [hlt]
        · rw [if_neg h2] at hx
          exact oldcell (.inr (by omega)) hx

/-- Nothing is written over. -/
theorem Rel.put_same {Bad : Nat → Prop} {φ : Map} {h : AH} {w : World} (hr : Rel Bad φ h w) {id : Nat} {r : Row} (hg : h.get id = some r) : Goes Bad φ h w φ (h.put id r) w := by
  have hget : ∀ k, (h.put id r).get k = h.get k := fun k => by
    by_cases he : k = id
    · subst he; rw [AH.get_put_same, hg]
    · exact AH.get_put_ne _ _ _ _ he
  exact ⟨⟨fun k r' h1 => hr.live k r' (by rw [← hget]; exact h1), hr.bad, fun k h1 => hr.gone k (by rw [← hget]; exact h1), hr.lt, hr.inj, hr.ok,
    fun k r' l b o h1 h2 h3 i c hc => hr.cells k r' l b o (by rw [← hget]; exact h1) h2 h3 i c hc⟩, .refl _ _ _⟩

theorem loadFrom_prefix {P : Program} {w : World} {a : Addr} : ∀ (n i : Nat) (acc r : Array Value) (w' : World), (loadCellsFrom a i n acc).run P w = .ok r w' →
    ∃ vs : List Value, vs.length = n ∧ r = acc ++ vs.toArray ∧ ∀ m, m ≤ n → (loadCellsFrom a i m acc).run P w = .ok (acc ++ (vs.take m).toArray) w
  | 0, i, acc, r, w', h => by
    simp only [loadCellsFrom, Sem.run_pure, Result.ok.injEq] at h
    refine ⟨[], rfl, by simp [h.1], fun m hm => ?_⟩
    have : m = 0 := by omega
    subst this
    simp [loadCellsFrom]
  | n + 1, i, acc, r, w', h => by
    have hld : ∃ v, (load (a.add i)).run P w = .ok v w := by
      cases hl : (load (a.add i)).run P w with
      | halt x w2 => simp only [loadCellsFrom, Sem.run_bind, hl] at h; simp at h
      | ok v w2 =>
        have : w2 = w := by
          rw [Go.run_load] at hl
          split at hl
          · simp only [Result.ok.injEq] at hl; exact hl.2.symm
          · split at hl
            · simp only [Result.ok.injEq] at hl; exact hl.2.symm
            · cases hl
        subst this
        exact ⟨v, rfl⟩
    obtain ⟨v, hv⟩ := hld
    have h2 : (loadCellsFrom a (i + 1) n (acc.push v)).run P w = .ok r w' := by
      simpa only [loadCellsFrom, Sem.run_bind, hv, Result.andThen_ok] using h
    obtain ⟨vs, k1, k2, k3⟩ := loadFrom_prefix n (i + 1) (acc.push v) r w' h2
    refine ⟨v :: vs, by simp [k1], by rw [k2]; simp, fun m hm => ?_⟩
    cases m with
    | zero => simp [loadCellsFrom]
    | succ m =>
      simp only [loadCellsFrom, Sem.run_bind, hv, Result.andThen_ok]
      rw [k3 m (by omega)]
      simp

/-- Fewer first cells. -/
theorem Firsts.take {P : Program} {w : World} {size n m : Nat} {a : Option Addr} {ln cp : Nat} {vs : List Value} (h : Firsts P w size n (.slice a ln cp) vs) (hm : m ≤ n) : Firsts P w size m (.slice a ln cp) (vs.take (m * size)) := by
  have hle : m * size ≤ n * size := Nat.mul_le_mul_right _ hm
  refine ⟨by rw [List.length_take, h.1]; exact Nat.min_eq_left hle, fun w' hw => ?_⟩
  have h2 := h.2 w' hw
  cases a with
  | none =>
    simp only [Builtin.firstCells, Sem.run_pure, Result.ok.injEq] at h2 ⊢
    have : vs = [] := by
      have h3 := congrArg Array.toList h2.1
      simpa using h3.symm
    simp [this]
  | some ad =>
    simp only [Builtin.firstCells, loadCells] at h2 ⊢
    obtain ⟨vs', k1, k2, k3⟩ := loadFrom_prefix _ _ _ _ _ h2
    have : vs' = vs := by
      have h3 := congrArg Array.toList k2
      simpa using h3.symm
    subst this
    simpa using k3 _ hle

theorem run_copy {P : Program} {dt xt e : TypeId} {τ : Ty} {t : TypeId} {w w' : World} {base : Option Addr} {dLen dCap n : Nat} {vx : Value} {nv : List Value} (hu : P.underlying dt = some (.slice e)) (hsz : τ.size = P.cellsOf e)
    (hl : ∀ w', (Builtin.lenOf vx).run P w' = .ok n w') (hf : Firsts P w τ.size (min n dLen) vx nv) (hst : ∀ ad, base = some ad → (storeCells ad nv).run P w = .ok () w') (hno : base = none → w' = w) :
    (Builtin.copy_ #[dt, xt] t #[.slice base dLen dCap, vx]).run P w = .ok (.int .i64 (min n dLen : Nat)) w' := by
  have hs := run_size' (P := P) (t := e) (by rw [← hsz]; exact τ.size_pos) w
  have hf2 := hf.2 w rfl
  unfold Builtin.copy_
  cases base with
  | none =>
    obtain rfl := hno rfl
    simp [run_underlying hu, hl, hs, ← hsz, hf2, goInt]
  | some ad =>
    have := hst ad rfl
    simp [run_underlying hu, hl, hs, ← hsz, hf2, this, goInt]

/-- A value that 'source' takes for a slice is a slice; it is empty where it is nil. -/
theorem source_slice {Bad : Nat → Prop} {φ : Map} {h h1 : AH} {w : World} {τ : Ty} {e : TypeId} {x : AV} {v : Value} {l : List τ.D} (hs : source τ (.slice e) x h = some (l, h1)) (hr : Rel Bad φ h w) (hv : Sim (Imm Bad φ w) φ h.next w x v) :
    ∃ a n c, v = .slice a n c ∧ (a = none → l = [] ∧ h1 = h) := by
  unfold source at hs
  split at hs
  · split at hs
    · cases hv with
      | @lits _ m _ a q1 q2 q3 q4 =>
        refine ⟨_, _, _, rfl, fun ha => ?_⟩
        rcases Nat.eq_zero_or_pos m with h0 | h0
        · subst h0
          rename_i cs _ _
          have hcs : cs = [] := List.eq_nil_of_length_eq_zero (by omega)
          subst hcs
          simp only [List.length_nil, data, Option.some.injEq, Prod.mk.injEq] at hs
          exact ⟨hs.1.symm, hs.2.symm⟩
        · obtain ⟨b, o, hb, _⟩ := q3 h0
          rw [ha] at hb; cases hb
    · cases hs
  · simp only [Option.some.injEq, Prod.mk.injEq] at hs
    cases hv
    exact ⟨_, _, _, rfl, fun _ => ⟨hs.1.symm, hs.2.symm⟩⟩
  · split at hs
    · rename_i he
      subst he
      simp only [Option.some.injEq, Prod.mk.injEq] at hs
      cases hv with
      | fz hl =>
        obtain ⟨a, n, c, rfl, r2, r3, r4, r5, r6⟩ := hl
        refine ⟨a, n, c, rfl, fun ha => ⟨?_, hs.2.symm⟩⟩
        rw [← hs.1]
        rcases Nat.eq_zero_or_pos n with h0 | h0
        · exact List.eq_nil_of_length_eq_zero (by omega)
        · obtain ⟨b, o, hb, _⟩ := r6 h0
          rw [ha] at hb; cases hb
    · cases hs
  · split at hs
    · rename_i hg
      split at hs
      · rename_i he
        subst he
        simp only [Option.some.injEq, Prod.mk.injEq] at hs
        obtain ⟨lc, h2, hf⟩ := hr.live _ _ hg
        cases hv with
        | ownDead h3 _ => rw [h3] at h2; cases h2
        | ownNil h3 h4 =>
          rw [h3] at h2
          simp only [Option.some.injEq] at h2
          subst h2
          refine ⟨_, _, _, rfl, fun _ => ⟨?_, hs.2.symm⟩⟩
          rw [← hs.1]
          have h5 := (hf.nowhere h4).1
          have h6 : _ = (Row.typ _ _).len := hf.len
          exact List.eq_nil_of_length_eq_zero (by simp only [Row.len] at h6; omega)
        | own h3 h4 => exact ⟨_, _, _, rfl, fun ha => (by cases ha)⟩
      · cases hs
    · cases hs
  · rename_i e' id off n _
    split at hs
    · rename_i hg
      split at hs
      · rename_i he
        subst he
        simp only [Option.some.injEq, Prod.mk.injEq] at hs
        obtain ⟨lc, h2, hf⟩ := hr.live _ _ hg
        cases hv with
        | ownpDead h3 _ => rw [h3] at h2; cases h2
        | ownpNil h3 h4 => exact ⟨_, _, _, rfl, fun _ => ⟨by rw [← hs.1]; simp, hs.2.symm⟩⟩
        | @ownp _ _ _ c b o l' a h3 h4 h5 h6 h7 h8 =>
          refine ⟨_, _, _, rfl, fun ha => ⟨?_, hs.2.symm⟩⟩
          have h0 : n = 0 := by
            rcases Nat.eq_zero_or_pos c with h0 | h0
            · omega
            · rw [h8 h0] at ha; cases ha
          rw [← hs.1, h0]
          simp
      · cases hs
    · cases hs
  · rename_i ht; cases ht
  · cases hs

theorem overK_to {C : Ctx} {o : Oper} {ρ : Operand → AV} {h h1 : AH} {dt xt e e' : TypeId} {τ : Ty} {d x : Operand} (ho : o.op = .call { callee := .builtin .copy, args := #[d, x], argTypes := #[dt, xt] })
    (hu : C.P.underlying dt = some (.slice e)) (hsz : τ.size = C.P.cellsOf e) {new : List τ.D} (hsrc : source τ (.slice e') (ρ x) h = some (new, h1)) (hx : intOk (ρ x) = true) {id off n : Nat} {Z : Type} {k : AV → AH → Option Z} {z : Z}
    (hd : ρ d = .ownp id off n ∨ (ρ d = .own id ∧ off = 0 ∧ ∃ r, h1.get id = some r ∧ n = r.len)) (hk : overK τ id off n new h1 k = some z) : ∃ v h', k v h' = some z ∧ OpTo C.P o ρ h v h' ∧ ModOk C o ρ h h' := by
  unfold overK at hk
  split at hk
  · rename_i τ' l hg
    split at hk
    · rename_i he
      subst he
      simp only at hk
      split at hk
      · rename_i hfit
        have hmem : id ∈ idsOf [ρ d, ρ x] := by
          rcases hd with hd | ⟨hd, _⟩ <;> rw [hd] <;> simp [idsOf]
        refine ⟨_, _, hk, .of_value fun Bad φ w η hr hs => ?_, ?_⟩
        · have s1 := hs d (by simp [ho, Op.operands, Call.operands])
          have s2 := hs x (by simp [ho, Op.operands, Call.operands])
          obtain ⟨φ1, nv, g1, hsrc', hv0, _⟩ := source_to (P := C.P) hsrc hx hr s2
          have hv := hv0 ⟨e', rfl⟩
          obtain ⟨hl, hf⟩ : (∀ w', (Builtin.lenOf (η x)).run C.P w' = .ok new.length w') ∧ Firsts C.P w τ'.size new.length (η x) nv := by
            rcases hsrc' with ⟨e2, _, h3, h4⟩ | ⟨k1, k2, m, hk1, _⟩
            · exact ⟨h3, h4⟩
            · cases hk1
          obtain ⟨ax, nx, cx, hvx, _⟩ := source_slice hsrc hr s2
          rw [hvx] at hf
          have hf' := hf.take (m := min new.length n) (Nat.min_le_left _ _)
          rw [← hvx] at hf'
          have s1' := g1.evo.sim hr.id_lt s1
          have hm1 : min new.length n ≤ new.length := Nat.min_le_left _ _
          have hm2 : off + min new.length n ≤ l.length := Nat.le_trans (Nat.add_le_add_left (Nat.min_le_right _ _) _) hfit
          -- where it is written
          obtain ⟨lc, hlc, hfits⟩ := g1.rel.live id _ hg
          have hlen : lc.len = l.length := hfits.len
          have hesz : lc.esz = τ'.size := hfits.esz
          have done : ∀ base dCap w', η d = .slice base n dCap → (∀ ad, base = some ad → (storeCells ad (nv.take (min new.length n * τ'.size))).run C.P w = .ok () w') → (base = none → w' = w) →
              (execOp η o).run C.P w = .ok (.value (.int .i64 (min new.length n : Nat))) w' := by
            intro base dCap w' h1 h2 h3
            have := run_copy (P := C.P) (xt := xt) (t := o.type) (dCap := dCap) hu hsz hl hf' h2 h3
            simp [execOp, ho, resolve, invoke, builtin, h1, this]
          -- nothing is written
          have none_ : ∀ base dCap, η d = .slice base n dCap → min new.length n = 0 → ∃ φ' w' v', (execOp η o).run C.P w = .ok (.value v') w' ∧
              Goes Bad φ h w φ' (h1.put id (.typ τ' (l.take off ++ new.take (min new.length n) ++ l.drop (off + min new.length n)))) w' ∧ Sim (Imm Bad φ' w') φ' (h1.put id (.typ τ' (l.take off ++ new.take (min new.length n) ++ l.drop (off + min new.length n)))).next w' (.int .i64 (min new.length n : Nat)) v' := by
            intro base dCap h1 h0
            refine ⟨φ1, w, _, done base dCap w h1 (fun ad _ => by rw [h0]; simp [storeCells]) (fun _ => rfl), g1.trans ?_, .int _ _⟩
            have : l.take off ++ new.take (min new.length n) ++ l.drop (off + min new.length n) = l := by rw [h0]; simp
            rw [this]
            exact g1.rel.put_same hg
          have some_ : ∀ b p dCap, lc.at_ = some (b, p) → η d = .slice (some ⟨b, p + off * τ'.size, none⟩) n dCap → ∃ φ' w' v', (execOp η o).run C.P w = .ok (.value v') w' ∧
              Goes Bad φ h w φ' (h1.put id (.typ τ' (l.take off ++ new.take (min new.length n) ++ l.drop (off + min new.length n)))) w' ∧ Sim (Imm Bad φ' w') φ' (h1.put id (.typ τ' (l.take off ++ new.take (min new.length n) ++ l.drop (off + min new.length n)))).next w' (.int .i64 (min new.length n : Nat)) v' := by
            intro b p dCap hat h1
            obtain ⟨w', k1, k2⟩ := copy_write (P := C.P) g1.rel hg hlc hat hm1 hm2 hv
            exact ⟨φ1, w', _, done _ dCap w' h1 (fun ad had => by cases had; exact k1) (fun h => by cases h), g1.trans k2, .int _ _⟩
          rcases hd with hd | ⟨hd, rfl, r, hr1, rfl⟩
          · rw [hd] at s1'
            generalize hvd : η d = vd at s1'
            cases s1' with
            | ownpDead q1 _ => rw [q1] at hlc; cases hlc
            | ownpNil q1 q2 => exact none_ _ _ hvd (by simp)
            | @ownp _ _ _ c b o' l' a q1 q2 q3 q4 q5 q6 =>
              rw [q1] at hlc
              simp only [Option.some.injEq] at hlc
              subst hlc
              rcases Nat.eq_zero_or_pos n with h0 | h0
              · exact none_ _ _ hvd (by rw [h0]; simp)
              · have := q6 (by omega)
                rw [hesz] at this
                subst this
                exact some_ b o' c q2 hvd
          · rw [hg] at hr1
            simp only [Option.some.injEq] at hr1
            subst hr1
            rw [hd] at s1'
            generalize hvd : η d = vd at s1'
            cases s1' with
            | ownDead q1 _ => rw [q1] at hlc; cases hlc
            | ownNil q1 q2 =>
              rw [q1] at hlc
              simp only [Option.some.injEq] at hlc
              subst hlc
              have h0 := (hfits.nowhere q2).1
              have h0' : (Row.typ τ' l).len = 0 := by simp only [Row.len]; omega
              refine none_ _ _ (by rw [h0']; exact hvd) (by rw [h0']; simp)
            | @own _ b o' l' q1 q2 =>
              rw [q1] at hlc
              simp only [Option.some.injEq] at hlc
              subst hlc
              refine some_ b o' l'.cap q2 ?_
              simp only [Nat.zero_mul, Nat.add_zero, Row.len]
              rw [← hlen]
              exact hvd
        · have k := ((source_keeps hsrc).weak (ids_cons (ρ d) (ρ x)).2).trans (Keeps.put (l := idsOf [ρ d, ρ x]) h1 (.typ τ' (l.take off ++ new.take (min new.length n) ++ l.drop (off + min new.length n))) hmem) (fun q hq => .inl hq)
          exact ⟨k.next, fun l hl => by
            simp only [modsOf, ho, Option.some.injEq] at hl
            subst hl
            exact k⟩
      · cases hk
    · cases hk
  · cases hk

theorem copy_to {C : Ctx} {o : Oper} {ρ : Operand → AV} {h : AH} {args : Array Operand} {argTypes : Array TypeId} (ho : o.op = .call { callee := .builtin .copy, args := args, argTypes := argTypes }) {Z : Type} {k : AV → AH → Option Z} {z : Z}
    (hk : effK C o ρ h k = some z) : ∃ v h', k v h' = some z ∧ OpTo C.P o ρ h v h' ∧ ModOk C o ρ h h' := by
  unfold effK at hk
  rw [ho] at hk
  simp only at hk
  split at hk
  · rename_i d x dt xt hargs htypes
    have ea : args = #[d, x] := by apply Array.toList_inj.1; rw [hargs]
    have et : argTypes = #[dt, xt] := by apply Array.toList_inj.1; rw [htypes]
    subst ea; subst et
    unfold copyK at hk
    split at hk
    · rename_i e τ e' hel hxt
      obtain ⟨hst, hsz⟩ := elemTy_some hel
      split at hk
      · rename_i new h1 hsrc
        have hx : intOk (ρ x) = true := by
          generalize ρ x = c at hsrc
          cases c <;> first | rfl | (simp [source] at hsrc)
        split at hk
        · rename_i id hd
          split at hk
          · rename_i r hr
            exact overK_to ho hst hsz hsrc hx (.inr ⟨hd, rfl, r, hr, rfl⟩) hk
          · cases hk
        · rename_i id off n hd
          exact overK_to ho hst hsz hsrc hx (.inl hd) hk
        · cases hk
      · cases hk
    · cases hk
  · cases hk

end Go.Ph

/- Operations on maps whose keys are numbers. -/
namespace Go.Ph
open Go.RowKit

/-- A block that holds no cells is written. -/
def putO (w : World) (b : Nat) (o : Obj) : World := { w with heap := w.heap.setIfInBounds b o }

theorem putO_same {w : World} {b : Nat} {o : Obj} (h : b < w.heap.size) (o' : Obj) : (putO w b o').heap[b]? = some o' := by simp [putO, h]

theorem putO_wrote {w : World} {b : Nat} {o : Obj} (hb : w.heap[b]? = some o) (hc : ∀ c e fr, o ≠ .cells c e fr) (o' : Obj) : Wrote w (putO w b o') b :=
  ⟨by simp [putO], fun k hk => by simp [putO, Array.getElem?_setIfInBounds_ne (Ne.symm hk)], rfl, rfl, rfl, fun c e fr h => by
    rw [hb] at h
    simp only [Option.some.injEq] at h
    exact absurd h (hc c e fr)⟩

theorem obj_lt {w : World} {b : Nat} {o : Obj} (h : w.heap[b]? = some o) : b < w.heap.size := (Array.getElem?_eq_some_iff.1 h).1

/-- A row that is no cells is written over. -/
theorem Rel.setRow {Bad : Nat → Prop} {φ : Map} {h : AH} {w : World} (hr : Rel Bad φ h w) {id : Nat} {r r' : Row} (hg : h.get id = some r) {l : Loc} (hl : φ id = some l) {b : Nat} (hat : l.at_ = some (b, 0)) {o o' : Obj} (hb : w.heap[b]? = some o) (hc : ∀ c e fr, o ≠ .cells c e fr)
    (hflat : r'.flat = []) (hlen : r'.len = r.len) (hesz : r'.esz = r.esz) (hlies : Lies (putO w b o') l r' b 0) : Goes Bad φ h w φ (h.put id r') (putO w b o') := by
  obtain ⟨l1, h1, hf⟩ := hr.live id r hg
  rw [hl] at h1
  simp only [Option.some.injEq] at h1
  subst h1
  refine hr.write hg hl hat (putO_wrote hb hc o') ⟨hf.len.trans hlen.symm, hf.esz.trans hesz.symm, hf.le, hf.max, hf.nowhere, fun b1 o1 hat1 => ?_⟩ fun i c hi => by rw [hflat] at hi; simp at hi
  rw [hat] at hat1
  simp only [Option.some.injEq, Prod.mk.injEq] at hat1
  obtain ⟨rfl, rfl⟩ := hat1
  exact hlies

/-- A row is given up, and its block is written. -/
theorem Rel.killSet {Bad : Nat → Prop} {φ : Map} {h : AH} {w w' : World} (hr : Rel Bad φ h w) {id : Nat} {l : Loc} (hl : φ id = some l) {b o : Nat} (hat : l.at_ = some (b, o)) (hw : Wrote w w' b) :
    Goes Bad φ h w (upd φ id none) (h.del id) w' := by
  have sub : ∀ k l, upd φ id none k = some l → φ k = some l ∧ k ≠ id := by
    intro k l hk
    by_cases he : k = id
    · subst he; rw [upd_same] at hk; cases hk
    · rw [upd_ne _ _ he] at hk; exact ⟨hk, he⟩
  have ev : Evo φ h.next w (upd φ id none) h.next w' :=
    ⟨Nat.le_refl _, by rw [hw.size]; exact Nat.le_refl _, fun k hk hn => hw.keep k (fun e => hn id l hl (e ▸ ⟨o, hat⟩)), fun k l b hk hb => .inr ⟨k, l, (sub k l hk).1, hb⟩, fun k _ => by
      by_cases he : k = id
      · subst he; exact .inr (upd_same _ _ _)
      · exact .inl (upd_ne _ _ he), hw.os, hw.tape, hw.output⟩
  have other : ∀ k lk b1 o1, φ k = some lk → k ≠ id → lk.at_ = some (b1, o1) → b1 ≠ b := by
    rintro k lk b1 o1 hk hne hat1 rfl
    exact hne (hr.inj k id lk l b1 hk hl ⟨o1, hat1⟩ ⟨o, hat⟩)
  refine ⟨⟨fun k r hk => ?_, fun x hx => by rw [hw.size]; exact hr.bad x hx, fun k hk => ?_, fun k hk => ?_, fun k k' l l' b h1 h2 => hr.inj k k' l l' b (sub _ _ h1).1 (sub _ _ h2).1, fun k l b h1 hb => by rw [hw.size]; exact hr.ok k l b (sub _ _ h1).1 hb, fun k r l b1 o1 hk hl1 hat1 i c hc => ?_⟩, ev⟩
  · have he : k ≠ id := by rintro rfl; rw [AH.get_del_same] at hk; cases hk
    rw [AH.get_del_ne _ _ _ he] at hk
    obtain ⟨l1, h1, h2⟩ := hr.live k r hk
    exact ⟨l1, by rw [upd_ne _ _ he]; exact h1, wrote_other hr hl hat hw h1 he h2⟩
  · by_cases he : k = id
    · subst he; exact upd_same _ _ _
    · rw [upd_ne _ _ he]
      rw [AH.get_del_ne _ _ _ he] at hk
      exact hr.gone k hk
  · by_cases he : k = id
    · subst he; exact upd_same _ _ _
    · rw [upd_ne _ _ he]; exact hr.lt k hk
  · have he : k ≠ id := by rintro rfl; rw [AH.get_del_same] at hk; cases hk
    rw [AH.get_del_ne _ _ _ he] at hk
    obtain ⟨v, h1, h2, h3⟩ := hr.cells k r l b1 o1 hk (sub _ _ hl1).1 hat1 i c hc
    exact ⟨v, by rw [cell_of_heap (hw.keep b1 (other k l b1 o1 (sub _ _ hl1).1 he hat1))]; exact h1, h2, ev.sim hr.id_lt h3⟩

theorem Rel.same_put {Bad : Nat → Prop} {φ : Map} {h : AH} {w : World} {id : Nat} {r : Row} (hr : Rel Bad φ (h.put id r) w) (hg : h.get id = some r) : Rel Bad φ h w := by
  have e : ∀ k, (h.put id r).get k = h.get k := fun k => by
    by_cases he : k = id
    · subst he; rw [AH.get_put_same, hg]
    · exact AH.get_put_ne _ _ _ _ he
  exact ⟨fun k x hk => hr.live k x (by rw [e]; exact hk), hr.bad, fun k hk => hr.gone k (by rw [e]; exact hk), hr.lt, hr.inj, hr.ok, fun k x l b o hk => hr.cells k x l b o (by rw [e]; exact hk)⟩

theorem run_asInt {P : Program} (k : IntKind) (n : Int) (w : World) : (asInt (.int k n)).run P w = .ok n w := by
  simp [asInt, asIntOf]

/-- Where a map lies. -/
theorem map_at {Bad : Nat → Prop} {φ : Map} {h : AH} {w : World} (hr : Rel Bad φ h w) {id : Nat} {kk : IntKind} {τ : Ty} {es : Ents τ.D} {c : Nat} (hg : h.get id = some (.mp (.int kk) τ es c)) {v : Value} (hs : Sim (Imm Bad φ w) φ h.next w (.mapp id) v) :
    ∃ b l, v = .map (some b) ∧ φ id = some l ∧ l.at_ = some (b, 0) ∧ w.heap[b]? = some (.map (es.map (entI kk τ)).toArray c) := by
  obtain ⟨l, hl, hf⟩ := hr.live id _ hg
  cases hs with
  | mapDead h1 _ => rw [h1] at hl; cases hl
  | @mapp _ b l' h1 h4 =>
    rw [h1] at hl
    simp only [Option.some.injEq] at hl
    subst hl
    exact ⟨b, l', rfl, h1, h4, hf.there b 0 h4⟩

/-- A map's entries are written. -/
theorem map_put {Bad : Nat → Prop} {φ : Map} {h : AH} {w : World} (hr : Rel Bad φ h w) {id : Nat} {kk : IntKind} {τ : Ty} {es : Ents τ.D} {c : Nat} (hg : h.get id = some (.mp (.int kk) τ es c)) {l : Loc} (hl : φ id = some l) {b : Nat} (hat : l.at_ = some (b, 0))
    (hb : w.heap[b]? = some (.map (es.map (entI kk τ)).toArray c)) (es' : Ents τ.D) (c' : Nat) {A : Array MapEntry} (hA : A = (es'.map (entI kk τ)).toArray) : Goes Bad φ h w φ (h.put id (.mp (.int kk) τ es' c')) (putO w b (.map A c')) := by
  subst hA
  exact hr.setRow hg hl hat hb (fun _ _ _ h => by cases h) rfl rfl rfl (putO_same (o := .map (es.map (entI kk τ)).toArray c) (obj_lt hb) _)

theorem run_putO {P : Program} {w : World} {b : Nat} {es : Array MapEntry} {c : Nat} (hb : w.heap[b]? = some (.map es c)) (o' : Obj) : (setObj b o').run P w = .ok () (putO w b o') := by
  rw [MapKept.run_setObj_map (P := P) o' hb]
  rfl

section
variable {N : Nat → Prop} {φ : Map} {nx : Nat} {w : World}

/-- A value that is a datum without slices. -/
theorem datumV_val : ∀ (τ : Ty) (x : AV) (d : τ.D) (v : Value), datumV τ x = some d → Sim N φ nx w x v → v = valV τ d := by
  intro τ x d v h hs
  cases τ with
  | int k =>
    simp only [datumV] at h
    split at h
    · rename_i k' n
      split at h
      · rename_i hk
        subst hk
        simp only [Option.some.injEq] at h
        subst h
        cases hs
        rfl
      · cases h
    · cases h
  | bool =>
    simp only [datumV] at h
    split at h
    · simp only [Option.some.injEq] at h
      subst h
      cases hs
      rfl
    · cases h
  | str =>
    simp only [datumV] at h
    split at h
    · simp only [Option.some.injEq] at h
      subst h
      cases hs
      rfl
    · cases h
  | sl e => simp [datumV] at h
  | pair a b =>
    simp only [datumV] at h
    split at h
    · rename_i cs
      split at h
      · rename_i hno
        cases hs with
        | @agg _ vs hn hcs =>
        have h1 := plain_cells (N := N) (φ := φ) (nx := nx) (w := w) (.pair a b) cs d vs.toList h ⟨by simpa using hn, fun i c v hc hv => hcs i c v hc (by simpa using hv)⟩
        have h2 := flat_is (.pair a b) d vs.toList hno h1
        show Value.agg vs = .agg (flatV (.pair a b) d).toArray
        rw [← h2]
      · cases h
    · cases h
where
  flat_is : ∀ (τ : Ty) (x : τ.D) (vs : List Value), noSl τ = true → VCells N φ nx w (cellsOf τ x) vs → vs = flatV τ x
    | .int k, n, vs, _, h => by
      obtain ⟨v, rfl, hv⟩ := one_cell h
      cases hv
      rfl
    | .bool, b, vs, _, h => by
      obtain ⟨v, rfl, hv⟩ := one_cell h
      cases hv
      rfl
    | .str, s, vs, _, h => by
      obtain ⟨v, rfl, hv⟩ := one_cell h
      cases hv
      rfl
    | .sl e, l, vs, hno, h => by simp [noSl] at hno
    | .pair a b, x, vs, hno, h => by
      simp only [noSl, Bool.and_eq_true] at hno
      obtain ⟨hl, hs⟩ := h
      simp only [cellsOf, List.length_append] at hl
      have e : vs = vs.take (cellsOf a x.1).length ++ vs.drop (cellsOf a x.1).length := (List.take_append_drop _ _).symm
      have h1 := flat_is a x.1 (vs.take (cellsOf a x.1).length) hno.1 ⟨by simp; omega, fun i c v hc hv => by
        have hi := cell_len hc
        refine hs i c v ?_ ?_
        · simp only [cellsOf]
          rw [List.getElem?_append_left hi]
          exact hc
        · rw [List.getElem?_take] at hv
          rw [if_pos hi] at hv
          exact hv⟩
      have h2 := flat_is b x.2 (vs.drop (cellsOf a x.1).length) hno.2 ⟨by simp; omega, fun i c v hc hv => by
        refine hs ((cellsOf a x.1).length + i) c v ?_ ?_
        · simp only [cellsOf]
          rw [List.getElem?_append_right (by omega), Nat.add_sub_cancel_left]
          exact hc
        · rw [List.getElem?_drop] at hv
          exact hv⟩
      rw [e, h1, h2]
      rfl
end

theorem modify_arr {l : List MapEntry} (j : Nat) (f : MapEntry → MapEntry) : l.toArray.modify j f = (l.modify j f).toArray := by
  simp

/-- 'm[k] = x'. -/
theorem upd_to {C : Ctx} {o : Oper} {ρ : Operand → AV} {h : AH} {t : TypeId} {m i x : Operand} (ho : o.op = .mapUpdate t m i x) {Z : Type} {k : AV → AH → Option Z} {z : Z} (hk : updK C.P t (ρ m) (ρ i) (ρ x) h k = some z) :
    ∃ v h', k v h' = some z ∧ OpTo C.P o ρ h v h' ∧ ModOk C o ρ h h' := by
  unfold updK at hk
  split at hk
  · rename_i q id ki n hm hmv hiv
    obtain ⟨kt, et, zz⟩ := q
    obtain ⟨hu, ⟨ik, hkt⟩, hz⟩ := mapK_some hm
    have md : ∀ r, h.get id ≠ none → ModOk C o ρ h (h.put id r) := fun r _ => ⟨Nat.le_refl _, fun l hl => by
      simp only [modsOf, ho, hmv, idsIn, Option.some.injEq] at hl
      subst hl
      exact Keeps.put h r (by simp)⟩
    split at hk
    · rename_i kk τ es c hg
      split at hk
      · rename_i hkk
        subst hkk
        split at hk
        · rename_i d hd
          have go : ∀ (es' : Ents τ.D) (c' : Nat) (A : Array MapEntry), A = (es'.map (entI kk τ)).toArray → (∀ (w : World) (b : Nat), w.heap[b]? = some (.map (es.map (entI kk τ)).toArray c) → (Instr.mapUpdate t (.map (some b)) (.int kk n) (valV τ d)).run C.P w = .ok () (putO w b (.map A c'))) →
              OpTo C.P o ρ h (.tuple []) (h.put id (.mp (.int kk) τ es' c')) := by
            intro es' c' A hA hrun
            refine .of_skip fun Bad φ w η hrel hs => ?_
            have h1 := hs m (by simp [ho, Op.operands])
            have h2 := hs i (by simp [ho, Op.operands])
            have h3 := hs x (by simp [ho, Op.operands])
            rw [hmv] at h1
            rw [hiv] at h2
            obtain ⟨b, l, e1, hl, hat, hb⟩ := map_at hrel hg h1
            have e3 := datumV_val τ (ρ x) d _ hd h3
            generalize e2 : η i = vi at h2
            cases h2
            refine ⟨φ, _, ?_, map_put hrel hg hl hat hb es' c' hA⟩
            simp only [execOp, ho, e1, e2, e3]
            exact skip_run (hrun w b hb)
          split at hk
          · rename_i es' hset
            obtain ⟨j, y, b0, hf, hj, hmod⟩ := set_some (ik := ik) (kk := kk) es es' 0 hset
            rw [Nat.zero_add] at hf
            refine ⟨_, _, hk, go es' c _ rfl fun w b hb => ?_, md _ (by rw [hg]; simp)⟩
            have q1 := MapKept.run_findKey (P := C.P) (w := w) hkt hf
            have q2 : ((es.map (entI kk τ)).toArray[j]?) = some (entI kk τ (n, y, b0)) := by simpa using hj
            have q3 : (((es.map (entI kk τ)).toArray.modify j fun e => { e with key := Value.int kk n, val := valV τ d })) = (es'.map (entI kk τ)).toArray := by
              rw [modify_arr, hmod]
              congr 1
              apply List.ext_getElem?
              intro q
              rw [List.getElem?_modify, List.getElem?_modify]
              by_cases hq : j = q
              · subst hq
                rw [hj]
                simp [entI, entryOf, valV]
              · simp [hq]
            simp only [Instr.mapUpdate, Sem.run_bind, und hu w, Result.andThen, MapKept.run_getObj_map (P := C.P) hb, run_check hkt, q1]
            have q4 : ((es.map (entI kk τ)).toArray[j]?.map (·.key)).getD (Value.int kk n) = Value.int kk n := by rw [q2]; rfl
            simp only [q4, run_keyStays, q3]
            exact run_putO hb _
          · rename_i hset
            have hf := find_none (ik := ik) (kk := kk) es 0 (set_none es hset)
            refine ⟨_, _, hk, go (es ++ [(n, d, c)]) (c + 1) ((es.map (entI kk τ)).toArray.push { key := .int kk n, val := valV τ d, born := c }) (by simp [entI, entryOf, valV]) fun w b hb => ?_, md _ (by rw [hg]; simp)⟩
            have q1 := MapKept.run_findKey (P := C.P) (w := w) hkt hf
            simp only [Instr.mapUpdate, Sem.run_bind, und hu w, Result.andThen, MapKept.run_getObj_map (P := C.P) hb, run_check hkt, q1]
            exact run_putO hb _
        · cases hk
      · cases hk
    · cases hk
  · cases hk

/-- 'm[k] op= x', its first half. -/
theorem ent_to {C : Ctx} {o : Oper} {ρ : Operand → AV} {h : AH} {t : TypeId} {m i : Operand} (ho : o.op = .mapEntry t m i) {Z : Type} {k : AV → AH → Option Z} {z : Z} (hk : entK C.P t (ρ m) (ρ i) h k = some z) :
    ∃ v h', k v h' = some z ∧ OpTo C.P o ρ h v h' ∧ ModOk C o ρ h h' := by
  unfold entK at hk
  split at hk
  · rename_i kt et kz zz id ki n hm hmv hiv
    obtain ⟨hu, ⟨ik, hkt⟩, hz⟩ := mapK_some hm
    have md : ∀ r, ModOk C o ρ h (h.put id r) := fun r => ⟨Nat.le_refl _, fun l hl => by
      simp only [modsOf, ho, hmv, idsIn, Option.some.injEq] at hl
      subst hl
      exact Keeps.put h r (by simp)⟩
    split at hk
    · rename_i kk ke es c hg
      split at hk
      · rename_i hkk
        obtain ⟨hkk, hke, hz0⟩ := hkk
        subst hkk
        subst hke
        subst hz0
        have two : ∀ (N : Nat → Prop) (φ : Map) (nx : Nat) (w : World) (a b : Int), Sim N φ nx w (.tuple [.int kz a, .int .i64 b]) (.tuple #[.int kz a, .int .i64 b]) := fun N φ nx w a b => .tuple (by simp) fun i x u hx hu => by
          match i with
          | 0 => simp at hx hu; subst hx; subst hu; exact .int _ _
          | 1 => simp at hx hu; subst hx; subst hu; exact .int _ _
          | i + 2 => simp at hx
        split at hk
        · rename_i d b0 hfe
          refine ⟨_, _, hk, .of_value fun Bad φ w η hrel hs => ?_, Nat.le_refl _, fun l _ => Keeps.refl l h⟩
          have h1 := hs m (by simp [ho, Op.operands])
          have h2 := hs i (by simp [ho, Op.operands])
          rw [hmv] at h1
          rw [hiv] at h2
          obtain ⟨b, l, e1, hl, hat, hb⟩ := map_at hrel hg h1
          generalize e2 : η i = vi at h2
          cases h2
          obtain ⟨j, hf, hj⟩ := find_some (ik := ik) (kk := kk) (τ := .int kz) es 0 hfe
          rw [Nat.zero_add] at hf
          have q1 := MapKept.run_findKey (P := C.P) (w := w) hkt hf
          have q2 : ((es.map (entI kk (.int kz))).toArray[j]?) = some (entI kk (.int kz) (n, d, b0)) := by simpa using hj
          have q3 : (((es.map (entI kk (.int kz))).toArray.modify j fun e => { e with key := Value.int kk n })) = (es.map (entI kk (.int kz))).toArray := by
            rw [modify_arr]
            congr 1
            apply List.ext_getElem?
            intro q
            rw [List.getElem?_modify]
            by_cases hq : j = q
            · subst hq
              rw [hj]
              simp [entI, entryOf, valV]
            · simp [hq]
          have q4 : ((es.map (entI kk (.int kz))).toArray[j]?.map (·.key)).getD (Value.int kk n) = Value.int kk n := by rw [q2]; rfl
          have q5 : ((es.map (entI kk (.int kz))).toArray[j]?.map (fun x => (x.born : Int))).getD 0 = b0 := by rw [q2]; rfl
          have hrun : (Instr.mapEntry t (.map (some b)) (.int kk n)).run C.P w = .ok (.tuple #[.int kz d, .int .i64 b0]) (putO w b (.map (es.map (entI kk (.int kz))).toArray c)) := by
            simp only [Instr.mapEntry, Sem.run_bind, und hu w, Result.andThen, MapKept.run_getObj_map (P := C.P) hb, run_check hkt, q1]
            simp only [q4, run_keyStays, q3, q5, run_putO (P := C.P) hb, Sem.run_pure]
            rfl
          refine ⟨φ, _, _, by simp only [execOp, ho, e1, e2]; exact value_run hrun, ?_, two _ _ _ _ _ _⟩
          have hg2 := map_put hrel hg hl hat hb es c rfl
          exact ⟨hg2.rel.same_put hg, hg2.evo⟩
        · rename_i hfe
          refine ⟨_, _, hk, .of_value fun Bad φ w η hrel hs => ?_, md _⟩
          have h1 := hs m (by simp [ho, Op.operands])
          have h2 := hs i (by simp [ho, Op.operands])
          rw [hmv] at h1
          rw [hiv] at h2
          obtain ⟨b, l, e1, hl, hat, hb⟩ := map_at hrel hg h1
          generalize e2 : η i = vi at h2
          cases h2
          have hf := find_none (ik := ik) (kk := kk) (τ := .int kz) es 0 hfe
          have q1 := MapKept.run_findKey (P := C.P) (w := w) hkt hf
          have hrun : (Instr.mapEntry t (.map (some b)) (.int kk n)).run C.P w = .ok (.tuple #[.int kz 0, .int .i64 c]) (putO w b (.map ((es.map (entI kk (.int kz))).toArray.push { key := .int kk n, val := .int kz 0, born := c }) (c + 1))) := by
            simp only [Instr.mapEntry, Sem.run_bind, und hu w, Result.andThen, MapKept.run_getObj_map (P := C.P) hb, run_check hkt, q1]
            simp only [run_zero hz, run_putO (P := C.P) hb, Sem.run_pure]
            rfl
          exact ⟨φ, _, _, by simp only [execOp, ho, e1, e2]; exact value_run hrun, map_put hrel hg hl hat hb (es ++ [(n, (0 : Int), c)]) (c + 1) (by simp [entI, entryOf, valV]), two _ _ _ _ _ _⟩
      · cases hk
    · cases hk
  · cases hk

theorem entStore_to {C : Ctx} {o : Oper} {ρ : Operand → AV} {h : AH} {t : TypeId} {m s x : Operand} (ho : o.op = .entryStore t m s x) {Z : Type} {k : AV → AH → Option Z} {z : Z} (hk : entStoreK (ρ m) (ρ s) (ρ x) h k = some z) :
    ∃ v h', k v h' = some z ∧ OpTo C.P o ρ h v h' ∧ ModOk C o ρ h h' := by
  unfold entStoreK at hk
  split at hk
  · rename_i id ks bn hmv hsv
    have md : ∀ r, ModOk C o ρ h (h.put id r) := fun r => ⟨Nat.le_refl _, fun l hl => by
      simp only [modsOf, ho, hmv, idsIn, Option.some.injEq] at hl
      subst hl
      exact Keeps.put h r (by simp)⟩
    split at hk
    · rename_i kk τ es c hg
      split at hk
      · rename_i d hd
        split at hk
        · rename_i es' hset
          obtain ⟨j, hj, hmod⟩ := setB_some (kk := kk) es es' hset
          refine ⟨_, _, hk, .of_skip fun Bad φ w η hrel hs => ?_, md _⟩
          have h1 := hs m (by simp [ho, Op.operands])
          have h2 := hs s (by simp [ho, Op.operands])
          have h3 := hs x (by simp [ho, Op.operands])
          rw [hmv] at h1
          rw [hsv] at h2
          obtain ⟨b, l, e1, hl, hat, hb⟩ := map_at hrel hg h1
          have e3 := datumV_val τ (ρ x) d _ hd h3
          generalize e2 : η s = vi at h2
          cases h2
          have q3 : (((es.map (entI kk τ)).toArray.modify j fun e => { e with val := valV τ d })) = (es'.map (entI kk τ)).toArray := by
            rw [modify_arr, hmod]
          have hrun : (Instr.entryStore t (.map (some b)) (.int ks bn) (valV τ d)).run C.P w = .ok () (putO w b (.map ((es.map (entI kk τ)).toArray.modify j fun e => { e with val := valV τ d }) c)) := by
            have q5 : (es.map (entI kk τ)).toArray.findIdx? (fun e => (e.born : Int) == bn) = some j := by
              rw [← hj]
              simp
            simp only [Instr.entryStore, Sem.run_bind, Result.andThen, MapKept.run_getObj_map (P := C.P) hb, run_asInt, Sem.run_pure, q5]
            exact run_putO hb _
          refine ⟨φ, _, by simp only [execOp, ho, e1, e2, e3]; exact skip_run hrun, map_put hrel hg hl hat hb es' c q3⟩
        · cases hk
      · cases hk
    · cases hk
  · cases hk

end Go.Ph

/- 'delete', 'clear', 'make' of maps; arrays as slices. -/
namespace Go.Ph
open Go.RowKit

theorem call_run {P : Program} {o : Oper} {η : Operand → Value} {b : Builtin} {args : Array Operand} {argTypes : Array TypeId} (ho : o.op = .call { callee := .builtin b, args := args, argTypes := argTypes }) {s : Sem Next} {r : Result Next} {w : World}
    (hb : ∀ cs : Array Bool, builtin b argTypes o.type cs (args.map η) = s) (hr : s.run P w = r) : (execOp η o).run P w = r := by
  subst hr
  simp only [execOp, ho, resolve]
  simp [invoke, hb]

theorem del_to {C : Ctx} {o : Oper} {ρ : Operand → AV} {h : AH} {m i : Operand} {mt x : TypeId} (ho : o.op = .call { callee := .builtin .delete, args := #[m, i], argTypes := #[mt, x] }) {Z : Type} {k : AV → AH → Option Z} {z : Z} (hk : delK C.P mt (ρ m) (ρ i) h k = some z) :
    ∃ v h', k v h' = some z ∧ OpTo C.P o ρ h v h' ∧ ModOk C o ρ h h' := by
  have mm : m ∈ o.op.operands := by simp [ho, Op.operands, Call.operands]
  have mi : i ∈ o.op.operands := by simp [ho, Op.operands, Call.operands]
  have nil : ∀ (N : Nat → Prop) (φ : Map) (nx : Nat) (w : World), Sim N φ nx w (.tuple []) (.tuple #[]) := fun N φ nx w => .tuple rfl (fun i c v hc => by simp at hc)
  have exec : ∀ (η : Operand → Value) (vm vi : Value) (w w' : World), η m = vm → η i = vi → (Builtin.delete_ #[mt, x] o.type #[vm, vi]).run C.P w = .ok (.tuple #[]) w' → (execOp η o).run C.P w = .ok (.value (.tuple #[])) w' := by
    intro η vm vi w w' h1 h2 h3
    simp [execOp, ho, resolve, invoke, builtin, h1, h2, h3]
  unfold delK at hk
  split at hk
  · rename_i q ki n hm hiv
    obtain ⟨kt, et, zz⟩ := q
    obtain ⟨hu, ⟨ik, hkt⟩, hz⟩ := mapK_some hm
    split at hk
    · rename_i hmv
      refine ⟨_, _, hk, .of_value fun Bad φ w η hrel hs => ?_, Nat.le_refl _, fun l _ => Keeps.refl l h⟩
      have h1 := hs m mm
      have h2 := hs i mi
      rw [hmv] at h1
      rw [hiv] at h2
      generalize e1 : η m = vm at h1
      generalize e2 : η i = vi at h2
      cases h1
      cases h2
      exact ⟨φ, w, _, exec η _ _ w w e1 e2 (by simp [Builtin.delete_, und hu w, run_check hkt, Sem.run_bind, Result.andThen]), .refl hrel, nil _ _ _ _⟩
    · rename_i id hmv
      split at hk
      · rename_i kk τ es c hg
        split at hk
        · rename_i hkk
          subst hkk
          refine ⟨_, _, hk, .of_value fun Bad φ w η hrel hs => ?_, Nat.le_refl _, fun l hl => ?_⟩
          · have h1 := hs m mm
            have h2 := hs i mi
            rw [hmv] at h1
            rw [hiv] at h2
            obtain ⟨b, l, e1, hl, hat, hb⟩ := map_at hrel hg h1
            generalize e2 : η i = vi at h2
            cases h2
            have gb := MapKept.run_getObj_map (P := C.P) hb
            cases hfe : findE n es with
            | none =>
              have q1 := MapKept.run_findKey (P := C.P) (w := w) hkt (find_none (ik := ik) (kk := kk) es 0 hfe)
              have hrun : (Builtin.delete_ #[mt, x] o.type #[.map (some b), .int kk n]).run C.P w = .ok (.tuple #[]) (putO w b (.map (es.map (entI kk τ)).toArray c)) := by
                simp [Builtin.delete_, und hu w, run_check hkt, Sem.run_bind, Result.andThen, gb, q1, run_putO (P := C.P) hb]
              exact ⟨φ, _, _, exec η _ _ w _ e1 e2 hrun, map_put hrel hg hl hat hb (delE n es) c (by rw [del_none es hfe]), nil _ _ _ _⟩
            | some d =>
              obtain ⟨j, hf, hj, hdel⟩ := del_some (ik := ik) (kk := kk) (x := d.1) (b := d.2) es 0 hfe
              rw [Nat.zero_add] at hf
              have q1 := MapKept.run_findKey (P := C.P) (w := w) hkt hf
              have hrun : (Builtin.delete_ #[mt, x] o.type #[.map (some b), .int kk n]).run C.P w = .ok (.tuple #[]) (putO w b (.map ((es.map (entI kk τ)).toArray.eraseIdxIfInBounds j) c)) := by
                simp only [Builtin.delete_]
                simp [und hu w, run_check hkt, Sem.run_bind, Result.andThen, gb, q1, run_putO (P := C.P) hb]
              refine ⟨φ, _, _, exec η _ _ w _ e1 e2 hrun, map_put hrel hg hl hat hb (delE n es) c ?_, nil _ _ _ _⟩
              rw [hdel]
              simp
          · simp only [modsOf, ho, Option.some.injEq] at hl
            subst hl
            exact Keeps.put h _ (by simp [hmv, idsIn])
        · cases hk
      · cases hk
    · cases hk
  · cases hk

theorem mkMap_to {C : Ctx} {o : Oper} {ρ : Operand → AV} {h : AH} {t : TypeId} (ho : o.op = .makeMap t none) {Z : Type} {k : AV → AH → Option Z} {z : Z} (hk : mkMapK C.P t h k = some z) :
    ∃ v h', k v h' = some z ∧ OpTo C.P o ρ h v h' ∧ ModOk C o ρ h h' := by
  unfold mkMapK at hk
  split at hk
  · rename_i kt et hu
    split at hk
    · rename_i kk τ hkt het
      split at hk
      · rename_i hno
        refine ⟨_, _, hk, .of_value fun Bad φ w η hrel hs => ?_, (Keeps.add h _).mod⟩
        have hg := Grew.alloc w (.map #[] 0)
        have hh : (w.alloc (.map #[] 0)).heap[w.heap.size]? = some (.map #[] 0) := World.alloc_heap_new_ w _
        have hmk : (Instr.makeMap t none).run C.P w = .ok (.map (some w.heap.size)) (w.alloc (.map #[] 0)) := rfl
        refine ⟨_, _, _, by simp only [execOp, ho, Option.map_none]; exact value_run hmk, hrel.add hg (.mp (.int kk) τ [] 0) ⟨some (w.heap.size, 0), 0, 0, 1, none⟩ w.heap.size rfl (Nat.le_refl _) (obj_lt hh) ⟨rfl, rfl, Nat.le_refl _, Nat.zero_le _, (fun h => by cases h), fun b o hat => ?_⟩ (fun i c hc => by simp [Row.flat] at hc), ?_⟩
        · simp only [Option.some.injEq, Prod.mk.injEq] at hat
          obtain ⟨rfl, rfl⟩ := hat
          exact hh
        · exact .mapp (l := ⟨some (w.heap.size, 0), 0, 0, 1, none⟩) (upd_same _ _ _) rfl
      · cases hk
    · cases hk
  · cases hk

theorem zero_vcells {N : Nat → Prop} {φ : Map} {nx : Nat} {w : World} : ∀ (τ : Ty) (l : List Value), pureK.zeroOk τ l = true → VCells N φ nx w (cellsOf τ (zeroD τ)) l
  | .int k, l, h => by
    have e : l = [.int k 0] := by
      unfold pureK.zeroOk at h
      split at h <;> simp_all
    subst e
    exact .one (.int _ _)
  | .bool, l, h => by
    unfold pureK.zeroOk at h
    split at h <;> simp_all
    exact .one (.bool _)
  | .str, l, h => by
    unfold pureK.zeroOk at h
    split at h <;> simp_all
    rename_i s
    have : s = ByteArray.empty := by
      cases s
      simp_all [ByteArray.empty, ByteArray.emptyWithCapacity]
      try rfl
    subst this
    exact .one (.str _)
  | .sl e, l, h => by
    unfold pureK.zeroOk at h
    split at h <;> simp_all
    exact .one (.fz ⟨none, 0, 0, rfl, rfl, Nat.le_refl _, Nat.zero_le _, (fun h => by cases h), fun h => absurd h (by omega)⟩)
  | .pair a b, l, h => by
    unfold pureK.zeroOk at h
    simp only [Bool.and_eq_true] at h
    have h1 := zero_vcells (N := N) (φ := φ) (nx := nx) (w := w) a _ h.1
    have h2 := zero_vcells (N := N) (φ := φ) (nx := nx) (w := w) b _ h.2
    have := h1.append h2
    rw [List.take_append_drop] at this
    exact this

theorem zeros_vcells {N : Nat → Prop} {φ : Map} {nx : Nat} {w : World} {τ : Ty} {zc : Array Value} (h : pureK.zeroOk τ zc.toList = true) (n : Nat) : VCells N φ nx w ((List.replicate n (zeroD τ)).flatMap (cellsOf τ)) (Builtin.zeroCells zc n).toList := by
  have h1 := zero_vcells (N := N) (φ := φ) (nx := nx) (w := w) τ _ h
  have hsz : zc.size = τ.size := by rw [← Array.length_toList, ← h1.1, cellsOf_length]
  have hp := τ.size_pos
  have e : (List.replicate n (zeroD τ)).flatMap (cellsOf τ) = (List.replicate n (cellsOf τ (zeroD τ))).flatten := by simp [List.flatMap]
  rw [e]
  refine ⟨by simp [Builtin.zeroCells, cellsOf_length, hsz], fun i c v hc hv => ?_⟩
  have hi := cell_len hc
  have hi' : i < n * (cellsOf τ (zeroD τ)).length := by simpa using hi
  rw [rep_get _ _ (by rw [cellsOf_length]; exact hp) _ hi'] at hc
  have hm : i % zc.size < zc.size := Nat.mod_lt _ (by omega)
  rw [cellsOf_length, ← hsz] at hi' hc
  simp only [Builtin.zeroCells, Array.toList_map, List.getElem?_map, Array.toList_range, List.getElem?_range hi', Option.map_some, Option.some.injEq] at hv
  refine h1.2 (i % zc.size) c v hc ?_
  rw [← hv, getElem!_pos zc _ hm]
  simp [hm]

theorem clear_to {C : Ctx} {o : Oper} {ρ : Operand → AV} {h : AH} {x : Operand} {t : TypeId} (ho : o.op = .call { callee := .builtin .clear, args := #[x], argTypes := #[t] }) {Z : Type} {k : AV → AH → Option Z} {z : Z} (hk : clearK C.P t (ρ x) h k = some z) :
    ∃ v h', k v h' = some z ∧ OpTo C.P o ρ h v h' ∧ ModOk C o ρ h h' := by
  have mx : x ∈ o.op.operands := by simp [ho, Op.operands, Call.operands]
  have nil : ∀ (N : Nat → Prop) (φ : Map) (nx : Nat) (w : World), Sim N φ nx w (.tuple []) (.tuple #[]) := fun N φ nx w => .tuple rfl (fun i c v hc => by simp at hc)
  have exec : ∀ (η : Operand → Value) (vx : Value) (w w' : World), η x = vx → (Builtin.clear_ #[t] o.type #[vx]).run C.P w = .ok (.tuple #[]) w' → (execOp η o).run C.P w = .ok (.value (.tuple #[])) w' := by
    intro η vx w w' h1 h3
    simp [execOp, ho, resolve, invoke, builtin, h1, h3]
  unfold clearK at hk
  split at hk
  · rename_i e τ hel
    obtain ⟨hu, hsz⟩ := elemTy_some hel
    split at hk
    · rename_i hzf
      unfold zeroFits at hzf
      split at hzf
      · rename_i zz hzz
        -- the part
        have main : ∀ id off n, (ρ x = .ownp id off n ∨ (ρ x = .own id ∧ off = 0 ∧ ∃ r, h.get id = some r ∧ n = r.len)) → (overK τ id off n (List.replicate n (zeroD τ)) h fun _ h' => k (.tuple []) h') = some z →
            ∃ v h', k v h' = some z ∧ OpTo C.P o ρ h v h' ∧ ModOk C o ρ h h' := by
          intro id off n hx hk
          unfold overK at hk
          split at hk
          · rename_i τ' l hg
            split at hk
            · rename_i he
              subst he
              simp only at hk
              split at hk
              · rename_i hfit
                have hmin : min (List.replicate n (zeroD τ')).length n = n := by simp
                rw [hmin] at hk
                refine ⟨_, _, hk, .of_value fun Bad φ w η hrel hs => ?_, Nat.le_refl _, fun ll hl => ?_⟩
                · have s1 := hs x mx
                  obtain ⟨lc, hlc, hfits⟩ := hrel.live id _ hg
                  have hlen : lc.len = l.length := hfits.len
                  have hesz : lc.esz = τ'.size := hfits.esz
                  have none_ : ∀ a c, η x = .slice a n c → n = 0 → ∃ φ' w' v', (execOp η o).run C.P w = .ok (.value v') w' ∧
                      Goes Bad φ h w φ' (h.put id (.typ τ' (l.take off ++ (List.replicate n (zeroD τ')).take n ++ l.drop (off + n)))) w' ∧ Sim (Imm Bad φ' w') φ' (h.put id (.typ τ' (l.take off ++ (List.replicate n (zeroD τ')).take n ++ l.drop (off + n)))).next w' (.tuple []) v' := by
                    intro a c h1 h0
                    have e0 : l.take off ++ (List.replicate n (zeroD τ')).take n ++ l.drop (off + n) = l := by rw [h0]; simp
                    rw [e0]
                    refine ⟨φ, w, _, exec η _ w w h1 ?_, hrel.put_same hg, nil _ _ _ _⟩
                    subst h0
                    cases a <;> simp [Builtin.clear_, und hu w, Sem.run_bind, Result.andThen]
                  have some_ : ∀ b p c, lc.at_ = some (b, p) → η x = .slice (some ⟨b, p + off * τ'.size, none⟩) n c → 0 < n → ∃ φ' w' v', (execOp η o).run C.P w = .ok (.value v') w' ∧
                      Goes Bad φ h w φ' (h.put id (.typ τ' (l.take off ++ (List.replicate n (zeroD τ')).take n ++ l.drop (off + n)))) w' ∧ Sim (Imm Bad φ' w') φ' (h.put id (.typ τ' (l.take off ++ (List.replicate n (zeroD τ')).take n ++ l.drop (off + n)))).next w' (.tuple []) v' := by
                    intro b p c hat h1 hpos
                    have hzv := zeros_vcells (N := Imm Bad φ w) (φ := φ) (nx := h.next) (w := w) hzf n
                    obtain ⟨w', k1, k2⟩ := copy_write (P := C.P) hrel hg hlc hat (m := n) (by simp) hfit hzv
                    have hlz : (Builtin.zeroCells zz.cells n).toList.length = n * τ'.size := by
                      rw [← hzv.1, flat_typ_length]
                      simp
                    rw [List.take_of_length_le (by omega)] at k1
                    refine ⟨φ, w', _, exec η _ w w' h1 ?_, k2, nil _ _ _ _⟩
                    obtain ⟨n', rfl⟩ := Nat.exists_eq_succ_of_ne_zero (by omega : n ≠ 0)
                    simp [Builtin.clear_, und hu w, Sem.run_bind, Result.andThen, run_zero hzz, k1]
                  rcases hx with hx | ⟨hx, rfl, r, hr1, rfl⟩
                  · rw [hx] at s1
                    generalize hvd : η x = vd at s1
                    cases s1 with
                    | ownpDead q1 _ => rw [q1] at hlc; cases hlc
                    | ownpNil q1 q2 => exact none_ _ _ hvd rfl
                    | @ownp _ _ _ c b o' l' a q1 q2 q3 q4 q5 q6 =>
                      rw [q1] at hlc
                      simp only [Option.some.injEq] at hlc
                      subst hlc
                      rcases Nat.eq_zero_or_pos n with h0 | h0
                      · exact none_ _ _ hvd h0
                      · have := q6 (by omega)
                        rw [hesz] at this
                        subst this
                        exact some_ b o' c q2 hvd h0
                  · rw [hg] at hr1
                    simp only [Option.some.injEq] at hr1
                    subst hr1
                    rw [hx] at s1
                    generalize hvd : η x = vd at s1
                    cases s1 with
                    | ownDead q1 _ => rw [q1] at hlc; cases hlc
                    | ownNil q1 q2 =>
                      rw [q1] at hlc
                      simp only [Option.some.injEq] at hlc
                      subst hlc
                      have h0 := (hfits.nowhere q2).1
                      have h0' : (Row.typ τ' l).len = 0 := by simp only [Row.len]; omega
                      exact none_ _ _ (by rw [h0']; exact hvd) h0'
                    | @own _ b o' l' q1 q2 =>
                      rw [q1] at hlc
                      simp only [Option.some.injEq] at hlc
                      subst hlc
                      have hv2 : η x = .slice (some ⟨b, o' + 0 * τ'.size, none⟩) (Row.typ τ' l).len l'.cap := by
                        simp only [Nat.zero_mul, Nat.add_zero, Row.len]
                        rw [← hlen]
                        exact hvd
                      rcases Nat.eq_zero_or_pos (Row.typ τ' l).len with h0 | h0
                      · exact none_ _ _ hv2 h0
                      · exact some_ b o' l'.cap q2 hv2 h0
                · simp only [modsOf, ho, Option.some.injEq] at hl
                  subst hl
                  refine Keeps.put h _ ?_
                  rcases hx with hx | ⟨hx, _⟩ <;> simp [hx, idsOf]
              · cases hk
            · cases hk
          · cases hk
        unfold partK at hk
        split at hk
        · rename_i id hx
          split at hk
          · rename_i r hr
            exact main id 0 r.len (.inr ⟨hx, rfl, r, hr, rfl⟩) hk
          · cases hk
        · rename_i id off n hx
          exact main id off n (.inl hx) hk
        · cases hk
      · cases hzf
    · cases hk
  · cases hk

end Go.Ph

/- Arrays that become slices. -/
namespace Go.Ph
open Go.RowKit

theorem plainInts {ke : IntKind} : ∀ (n : Nat) (cs : List AV) (l : List Int), plainL (plainD (.int ke)) 1 n cs = some l → ∀ (i : Nat) (x : Int), l[i]? = some x → cs[i]? = some (.int ke x)
  | 0, cs, l, h, i, x, hx => by
    simp only [plainL] at h
    split at h
    · simp only [Option.some.injEq] at h
      subst h
      simp at hx
    · cases h
  | n + 1, cs, l, h, i, x, hx => by
    cases cs with
    | nil =>
      simp only [plainL, Option.some.injEq] at h
      subst h
      simp at hx
    | cons c r =>
      simp only [plainL] at h
      split at h
      · rename_i y hy
        split at h
        · rename_i l' hl'
          simp only [Option.some.injEq] at h
          subst h
          have hc : c = .int ke y := by
            simp only [List.take_succ_cons, List.take_zero, plainD] at hy
            split at hy
            · rename_i k' m e
              simp only [List.cons.injEq, and_true] at e
              split at hy
              · rename_i hk
                subst hk
                simp only [Option.some.injEq] at hy
                subst hy
                exact e
              · cases hy
            · cases hy
          cases i with
          | zero =>
            simp only [List.getElem?_cons_zero, Option.some.injEq] at hx
            subst hx
            rw [hc]
            rfl
          | succ i =>
            simp only [List.getElem?_cons_succ] at hx ⊢
            exact plainInts n _ l' (by simpa using hl') i x hx
        · cases h
      · cases h

theorem arr_to {C : Ctx} {o : Oper} {ρ : Operand → AV} {h : AH} {x : Operand} {t : TypeId} (ho : o.op = .slice t x none none none) {Z : Type} {k : AV → AH → Option Z} {z : Z} (hk : arrK C.P t (ρ x) h k = some z) :
    ∃ v h', k v h' = some z ∧ OpTo C.P o ρ h v h' ∧ ModOk C o ρ h h' := by
  unfold arrK at hk
  split at hk
  · rename_i n e id i j hu hx
    split at hk
    · rename_i ke he
      split at hk
      · rename_i cs hg
        split at hk
        · rename_i hc
          obtain ⟨rfl, rfl, hcs, hpos, hmax, hsz⟩ := hc
          split at hk
          · rename_i l hl
            split at hk
            · rename_i hln
              refine ⟨_, _, hk, .of_value fun Bad φ w η hrel hs => ?_, Nat.le_refl _, fun ll hll => ?_⟩
              · have s1 := hs x (by simp [ho, Op.operands])
                rw [hx] at s1
                obtain ⟨lc, hlc, hfits⟩ := hrel.live id _ hg
                generalize hv : η x = v at s1
                cases s1 with
                | ptrDead q1 _ => rw [q1] at hlc; cases hlc
                | @ptr _ _ _ b o' l' q1 q2 =>
                  rw [q1] at hlc
                  simp only [Option.some.injEq] at hlc
                  subst hlc
                  simp only [Nat.zero_mul, Nat.add_zero] at hv
                  have hrun : (Instr.sliceAt t (.pointer (some ⟨b, o', none⟩)) none none none).run C.P w = .ok (.slice (some ⟨b, o', none⟩) n n) w := by
                    have hs1 := run_size (P := C.P) he w
                    rw [hsz] at hs1
                    have hn : ¬ n = 0 := by omega
                    simp [Instr.sliceAt, Instr.sureAddr, und hu w, Instr.sliceBounds, Sem.run_bind, Result.andThen, hs1, hn, addp]
                  have hE : execOp η o = (do pure (Next.value (← Instr.sliceAt t (η x) none none none))) := by
                    simp only [execOp, ho, Option.map_none]
                  refine ⟨upd φ id none, w, .slice (some ⟨b, o', none⟩) n n, by rw [hE, hv]; exact value_run hrun, hrel.goesKill id, ?_⟩
                  have himm : Imm Bad (upd φ id none) w b := ⟨(hrel.ok id l' b q1 ⟨o', q2⟩).1, (hrel.ok id l' b q1 ⟨o', q2⟩).2, fun k l'' hk' hin => by
                    by_cases hke : k = id
                    · subst hke; rw [upd_same] at hk'; cases hk'
                    · rw [upd_ne _ _ hke] at hk'
                      exact hke (hrel.inj k id l'' l' b hk' q1 hin ⟨o', q2⟩)⟩
                  refine .fz ⟨_, n, n, rfl, hln.symm, Nat.le_refl _, hmax, fun _ => rfl, fun _ => ⟨b, o', rfl, himm, fun i y hy => ?_⟩⟩
                  have h1 := plainInts _ cs l hl i y hy
                  obtain ⟨v, k1, _, k3⟩ := hrel.cells id _ l' b o' hg q1 q2 i _ h1
                  cases k3
                  simp only [RepC, Ty.size, Nat.mul_one]
                  exact k1
              · simp only [modsOf, ho, Option.some.injEq] at hll
                subst hll
                exact Keeps.del h (by simp [hx, idsIn])
            · cases hk
          · cases hk
        · cases hk
      · cases hk
    · cases hk
  · cases hk

end Go.Ph

end
