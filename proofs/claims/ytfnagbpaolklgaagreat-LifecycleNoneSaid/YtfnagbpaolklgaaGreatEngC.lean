/- An evaluator of the given program's form, and that it is sound: part 3. -/
import Derived.Test.YtfnagbpaolklgaaGreatEngB
set_option linter.unusedVariables false
noncomputable section
/- Literals as data. -/
namespace Go.Ph
open Go.RowKit

theorem plain_len : ∀ (τ : Ty) (cs : List AV) (x : τ.D), plainD τ cs = some x → cs.length = τ.size
  | .int k, cs, x, h => by
    simp only [plainD] at h
    split at h
    · rfl
    · cases h
  | .bool, cs, x, h => by
    simp only [plainD] at h
    split at h
    · rfl
    · cases h
  | .str, cs, x, h => by
    simp only [plainD] at h
    split at h
    · rfl
    · cases h
  | .sl e, cs, x, h => by
    simp only [plainD] at h
    split at h
    · rfl
    · rfl
    · rfl
    · cases h
  | .pair s t, cs, x, h => by
    simp only [plainD] at h
    split at h
    · rename_i y hy
      split at h
      · rename_i u hu
        have h1 := plain_len s _ _ hy
        have h2 := plain_len t _ _ hu
        simp only [List.length_take, List.length_drop] at h1 h2
        have := t.size_pos
        simp only [Ty.size]
        omega
      · cases h
    · cases h

theorem plainL_spec {α : Type} {f : List AV → Option α} {sz : Nat} (hf : ∀ cs x, f cs = some x → cs.length = sz) : ∀ (n : Nat) (cs : List AV) (l : List α), plainL f sz n cs = some l →
    cs.length = l.length * sz ∧ ∀ i x, l[i]? = some x → f ((cs.drop (i * sz)).take sz) = some x := by
  intro n
  induction n with
  | zero =>
    intro cs l h
    simp only [plainL] at h
    split at h
    · simp only [Option.some.injEq] at h
      subst h
      exact ⟨by simp, fun i x hx => (by simp at hx)⟩
    · cases h
  | succ n ih =>
    intro cs l h
    simp only [plainL] at h
    split at h
    · simp only [Option.some.injEq] at h
      subst h
      exact ⟨by simp, fun i x hx => (by simp at hx)⟩
    · split at h
      · rename_i y hy
        split at h
        · rename_i u hu
          simp only [Option.some.injEq] at h
          subst h
          obtain ⟨h1, h2⟩ := ih _ u hu
          have h3 := hf _ _ hy
          simp only [List.length_take, List.length_drop] at h1 h3
          refine ⟨by rw [List.length_cons, Nat.succ_mul]; omega, fun i x hx => ?_⟩
          cases i with
          | zero =>
            simp only [List.getElem?_cons_zero, Option.some.injEq] at hx
            subst hx
            simpa using hy
          | succ i =>
            simp only [List.getElem?_cons_succ] at hx
            have := h2 i x hx
            rw [List.drop_drop] at this
            have e : (i + 1) * sz = sz + i * sz := by rw [Nat.succ_mul]; omega
            rw [e]
            exact this
        · cases h
      · cases h

section
variable {N : Nat → Prop} {φ : Map} {nx : Nat} {w : World}

theorem plain_sl_of (e : Ty) (ih : ∀ cs x b o, plainD e cs = some x → (∀ j c, cs[j]? = some c → ∃ v, w.cell? ⟨b, o + j, none⟩ = some v ∧ Sim N φ nx w c v) → RepC N w e x b o)
    {c : AV} {l : List e.D} {v : Value} (h : plainD (.sl e) [c] = some l) (hs : Sim N φ nx w c v) : RepL N w e l false v := by
  simp only [plainD] at h
  split at h
  · rename_i heq
    simp only [List.cons.injEq, and_true] at heq
    subst heq
    simp only [Option.some.injEq] at h
    subst h
    cases hs
    exact ⟨none, 0, 0, rfl, rfl, Nat.le_refl _, Nat.zero_le _, fun h => (by cases h), fun h => absurd h (by omega)⟩
  · rename_i e' l' ex heq
    simp only [List.cons.injEq, and_true] at heq
    subst heq
    split at h
    · rename_i he
      subst he
      simp only [Option.some.injEq] at h
      subst h
      cases hs with
      | fz hr' =>
        obtain ⟨a, n, c, rfl, r2, r3, r4, r5, r6⟩ := hr'
        exact ⟨a, n, c, rfl, r2, r3, r4, fun h => (by cases h), r6⟩
    · cases h
  · rename_i size xs heq
    simp only [List.cons.injEq, and_true] at heq
    subst heq
    split at h
    · rename_i hsz
      obtain ⟨h1, h2⟩ := plainL_spec (fun cs x hx => plain_len e cs x hx) _ _ _ h
      cases hs with
      | @lits _ n _ a hn hm hb hv =>
        have hpos := e.size_pos
        subst hsz
        have hnl : n = l.length := by
          have : n * e.size = l.length * e.size := hn.trans h1
          exact Nat.eq_of_mul_eq_mul_right hpos this
        refine ⟨a, n, n, rfl, hnl, Nat.le_refl _, hm, fun h => (by cases h), fun h0 => ?_⟩
        obtain ⟨b, o, ha, hN, hx⟩ := hb h0
        refine ⟨b, o, ha, hN, fun i x hi => ?_⟩
        refine ih _ x b _ (h2 i x hi) fun j c hc => ?_
        rw [List.getElem?_take] at hc
        split at hc
        · rw [List.getElem?_drop] at hc
          obtain ⟨v, hv'⟩ := hx _ c hc
          refine ⟨v, by rw [Nat.add_assoc]; exact hv', hv b o ha _ c v hc hv'⟩
        · cases hc
    · cases h
  · cases h

theorem plain_rep : ∀ (τ : Ty) (cs : List AV) (x : τ.D) (b o : Nat), plainD τ cs = some x → (∀ j c, cs[j]? = some c → ∃ v, w.cell? ⟨b, o + j, none⟩ = some v ∧ Sim N φ nx w c v) → RepC N w τ x b o
  | .int k, cs, x, b, o, h, hc => by
    simp only [plainD] at h
    split at h
    · split at h
      · rename_i hk
        subst hk
        simp only [Option.some.injEq] at h
        subst h
        obtain ⟨v, hv, hs⟩ := hc 0 _ rfl
        cases hs
        exact hv
      · cases h
    · cases h
  | .bool, cs, x, b, o, h, hc => by
    simp only [plainD] at h
    split at h
    · simp only [Option.some.injEq] at h
      subst h
      obtain ⟨v, hv, hs⟩ := hc 0 _ rfl
      cases hs
      exact hv
    · cases h
  | .str, cs, x, b, o, h, hc => by
    simp only [plainD] at h
    split at h
    · simp only [Option.some.injEq] at h
      subst h
      obtain ⟨v, hv, hs⟩ := hc 0 _ rfl
      cases hs
      exact hv
    · cases h
  | .sl e, cs, x, b, o, h, hc => by
    have hl := plain_len _ _ _ h
    match cs, hl with
    | [c], _ =>
      obtain ⟨v, hv, hs⟩ := hc 0 c rfl
      obtain ⟨a, n, c', rfl, r2, r3, r4, _, r6⟩ := plain_sl_of e (plain_rep e) h hs
      exact ⟨a, n, c', hv, r2, r3, r4, r6⟩
  | .pair s t, cs, x, b, o, h, hc => by
    simp only [plainD] at h
    split at h
    · rename_i y hy
      split at h
      · rename_i u hu
        simp only [Option.some.injEq] at h
        subst h
        refine ⟨plain_rep s _ y b o hy fun j c hj => ?_, plain_rep t _ u b (o + s.size) hu fun j c hj => ?_⟩
        · rw [List.getElem?_take] at hj
          split at hj
          · exact hc j c hj
          · cases hj
        · rw [List.getElem?_drop] at hj
          rw [Nat.add_assoc]
          exact hc _ c hj
      · cases h
    · cases h

theorem plain_sl (e : Ty) {c : AV} {l : List e.D} {v : Value} (h : plainD (.sl e) [c] = some l) (hs : Sim N φ nx w c v) : RepL N w e l false v := plain_sl_of e (plain_rep e) h hs

end
end Go.Ph

/- How the heap of the evaluator and memory change together. -/
namespace Go.Ph
open Go.RowKit

def upd (φ : Map) (id : Nat) (l : Option Loc) : Map := fun k => if k = id then l else φ k

theorem upd_same (φ : Map) (id : Nat) (l : Option Loc) : upd φ id l id = l := by simp [upd]
theorem upd_ne (φ : Map) {id k : Nat} (l : Option Loc) (h : k ≠ id) : upd φ id l k = φ k := by simp [upd, h]

/-- Values of cells, in a list. -/
def VCells (N : Nat → Prop) (φ : Map) (nx : Nat) (w : World) (cs : List AV) (vs : List Value) : Prop :=
  cs.length = vs.length ∧ ∀ (i : Nat) (c : AV) (v : Value), cs[i]? = some c → vs[i]? = some v → Sim N φ nx w c v

theorem VCells.evo {Bad : Nat → Prop} {φ φ' : Map} {n n' : Nat} {w w' : World} (h : Evo φ n w φ' n' w') (hlt : ∀ id l, φ id = some l → id < n) {cs : List AV} {vs : List Value}
    (hv : VCells (Imm Bad φ w) φ n w cs vs) : VCells (Imm Bad φ' w') φ' n' w' cs vs :=
  ⟨hv.1, fun i c v hc hx => h.sim hlt (hv.2 i c v hc hx)⟩

/-- A row is given up. -/
theorem Rel.kill {Bad : Nat → Prop} {φ : Map} {h : AH} {w : World} (hr : Rel Bad φ h w) (id : Nat) :
    Rel Bad (upd φ id none) (h.del id) w ∧ Evo φ h.next w (upd φ id none) h.next w := by
  have sub : ∀ k l, upd φ id none k = some l → φ k = some l ∧ k ≠ id := by
    intro k l hk
    by_cases he : k = id
    · subst he; rw [upd_same] at hk; cases hk
    · rw [upd_ne _ _ he] at hk; exact ⟨hk, he⟩
  have ev : Evo φ h.next w (upd φ id none) h.next w :=
    ⟨Nat.le_refl _, Nat.le_refl _, fun _ _ _ => rfl, fun k l b hk hb => .inr ⟨k, l, (sub k l hk).1, hb⟩, fun k _ => by
      by_cases he : k = id
      · subst he; exact .inr (upd_same _ _ _)
      · exact .inl (upd_ne _ _ he), rfl, rfl, rfl⟩
  refine ⟨⟨fun k r hk => ?_, hr.bad, fun k hk => ?_, fun k hk => ?_, fun k k' l l' b h1 h2 => hr.inj k k' l l' b (sub _ _ h1).1 (sub _ _ h2).1, fun k l b h1 => hr.ok k l b (sub _ _ h1).1, fun k r l b o hk hl hat i c hc => ?_⟩, ev⟩
  · have he : k ≠ id := by rintro rfl; rw [AH.get_del_same] at hk; cases hk
    rw [AH.get_del_ne _ _ _ he] at hk
    obtain ⟨l, h1, h2⟩ := hr.live k r hk
    exact ⟨l, by rw [upd_ne _ _ he]; exact h1, h2⟩
  · by_cases he : k = id
    · subst he; exact upd_same _ _ _
    · rw [upd_ne _ _ he]
      rw [AH.get_del_ne _ _ _ he] at hk
      exact hr.gone k hk
  · by_cases he : k = id
    · subst he; exact upd_same _ _ _
    · rw [upd_ne _ _ he]; exact hr.lt k hk
  · have he : k ≠ id := by rintro rfl; rw [AH.get_del_same] at hk; cases hk
    rw [AH.get_del_ne _ _ _ he] at hk
    obtain ⟨v, h1, h2, h3⟩ := hr.cells k r l b o hk (sub _ _ hl).1 hat i c hc
    exact ⟨v, h1, h2, ev.sim hr.id_lt h3⟩

theorem repC_of_cells {N : Nat → Prop} {φ : Map} {nx : Nat} {w : World} : ∀ (τ : Ty) (x : τ.D) (b o : Nat),
    (∀ (j : Nat) (c : AV), (cellsOf τ x)[j]? = some c → ∃ v, w.cell? ⟨b, o + j, none⟩ = some v ∧ Sim N φ nx w c v) → RepC N w τ x b o
  | .int k, n, b, o, h => by
    obtain ⟨v, h1, h2⟩ := h 0 _ rfl
    cases h2
    simpa [RepC] using h1
  | .bool, n, b, o, h => by
    obtain ⟨v, h1, h2⟩ := h 0 _ rfl
    cases h2
    simpa [RepC] using h1
  | .str, n, b, o, h => by
    obtain ⟨v, h1, h2⟩ := h 0 _ rfl
    cases h2
    simpa [RepC] using h1
  | .sl e, l, b, o, h => by
    obtain ⟨v, h1, h2⟩ := h 0 _ rfl
    cases h2 with
    | fz hr =>
    obtain ⟨a, n, c, rfl, r2, r3, r4, r5, r6⟩ := hr
    exact ⟨a, n, c, by simpa using h1, r2, r3, r4, r6⟩
  | .pair s t, x, b, o, h => by
    refine ⟨repC_of_cells (φ := φ) (nx := nx) s _ b o fun j c hj => h j c ?_, repC_of_cells (φ := φ) (nx := nx) t _ b _ fun j c hj => ?_⟩
    · simp only [cellsOf]
      rw [List.getElem?_append_left (cell_len hj)]
      exact hj
    · rw [Nat.add_assoc]
      refine h (s.size + j) c ?_
      simp only [cellsOf]
      rw [List.getElem?_append_right (by rw [cellsOf_length]; omega), cellsOf_length, Nat.add_sub_cancel_left]
      exact hj

/-- A row that is given up can be read for ever. -/
theorem Rel.freeze {Bad : Nat → Prop} {φ : Map} {h : AH} {w : World} (hr : Rel Bad φ h w) {id : Nat} {τ : Ty} {l : List τ.D} (hg : h.get id = some (.typ τ l)) {lc : Loc} (hl : φ id = some lc) {b o : Nat} (hat : lc.at_ = some (b, o)) :
    Imm Bad (upd φ id none) w b ∧ ∀ i x, l[i]? = some x → RepC (Imm Bad (upd φ id none) w) w τ x b (o + i * τ.size) := by
  obtain ⟨hk, ev⟩ := hr.kill id
  refine ⟨⟨(hr.ok id lc b hl ⟨o, hat⟩).1, (hr.ok id lc b hl ⟨o, hat⟩).2, fun k l' hk' hin => ?_⟩, fun i x hx => ?_⟩
  · by_cases he : k = id
    · subst he; rw [upd_same] at hk'; cases hk'
    · rw [upd_ne _ _ he] at hk'
      exact he (hr.inj k id l' lc b hk' hl hin ⟨o, hat⟩)
  · refine repC_of_cells (φ := upd φ id none) (nx := h.next) τ x b _ fun j c hj => ?_
    have hq := cell_len hj
    rw [cellsOf_length] at hq
    have hflat : (Row.typ τ l).flat[i * τ.size + j]? = some c := by
      simp only [Row.flat]
      rw [flat_typ_get τ l i j hq, hx]
      exact hj
    obtain ⟨v, h5, _, h6⟩ := hr.cells id _ lc b o hg hl hat _ c hflat
    exact ⟨v, by rw [Nat.add_assoc]; exact h5, ev.sim hr.id_lt h6⟩

/-- What a slice of one's own holds, behind its row's end. -/
theorem Rel.freezeL {Bad : Nat → Prop} {φ : Map} {h : AH} {w : World} (hr : Rel Bad φ h w) {id : Nat} {τ : Ty} {l : List τ.D} (hg : h.get id = some (.typ τ l)) {v : Value}
    (hs : Sim (Imm Bad φ w) φ h.next w (.own id) v) : RepL (Imm Bad (upd φ id none) w) w τ l false v := by
  obtain ⟨lc, hl, hf⟩ := hr.live id _ hg
  have hlen : lc.len = l.length := hf.len
  cases hs with
  | ownDead h1 _ => rw [h1] at hl; cases hl
  | ownNil h1 h4 =>
    rw [h1] at hl
    simp only [Option.some.injEq] at hl
    subst hl
    have := (hf.nowhere h4).1
    exact ⟨_, 0, 0, rfl, by omega, Nat.le_refl _, Nat.zero_le _, fun h => (by cases h), fun h => absurd h (by omega)⟩
  | @own _ b o l' h1 h4 =>
    rw [h1] at hl
    simp only [Option.some.injEq] at hl
    subst hl
    obtain ⟨i1, i2⟩ := hr.freeze hg h1 h4
    exact ⟨_, _, _, rfl, hlen, hf.le, Nat.le_trans hf.le hf.max, fun h => (by cases h), fun _ => ⟨b, o, rfl, i1, i2⟩⟩

theorem Rel.freezeP {Bad : Nat → Prop} {φ : Map} {h : AH} {w : World} (hr : Rel Bad φ h w) {id off n : Nat} {τ : Ty} {l : List τ.D} (hg : h.get id = some (.typ τ l)) {v : Value}
    (hs : Sim (Imm Bad φ w) φ h.next w (.ownp id off n) v) : RepL (Imm Bad (upd φ id none) w) w τ ((l.drop off).take n) false v := by
  obtain ⟨lc, hl, hf⟩ := hr.live id _ hg
  have hlen : lc.len = l.length := hf.len
  have hesz : lc.esz = τ.size := hf.esz
  cases hs with
  | ownpDead h1 _ => rw [h1] at hl; cases hl
  | ownpNil h1 h4 => exact ⟨_, 0, 0, rfl, by simp, Nat.le_refl _, Nat.zero_le _, fun h => (by cases h), fun h => absurd h (by omega)⟩
  | @ownp _ _ _ c b o l' a h1 h4 h5 h6 h7 h8 =>
    rw [h1] at hl
    simp only [Option.some.injEq] at hl
    subst hl
    obtain ⟨i1, i2⟩ := hr.freeze hg h1 h4
    have := hf.max
    refine ⟨_, _, _, rfl, by simp; omega, h6, by omega, fun h => (by cases h), fun hn => ⟨b, o + off * τ.size, by rw [h8 (by omega), hesz], i1, fun i x hx => ?_⟩⟩
    rw [List.getElem?_take] at hx
    split at hx
    · rw [List.getElem?_drop] at hx
      have := i2 (off + i) x hx
      rw [Nat.add_mul, ← Nat.add_assoc] at this
      exact this
    · cases hx

/-- The relation goes on; only 'w' stays. -/
structure Goes (Bad : Nat → Prop) (φ : Map) (h : AH) (w : World) (φ' : Map) (h' : AH) (w' : World) : Prop where
  rel : Rel Bad φ' h' w'
  evo : Evo φ h.next w φ' h'.next w'

theorem Goes.refl {Bad : Nat → Prop} {φ : Map} {h : AH} {w : World} (hr : Rel Bad φ h w) : Goes Bad φ h w φ h w := ⟨hr, .refl _ _ _⟩
theorem Goes.trans {Bad : Nat → Prop} {φ φ' φ'' : Map} {h h' h'' : AH} {w w' w'' : World} (a : Goes Bad φ h w φ' h' w') (b : Goes Bad φ' h' w' φ'' h'' w'') : Goes Bad φ h w φ'' h'' w'' :=
  ⟨b.rel, a.evo.trans b.evo⟩
theorem Rel.goesKill {Bad : Nat → Prop} {φ : Map} {h : AH} {w : World} (hr : Rel Bad φ h w) (id : Nat) : Goes Bad φ h w (upd φ id none) (h.del id) w := ⟨(hr.kill id).1, (hr.kill id).2⟩

theorem one_cell {N : Nat → Prop} {φ : Map} {nx : Nat} {w : World} {c : AV} {vs : List Value} (h : VCells N φ nx w [c] vs) : ∃ v, vs = [v] ∧ Sim N φ nx w c v := by
  obtain ⟨h1, h2⟩ := h
  match vs, h1 with
  | [v], _ => exact ⟨v, rfl, h2 0 c v rfl rfl⟩

theorem VCells.one {N : Nat → Prop} {φ : Map} {nx : Nat} {w : World} {c : AV} {v : Value} (h : Sim N φ nx w c v) : VCells N φ nx w [c] [v] :=
  ⟨rfl, fun i c' v' hc hv => by
    cases i with
    | zero => simp at hc hv; subst hc; subst hv; exact h
    | succ i => simp at hc⟩

/-- Cells become a datum. -/
theorem datum_to {Bad : Nat → Prop} {w : World} : ∀ (τ : Ty) (cs : List AV) (h : AH) (x : τ.D) (h' : AH) (φ : Map) (vs : List Value), datum τ cs h = some (x, h') → Rel Bad φ h w → VCells (Imm Bad φ w) φ h.next w cs vs →
    ∃ φ', Goes Bad φ h w φ' h' w ∧ VCells (Imm Bad φ' w) φ' h'.next w (cellsOf τ x) vs
  | .int k, cs, h, x, h', φ, vs, hd, hr, hv => by
    simp only [datum] at hd
    split at hd
    · split at hd
      · rename_i hk
        subst hk
        simp only [Option.some.injEq, Prod.mk.injEq] at hd
        obtain ⟨rfl, rfl⟩ := hd
        exact ⟨φ, .refl hr, hv⟩
      · cases hd
    · cases hd
  | .bool, cs, h, x, h', φ, vs, hd, hr, hv => by
    simp only [datum] at hd
    split at hd
    · simp only [Option.some.injEq, Prod.mk.injEq] at hd
      obtain ⟨rfl, rfl⟩ := hd
      exact ⟨φ, .refl hr, hv⟩
    · cases hd
  | .str, cs, h, x, h', φ, vs, hd, hr, hv => by
    simp only [datum] at hd
    split at hd
    · simp only [Option.some.injEq, Prod.mk.injEq] at hd
      obtain ⟨rfl, rfl⟩ := hd
      exact ⟨φ, .refl hr, hv⟩
    · cases hd
  | .sl e, cs, h, x, h', φ, vs, hd, hr, hv => by
    simp only [datum] at hd
    split at hd
    · simp only [Option.some.injEq, Prod.mk.injEq] at hd
      obtain ⟨rfl, rfl⟩ := hd
      obtain ⟨v, rfl, hs⟩ := one_cell hv
      refine ⟨φ, .refl hr, .one ?_⟩
      cases hs
      exact .fz ⟨none, 0, 0, rfl, rfl, Nat.le_refl _, Nat.zero_le _, fun h => (by cases h), fun h => absurd h (by omega)⟩
    · split at hd
      · rename_i e' l ex he
        subst he
        simp only [Option.some.injEq, Prod.mk.injEq] at hd
        obtain ⟨rfl, rfl⟩ := hd
        obtain ⟨v, rfl, hs⟩ := one_cell hv
        refine ⟨φ, .refl hr, .one ?_⟩
        cases hs with
        | fz hr' =>
        obtain ⟨a, n, c, rfl, r2, r3, r4, r5, r6⟩ := hr'
        exact .fz ⟨a, n, c, rfl, r2, r3, r4, fun h => (by cases h), r6⟩
      · cases hd
    · rename_i id
      split at hd
      · rename_i e' l hg
        split at hd
        · rename_i he
          subst he
          simp only [Option.some.injEq, Prod.mk.injEq] at hd
          obtain ⟨rfl, rfl⟩ := hd
          obtain ⟨v, rfl, hs⟩ := one_cell hv
          exact ⟨_, hr.goesKill id, .one (.fz (hr.freezeL hg hs))⟩
        · cases hd
      · cases hd
    · rename_i id off n
      split at hd
      · rename_i e' l hg
        split at hd
        · rename_i he
          subst he
          simp only [Option.some.injEq, Prod.mk.injEq] at hd
          obtain ⟨rfl, rfl⟩ := hd
          obtain ⟨v, rfl, hs⟩ := one_cell hv
          exact ⟨_, hr.goesKill id, .one (.fz (hr.freezeP hg hs))⟩
        · cases hd
      · cases hd
    · split at hd
      · rename_i l hl
        simp only [Option.some.injEq, Prod.mk.injEq] at hd
        obtain ⟨rfl, rfl⟩ := hd
        obtain ⟨v, rfl, hs⟩ := one_cell hv
        exact ⟨φ, .refl hr, .one (.fz (plain_sl e hl hs))⟩
      · cases hd
    · cases hd
  | .pair s t, cs, h, x, h', φ, vs, hd, hr, hv => by
    simp only [datum] at hd
    split at hd
    · rename_i y h1 hy
      split at hd
      · rename_i u h2 hu
        simp only [Option.some.injEq, Prod.mk.injEq] at hd
        obtain ⟨rfl, rfl⟩ := hd
        have t1 : VCells (Imm Bad φ w) φ h.next w (cs.take s.size) (vs.take s.size) := by
          refine ⟨by simp [hv.1], fun i c v hc hx => ?_⟩
          rw [List.getElem?_take] at hc hx
          split at hc
          · rename_i hi; rw [if_pos hi] at hx; exact hv.2 i c v hc hx
          · cases hc
        obtain ⟨φ1, g1, v1⟩ := datum_to s _ h y h1 φ _ hy hr t1
        have t2 : VCells (Imm Bad φ1 w) φ1 h1.next w (cs.drop s.size) (vs.drop s.size) := by
          refine ⟨by simp [hv.1], fun i c v hc hx => ?_⟩
          rw [List.getElem?_drop] at hc hx
          exact g1.evo.sim hr.id_lt (hv.2 _ c v hc hx)
        obtain ⟨φ2, g2, v2⟩ := datum_to t _ h1 u h2 φ1 _ hu g1.rel t2
        have v1' := v1.evo g2.evo g1.rel.id_lt
        refine ⟨φ2, g1.trans g2, ?_, fun i c v hc hx => ?_⟩
        · simp only [cellsOf, List.length_append, v1'.1, v2.1]
          simp
          omega
        · simp only [cellsOf] at hc
          have hlen : (cellsOf s y).length = (vs.take s.size).length := v1'.1
          rw [cellsOf_length] at hlen
          rw [List.getElem?_append, cellsOf_length] at hc
          split at hc
          · rename_i hi
            refine v1'.2 i c v hc ?_
            rw [List.getElem?_take, if_pos hi]
            exact hx
          · rename_i hi
            refine v2.2 _ c v hc ?_
            rw [List.getElem?_drop, show s.size + (i - s.size) = i by omega]
            exact hx
      · cases hd
    · cases hd

/-- Cells become data. -/
theorem data_to {Bad : Nat → Prop} {w : World} (τ : Ty) : ∀ (n : Nat) (cs : List AV) (h : AH) (l : List τ.D) (h' : AH) (φ : Map) (vs : List Value), data τ n cs h = some (l, h') → Rel Bad φ h w → VCells (Imm Bad φ w) φ h.next w cs vs →
    ∃ φ', Goes Bad φ h w φ' h' w ∧ VCells (Imm Bad φ' w) φ' h'.next w (l.flatMap (cellsOf τ)) vs := by
  intro n
  induction n with
  | zero =>
    intro cs h l h' φ vs hd hr hv
    simp only [data] at hd
    split at hd
    · simp only [Option.some.injEq, Prod.mk.injEq] at hd
      obtain ⟨rfl, rfl⟩ := hd
      exact ⟨φ, .refl hr, hv⟩
    · cases hd
  | succ n ih =>
    intro cs h l h' φ vs hd hr hv
    simp only [data] at hd
    split at hd
    · simp only [Option.some.injEq, Prod.mk.injEq] at hd
      obtain ⟨rfl, rfl⟩ := hd
      exact ⟨φ, .refl hr, hv⟩
    · split at hd
      · rename_i y h1 hy
        split at hd
        · rename_i u h2 hu
          simp only [Option.some.injEq, Prod.mk.injEq] at hd
          obtain ⟨rfl, rfl⟩ := hd
          have t1 : VCells (Imm Bad φ w) φ h.next w (cs.take τ.size) (vs.take τ.size) := by
            refine ⟨by simp [hv.1], fun i c v hc hx => ?_⟩
            rw [List.getElem?_take] at hc hx
            split at hc
            · rename_i hi; rw [if_pos hi] at hx; exact hv.2 i c v hc hx
            · cases hc
          obtain ⟨φ1, g1, v1⟩ := datum_to τ _ h y h1 φ _ hy hr t1
          have t2 : VCells (Imm Bad φ1 w) φ1 h1.next w (cs.drop τ.size) (vs.drop τ.size) := by
            refine ⟨by simp [hv.1], fun i c v hc hx => ?_⟩
            rw [List.getElem?_drop] at hc hx
            exact g1.evo.sim hr.id_lt (hv.2 _ c v hc hx)
          obtain ⟨φ2, g2, v2⟩ := ih _ h1 u h2 φ1 _ hu g1.rel t2
          have v1' := v1.evo g2.evo g1.rel.id_lt
          have hlen : (cellsOf τ y).length = (vs.take τ.size).length := v1'.1
          rw [cellsOf_length] at hlen
          refine ⟨φ2, g1.trans g2, ?_, fun i c v hc hx => ?_⟩
          · simp only [List.flatMap_cons, List.length_append, v1'.1, v2.1]
            simp
            omega
          · rw [List.flatMap_cons] at hc
            rw [List.getElem?_append, cellsOf_length] at hc
            split at hc
            · rename_i hi
              refine v1'.2 i c v hc ?_
              rw [List.getElem?_take, if_pos hi]
              exact hx
            · rename_i hi
              refine v2.2 _ c v hc ?_
              rw [List.getElem?_drop, show τ.size + (i - τ.size) = i by omega]
              exact hx
        · cases hd
      · cases hd

/-- A new block becomes a row. -/
theorem Rel.add {Bad : Nat → Prop} {φ : Map} {h : AH} {w w' : World} (hr : Rel Bad φ h w) (hg : Grew w w') (r : Row) (l : Loc) (g : Nat) (hat : l.at_ = some (g, 0)) (hge : w.heap.size ≤ g) (hlt : g < w'.heap.size)
    (hf : Fits w' l r) (hc : ∀ i c, r.flat[i]? = some c → ∃ v, w'.cell? ⟨g, i, none⟩ = some v ∧ c.single = true ∧ Sim (Imm Bad φ w) φ h.next w c v) :
    Goes Bad φ h w (upd φ h.next (some l)) (h.add r) w' := by
  have hr' := hg.rel hr
  have hnx : φ h.next = none := hr.lt _ (Nat.le_refl _)
  have inl : ∀ b, l.in_ b → b = g := fun b ⟨o, ho⟩ => by rw [hat] at ho; simp at ho; exact ho.1.symm
  have old : ∀ k l', upd φ h.next (some l) k = some l' → (k = h.next ∧ l' = l) ∨ (k ≠ h.next ∧ φ k = some l') := by
    intro k l' hk
    by_cases he : k = h.next
    · subst he; rw [upd_same] at hk; simp only [Option.some.injEq] at hk; exact .inl ⟨rfl, hk.symm⟩
    · rw [upd_ne _ _ he] at hk; exact .inr ⟨he, hk⟩
  have ev : Evo φ h.next w (upd φ h.next (some l)) (h.add r).next w' :=
    ⟨Nat.le_succ _, hg.size, fun b hb _ => hg.keep b hb, fun k l' b hk hb => by
      rcases old k l' hk with ⟨_, rfl⟩ | ⟨_, h1⟩
      · rw [inl b hb]; exact .inl hge
      · exact .inr ⟨k, l', h1, hb⟩, fun k hk => .inl (upd_ne _ _ (by omega)), hg.os, hg.tape, hg.output⟩
  refine ⟨⟨fun k r' hk => ?_, hr'.bad, fun k hk => ?_, fun k hk => ?_, fun k k' l1 l2 b h1 h2 b1 b2 => ?_, fun k l1 b h1 b1 => ?_, fun k r' l1 b o hk hl hat1 i c hc1 => ?_⟩, ev⟩
  · by_cases he : k = h.next
    · subst he
      rw [AH.get_add_same] at hk
      simp only [Option.some.injEq] at hk
      subst hk
      exact ⟨l, upd_same _ _ _, hf⟩
    · rw [AH.get_add_ne _ _ _ he] at hk
      obtain ⟨l1, h1, h2⟩ := hr'.live k r' hk
      exact ⟨l1, by rw [upd_ne _ _ he]; exact h1, h2⟩
  · have he : k ≠ h.next := by rintro rfl; rw [AH.get_add_same] at hk; cases hk
    rw [AH.get_add_ne _ _ _ he] at hk
    rw [upd_ne _ _ he]
    exact hr.gone k hk
  · have : h.next + 1 ≤ k := hk
    rw [upd_ne _ _ (by omega)]
    exact hr.lt k (by omega)
  · rcases old k l1 h1 with ⟨e1, e2⟩ | ⟨n1, q1⟩ <;> rcases old k' l2 h2 with ⟨e3, e4⟩ | ⟨n2, q2⟩
    · rw [e1, e3]
    · have := (hr.ok k' l2 b q2 b2).2
      rw [e2] at b1
      rw [inl b b1] at this
      omega
    · have := (hr.ok k l1 b q1 b1).2
      rw [e4] at b2
      rw [inl b b2] at this
      omega
    · exact hr.inj k k' l1 l2 b q1 q2 b1 b2
  · rcases old k l1 h1 with ⟨rfl, rfl⟩ | ⟨n1, h1⟩
    · rw [inl b b1]
      exact ⟨fun hb => by have := hr.bad g hb; omega, hlt⟩
    · exact hr'.ok k l1 b h1 b1
  · rcases old k l1 hl with ⟨rfl, rfl⟩ | ⟨n1, h1⟩
    · rw [AH.get_add_same] at hk
      simp only [Option.some.injEq] at hk
      subst hk
      rw [hat] at hat1
      simp only [Option.some.injEq, Prod.mk.injEq] at hat1
      obtain ⟨rfl, rfl⟩ := hat1
      obtain ⟨v, h1, h2, h3⟩ := hc i c hc1
      exact ⟨v, by rw [Nat.zero_add]; exact h1, h2, ev.sim hr.id_lt h3⟩
    · rw [AH.get_add_ne _ _ _ n1] at hk
      obtain ⟨v, h2, h3, h4⟩ := hr.cells k r' l1 b o hk h1 hat1 i c hc1
      have hb := (hr.ok k l1 b h1 ⟨o, hat1⟩).2
      exact ⟨v, by rw [cell_of_heap (hg.keep b hb)]; exact h2, h3, ev.sim hr.id_lt h4⟩

end Go.Ph

/- Writes into a row, and a row that goes on under another name. -/
namespace Go.Ph
open Go.RowKit

/-- Only one block has changed, and only what its cells hold. -/
structure Wrote (w w' : World) (b : Nat) : Prop where
  size : w'.heap.size = w.heap.size
  keep : ∀ k, k ≠ b → w'.heap[k]? = w.heap[k]?
  os : w'.os = w.os
  tape : w'.tape = w.tape
  output : w'.output = w.output
  cells : ∀ c e fr, w.heap[b]? = some (.cells c e fr) → ∃ c', w'.heap[b]? = some (.cells c' e fr) ∧ c'.size = c.size

theorem Wrote.refl (w : World) (b : Nat) : Wrote w w b := ⟨rfl, fun _ _ => rfl, rfl, rfl, rfl, fun c _ _ h => ⟨c, h, rfl⟩⟩

theorem setCell_spec {w : World} {b : Nat} {c : Array Value} {e : TypeId} {fr : Nat × Nat} (hb : w.heap[b]? = some (.cells c e fr)) (o : Nat) (v : Value) :
    (w.setCell ⟨b, o, none⟩ v).heap[b]? = some (.cells (c.setIfInBounds o v) e fr) ∧ Wrote w (w.setCell ⟨b, o, none⟩ v) b := by
  refine ⟨by simp [World.setCell, Array.getElem?_modify, hb], by simp [World.setCell], fun k hk => Below.heap_setCell _ _ _ _ hk, rfl, rfl, rfl, fun c1 e1 fr1 h1 => ?_⟩
  rw [hb] at h1
  simp only [Option.some.injEq, Obj.cells.injEq] at h1
  obtain ⟨rfl, rfl, rfl⟩ := h1
  exact ⟨_, by simp [World.setCell, Array.getElem?_modify, hb] <;> rfl, by simp⟩

theorem Wrote.trans {w w1 w2 : World} {b : Nat} (h : Wrote w w1 b) (k : Wrote w1 w2 b) : Wrote w w2 b :=
  ⟨k.size.trans h.size, fun x hx => (k.keep x hx).trans (h.keep x hx), k.os.trans h.os, k.tape.trans h.tape, k.output.trans h.output, fun c e fr hc => by
    obtain ⟨c1, h1, h2⟩ := h.cells c e fr hc
    obtain ⟨c2, h3, h4⟩ := k.cells c1 e fr h1
    exact ⟨c2, h3, h4.trans h2⟩⟩

theorem wrote_there {w w' : World} {b : Nat} (hw : Wrote w w' b) {o n : Nat} (h : ∃ c e fr, w.heap[b]? = some (.cells c e fr) ∧ o + n ≤ c.size ∧ ∀ k, k < c.size → w.frozen? ⟨b, k, none⟩ = false) :
    ∃ c e fr, w'.heap[b]? = some (.cells c e fr) ∧ o + n ≤ c.size ∧ ∀ k, k < c.size → w'.frozen? ⟨b, k, none⟩ = false := by
  obtain ⟨c, e, fr, h1, h2, h3⟩ := h
  obtain ⟨c', h4, h5⟩ := hw.cells c e fr h1
  refine ⟨c', e, fr, h4, by omega, fun k hk => ?_⟩
  have := h3 k (by omega)
  simp only [World.frozen?, h1, h4] at this ⊢
  exact this

theorem setCells_spec {b : Nat} {e : TypeId} {fr : Nat × Nat} : ∀ (vs : List Value) (o : Nat) (w : World) (c : Array Value), w.heap[b]? = some (.cells c e fr) → o + vs.length ≤ c.size →
    ∃ c', (w.setCells b o vs).heap[b]? = some (.cells c' e fr) ∧ c'.size = c.size ∧ (∀ i : Nat, c'[i]? = if o ≤ i ∧ i < o + vs.length then vs[i - o]? else c[i]?) ∧ Wrote w (w.setCells b o vs) b := by
  intro vs
  induction vs with
  | nil => intro o w c hb hle; exact ⟨c, hb, rfl, fun i => by simp; omega, .refl w b⟩
  | cons v vs ih =>
    intro o w c hb hle
    simp only [List.length_cons] at hle
    obtain ⟨h1, h2⟩ := setCell_spec hb o v
    obtain ⟨c', q1, q2, q3, q4⟩ := ih (o + 1) _ _ h1 (by simp; omega)
    refine ⟨c', q1, by simpa using q2, fun i => ?_, h2.trans q4⟩
    rw [q3 i]
    simp only [List.length_cons]
    by_cases hi : i = o
    · subst hi
      rw [if_neg (by omega), if_pos (by omega), Nat.sub_self, List.getElem?_cons_zero, Array.getElem?_setIfInBounds_self_of_lt (by omega)]
    · by_cases hin : o + 1 ≤ i ∧ i < o + 1 + vs.length
      · rw [if_pos hin, if_pos (by omega)]
        have : i - o = (i - (o + 1)) + 1 := by omega
        rw [this, List.getElem?_cons_succ]
      · rw [if_neg hin, if_neg (by omega), Array.getElem?_setIfInBounds_ne (by omega)]

/-- Other rows live on where one row's block is written. -/
theorem wrote_other {Bad : Nat → Prop} {φ : Map} {h : AH} {w w' : World} (hr : Rel Bad φ h w) {id : Nat} {l : Loc} (hl : φ id = some l) {b o : Nat} (hat : l.at_ = some (b, o)) (hw : Wrote w w' b)
    {k : Nat} {lk : Loc} (hk : φ k = some lk) (hne : k ≠ id) {r : Row} (hf : Fits w lk r) : Fits w' lk r := by
  refine ⟨hf.len, hf.esz, hf.le, hf.max, hf.nowhere, fun b' o' hat' => ?_⟩
  have hbb : b' ≠ b := by
    rintro rfl
    exact hne (hr.inj k id lk l b' hk hl ⟨o', hat'⟩ ⟨o, hat⟩)
  exact (hf.there b' o' hat').keep (hw.keep b' hbb)

/-- Cells of a row are written. -/
theorem Rel.write {Bad : Nat → Prop} {φ : Map} {h : AH} {w w' : World} (hr : Rel Bad φ h w) {id : Nat} {r r' : Row} (hg : h.get id = some r) {l : Loc} (hl : φ id = some l) {b o : Nat} (hat : l.at_ = some (b, o)) (hw : Wrote w w' b)
    (hf : Fits w' l r') (hc : ∀ i c, r'.flat[i]? = some c → ∃ v, w'.cell? ⟨b, o + i, none⟩ = some v ∧ c.single = true ∧ Sim (Imm Bad φ w) φ h.next w c v) :
    Goes Bad φ h w φ (h.put id r') w' := by
  have hb := hr.ok id l b hl ⟨o, hat⟩
  have ev : Evo φ h.next w φ (h.put id r').next w' :=
    ⟨Nat.le_refl _, by rw [hw.size]; exact Nat.le_refl _, fun k hk hn => hw.keep k (fun e => hn id l hl (e ▸ ⟨o, hat⟩)), fun k l' b' h1 h2 => .inr ⟨k, l', h1, h2⟩, fun _ _ => .inl rfl, hw.os, hw.tape, hw.output⟩
  refine ⟨⟨fun k r1 hk => ?_, fun x hx => by rw [hw.size]; exact hr.bad x hx, fun k hk => ?_, hr.lt, hr.inj, fun k l1 b1 h1 h2 => by rw [hw.size]; exact hr.ok k l1 b1 h1 h2, fun k r1 l1 b1 o1 hk h1 hat1 i c hc1 => ?_⟩, ev⟩
  · by_cases he : k = id
    · subst he
      rw [AH.get_put_same] at hk
      simp only [Option.some.injEq] at hk
      subst hk
      exact ⟨l, hl, hf⟩
    · rw [AH.get_put_ne _ _ _ _ he] at hk
      obtain ⟨lk, h1, h2⟩ := hr.live k r1 hk
      exact ⟨lk, h1, wrote_other hr hl hat hw h1 he h2⟩
  · have he : k ≠ id := by rintro rfl; rw [AH.get_put_same] at hk; cases hk
    rw [AH.get_put_ne _ _ _ _ he] at hk
    exact hr.gone k hk
  · by_cases he : k = id
    · subst he
      rw [AH.get_put_same] at hk
      simp only [Option.some.injEq] at hk
      subst hk
      rw [hl] at h1
      simp only [Option.some.injEq] at h1
      subst h1
      rw [hat] at hat1
      simp only [Option.some.injEq, Prod.mk.injEq] at hat1
      obtain ⟨rfl, rfl⟩ := hat1
      obtain ⟨v, q1, q2, q3⟩ := hc i c hc1
      exact ⟨v, q1, q2, ev.sim hr.id_lt q3⟩
    · rw [AH.get_put_ne _ _ _ _ he] at hk
      obtain ⟨v, q1, q2, q3⟩ := hr.cells k r1 l1 b1 o1 hk h1 hat1 i c hc1
      have hbb : b1 ≠ b := by
        rintro rfl
        exact he (hr.inj k id l1 l b1 h1 hl ⟨o1, hat1⟩ ⟨o, hat⟩)
      exact ⟨v, by rw [cell_of_heap (hw.keep b1 hbb)]; exact q1, q2, ev.sim hr.id_lt q3⟩

/-- A row goes on under another name: its block may have been written. -/
theorem Rel.move {Bad : Nat → Prop} {φ : Map} {h : AH} {w w' : World} (hr : Rel Bad φ h w) {id : Nat} {r r' : Row} (hg : h.get id = some r) {l l' : Loc} (hl : φ id = some l) {b o o' : Nat} (hat : l.at_ = some (b, o)) (hat' : l'.at_ = some (b, o')) (hw : Wrote w w' b)
    (hf : Fits w' l' r') (hc : ∀ i c, r'.flat[i]? = some c → ∃ v, w'.cell? ⟨b, o' + i, none⟩ = some v ∧ c.single = true ∧ Sim (Imm Bad φ w) φ h.next w c v) :
    Goes Bad φ h w (upd (upd φ id none) h.next (some l')) ((h.del id).add r') w' := by
  have hb := hr.ok id l b hl ⟨o, hat⟩
  have hid := hr.id_lt id l hl
  have inl : ∀ x, l'.in_ x → x = b := fun x ⟨y, hy⟩ => by rw [hat'] at hy; simp at hy; exact hy.1.symm
  have old : ∀ k lk, upd (upd φ id none) h.next (some l') k = some lk → (k = h.next ∧ lk = l') ∨ (k ≠ h.next ∧ k ≠ id ∧ φ k = some lk) := by
    intro k lk hk
    by_cases he : k = h.next
    · subst he; rw [upd_same] at hk; simp only [Option.some.injEq] at hk; exact .inl ⟨rfl, hk.symm⟩
    · rw [upd_ne _ _ he] at hk
      by_cases he2 : k = id
      · subst he2; rw [upd_same] at hk; cases hk
      · rw [upd_ne _ _ he2] at hk; exact .inr ⟨he, he2, hk⟩
  have ev : Evo φ h.next w (upd (upd φ id none) h.next (some l')) ((h.del id).add r').next w' :=
    ⟨Nat.le_succ _, by rw [hw.size]; exact Nat.le_refl _, fun k hk hn => hw.keep k (fun e => hn id l hl (e ▸ ⟨o, hat⟩)), fun k lk x h1 h2 => by
      rcases old k lk h1 with ⟨_, rfl⟩ | ⟨_, _, q⟩
      · exact .inr ⟨id, l, hl, inl x h2 ▸ ⟨o, hat⟩⟩
      · exact .inr ⟨k, lk, q, h2⟩, fun k hk => by
      rw [upd_ne _ _ (by omega)]
      by_cases he2 : k = id
      · subst he2; exact .inr (upd_same _ _ _)
      · exact .inl (upd_ne _ _ he2), hw.os, hw.tape, hw.output⟩
  have gadd : ∀ k, k ≠ h.next → ((h.del id).add r').get k = (h.del id).get k := fun k hk => AH.get_add_ne _ _ _ hk
  have gsame : ((h.del id).add r').get h.next = some r' := AH.get_add_same (h.del id) r'
  refine ⟨⟨fun k r1 hk => ?_, fun x hx => by rw [hw.size]; exact hr.bad x hx, fun k hk => ?_, fun k hk => ?_, fun k k' l1 l2 x h1 h2 b1 b2 => ?_, fun k l1 x h1 b1 => ?_, fun k r1 l1 b1 o1 hk h1 hat1 i c hc1 => ?_⟩, ev⟩
  · by_cases he : k = h.next
    · subst he
      rw [gsame] at hk
      simp only [Option.some.injEq] at hk
      subst hk
      exact ⟨l', upd_same _ _ _, hf⟩
    · rw [gadd k he] at hk
      have he2 : k ≠ id := by rintro rfl; rw [AH.get_del_same] at hk; cases hk
      rw [AH.get_del_ne _ _ _ he2] at hk
      obtain ⟨lk, q1, q2⟩ := hr.live k r1 hk
      exact ⟨lk, by rw [upd_ne _ _ he, upd_ne _ _ he2]; exact q1, wrote_other hr hl hat hw q1 he2 q2⟩
  · have he : k ≠ h.next := by rintro rfl; rw [gsame] at hk; cases hk
    rw [gadd k he] at hk
    rw [upd_ne _ _ he]
    by_cases he2 : k = id
    · subst he2; exact upd_same _ _ _
    · rw [AH.get_del_ne _ _ _ he2] at hk
      rw [upd_ne _ _ he2]
      exact hr.gone k hk
  · have : h.next + 1 ≤ k := hk
    rw [upd_ne _ _ (by omega), upd_ne _ _ (by omega)]
    exact hr.lt k (by omega)
  · rcases old k l1 h1 with ⟨e1, e2⟩ | ⟨n1, m1, q1⟩ <;> rcases old k' l2 h2 with ⟨e3, e4⟩ | ⟨n2, m2, q2⟩
    · rw [e1, e3]
    · rw [e2] at b1
      have := inl x b1
      subst this
      exact absurd (hr.inj k' id l2 l x q2 hl b2 ⟨o, hat⟩) m2
    · rw [e4] at b2
      have := inl x b2
      subst this
      exact absurd (hr.inj k id l1 l x q1 hl b1 ⟨o, hat⟩) m1
    · exact hr.inj k k' l1 l2 x q1 q2 b1 b2
  · rcases old k l1 h1 with ⟨e1, e2⟩ | ⟨n1, m1, q1⟩
    · rw [e2] at b1
      have := inl x b1
      subst this
      rw [hw.size]
      exact hb
    · rw [hw.size]
      exact hr.ok k l1 x q1 b1
  · rcases old k l1 h1 with ⟨e1, e2⟩ | ⟨n1, m1, q1⟩
    · subst e1; subst e2
      rw [gsame] at hk
      simp only [Option.some.injEq] at hk
      subst hk
      rw [hat'] at hat1
      simp only [Option.some.injEq, Prod.mk.injEq] at hat1
      obtain ⟨rfl, rfl⟩ := hat1
      obtain ⟨v, p1, p2, p3⟩ := hc i c hc1
      exact ⟨v, p1, p2, ev.sim hr.id_lt p3⟩
    · rw [gadd k n1, AH.get_del_ne _ _ _ m1] at hk
      obtain ⟨v, p1, p2, p3⟩ := hr.cells k r1 l1 b1 o1 hk q1 hat1 i c hc1
      have hbb : b1 ≠ b := by
        rintro rfl
        exact m1 (hr.inj k id l1 l b1 q1 hl ⟨o1, hat1⟩ ⟨o, hat⟩)
      exact ⟨v, by rw [cell_of_heap (hw.keep b1 hbb)]; exact p1, p2, ev.sim hr.id_lt p3⟩

end Go.Ph

/- Parts of rows that become rows; new rows that lie nowhere. -/
namespace Go.Ph
open Go.RowKit

/-- A row without elements that lies nowhere. -/
theorem Rel.addNil {Bad : Nat → Prop} {φ : Map} {h : AH} {w : World} (hr : Rel Bad φ h w) (r : Row) (hr0 : r.len = 0) : Goes Bad φ h w (upd φ h.next (some ⟨none, 0, 0, r.esz, none⟩)) (h.add r) w := by
  have old : ∀ k l', upd φ h.next (some ⟨none, 0, 0, r.esz, none⟩) k = some l' → (k = h.next ∧ l' = ⟨none, 0, 0, r.esz, none⟩) ∨ (k ≠ h.next ∧ φ k = some l') := by
    intro k l' hk
    by_cases he : k = h.next
    · subst he; rw [upd_same] at hk; simp only [Option.some.injEq] at hk; exact .inl ⟨rfl, hk.symm⟩
    · rw [upd_ne _ _ he] at hk; exact .inr ⟨he, hk⟩
  have noin : ∀ b, ¬ (⟨none, 0, 0, r.esz, none⟩ : Loc).in_ b := fun b ⟨o, ho⟩ => by cases ho
  have ev : Evo φ h.next w (upd φ h.next (some ⟨none, 0, 0, r.esz, none⟩)) (h.add r).next w :=
    ⟨Nat.le_succ _, Nat.le_refl _, fun b hb _ => rfl, fun k l' b hk hb => by
      rcases old k l' hk with ⟨_, rfl⟩ | ⟨_, h1⟩
      · exact absurd hb (noin b)
      · exact .inr ⟨k, l', h1, hb⟩, fun k hk => .inl (upd_ne _ _ (by omega)), rfl, rfl, rfl⟩
  refine ⟨⟨fun k r' hk => ?_, hr.bad, fun k hk => ?_, fun k hk => ?_, fun k k' l1 l2 b h1 h2 b1 b2 => ?_, fun k l1 b h1 b1 => ?_, fun k r' l1 b o hk hl hat1 i c hc1 => ?_⟩, ev⟩
  · by_cases he : k = h.next
    · subst he
      rw [AH.get_add_same] at hk
      simp only [Option.some.injEq] at hk
      subst hk
      exact ⟨_, upd_same _ _ _, hr0.symm, rfl, Nat.le_refl _, Nat.zero_le _, fun _ => ⟨rfl, rfl⟩, fun b o h => by cases h⟩
    · rw [AH.get_add_ne _ _ _ he] at hk
      obtain ⟨l1, h1, h2⟩ := hr.live k r' hk
      exact ⟨l1, by rw [upd_ne _ _ he]; exact h1, h2⟩
  · have he : k ≠ h.next := by rintro rfl; rw [AH.get_add_same] at hk; cases hk
    rw [AH.get_add_ne _ _ _ he] at hk
    rw [upd_ne _ _ he]
    exact hr.gone k hk
  · have : h.next + 1 ≤ k := hk
    rw [upd_ne _ _ (by omega)]
    exact hr.lt k (by omega)
  · rcases old k l1 h1 with ⟨e1, e2⟩ | ⟨n1, q1⟩
    · subst e2; exact absurd b1 (noin b)
    · rcases old k' l2 h2 with ⟨e3, e4⟩ | ⟨n2, q2⟩
      · subst e4; exact absurd b2 (noin b)
      · exact hr.inj k k' l1 l2 b q1 q2 b1 b2
  · rcases old k l1 h1 with ⟨e1, e2⟩ | ⟨n1, q1⟩
    · subst e2; exact absurd b1 (noin b)
    · exact hr.ok k l1 b q1 b1
  · rcases old k l1 hl with ⟨e1, e2⟩ | ⟨n1, q1⟩
    · subst e2; cases hat1
    · rw [AH.get_add_ne _ _ _ n1] at hk
      obtain ⟨v, h2, h3, h4⟩ := hr.cells k r' l1 b o hk q1 hat1 i c hc1
      exact ⟨v, h2, h3, ev.sim hr.id_lt h4⟩

theorem flat_part (τ : Ty) (l : List τ.D) (off n i : Nat) (c : AV) (h : (((l.drop off).take n).flatMap (cellsOf τ))[i]? = some c) : (l.flatMap (cellsOf τ))[off * τ.size + i]? = some c := by
  have hp := τ.size_pos
  have e : i = (i / τ.size) * τ.size + i % τ.size := by rw [Nat.mul_comm]; exact (Nat.div_add_mod i τ.size).symm
  have hm := Nat.mod_lt i hp
  rw [e] at h ⊢
  rw [flat_typ_get _ _ _ _ hm] at h
  rw [← Nat.add_assoc, ← Nat.add_mul, flat_typ_get _ _ _ _ hm]
  rw [List.getElem?_take] at h
  split at h
  · rw [List.getElem?_drop] at h
    exact h
  · simp at h

/-- A part of a row becomes a row; the row is given up. -/
theorem Rel.root {Bad : Nat → Prop} {φ : Map} {h : AH} {w : World} (hr : Rel Bad φ h w) {id off n : Nat} {τ : Ty} {l : List τ.D} (hg : h.get id = some (.typ τ l)) {v : Value} (hs : Sim (Imm Bad φ w) φ h.next w (.ownp id off n) v) :
    ∃ φ', Goes Bad φ h w φ' ((h.del id).add (.typ τ ((l.drop off).take n))) w ∧ Sim (Imm Bad φ' w) φ' (h.next + 1) w (.own h.next) v := by
  obtain ⟨lc, hl, hf⟩ := hr.live id _ hg
  have hlen : lc.len = l.length := hf.len
  have hesz : lc.esz = τ.size := hf.esz
  have nil : ∀ a, n = 0 → v = .slice a 0 0 → ∃ φ', Goes Bad φ h w φ' ((h.del id).add (.typ τ ((l.drop off).take n))) w ∧ Sim (Imm Bad φ' w) φ' (h.next + 1) w (.own h.next) v := by
    intro a hn hv
    subst hn; subst hv
    have g1 := hr.goesKill id
    have g2 := g1.rel.addNil (.typ τ ((l.drop off).take 0)) (by simp [Row.len])
    exact ⟨_, g1.trans g2, .ownNil (l := ⟨none, 0, 0, τ.size, none⟩) (upd_same _ _ _) rfl⟩
  cases hs with
  | ownpDead h1 _ => rw [h1] at hl; cases hl
  | ownpNil h1 h4 => exact nil _ rfl rfl
  | @ownp _ _ _ c b o l' a h1 h4 h5 h6 h7 h8 =>
    rw [h1] at hl
    simp only [Option.some.injEq] at hl
    subst hl
    rcases Nat.eq_zero_or_pos c with hc0 | hc0
    · subst hc0
      have : n = 0 := by omega
      subst this
      exact nil a rfl rfl
    · have ha := h8 hc0
      subst ha
      have hmax := hf.max
      refine ⟨_, hr.move hg h1 h4 (l' := ⟨some (b, o + off * l'.esz), n, c, l'.esz, none⟩) rfl (Wrote.refl w b) ⟨?_, hf.esz, h6, by have : (⟨some (b, o + off * l'.esz), n, c, l'.esz, none⟩ : Loc).cap = c := rfl; omega, (fun h => by cases h), fun b' o' hat => ?_⟩ fun i x hx => ?_, ?_⟩
      · simp [Row.len]; omega
      · simp only [Option.some.injEq, Prod.mk.injEq] at hat
        obtain ⟨rfl, rfl⟩ := hat
        obtain ⟨cs, e, fr, q1, q2, q3⟩ := hf.there _ _ h4
        refine ⟨cs, e, fr, q1, ?_, q3⟩
        have := Nat.mul_le_mul_right l'.esz h7
        rw [Nat.add_mul] at this
        simp only
        omega
      · obtain ⟨u, p1, p2, p3⟩ := hr.cells id _ l' b o hg h1 h4 (off * τ.size + i) x (flat_part τ l off n i x hx)
        exact ⟨u, by rw [hesz, Nat.add_assoc]; exact p1, p2, p3⟩
      · exact .own (l := ⟨some (b, o + off * l'.esz), n, c, l'.esz, none⟩) (upd_same _ _ _) rfl

theorem VCells.tail {N : Nat → Prop} {φ : Map} {nx : Nat} {w : World} {c : AV} {cs : List AV} {vs : List Value} (h : VCells N φ nx w (c :: cs) vs) : ∃ v us, vs = v :: us ∧ Sim N φ nx w c v ∧ VCells N φ nx w cs us := by
  obtain ⟨h1, h2⟩ := h
  match vs, h1 with
  | v :: us, h1 => exact ⟨v, us, rfl, h2 0 c v rfl rfl, by simpa using h1, fun i x u hx hu => h2 (i + 1) x u (by simpa using hx) (by simpa using hu)⟩

theorem VCells.cons {N : Nat → Prop} {φ : Map} {nx : Nat} {w : World} {c : AV} {cs : List AV} {v : Value} {us : List Value} (h : Sim N φ nx w c v) (k : VCells N φ nx w cs us) : VCells N φ nx w (c :: cs) (v :: us) :=
  ⟨by simp [k.1], fun i x u hx hu => by
    cases i with
    | zero => simp at hx hu; subst hx; subst hu; exact h
    | succ i => exact k.2 i x u (by simpa using hx) (by simpa using hu)⟩

theorem root_to {Bad : Nat → Prop} {w : World} : ∀ (cs : List AV) (h : AH) (cs' : List AV) (h' : AH) (φ : Map) (vs : List Value), rootCells cs h = some (cs', h') → Rel Bad φ h w → VCells (Imm Bad φ w) φ h.next w cs vs → cs.all AV.single = true →
    ∃ φ', Goes Bad φ h w φ' h' w ∧ VCells (Imm Bad φ' w) φ' h'.next w cs' vs ∧ cs'.all AV.single = true ∧ cs'.length = cs.length := by
  intro cs
  induction cs with
  | nil =>
    intro h cs' h' φ vs hd hr hv hs
    simp only [rootCells, Option.some.injEq, Prod.mk.injEq] at hd
    obtain ⟨rfl, rfl⟩ := hd
    exact ⟨φ, .refl hr, hv, rfl, rfl⟩
  | cons c cs ih =>
    intro h cs' h' φ vs hd hr hv hs
    obtain ⟨v, us, rfl, hv1, hv2⟩ := hv.tail
    simp only [List.all_cons, Bool.and_eq_true] at hs
    have plain : (∀ id off n, c ≠ .ownp id off n) → ∃ φ', Goes Bad φ h w φ' h' w ∧ VCells (Imm Bad φ' w) φ' h'.next w cs' (v :: us) ∧ cs'.all AV.single = true ∧ cs'.length = (c :: cs).length := by
      intro hne
      unfold rootCells at hd
      split at hd
      · rename_i heq; cases heq
      · rename_i id off n r heq
        simp only [List.cons.injEq] at heq
        exact absurd heq.1 (hne id off n)
      · rename_i c' r _ heq
        simp only [List.cons.injEq] at heq
        obtain ⟨rfl, rfl⟩ := heq
        split at hd
        · rename_i ds h1 hds
          simp only [Option.some.injEq, Prod.mk.injEq] at hd
          obtain ⟨rfl, rfl⟩ := hd
          obtain ⟨φ', g, v1, s1, l1⟩ := ih _ ds h1 φ us hds hr hv2 hs.2
          exact ⟨φ', g, .cons (g.evo.sim hr.id_lt hv1) v1, by simp [hs.1, s1], by simp [l1]⟩
        · cases hd
    cases c with
    | ownp id off n =>
      simp only [rootCells] at hd
      split at hd
      · rename_i τ l hg
        split at hd
        · rename_i ds h1 hds
          simp only [Option.some.injEq, Prod.mk.injEq] at hd
          obtain ⟨rfl, rfl⟩ := hd
          obtain ⟨φ1, g1, s1⟩ := hr.root hg hv1
          obtain ⟨φ', g, v1, t1, l1⟩ := ih _ ds h1 φ1 us hds g1.rel (hv2.evo g1.evo hr.id_lt) hs.2
          exact ⟨φ', g1.trans g, .cons (g.evo.sim g1.rel.id_lt s1) v1, by simp [AV.single, t1], by simp [l1]⟩
        · cases hd
      · cases hd
    | _ => exact plain (by simp)

end Go.Ph

/- What the evaluator says of the operations that change the heap. -/
namespace Go.Ph
open Go.RowKit

/-- An operation that is carried out: the value, and the heap behind it. -/
def OpTo (P : Program) (o : Oper) (ρ : Operand → AV) (h : AH) (v : AV) (h' : AH) : Prop :=
  ∀ (Bad : Nat → Prop) (φ : Map) (w : World) (a : Act) (K : Act → World → Prop) (Q : Exit → Act → World → Prop), Rel Bad φ h w → (∀ x ∈ o.op.operands, Sim (Imm Bad φ w) φ h.next w (ρ x) (a.eval x)) →
    (∀ φ' w' v', Goes Bad φ h w φ' h' w' → Sim (Imm Bad φ' w') φ' h'.next w' v v' → K (a.put o.dst v') w') → o.wp P a w K Q

theorem OpTo.of_value {P : Program} {o : Oper} {ρ : Operand → AV} {h : AH} {v : AV} {h' : AH}
    (hr : ∀ (Bad : Nat → Prop) (φ : Map) (w : World) (η : Operand → Value), Rel Bad φ h w → (∀ x ∈ o.op.operands, Sim (Imm Bad φ w) φ h.next w (ρ x) (η x)) →
      ∃ φ' w' v', (execOp η o).run P w = .ok (.value v') w' ∧ Goes Bad φ h w φ' h' w' ∧ Sim (Imm Bad φ' w') φ' h'.next w' v v') : OpTo P o ρ h v h' := by
  intro Bad φ w a K Q hrel hs hk
  obtain ⟨φ', w', v', h1, h2, h3⟩ := hr Bad φ w a.eval hrel hs
  unfold Oper.wp
  rw [h1]
  exact hk φ' w' v' h2 h3

theorem OpTo.of_skip {P : Program} {o : Oper} {ρ : Operand → AV} {h : AH} {h' : AH}
    (hr : ∀ (Bad : Nat → Prop) (φ : Map) (w : World) (η : Operand → Value), Rel Bad φ h w → (∀ x ∈ o.op.operands, Sim (Imm Bad φ w) φ h.next w (ρ x) (η x)) →
      ∃ φ' w', (execOp η o).run P w = .ok .skip w' ∧ Goes Bad φ h w φ' h' w') : OpTo P o ρ h (.tuple []) h' := by
  intro Bad φ w a K Q hrel hs hk
  obtain ⟨φ', w', h1, h2⟩ := hr Bad φ w a.eval hrel hs
  unfold Oper.wp
  rw [h1]
  exact hk φ' w' undef h2 (.tuple rfl (fun i c v hc => by simp at hc))

theorem ReadTo.op {P : Program} {o : Oper} {ρ : Operand → AV} {h : AH} {v : AV} (hr : ReadTo P o ρ h v) : OpTo P o ρ h v h :=
  .of_value fun Bad φ w η hrel hs => by
    obtain ⟨v', w', h1, h2, h3⟩ := hr Bad φ w η hrel hs
    exact ⟨φ, w', v', h1, ⟨h2.rel hrel, h2.evo φ h.next⟩, h3⟩

theorem frozen_new (w : World) (c : Array Value) (t : TypeId) (k : Nat) : (w.alloc (.cells c t)).frozen? ⟨w.heap.size, k, none⟩ = false := by simp

/-- A new row of raw cells. -/
theorem Rel.box {Bad : Nat → Prop} {φ : Map} {h : AH} {w : World} (hr : Rel Bad φ h w) {cs : List AV} {A : Array Value} (t : TypeId) (hc : cs.length = A.size) (hpos : 0 < cs.length)
    (hs : ∀ (i : Nat) (c : AV) (v : Value), cs[i]? = some c → A[i]? = some v → Sim (Imm Bad φ w) φ h.next w c v ∧ c.single = true) :
    ∃ φ', Goes Bad φ h w φ' (h.add (.raw cs)) (w.alloc (.cells A t)) ∧ Sim (Imm Bad φ' (w.alloc (.cells A t))) φ' (h.next + 1) (w.alloc (.cells A t)) (.ptr h.next 0 0) (.pointer (some ⟨w.heap.size, 0, none⟩)) := by
  refine ⟨_, hr.add (Grew.alloc w _) (.raw cs) ⟨some (w.heap.size, 0), 1, 1, cs.length, none⟩ w.heap.size rfl (Nat.le_refl _) (by simp) ⟨rfl, rfl, Nat.le_refl _, by unfold maxLen; simp, (fun h => by cases h), fun b o hat => ?_⟩ fun i c hi => ?_, ?_⟩
  · simp only [Option.some.injEq, Prod.mk.injEq] at hat
    obtain ⟨rfl, rfl⟩ := hat
    exact ⟨A, t, (0, 0), by show (w.heap.push _)[w.heap.size]? = _; simp, by simp only; omega, fun k _ => frozen_new w A t k⟩
  · have hlt := cell_len hi
    simp only [Row.flat] at hi hlt
    rw [hc] at hlt
    exact ⟨A[i], by simp [hlt], (hs i c A[i] hi (by simp [hlt])).2, (hs i c A[i] hi (by simp [hlt])).1⟩
  · have := Sim.ptr (N := Imm Bad (upd φ h.next (some ⟨some (w.heap.size, 0), 1, 1, cs.length, none⟩)) (w.alloc (.cells A t))) (nx := h.next + 1) (w := w.alloc (.cells A t)) (id := h.next) (i := 0) (j := 0) (upd_same φ h.next (some ⟨some (w.heap.size, 0), 1, 1, cs.length, none⟩)) rfl
    simpa using this

/-- A new row of data. -/
theorem Rel.addRow {Bad : Nat → Prop} {φ : Map} {h : AH} {w w' : World} (hr : Rel Bad φ h w) (hg : Grew w w') {τ : Ty} (l : List τ.D) {A : Array Value} {t : TypeId} (g : Nat) (hb : w'.heap[g]? = some (.cells A t (0, 0))) (hge : w.heap.size ≤ g) (n cap : Nat) (hn : n = l.length) (hle : n ≤ cap) (hmax : cap ≤ maxLen) (hsz : cap * τ.size ≤ A.size)
    (hs : ∀ (i : Nat) (c : AV), (l.flatMap (cellsOf τ))[i]? = some c → ∃ v, A[i]? = some v ∧ Sim (Imm Bad φ w) φ h.next w c v) :
    ∃ φ', Goes Bad φ h w φ' (h.add (.typ τ l)) w' ∧ Sim (Imm Bad φ' w') φ' (h.next + 1) w' (.own h.next) (.slice (some ⟨g, 0, none⟩) n cap) := by
  have hlt : g < w'.heap.size := (Array.getElem?_eq_some_iff.1 hb).1
  refine ⟨_, hr.add hg (.typ τ l) ⟨some (g, 0), n, cap, τ.size, none⟩ g rfl hge hlt ⟨hn, rfl, hle, hmax, (fun h => by cases h), fun b o hat => ?_⟩ fun i c hi => ?_, ?_⟩
  · simp only [Option.some.injEq, Prod.mk.injEq] at hat
    obtain ⟨rfl, rfl⟩ := hat
    exact ⟨A, t, (0, 0), hb, by simpa using hsz, fun k _ => by simp [World.frozen?, hb]⟩
  · obtain ⟨v, h1, h2⟩ := hs i c hi
    refine ⟨v, by simp [World.cell?, hb, h1], ?_, h2⟩
    have : c ∈ l.flatMap (cellsOf τ) := List.mem_of_getElem? hi
    obtain ⟨x, _, hx⟩ := List.mem_flatMap.1 this
    exact single_cells τ x c hx
  · have := Sim.own (N := Imm Bad (upd φ h.next (some ⟨some (g, 0), n, cap, τ.size, none⟩)) w') (nx := h.next + 1) (w := w') (id := h.next) (upd_same φ h.next (some ⟨some (g, 0), n, cap, τ.size, none⟩)) rfl
    exact this
where
  single_cells : ∀ (τ : Ty) (x : τ.D) (c : AV), c ∈ cellsOf τ x → c.single = true
    | .int _, _, c, h => by simp [cellsOf] at h; subst h; rfl
    | .bool, _, c, h => by simp [cellsOf] at h; subst h; rfl
    | .str, _, c, h => by simp [cellsOf] at h; subst h; rfl
    | .sl _, _, c, h => by simp [cellsOf] at h; subst h; rfl
    | .pair s t, x, c, h => by
      simp only [cellsOf, List.mem_append] at h
      rcases h with h | h
      · exact single_cells s _ c h
      · exact single_cells t _ c h

/-- A store into a row's cells. -/
theorem run_store_row {P : Program} {Bad : Nat → Prop} {φ : Map} {h : AH} {w : World} (hr : Rel Bad φ h w) {id : Nat} {r : Row} (hg : h.get id = some r) {l : Loc} (hl : φ id = some l) {b o : Nat} (hat : l.at_ = some (b, o)) {t : TypeId} {off : Nat} {v : Value}
    (hsz : v.cells.size = P.cellsOf t) (hpos : 0 < v.cells.size) (hle : off + v.cells.size ≤ r.flat.length) (h1 : ∀ x ∈ v.cells.toList, x.oneCell' = true) :
    ∃ w', (Instr.storeAt t (.pointer (some ⟨b, o + off, none⟩)) v).run P w = .ok () w' ∧ Wrote w w' b ∧
      ∀ i : Nat, i < r.flat.length → w'.cell? ⟨b, o + i, none⟩ = if off ≤ i ∧ i < off + v.cells.size then v.cells[i - off]? else w.cell? ⟨b, o + i, none⟩ := by
  obtain ⟨l', hl', hf⟩ := hr.live id r hg
  rw [hl] at hl'
  simp only [Option.some.injEq] at hl'
  subst hl'
  obtain ⟨c, e, fr, q1, q2, q3⟩ := (hf.there b o hat).there (by omega)
  have hfl : r.flat.length = r.len * r.esz := r.flat_length
  have hcap : r.flat.length ≤ l.cap * l.esz := by rw [hfl, ← hf.len, ← hf.esz]; exact Nat.mul_le_mul_right _ hf.le
  have hlen : v.cells.toList.length = v.cells.size := by simp
  obtain ⟨c', s1, s2, s3, s4⟩ := setCells_spec v.cells.toList (o + off) w c q1 (by rw [hlen]; omega)
  refine ⟨w.setCells b (o + off) v.cells.toList, ?_, s4, fun i hi => ?_⟩
  · have hrun := run_storeCells_cells (P := P) b (o + off) v.cells.toList 0 w (fun j hj => by
        rw [hlen] at hj
        have : o + off + j < c.size := by omega
        simp [World.cell?, q1, this]) (fun j hj => by
        rw [hlen] at hj
        exact q3 _ (by omega)) h1
    simp only [Nat.add_zero] at hrun
    have hs' : (sizeOf t).run P w = .ok (P.cellsOf t) w := run_size' (by omega) w
    simp [Instr.storeAt, Instr.sureAddr, storeVar, hs', hsz, hrun]
  · have e1 : (w.setCells b (o + off) v.cells.toList).cell? ⟨b, o + i, none⟩ = c'[o + i]? := by simp [World.cell?, s1]
    have e2 : w.cell? ⟨b, o + i, none⟩ = c[o + i]? := by simp [World.cell?, q1]
    rw [e1, e2, s3 (o + i), hlen]
    by_cases hin : off ≤ i ∧ i < off + v.cells.size
    · rw [if_pos hin, if_pos (by omega)]
      simp only [Array.getElem?_toList]
      congr 1
      omega
    · rw [if_neg hin, if_neg (by omega)]

theorem box_to {C : Ctx} {o : Oper} {ρ : Operand → AV} {h : AH} {t : TypeId} {x : Operand} (ho : o.op = .box t x) (hc : (ρ x).cells.length = C.P.cellsOf t ∧ 0 < C.P.cellsOf t ∧ (ρ x).cells.all AV.single = true) :
    OpTo C.P o ρ h (.ptr h.next 0 0) (h.add (.raw (ρ x).cells)) :=
  .of_value fun Bad φ w η hr hs => by
    have h1 := hs x (by simp [ho, Op.operands])
    obtain ⟨h2, h3⟩ := cells_sim h1 hc.2.2
    obtain ⟨φ', g, hp⟩ := hr.box t (cs := (ρ x).cells) (A := (η x).cells) h2.symm (by omega) (fun i c v hc hv => ⟨(h3 i c v hc hv).1, (h3 i c v hc hv).2.2⟩)
    exact ⟨φ', _, _, by simp [execOp, ho, Instr.box, newVar, newRow] <;> rfl, g, hp⟩

theorem alloc_to {C : Ctx} {o : Oper} {ρ : Operand → AV} {h : AH} {t : TypeId} {z : Value} (ho : o.op = .alloc t) (hz : (C.P.info? t).bind (·.zero) = some z)
    (hc : (ofConst z).cells.length = C.P.cellsOf t ∧ 0 < C.P.cellsOf t ∧ (ofConst z).cells.all AV.single = true) :
    OpTo C.P o ρ h (.ptr h.next 0 0) (h.add (.raw (ofConst z).cells)) :=
  .of_value fun Bad φ w η hr hs => by
    obtain ⟨h2, h3⟩ := cells_sim (ofConst_sim (φ := φ) (nx := h.next) (w := w) (Imm Bad φ w) z) hc.2.2
    obtain ⟨φ', g, hp⟩ := hr.box t (cs := (ofConst z).cells) (A := z.cells) h2.symm (by omega) (fun i c v hc hv => ⟨(h3 i c v hc hv).1, (h3 i c v hc hv).2.2⟩)
    cases hi : C.P.info? t with
    | none => simp [hi] at hz
    | some i =>
      simp [hi] at hz
      exact ⟨φ', _, _, by simp [execOp, ho, Instr.alloc, zeroValue, typeInfo, hi, hz, newVar, newRow] <;> rfl, g, hp⟩

theorem make_to {C : Ctx} {o : Oper} {ρ : Operand → AV} {h : AH} {t : TypeId} {l c : Operand} (ho : o.op = .makeSlice t l c) {Z : Type} {k : AV → AH → Option Z} {z : Z}
    (hk : mkK C.P t (ρ l) (ρ c) (fun _ τ n => k (.own h.next) (h.add (.typ τ (List.replicate n.toNat (zeroD τ))))) = some z) :
    ∃ v h', k v h' = some z ∧ OpTo C.P o ρ h v h' ∧ ∃ r, h' = h.add r := by
  obtain ⟨e, τ, n, hk, hm⟩ := mk_some hk
  refine ⟨_, _, hk, ?_, _, rfl⟩
  refine .of_value fun Bad φ w η hr hs => ?_
  obtain ⟨hsz, hn, cs, hrun, hlen, hcs⟩ := hm (φ := φ) (nx := h.next) (N := Imm Bad φ w) (w := w) (hs l (by simp [ho, Op.operands])) (hs c (by simp [ho, Op.operands]))
  obtain ⟨φ', g, hp⟩ := hr.addRow (Grew.alloc w (.cells cs e)) (τ := τ) (List.replicate n.toNat (zeroD τ)) (A := cs) (t := e) w.heap.size (by show (w.heap.push _)[w.heap.size]? = _; simp) (Nat.le_refl _) n.toNat n.toNat (by simp) (Nat.le_refl _) hn (by rw [hlen]; exact Nat.le_refl _) (fun i x hx => by
    have hp := τ.size_pos
    have hi := cell_len hx
    rw [flat_typ_length, List.length_replicate] at hi
    have hm := Nat.mod_lt i hp
    have hd : i / τ.size < n.toNat := (Nat.div_lt_iff_lt_mul hp).2 hi
    have e1 : i = (i / τ.size) * τ.size + i % τ.size := by rw [Nat.mul_comm]; exact (Nat.div_add_mod i τ.size).symm
    have hrep := hcs (Imm Bad φ w) (w.alloc (.cells cs e)) w.heap.size (fun k hk => by simp) (i / τ.size) hd
    rw [e1, flat_typ_get _ _ _ _ hm, List.getElem?_replicate, if_pos hd] at hx
    simp only [Option.bind_some] at hx
    obtain ⟨v, hv, hsv⟩ := RepC.cells (φ := φ) (nx := h.next) τ _ _ _ hrep _ x hx
    rw [← e1] at hv
    simp at hv
    refine ⟨v, hv, ?_⟩
    exact zero_sim τ _ x hx v hsv)
  exact ⟨φ', _, _, by simp [execOp, ho, hrun] <;> rfl, g, hp⟩
where
  zero_sim {N : Nat → Prop} {φ : Map} {nx : Nat} {w w' : World} : ∀ (τ : Ty) (j : Nat) (c : AV), (cellsOf τ (zeroD τ))[j]? = some c → ∀ v, Sim N φ nx w' c v → Sim N φ nx w c v
    | .int k, j, c, h, v, hv => by
      cases j with
      | zero => simp only [cellsOf, List.getElem?_cons_zero, Option.some.injEq] at h; subst h; cases hv; exact .int _ _
      | succ j => simp [cellsOf] at h
    | .bool, j, c, h, v, hv => by
      cases j with
      | zero => simp only [cellsOf, List.getElem?_cons_zero, Option.some.injEq] at h; subst h; cases hv; exact .bool _
      | succ j => simp [cellsOf] at h
    | .str, j, c, h, v, hv => by
      cases j with
      | zero => simp only [cellsOf, List.getElem?_cons_zero, Option.some.injEq] at h; subst h; cases hv; exact .str _
      | succ j => simp [cellsOf] at h
    | .sl e, j, c, h, v, hv => by
      cases j with
      | zero =>
        simp only [cellsOf, List.getElem?_cons_zero, Option.some.injEq] at h
        subst h
        cases hv with
        | fz hr =>
        obtain ⟨a, n, c, rfl, r2, r3, r4, r5, r6⟩ := hr
        exact .fz ⟨a, n, c, rfl, r2, r3, r4, r5, fun h => absurd h (by simp [zeroD] at r2; omega)⟩
      | succ j => simp [cellsOf] at h
    | .pair s t, j, c, h, v, hv => by
      simp only [cellsOf, zeroD] at h
      rw [List.getElem?_append] at h
      split at h
      · exact zero_sim s j c h v hv
      · exact zero_sim t _ c h v hv

end Go.Ph

/- Literals that one owns. -/
namespace Go.Ph
open Go.RowKit

section
variable {N : Nat → Prop} {φ : Map} {nx : Nat} {w : World}

theorem plain_cells : ∀ (τ : Ty) (cs : List AV) (x : τ.D) (vs : List Value), plainD τ cs = some x → VCells N φ nx w cs vs → VCells N φ nx w (cellsOf τ x) vs
  | .int k, cs, x, vs, h, hv => by
    simp only [plainD] at h
    split at h
    · split at h
      · rename_i hk
        subst hk
        simp only [Option.some.injEq] at h
        subst h
        exact hv
      · cases h
    · cases h
  | .bool, cs, x, vs, h, hv => by
    simp only [plainD] at h
    split at h
    · simp only [Option.some.injEq] at h
      subst h
      exact hv
    · cases h
  | .str, cs, x, vs, h, hv => by
    simp only [plainD] at h
    split at h
    · simp only [Option.some.injEq] at h
      subst h
      exact hv
    · cases h
  | .sl e, cs, x, vs, h, hv => by
    have hl := plain_len _ _ _ h
    match cs, hl with
    | [c], _ =>
      obtain ⟨v, rfl, hs⟩ := one_cell hv
      exact .one (.fz (plain_sl e h hs))
  | .pair s t, cs, x, vs, h, hv => by
    simp only [plainD] at h
    split at h
    · rename_i y hy
      split at h
      · rename_i u hu
        simp only [Option.some.injEq] at h
        subst h
        have t1 : VCells N φ nx w (cs.take s.size) (vs.take s.size) := by
          refine ⟨by simp [hv.1], fun i c v hc hx => ?_⟩
          rw [List.getElem?_take] at hc hx
          split at hc
          · rename_i hi; rw [if_pos hi] at hx; exact hv.2 i c v hc hx
          · cases hc
        have t2 : VCells N φ nx w (cs.drop s.size) (vs.drop s.size) := by
          refine ⟨by simp [hv.1], fun i c v hc hx => ?_⟩
          rw [List.getElem?_drop] at hc hx
          exact hv.2 _ c v hc hx
        have v1 := plain_cells s _ y _ hy t1
        have v2 := plain_cells t _ u _ hu t2
        have hlen : (cellsOf s y).length = (vs.take s.size).length := v1.1
        rw [cellsOf_length] at hlen
        refine ⟨?_, fun i c v hc hx => ?_⟩
        · simp only [cellsOf, List.length_append, v1.1, v2.1]
          simp
          omega
        · simp only [cellsOf] at hc
          rw [List.getElem?_append, cellsOf_length] at hc
          split at hc
          · rename_i hi
            refine v1.2 i c v hc ?_
            rw [List.getElem?_take, if_pos hi]
            exact hx
          · rename_i hi
            refine v2.2 _ c v hc ?_
            rw [List.getElem?_drop, show s.size + (i - s.size) = i by omega]
            exact hx
      · cases h
    · cases h

theorem plainL_cells (τ : Ty) : ∀ (n : Nat) (cs : List AV) (l : List τ.D) (vs : List Value), plainL (plainD τ) τ.size n cs = some l → VCells N φ nx w cs vs → VCells N φ nx w (l.flatMap (cellsOf τ)) vs := by
  intro n
  induction n with
  | zero =>
    intro cs l vs h hv
    simp only [plainL] at h
    split at h
    · simp only [Option.some.injEq] at h
      subst h
      exact hv
    · cases h
  | succ n ih =>
    intro cs l vs h hv
    simp only [plainL] at h
    split at h
    · simp only [Option.some.injEq] at h
      subst h
      exact hv
    · split at h
      · rename_i y hy
        split at h
        · rename_i u hu
          simp only [Option.some.injEq] at h
          subst h
          have t1 : VCells N φ nx w (cs.take τ.size) (vs.take τ.size) := by
            refine ⟨by simp [hv.1], fun i c v hc hx => ?_⟩
            rw [List.getElem?_take] at hc hx
            split at hc
            · rename_i hi; rw [if_pos hi] at hx; exact hv.2 i c v hc hx
            · cases hc
          have t2 : VCells N φ nx w (cs.drop τ.size) (vs.drop τ.size) := by
            refine ⟨by simp [hv.1], fun i c v hc hx => ?_⟩
            rw [List.getElem?_drop] at hc hx
            exact hv.2 _ c v hc hx
          have v1 := plain_cells τ _ y _ hy t1
          have v2 := ih _ u _ hu t2
          have hlen : (cellsOf τ y).length = (vs.take τ.size).length := v1.1
          rw [cellsOf_length] at hlen
          refine ⟨?_, fun i c v hc hx => ?_⟩
          · simp only [List.flatMap_cons, List.length_append, v1.1, v2.1]
            simp
            omega
          · rw [List.flatMap_cons] at hc
            rw [List.getElem?_append, cellsOf_length] at hc
            split at hc
            · rename_i hi
              refine v1.2 i c v hc ?_
              rw [List.getElem?_take, if_pos hi]
              exact hx
            · rename_i hi
              refine v2.2 _ c v hc ?_
              rw [List.getElem?_drop, show τ.size + (i - τ.size) = i by omega]
              exact hx
        · cases h
      · cases h

/-- A slice literal, run. -/
theorem bslice_run {P : Program} {o : Oper} {ρ : Operand → AV} {η : Operand → Value} {t : TypeId} {len : Nat} {parts : Array (Nat × Operand)} (ho : o.op = .buildSlice t len parts) {e : TypeId} (hu : P.underlying t = some (.slice e)) {ie : TypeInfo} (hie : P.info? e = some ie)
    {z : Value} (hz : ie.zero = some z) (hc : len * ie.size ≤ 16777216 ∧ 0 < ie.size ∧ (ofConst z).cells.length = ie.size ∧ (ofConst z).cells.all AV.single = true) {cs : List AV}
    (hf : pureK.fillA (fun i => some (i * ie.size, ie.size)) ((List.replicate len (ofConst z).cells).flatten) (parts.toList.map fun p => (p.1, ρ p.2)) = some cs) (hs : ∀ x ∈ o.op.operands, Sim N φ nx w (ρ x) (η x)) :
    ∃ B : Array Value, (Instr.buildSlice t len (parts.map fun p => (p.1, η p.2))).run P w = .ok (.slice (some ⟨w.heap.size, 0, none⟩) len len) (w.alloc (.cells B e)) ∧ VCells N φ nx w cs B.toList ∧ B.size = len * ie.size := by
  obtain ⟨hsmall, hpos, hzl, hza⟩ := hc
  have hzc := ofConst_cells N φ nx w z
  have hzs : z.cells.size = ie.size := by rw [← hzc.1]; exact hzl
  have hrow : Cells N φ nx w (List.replicate len (ofConst z).cells).flatten ((Array.range (len * ie.size)).map (z.cells[· % z.cells.size]!)) := by
    refine ⟨by simp [hzl], fun i c v hc hv => ?_⟩
    have hi := cell_len hc
    have hi' : i < len * (ofConst z).cells.length := by simpa using hi
    rw [rep_get _ _ (by omega) _ hi'] at hc
    have hm : i % z.cells.size < z.cells.size := Nat.mod_lt _ (by omega)
    rw [hzl] at hi'
    simp only [Array.getElem?_map, Array.getElem?_range, hi', if_true, Option.map_some, Option.some.injEq] at hv
    refine hzc.2 (i % z.cells.size) c v (by rw [← hzc.1]; exact hc) ?_
    rw [← hv, getElem!_pos z.cells _ hm, Array.getElem?_eq_getElem hm]
  obtain ⟨B, hB, hcB⟩ := fill_sim _ _ (parts.toList.map fun p => (p.1, η p.2)) _ _ cs (by simp) (part_sims (.inr ⟨t, len, ho⟩) hs) hrow hf
  have hbs : B.size = len * ie.size := by rw [← hcB.1]; have := fill_len _ _ _ _ hf; rw [this]; simp [hzl]
  refine ⟨B, ?_, ⟨by simpa using hcB.1, fun i c v hc hv => hcB.2 i c v hc (by simpa using hv)⟩, hbs⟩
  rcases Nat.eq_zero_or_pos len with h0 | h0
  · subst h0
    simp only [Nat.zero_mul] at hB
    simp [Instr.buildSlice, run_underlying hu, sizeOf, typeInfo, hie, newRow]
    have e0 : (Array.range 0).map (fun x => z.cells[x % z.cells.size]!) = #[] := by simp
    rw [e0] at hB
    have e1 : Array.map (fun _ => (default : Value)) (Array.range 0) = #[] := by simp
    rw [e1, hB]
    simp
  · exact run_buildSlice w t e len _ B ie z hu hie hz (by omega) (by have := Nat.mul_pos h0 hpos; omega) (by simpa using hB)

end

theorem bslice_to {C : Ctx} {o : Oper} {ρ : Operand → AV} {h : AH} {t : TypeId} {len : Nat} {parts : Array (Nat × Operand)} (ho : o.op = .buildSlice t len parts) {Z : Type} {k : AV → AH → Option Z} {z : Z}
    (hk : (match C.P.underlying t with
    | some (.slice e) => match C.P.info? e with
      | some ie => match ie.zero with
        | some z =>
          if len * ie.size ≤ 16777216 ∧ 0 < ie.size ∧ (ofConst z).cells.length = ie.size ∧ (ofConst z).cells.all AV.single = true then
            ob (pureK.fillA (fun i => some (i * ie.size, ie.size)) ((List.replicate len (ofConst z).cells).flatten) (parts.toList.map fun p => (p.1, ρ p.2))) fun cs =>
              ob (elemTy C.P t) fun eτ => ob (plainL (plainD eτ.2) eτ.2.size cs.length cs) fun l =>
                if l.length = len ∧ eτ.2.size = ie.size then k (.own h.next) (h.add (.typ eτ.2 l)) else none
          else none
        | none => none
      | none => none
    | _ => none) = some z) :
    ∃ v h', k v h' = some z ∧ OpTo C.P o ρ h v h' ∧ ∃ r, h' = h.add r := by
  split at hk
  · rename_i e hu
    split at hk
    · rename_i ie hie
      split at hk
      · rename_i zv hz
        split at hk
        · rename_i hc
          obtain ⟨cs, hf, hk⟩ := ob_eq_some.1 hk
          obtain ⟨⟨e', τ⟩, het, hk⟩ := ob_eq_some.1 hk
          obtain ⟨l, hl, hk⟩ := ob_eq_some.1 hk
          simp only at hk hl
          split at hk
          · rename_i hlen
            refine ⟨_, _, hk, .of_value fun Bad φ w η hr hs => ?_, _, rfl⟩
            obtain ⟨B, hrun, hB, hbs⟩ := bslice_run (N := Imm Bad φ w) (φ := φ) (nx := h.next) (w := w) ho hu hie hz hc hf hs
            have hcells := plainL_cells τ _ _ _ _ hl hB
            have hsmall := hc.1
            have hpos := hc.2.1
            obtain ⟨φ', g, hp⟩ := hr.addRow (Grew.alloc w (.cells B e)) (τ := τ) l (A := B) (t := e) w.heap.size (by show (w.heap.push _)[w.heap.size]? = _; simp) (Nat.le_refl _) len len hlen.1.symm (Nat.le_refl _)
              (by unfold maxLen; have := Nat.mul_le_mul_left len hpos; omega) (by rw [hbs, hlen.2]; exact Nat.le_refl _) (fun i c hci => by
                have hi := cell_len hci
                have hi2 : i < B.size := by have := hcells.1; rw [this] at hi; simpa using hi
                exact ⟨B[i], by simp [hi2], hcells.2 i c _ hci (by simp [hi2])⟩)
            exact ⟨φ', _, _, by simp [execOp, ho, hrun] <;> rfl, g, hp⟩
          · cases hk
        · cases hk
      · cases hk
    · cases hk
  · cases hk

end Go.Ph

/- What operations leave alone. -/
namespace Go.Ph
open Go.RowKit

/-- Rows that are not named stay. -/
structure Keeps (l : List Nat) (h h' : AH) : Prop where
  next : h.next ≤ h'.next
  get : ∀ id, id < h.next → id ∉ l → h'.get id = h.get id

theorem Keeps.refl (l : List Nat) (h : AH) : Keeps l h h := ⟨Nat.le_refl _, fun _ _ _ => rfl⟩
theorem Keeps.trans {l l' : List Nat} {h h1 h2 : AH} (a : Keeps l h h1) (b : Keeps l' h1 h2) (hs : ∀ id ∈ l', id ∈ l ∨ h.next ≤ id) : Keeps l h h2 :=
  ⟨Nat.le_trans a.next b.next, fun id hlt hn => by
    rw [b.get id (Nat.lt_of_lt_of_le hlt a.next) (fun hm => by rcases hs id hm with h | h; exact hn h; omega), a.get id hlt hn]⟩
theorem Keeps.add {l : List Nat} (h : AH) (r : Row) : Keeps l h (h.add r) := ⟨Nat.le_succ _, fun id hlt _ => AH.get_add_ne _ _ _ (by omega)⟩
theorem Keeps.del {l : List Nat} (h : AH) {id : Nat} (hm : id ∈ l) : Keeps l h (h.del id) := ⟨Nat.le_refl _, fun k _ hn => AH.get_del_ne _ _ _ (fun e => hn (e ▸ hm))⟩
theorem Keeps.put {l : List Nat} (h : AH) {id : Nat} (r : Row) (hm : id ∈ l) : Keeps l h (h.put id r) := ⟨Nat.le_refl _, fun k _ hn => AH.get_put_ne _ _ _ _ (fun e => hn (e ▸ hm))⟩

/-- An operation changes what it names, and no more. -/
def ModOk (C : Ctx) (o : Oper) (ρ : Operand → AV) (h h' : AH) : Prop := h.next ≤ h'.next ∧ ∀ l, modsOf C o ρ h = some l → Keeps l h h'

theorem Keeps.mod {C : Ctx} {o : Oper} {ρ : Operand → AV} {h h' : AH} (hk : Keeps [] h h') : ModOk C o ρ h h' :=
  ⟨hk.next, fun l _ => ⟨hk.next, fun id hlt _ => hk.get id hlt (by simp)⟩⟩

theorem idsFlat_mem {c : AV} {cs : List AV} (hc : c ∈ cs) : (∀ id, c = .own id → id ∈ idsOf.idsFlat cs) ∧ (∀ id off n, c = .ownp id off n → id ∈ idsOf.idsFlat cs) := by
  induction cs with
  | nil => cases hc
  | cons x cs ih =>
    rcases List.mem_cons.1 hc with rfl | hc
    · exact ⟨fun id h => by subst h; simp [idsOf.idsFlat], fun id off n h => by subst h; simp [idsOf.idsFlat]⟩
    · obtain ⟨h1, h2⟩ := ih hc
      refine ⟨fun id h => ?_, fun id off n h => ?_⟩
      · have := h1 id h
        cases x <;> simp [idsOf.idsFlat, this]
      · have := h2 id off n h
        cases x <;> simp [idsOf.idsFlat, this]

theorem idsFlat_inv {id : Nat} {cs : List AV} (h : id ∈ idsOf.idsFlat cs) : (.own id) ∈ cs ∨ ∃ off n, (.ownp id off n) ∈ cs := by
  induction cs with
  | nil => simp [idsOf.idsFlat] at h
  | cons x cs ih =>
    have tl : id ∈ idsOf.idsFlat cs → (.own id) ∈ (x :: cs) ∨ ∃ off n, (.ownp id off n) ∈ (x :: cs) := fun h => by
      rcases ih h with h1 | ⟨off, n, h1⟩
      · exact .inl (List.mem_cons_of_mem _ h1)
      · exact .inr ⟨off, n, List.mem_cons_of_mem _ h1⟩
    cases x with
    | own k =>
      simp only [idsOf.idsFlat, List.mem_cons] at h
      rcases h with rfl | h
      · exact .inl (by simp)
      · exact tl h
    | ownp k off n =>
      simp only [idsOf.idsFlat, List.mem_cons] at h
      rcases h with rfl | h
      · exact .inr ⟨off, n, by simp⟩
      · exact tl h
    | _ => exact tl (by simpa [idsOf.idsFlat] using h)

theorem idsFlat_sub {cs ds : List AV} (h : ∀ c ∈ cs, c ∈ ds) : ∀ id ∈ idsOf.idsFlat cs, id ∈ idsOf.idsFlat ds := by
  intro id hid
  rcases idsFlat_inv hid with h1 | ⟨off, n, h1⟩
  · exact (idsFlat_mem (h _ h1)).1 id rfl
  · exact (idsFlat_mem (h _ h1)).2 id off n rfl

theorem flat_sub_ids {cs : List AV} : ∀ id ∈ idsOf.idsFlat cs, id ∈ idsOf cs := by
  induction cs with
  | nil => intro id h; simp [idsOf.idsFlat] at h
  | cons x cs ih =>
    intro id h
    cases x <;> simp only [idsOf.idsFlat, idsOf, List.mem_cons, List.mem_append] at h ⊢ <;>
      first
        | (rcases h with h | h; exact .inl h; exact .inr (ih id h))
        | exact .inr (ih id h)
        | exact ih id h

theorem datum_keeps : ∀ (τ : Ty) (cs : List AV) (h : AH) (x : τ.D) (h' : AH), datum τ cs h = some (x, h') → Keeps (idsOf.idsFlat cs) h h' ∧ h'.next = h.next
  | .int k, cs, h, x, h', hd => by
    simp only [datum] at hd
    split at hd
    · split at hd
      · simp only [Option.some.injEq, Prod.mk.injEq] at hd; rw [← hd.2]; exact ⟨.refl _ _, rfl⟩
      · cases hd
    · cases hd
  | .bool, cs, h, x, h', hd => by
    simp only [datum] at hd
    split at hd
    · simp only [Option.some.injEq, Prod.mk.injEq] at hd; rw [← hd.2]; exact ⟨.refl _ _, rfl⟩
    · cases hd
  | .str, cs, h, x, h', hd => by
    simp only [datum] at hd
    split at hd
    · simp only [Option.some.injEq, Prod.mk.injEq] at hd; rw [← hd.2]; exact ⟨.refl _ _, rfl⟩
    · cases hd
  | .sl e, cs, h, x, h', hd => by
    simp only [datum] at hd
    split at hd
    · simp only [Option.some.injEq, Prod.mk.injEq] at hd; rw [← hd.2]; exact ⟨.refl _ _, rfl⟩
    · split at hd
      · simp only [Option.some.injEq, Prod.mk.injEq] at hd; rw [← hd.2]; exact ⟨.refl _ _, rfl⟩
      · cases hd
    · split at hd
      · split at hd
        · simp only [Option.some.injEq, Prod.mk.injEq] at hd; rw [← hd.2]; exact ⟨.del h (by simp [idsOf.idsFlat]), rfl⟩
        · cases hd
      · cases hd
    · split at hd
      · split at hd
        · simp only [Option.some.injEq, Prod.mk.injEq] at hd; rw [← hd.2]; exact ⟨.del h (by simp [idsOf.idsFlat]), rfl⟩
        · cases hd
      · cases hd
    · split at hd
      · simp only [Option.some.injEq, Prod.mk.injEq] at hd; rw [← hd.2]; exact ⟨.refl _ _, rfl⟩
      · cases hd
    · cases hd
  | .pair s t, cs, h, x, h', hd => by
    simp only [datum] at hd
    split at hd
    · rename_i y h1 hy
      split at hd
      · rename_i u h2 hu
        simp only [Option.some.injEq, Prod.mk.injEq] at hd
        rw [← hd.2]
        obtain ⟨k1, n1⟩ := datum_keeps s _ h y h1 hy
        obtain ⟨k2, n2⟩ := datum_keeps t _ h1 u h2 hu
        have k1' : Keeps (idsOf.idsFlat cs) h h1 := ⟨k1.next, fun id hlt hn => k1.get id hlt (fun hm => hn (idsFlat_sub (fun c hc => List.mem_of_mem_take hc) id hm))⟩
        exact ⟨k1'.trans k2 (fun id hm => .inl (idsFlat_sub (fun c hc => List.mem_of_mem_drop hc) id hm)), n2.trans n1⟩
      · cases hd
    · cases hd

theorem data_keeps (τ : Ty) : ∀ (n : Nat) (cs : List AV) (h : AH) (l : List τ.D) (h' : AH), data τ n cs h = some (l, h') → Keeps (idsOf.idsFlat cs) h h' := by
  intro n
  induction n with
  | zero =>
    intro cs h l h' hd
    simp only [data] at hd
    split at hd
    · simp only [Option.some.injEq, Prod.mk.injEq] at hd; rw [← hd.2]; exact .refl _ _
    · cases hd
  | succ n ih =>
    intro cs h l h' hd
    simp only [data] at hd
    split at hd
    · simp only [Option.some.injEq, Prod.mk.injEq] at hd; rw [← hd.2]; exact .refl _ _
    · split at hd
      · rename_i y h1 hy
        split at hd
        · rename_i u h2 hu
          simp only [Option.some.injEq, Prod.mk.injEq] at hd
          rw [← hd.2]
          obtain ⟨k1, n1⟩ := datum_keeps τ _ h y h1 hy
          have k1' : Keeps (idsOf.idsFlat cs) h h1 := ⟨k1.next, fun id hlt hn => k1.get id hlt (fun hm => hn (idsFlat_sub (fun c hc => List.mem_of_mem_take hc) id hm))⟩
          exact k1'.trans (ih _ h1 u h2 hu) (fun id hm => .inl (idsFlat_sub (fun c hc => List.mem_of_mem_drop hc) id hm))
        · cases hd
      · cases hd

theorem cells_noids (τ : Ty) (x : τ.D) : ∀ c ∈ cellsOf τ x, (∀ id, c ≠ .own id) ∧ ∀ id off n, c ≠ .ownp id off n := by
  induction τ with
  | int k => intro c hc; simp [cellsOf] at hc; subst hc; simp
  | bool => intro c hc; simp [cellsOf] at hc; subst hc; simp
  | str => intro c hc; simp [cellsOf] at hc; subst hc; simp
  | sl e ih => intro c hc; simp [cellsOf] at hc; subst hc; simp
  | pair s t ihs iht =>
    intro c hc
    simp only [cellsOf, List.mem_append] at hc
    rcases hc with hc | hc
    · exact ihs _ c hc
    · exact iht _ c hc

theorem root_keeps : ∀ (cs : List AV) (h : AH) (cs' : List AV) (h' : AH), rootCells cs h = some (cs', h') →
    Keeps (idsOf.idsFlat cs) h h' ∧ ∀ id ∈ idsOf.idsFlat cs', id ∈ idsOf.idsFlat cs ∨ h.next ≤ id := by
  intro cs
  induction cs with
  | nil =>
    intro h cs' h' hd
    simp only [rootCells, Option.some.injEq, Prod.mk.injEq] at hd
    obtain ⟨rfl, rfl⟩ := hd
    exact ⟨.refl _ _, fun id hid => .inl hid⟩
  | cons c cs ih =>
    intro h cs' h' hd
    have plain : (∀ id off n, c ≠ .ownp id off n) → Keeps (idsOf.idsFlat (c :: cs)) h h' ∧ ∀ id ∈ idsOf.idsFlat cs', id ∈ idsOf.idsFlat (c :: cs) ∨ h.next ≤ id := by
      intro hne
      unfold rootCells at hd
      split at hd
      · rename_i heq; cases heq
      · rename_i id off n r heq
        simp only [List.cons.injEq] at heq
        exact absurd heq.1 (hne id off n)
      · rename_i c' r _ heq
        simp only [List.cons.injEq] at heq
        obtain ⟨rfl, rfl⟩ := heq
        split at hd
        · rename_i ds h1 hds
          simp only [Option.some.injEq, Prod.mk.injEq] at hd
          obtain ⟨rfl, rfl⟩ := hd
          obtain ⟨k1, k2⟩ := ih _ ds h1 hds
          have sub : ∀ id ∈ idsOf.idsFlat cs, id ∈ idsOf.idsFlat (c :: cs) := idsFlat_sub (fun c hc => List.mem_cons_of_mem _ hc)
          refine ⟨⟨k1.next, fun id hlt hn => k1.get id hlt (fun hm => hn (sub id hm))⟩, fun id hid => ?_⟩
          rcases idsFlat_inv hid with h2 | ⟨off, n, h2⟩
          · rcases List.mem_cons.1 h2 with h3 | h3
            · exact .inl ((idsFlat_mem (by rw [← h3]; simp)).1 id rfl)
            · rcases k2 id ((idsFlat_mem h3).1 id rfl) with h4 | h4
              · exact .inl (sub id h4)
              · exact .inr h4
          · rcases List.mem_cons.1 h2 with h3 | h3
            · exact absurd h3.symm (hne id off n)
            · rcases k2 id ((idsFlat_mem h3).2 id off n rfl) with h4 | h4
              · exact .inl (sub id h4)
              · exact .inr h4
        · cases hd
    cases c with
    | ownp id off n =>
      simp only [rootCells] at hd
      split at hd
      · rename_i τ l hg
        split at hd
        · rename_i ds h1 hds
          simp only [Option.some.injEq, Prod.mk.injEq] at hd
          obtain ⟨rfl, rfl⟩ := hd
          obtain ⟨k1, k2⟩ := ih _ ds h1 hds
          have hm : id ∈ idsOf.idsFlat (.ownp id off n :: cs) := by simp [idsOf.idsFlat]
          have sub : ∀ id' ∈ idsOf.idsFlat cs, id' ∈ idsOf.idsFlat (.ownp id off n :: cs) := idsFlat_sub (fun c hc => List.mem_cons_of_mem _ hc)
          have k0 : Keeps (idsOf.idsFlat (.ownp id off n :: cs)) h ((h.del id).add (.typ τ ((l.drop off).take n))) :=
            (Keeps.del h hm).trans (Keeps.add (l := []) _ _) (fun id' h' => by simp at h')
          refine ⟨k0.trans k1 (fun id' h2 => .inl (sub id' h2)), fun id' hid => ?_⟩
          simp only [idsOf.idsFlat, List.mem_cons] at hid
          rcases hid with rfl | hid
          · exact .inr (Nat.le_refl _)
          · rcases k2 id' hid with h4 | h4
            · exact .inl (sub id' h4)
            · exact .inr (Nat.le_trans (Nat.le_succ _) h4)
        · cases hd
      · cases hd
    | _ => exact plain (by simp)

theorem Keeps.weak {l l' : List Nat} {h h' : AH} (k : Keeps l h h') (hs : ∀ id ∈ l, id ∈ l') : Keeps l' h h' := ⟨k.next, fun id hlt hn => k.get id hlt (fun hm => hn (hs id hm))⟩

theorem store_mod {C : Ctx} {o : Oper} {ρ : Operand → AV} {h h1 : AH} {t : TypeId} {a x : Operand} (ho : o.op = .store t a x) {id i j : Nat} (ha : ρ a = .ptr id i j) {vs : List AV} (hroot : rootCells (ρ x).cells h = some (vs, h1)) (r : Row) : ModOk C o ρ h (h1.put id r) := by
  obtain ⟨k1, k2⟩ := root_keeps _ _ _ _ hroot
  refine ⟨k1.next, fun l hl => ?_⟩
  simp only [modsOf, ho, ha, Option.some.injEq] at hl
  subst hl
  exact (k1.weak (fun q hq => List.mem_cons_of_mem _ (flat_sub_ids q hq))).trans (Keeps.put (l := [id]) h1 r (by simp)) (fun q hq => .inl (by simp at hq; simp [hq]))

theorem store_mod' {C : Ctx} {o : Oper} {ρ : Operand → AV} {h h1 h2 : AH} {t : TypeId} {a x : Operand} (ho : o.op = .store t a x) {id i j : Nat} (ha : ρ a = .ptr id i j) {vs : List AV} (hroot : rootCells (ρ x).cells h = some (vs, h1)) {τ : Ty} {y y' : τ.D} {m : Nat}
    (hd : datum τ ((cellsOf τ y).take j ++ vs ++ (cellsOf τ y).drop m) h1 = some (y', h2)) (r : Row) : ModOk C o ρ h (h2.put id r) := by
  obtain ⟨k1, k2⟩ := root_keeps _ _ _ _ hroot
  obtain ⟨k3, n3⟩ := datum_keeps _ _ _ _ _ hd
  refine ⟨by show h.next ≤ h2.next; rw [n3]; exact k1.next, fun l hl => ?_⟩
  simp only [modsOf, ho, ha, Option.some.injEq] at hl
  subst hl
  have k4 := (k1.weak (l' := id :: idsOf (ρ x).cells) (fun q hq => List.mem_cons_of_mem _ (flat_sub_ids q hq))).trans k3 (fun q hq => by
    have : q ∈ idsOf.idsFlat vs := by
      rcases idsFlat_inv hq with h5 | ⟨off, n, h5⟩
      · simp only [List.mem_append] at h5
        rcases h5 with (h5 | h5) | h5
        · exact absurd rfl ((cells_noids τ y _ (List.mem_of_mem_take h5)).1 q)
        · exact (idsFlat_mem h5).1 q rfl
        · exact absurd rfl ((cells_noids τ y _ (List.mem_of_mem_drop h5)).1 q)
      · simp only [List.mem_append] at h5
        rcases h5 with (h5 | h5) | h5
        · exact absurd rfl ((cells_noids τ y _ (List.mem_of_mem_take h5)).2 q off n)
        · exact (idsFlat_mem h5).2 q off n rfl
        · exact absurd rfl ((cells_noids τ y _ (List.mem_of_mem_drop h5)).2 q off n)
    rcases k2 q this with h6 | h6
    · exact .inl (List.mem_cons_of_mem _ (flat_sub_ids q h6))
    · exact .inr h6)
  exact k4.trans (Keeps.put (l := [id]) h2 r (by simp)) (fun q hq => .inl (by simp at hq; simp [hq]))

theorem source_keeps {τ : Ty} {xd : TypeDesc} {x : AV} {h h1 : AH} {new : List τ.D} (hs : source τ xd x h = some (new, h1)) : Keeps (idsOf [x]) h h1 := by
  unfold source at hs
  split at hs
  · split at hs
    · exact (data_keeps _ _ _ _ _ _ hs).weak (fun q hq => by simp [idsOf, hq])
    · cases hs
  · simp only [Option.some.injEq, Prod.mk.injEq] at hs; rw [← hs.2]; exact .refl _ _
  · split at hs
    · simp only [Option.some.injEq, Prod.mk.injEq] at hs; rw [← hs.2]; exact .refl _ _
    · cases hs
  · split at hs
    · split at hs
      · simp only [Option.some.injEq, Prod.mk.injEq] at hs; rw [← hs.2]; exact .refl _ _
      · cases hs
    · cases hs
  · split at hs
    · split at hs
      · simp only [Option.some.injEq, Prod.mk.injEq] at hs; rw [← hs.2]; exact .refl _ _
      · cases hs
    · cases hs
  · simp only [Option.some.injEq, Prod.mk.injEq] at hs; rw [← hs.2]; exact .refl _ _
  · cases hs

theorem target_keeps {τ : Ty} {x : AV} {h h2 : AH} {old : List τ.D} {ex : Bool} (ht : target τ x h = some (old, h2, ex)) : Keeps (idsOf [x]) h h2 := by
  unfold target at ht
  split at ht
  · simp only [Option.some.injEq, Prod.mk.injEq] at ht; rw [← ht.2.1]; exact .refl _ _
  · split at ht
    · split at ht
      · simp only [Option.some.injEq, Prod.mk.injEq] at ht; rw [← ht.2.1]; exact .del h (by simp [idsOf])
      · cases ht
    · cases ht
  · split at ht
    · split at ht
      · simp only [Option.some.injEq, Prod.mk.injEq] at ht; rw [← ht.2.1]; exact .del h (by simp [idsOf])
      · cases ht
    · cases ht
  · split at ht
    · split at ht
      · simp only [Option.some.injEq, Prod.mk.injEq] at ht; rw [← ht.2.1]; exact .refl _ _
      · cases ht
    · cases ht
  · split at ht
    · split at ht
      · rename_i l h' hd
        simp only [Option.some.injEq, Prod.mk.injEq] at ht; rw [← ht.2.1]
        exact (data_keeps _ _ _ _ _ _ hd).weak (fun q hq => by simp [idsOf, hq])
      · cases ht
    · cases ht
  · cases ht

theorem ids_cons (x y : AV) : (∀ q ∈ idsOf [x], q ∈ idsOf [x, y]) ∧ ∀ q ∈ idsOf [y], q ∈ idsOf [x, y] := by
  cases x <;> refine ⟨fun q hq => ?_, fun q hq => ?_⟩ <;> simp only [idsOf, List.append_nil, List.mem_cons, List.mem_append, List.not_mem_nil, or_false] at hq ⊢ <;>
    first
      | exact .inl hq
      | exact .inr hq
      | exact hq
      | exact hq.elim

theorem append_mod {C : Ctx} {o : Oper} {ρ : Operand → AV} {h h1 h2 : AH} {s x : Operand} {argTypes : Array TypeId} (ho : o.op = .call { callee := .builtin .append, args := #[s, x], argTypes := argTypes }) {τ : Ty} {xd : TypeDesc} {new old : List τ.D} {ex : Bool}
    (hs : source τ xd (ρ x) h = some (new, h1)) (ht : target τ (ρ s) h1 = some (old, h2, ex)) (r : Row) : ModOk C o ρ h (h2.add r) := by
  have k := ((source_keeps hs).weak (ids_cons (ρ s) (ρ x)).2).trans (target_keeps ht) (fun q hq => .inl ((ids_cons (ρ s) (ρ x)).1 q hq))
  have k' := k.trans (Keeps.add (l := []) h2 r) (fun q hq => by simp at hq)
  refine ⟨k'.next, fun l hl => ?_⟩
  simp only [modsOf, ho, Option.some.injEq] at hl
  subst hl
  exact k'

end Go.Ph

/- Stores. -/
namespace Go.Ph
open Go.RowKit

theorem del_get {h : AH} {k id : Nat} {r : Row} (hg : (h.del k).get id = some r) : h.get id = some r := by
  by_cases he : id = k
  · subst he; rw [AH.get_del_same] at hg; cases hg
  · rw [AH.get_del_ne _ _ _ he] at hg; exact hg

theorem datum_get : ∀ (τ : Ty) (cs : List AV) (h : AH) (x : τ.D) (h' : AH) (id : Nat) (r : Row), datum τ cs h = some (x, h') → h'.get id = some r → h.get id = some r
  | .int k, cs, h, x, h', id, r, hd, hg => by
    simp only [datum] at hd
    split at hd
    · split at hd
      · simp only [Option.some.injEq, Prod.mk.injEq] at hd; rw [hd.2]; exact hg
      · cases hd
    · cases hd
  | .bool, cs, h, x, h', id, r, hd, hg => by
    simp only [datum] at hd
    split at hd
    · simp only [Option.some.injEq, Prod.mk.injEq] at hd; rw [hd.2]; exact hg
    · cases hd
  | .str, cs, h, x, h', id, r, hd, hg => by
    simp only [datum] at hd
    split at hd
    · simp only [Option.some.injEq, Prod.mk.injEq] at hd; rw [hd.2]; exact hg
    · cases hd
  | .sl e, cs, h, x, h', id, r, hd, hg => by
    simp only [datum] at hd
    split at hd
    · simp only [Option.some.injEq, Prod.mk.injEq] at hd; rw [hd.2]; exact hg
    · split at hd
      · simp only [Option.some.injEq, Prod.mk.injEq] at hd; rw [hd.2]; exact hg
      · cases hd
    · split at hd
      · split at hd
        · simp only [Option.some.injEq, Prod.mk.injEq] at hd; rw [← hd.2] at hg; exact del_get hg
        · cases hd
      · cases hd
    · split at hd
      · split at hd
        · simp only [Option.some.injEq, Prod.mk.injEq] at hd; rw [← hd.2] at hg; exact del_get hg
        · cases hd
      · cases hd
    · split at hd
      · simp only [Option.some.injEq, Prod.mk.injEq] at hd; rw [hd.2]; exact hg
      · cases hd
    · cases hd
  | .pair s t, cs, h, x, h', id, r, hd, hg => by
    simp only [datum] at hd
    split at hd
    · rename_i y h1 hy
      split at hd
      · rename_i u h2 hu
        simp only [Option.some.injEq, Prod.mk.injEq] at hd
        rw [← hd.2] at hg
        exact datum_get s _ h y h1 id r hy (datum_get t _ h1 u h2 id r hu hg)
      · cases hd
    · cases hd

theorem list_set_flat (τ : Ty) (l : List τ.D) (i : Nat) (y : τ.D) (q : Nat) (hi : i < l.length) :
    ((l.set i y).flatMap (cellsOf τ))[q]? = if i * τ.size ≤ q ∧ q < i * τ.size + τ.size then (cellsOf τ y)[q - i * τ.size]? else (l.flatMap (cellsOf τ))[q]? := by
  have hp := τ.size_pos
  have hm := Nat.mod_lt q hp
  have e : q = (q / τ.size) * τ.size + q % τ.size := by rw [Nat.mul_comm]; exact (Nat.div_add_mod q τ.size).symm
  have hqi : (i * τ.size ≤ q ∧ q < i * τ.size + τ.size) ↔ q / τ.size = i := by
    constructor
    · rintro ⟨h1, h2⟩
      have a1 : i ≤ q / τ.size := (Nat.le_div_iff_mul_le hp).2 h1
      have a2 : q / τ.size < i + 1 := (Nat.div_lt_iff_lt_mul hp).2 (by rw [Nat.succ_mul]; exact h2)
      omega
    · rintro rfl
      constructor
      · omega
      · omega
  by_cases h : q / τ.size = i
  · rw [if_pos (hqi.2 h)]
    conv => lhs; rw [e, flat_typ_get _ _ _ _ hm, h, List.getElem?_set_self hi]
    simp only [Option.bind_some]
    congr 1
    rw [← h]
    omega
  · rw [if_neg (fun hh => h (hqi.1 hh))]
    conv => lhs; rw [e, flat_typ_get _ _ _ _ hm, List.getElem?_set_ne (Ne.symm h)]
    conv => rhs; rw [e, flat_typ_get _ _ _ _ hm]

theorem store_to {C : Ctx} {o : Oper} {ρ : Operand → AV} {h : AH} {t : TypeId} {a x : Operand} (ho : o.op = .store t a x) {Z : Type} {k : AV → AH → Option Z} {z : Z} (heff : isEff C o = true)
    (hk : effK C o ρ h k = some z) : ∃ v h', k v h' = some z ∧ OpTo C.P o ρ h v h' ∧ ModOk C o ρ h h' := by
  unfold effK at hk
  rw [ho] at hk
  simp only at hk
  split at hk
  · rename_i id i j ha
    split at hk
    · rename_i hc
      obtain ⟨hsz, hpos, hall⟩ := hc
      split at hk
      · rename_i vs h1 hroot
        have start : ∀ (Bad : Nat → Prop) (φ : Map) (w : World) (η : Operand → Value), Rel Bad φ h w → (∀ y ∈ o.op.operands, Sim (Imm Bad φ w) φ h.next w (ρ y) (η y)) → ∀ r, h1.get id = some r →
            ∃ φ1 l b o', Goes Bad φ h w φ1 h1 w ∧ VCells (Imm Bad φ1 w) φ1 h1.next w vs (η x).cells.toList ∧ vs.all AV.single = true ∧ vs.length = (η x).cells.size ∧ φ1 id = some l ∧ l.at_ = some (b, o') ∧ η a = .pointer (some ⟨b, o' + (i * l.esz + j), none⟩) ∧
              (∀ y ∈ (η x).cells.toList, y.oneCell' = true) ∧ (η x).cells.size = C.P.cellsOf t := by
          intro Bad φ w η hr hs r hg
          have s1 := hs a (by simp [ho, Op.operands])
          have s2 := hs x (by simp [ho, Op.operands])
          obtain ⟨c1, c2⟩ := cells_sim s2 hall
          have hv : VCells (Imm Bad φ w) φ h.next w (ρ x).cells (η x).cells.toList := ⟨by simp [c1], fun q c u hc hu => (c2 q c u hc (by simpa using hu)).1⟩
          obtain ⟨φ1, g1, v1, a1, l1⟩ := root_to _ _ _ _ _ _ hroot hr hv hall
          have s3 := g1.evo.sim hr.id_lt s1
          rw [ha] at s3
          obtain ⟨l, hl, hf⟩ := g1.rel.live id r hg
          generalize hav : η a = va at s3
          cases s3 with
          | ptrDead q1 q2 => rw [q1] at hl; cases hl
          | @ptr _ _ _ b o' l' q1 q2 =>
            rw [q1] at hl
            simp only [Option.some.injEq] at hl
            subst hl
            refine ⟨φ1, l', b, o', g1, v1, a1, by rw [l1, c1], q1, q2, rfl, fun y hy => ?_, by rw [c1, hsz]⟩
            obtain ⟨q, hq⟩ := List.getElem?_of_mem hy
            have hqlt := (List.getElem?_eq_some_iff.1 hq).1
            have : q < (ρ x).cells.length := by rw [← c1]; simpa using hqlt
            exact (c2 q (ρ x).cells[q] y (by simp) (by simpa using hq)).2.1
        split at hk
        · rename_i cs hg
          split at hk
          · rename_i hij
            obtain ⟨rfl, hle⟩ := hij
            refine ⟨_, _, hk, .of_skip fun Bad φ w η hr hs => ?_, store_mod ho ha hroot _⟩
            obtain ⟨φ1, l, b, o', g1, v1, a1, l1, hl, hat, hav, hone, hsz'⟩ := start Bad φ w η hr hs _ hg
            have hf := (g1.rel.live id _ hg).elim fun l' ⟨q1, q2⟩ => by rw [hl] at q1; simp only [Option.some.injEq] at q1; exact q1 ▸ q2
            obtain ⟨w', hrun, hw, hcell⟩ := run_store_row (P := C.P) g1.rel hg hl hat (t := t) (off := j) (v := η x) hsz' (by omega) (by simp only [Row.flat]; omega) hone
            have hspl : (cs.take j ++ vs ++ cs.drop (j + vs.length)).length = cs.length := splice_len hle
            have hf' : Fits w' l (.raw (cs.take j ++ vs ++ cs.drop (j + vs.length))) := by
              refine ⟨hf.len, by rw [hf.esz]; simp only [Row.esz]; exact hspl.symm, hf.le, hf.max, hf.nowhere, fun b1 o1 hat1 => ?_⟩
              rw [hat] at hat1
              simp only [Option.some.injEq, Prod.mk.injEq] at hat1
              obtain ⟨rfl, rfl⟩ := hat1
              exact wrote_there hw (hf.there _ _ hat)
            have g2 := g1.rel.write hg hl hat hw hf' (fun q c hq => ?_)
            · exact ⟨φ1, w', by simp only [execOp, ho, hav]; rw [Nat.zero_mul, Nat.zero_add]; simp [hrun], g1.trans g2⟩
            · simp only [Row.flat] at hq
              have hqlt := cell_len hq
              rw [hspl] at hqlt
              have hcq := hcell q (by simpa [Row.flat] using hqlt)
              rw [splice_get hle] at hq
              split at hq
              · rename_i hin
                rw [if_pos (by omega)] at hcq
                have hlt : q - j < (η x).cells.size := by omega
                refine ⟨(η x).cells[q - j], by rw [hcq]; simp [hlt], List.all_eq_true.1 a1 c (List.mem_of_getElem? hq), v1.2 (q - j) c _ hq (by simp [hlt])⟩
              · rename_i hin
                rw [if_neg (by omega)] at hcq
                obtain ⟨v, p1, p2, p3⟩ := g1.rel.cells id _ l b o' hg hl hat q c hq
                exact ⟨v, by rw [hcq]; exact p1, p2, p3⟩
          · cases hk
        · rename_i τ l0 hg
          obtain ⟨y, hy, hk⟩ := ob_eq_some.1 hk
          split at hk
          · rename_i hle
            split at hk
            · rename_i y' h2 hd
              split at hk
              · rename_i r2 hg2
                have hg2' : h2.get id = some (.typ τ l0) := by
                  have := datum_get _ _ _ _ _ _ _ hd hg2
                  rw [hg] at this
                  rw [hg2, this]
                refine ⟨_, _, hk, .of_skip fun Bad φ w η hr hs => ?_, store_mod' ho ha hroot hd _⟩
                obtain ⟨φ1, l, b, o', g1, v1, a1, l1, hl, hat, hav, hone, hsz'⟩ := start Bad φ w η hr hs _ hg
                have hf := (g1.rel.live id _ hg).elim fun l' ⟨q1, q2⟩ => by rw [hl] at q1; simp only [Option.some.injEq] at q1; exact q1 ▸ q2
                have hesz : l.esz = τ.size := hf.esz
                have hi := (List.getElem?_eq_some_iff.1 hy).1
                have hmul : i * τ.size + τ.size ≤ l0.length * τ.size := by
                  have := Nat.mul_le_mul_right τ.size (show i + 1 ≤ l0.length by omega)
                  rw [Nat.succ_mul] at this
                  exact this
                obtain ⟨w', hrun, hw, hcell⟩ := run_store_row (P := C.P) g1.rel hg hl hat (t := t) (off := i * l.esz + j) (v := η x) hsz' (by omega) (by simp only [Row.flat, flat_typ_length]; rw [hesz]; omega) hone
                simp only [Row.flat, flat_typ_length] at hcell
                -- the cells of the element, as they will be
                have old : ∀ q, q < τ.size → ∃ u, w.cell? ⟨b, o' + (i * τ.size + q), none⟩ = some u ∧ ∃ c, (cellsOf τ y)[q]? = some c ∧ c.single = true ∧ Sim (Imm Bad φ1 w) φ1 h1.next w c u := by
                  intro q hq
                  have hc1 : q < (cellsOf τ y).length := by rw [cellsOf_length]; exact hq
                  have hfl : (Row.typ τ l0).flat[i * τ.size + q]? = some (cellsOf τ y)[q] := by
                    simp only [Row.flat]
                    rw [flat_typ_get _ _ _ _ hq, hy]
                    simp [hc1]
                  obtain ⟨u, p1, p2, p3⟩ := g1.rel.cells id _ l b o' hg hl hat _ _ hfl
                  exact ⟨u, p1, _, by simp [hc1], p2, p3⟩
                let us : List Value := (List.range τ.size).map fun q => (w'.cell? ⟨b, o' + (i * τ.size + q), none⟩).getD undef
                have hus : ∀ q, q < τ.size → ∃ u, w'.cell? ⟨b, o' + (i * τ.size + q), none⟩ = some u ∧ us[q]? = some u := by
                  intro q hq
                  have hcq := hcell (i * τ.size + q) (by omega)
                  by_cases hin : j ≤ q ∧ q < j + (η x).cells.size
                  · rw [if_pos (by rw [hesz]; omega)] at hcq
                    have hlt : i * τ.size + q - (i * l.esz + j) < (η x).cells.size := by rw [hesz]; omega
                    rw [Array.getElem?_eq_getElem hlt] at hcq
                    exact ⟨_, hcq, by simp [us, hq, hcq]⟩
                  · rw [if_neg (by rw [hesz]; omega)] at hcq
                    obtain ⟨u, p1, _⟩ := old q hq
                    rw [p1] at hcq
                    exact ⟨_, hcq, by simp [us, hq, hcq]⟩
                have hlen1 : j + vs.length ≤ (cellsOf τ y).length := by rw [cellsOf_length]; exact hle
                have hv : VCells (Imm Bad φ1 w) φ1 h1.next w ((cellsOf τ y).take j ++ vs ++ (cellsOf τ y).drop (j + vs.length)) us := by
                  refine ⟨by rw [splice_len hlen1, cellsOf_length]; simp [us], fun q c u hc hu => ?_⟩
                  have hq := cell_len hc
                  rw [splice_len hlen1, cellsOf_length] at hq
                  obtain ⟨u', h5, h6⟩ := hus q hq
                  rw [h6] at hu
                  simp only [Option.some.injEq] at hu
                  subst hu
                  have hcq := hcell (i * τ.size + q) (by omega)
                  rw [splice_get hlen1] at hc
                  split at hc
                  · rename_i hin
                    rw [if_pos (by rw [hesz]; omega), h5] at hcq
                    refine v1.2 (q - j) c u' hc ?_
                    have : i * τ.size + q - (i * l.esz + j) = q - j := by rw [hesz]; omega
                    rw [this] at hcq
                    rw [Array.getElem?_toList]
                    exact hcq.symm
                  · rename_i hin
                    rw [if_neg (by rw [hesz]; omega), h5] at hcq
                    obtain ⟨u2, p1, c2, p2, p3, p4⟩ := old q hq
                    rw [p1] at hcq
                    rw [p2] at hc
                    simp only [Option.some.injEq] at hc hcq
                    subst hc; subst hcq
                    exact p4
                obtain ⟨φ2, g2, v2⟩ := datum_to _ _ _ _ _ _ us hd g1.rel hv
                have hl2 : φ2 id = some l := by
                  obtain ⟨l2, q1, q2⟩ := g2.rel.live id _ hg2'
                  rcases g2.evo.old id (g1.rel.id_lt id l hl) with q3 | q3
                  · rw [q3]; exact hl
                  · rw [q3] at q1; cases q1
                have hf2 := (g2.rel.live id _ hg2').elim fun l' ⟨q1, q2⟩ => by rw [hl2] at q1; simp only [Option.some.injEq] at q1; exact q1 ▸ q2
                have hf' : Fits w' l (.typ τ (l0.set i y')) := by
                  refine ⟨by rw [hf.len]; simp [Row.len], hf.esz, hf.le, hf.max, hf.nowhere, fun b1 o1 hat1 => ?_⟩
                  rw [hat] at hat1
                  simp only [Option.some.injEq, Prod.mk.injEq] at hat1
                  obtain ⟨rfl, rfl⟩ := hat1
                  exact wrote_there hw (hf2.there _ _ hat)
                have g3 := g2.rel.write hg2' hl2 hat hw hf' (fun q c hq => ?_)
                · exact ⟨φ2, w', by simp only [execOp, ho, hav]; simp [hrun], (g1.trans g2).trans g3⟩
                · simp only [Row.flat] at hq
                  have hqlt := cell_len hq
                  rw [flat_typ_length, List.length_set] at hqlt
                  rw [list_set_flat τ l0 i y' q hi] at hq
                  split at hq
                  · rename_i hin
                    obtain ⟨u, p1, p2⟩ := hus (q - i * τ.size) (by omega)
                    have : i * τ.size + (q - i * τ.size) = q := by omega
                    rw [this] at p1
                    refine ⟨u, p1, Rel.addRow.single_cells τ y' c (List.mem_of_getElem? hq), v2.2 _ c u hq p2⟩
                  · rename_i hin
                    obtain ⟨u, p1, p2, p3⟩ := g2.rel.cells id _ l b o' hg2' hl2 hat q c hq
                    have hcq := hcell q hqlt
                    rw [if_neg (by rw [hesz]; omega)] at hcq
                    exact ⟨u, by rw [hcq]; exact p1, p2, p3⟩
              · cases hk
            · cases hk
          · cases hk
        · cases hk
      · cases hk
    · cases hk
  · cases hk

end Go.Ph

end
