/- An evaluator of the given program's form, and that it is sound: part 2. -/
import Derived.Test.YtfnagbpaolklgaaGreatEngA
import Derived.Great.BuildSlice
import Derived.Laws.StructEq
import Derived.MapKept
set_option linter.unusedVariables false
noncomputable section
/- What the evaluator says of the operations that touch no row. -/
namespace Go.Ph
open Go.RowKit

theorem und {P : Program} {t : Nat} {d : TypeDesc} (h : P.underlying t = some d) (w : World) : (underlying t).run P w = .ok d w := run_underlying h w

theorem info_of_und {P : Program} {t : Nat} {d : TypeDesc} (h : P.underlying t = some d) : ∃ i, P.info? t = some i := by
  unfold Program.underlying at h
  split at h
  · exact ⟨_, by assumption⟩
  · exact ⟨_, by assumption⟩
  · cases h

theorem run_size {P : Program} {t : Nat} {d : TypeDesc} (h : P.underlying t = some d) (w : World) : (sizeOf t).run P w = .ok (P.cellsOf t) w := by
  obtain ⟨i, hi⟩ := info_of_und h
  simp [sizeOf, typeInfo, hi, Program.cellsOf]

/-- The cells of a value, seen as one of a type. -/
def Cells (N : Nat → Prop) (φ : Map) (nx : Nat) (w : World) (l : List AV) (cs : Array Value) : Prop :=
  l.length = cs.size ∧ ∀ (i : Nat) (c : AV) (v : Value), l[i]? = some c → cs[i]? = some v → Sim N φ nx w c v

theorem Cells.sub {N : Nat → Prop} {φ : Map} {nx : Nat} {w : World} {l : List AV} {cs : Array Value} (h : Cells N φ nx w l cs) (j n : Nat) (hj : j + n ≤ l.length) :
    Cells N φ nx w ((l.drop j).take n) (cs.extract j (j + n)) := by
  obtain ⟨hn, hs⟩ := h
  refine ⟨by simp; omega, fun i c v hc hv => ?_⟩
  rw [List.getElem?_take] at hc
  split at hc
  · rw [List.getElem?_drop] at hc
    refine hs (j + i) c v hc ?_
    rw [Array.getElem?_extract] at hv
    split at hv
    · exact hv
    · cases hv
  · cases hc

theorem run_part {P : Program} {t : Nat} {cs : Array Value} {off : Nat} (w w0 : World) {c : AV} {l : List AV} {N : Nat → Prop} {φ : Map} {nx : Nat}
    (hl : Cells N φ nx w0 l cs) (h : partOf P t l off = some c) : ∃ v, (part t cs off).run P w = .ok v w ∧ Sim N φ nx w0 c v := by
  have agg : ∀ d, P.underlying t = some d → (match d with | .struct _ => true | .array _ _ => true | _ => false) = true → off + P.cellsOf t ≤ l.length →
      (part t cs off).run P w = .ok (.agg (cs.extract off (off + P.cellsOf t))) w ∧ Sim N φ nx w0 (.agg ((l.drop off).take (P.cellsOf t))) (.agg (cs.extract off (off + P.cellsOf t))) := by
    intro d hd hda hle
    have hag : (isAgg t).run P w = .ok true w := by
      unfold isAgg
      rw [Sem.run_bind, und hd w]
      cases d <;> simp_all
    refine ⟨by simp [part, hag, run_size hd], ?_⟩
    obtain ⟨h1, h2⟩ := hl.sub off (P.cellsOf t) hle
    exact .agg h1 h2
  unfold partOf at h
  split at h
  · rename_i fs hd
    split at h
    · rename_i hle
      simp only [Option.some.injEq] at h
      subst h
      exact ⟨_, agg _ hd rfl hle⟩
    · cases h
  · rename_i n e hd
    split at h
    · rename_i hle
      simp only [Option.some.injEq] at h
      subst h
      exact ⟨_, agg _ hd rfl hle⟩
    · cases h
  · rename_i d hns hna hd
    have hag : (isAgg t).run P w = .ok false w := by
      unfold isAgg
      rw [Sem.run_bind, und hd w]
      cases d <;> simp_all
    have hlt := cell_len h
    have : off < cs.size := by rw [← hl.1]; exact hlt
    refine ⟨cs[off], ?_, hl.2 off c _ h (by simp [this])⟩
    simp [part, hag, this]
  · cases h

theorem fold_set (vs : List Value) : ∀ (k off : Nat) (A : Array Value), off + k + vs.length ≤ A.size →
    ((vs.zipIdx k).foldl (fun cs (c, j) => cs.setIfInBounds (off + j) c) A).size = A.size ∧
    ∀ i : Nat, ((vs.zipIdx k).foldl (fun cs (c, j) => cs.setIfInBounds (off + j) c) A)[i]? = if off + k ≤ i ∧ i < off + k + vs.length then vs[i - (off + k)]? else A[i]? := by
  induction vs with
  | nil => intro k off A h; refine ⟨rfl, fun i => ?_⟩; simp; omega
  | cons v vs ih =>
    intro k off A h
    simp only [List.length_cons] at h
    obtain ⟨h1, h2⟩ := ih (k + 1) off (A.setIfInBounds (off + k) v) (by simp; omega)
    simp only [List.zipIdx_cons, List.foldl_cons]
    refine ⟨by rw [h1]; simp, fun i => ?_⟩
    rw [h2 i]
    simp only [List.length_cons]
    by_cases hik : i = off + k
    · subst hik
      rw [if_neg (by omega), if_pos (by omega), Nat.sub_self, List.getElem?_cons_zero, Array.getElem?_setIfInBounds_self_of_lt (by omega)]
    · by_cases hin : off + (k + 1) ≤ i ∧ i < off + (k + 1) + vs.length
      · rw [if_pos hin, if_pos (by omega)]
        have : i - (off + k) = (i - (off + (k + 1))) + 1 := by omega
        rw [this, List.getElem?_cons_succ]
      · rw [if_neg hin, if_neg (by omega)]
        rw [Array.getElem?_setIfInBounds_ne (by omega)]

theorem splice_get {l vs : List AV} {off : Nat} (h : off + vs.length ≤ l.length) (i : Nat) :
    (l.take off ++ vs ++ l.drop (off + vs.length))[i]? = if off ≤ i ∧ i < off + vs.length then vs[i - off]? else l[i]? := by
  have h1 : (l.take off).length = off := by simp; omega
  rw [List.getElem?_append]
  have h2 : (l.take off ++ vs).length = off + vs.length := by simp [h1]
  rw [h2]
  by_cases hi : i < off + vs.length
  · rw [if_pos hi, List.getElem?_append, h1]
    by_cases hi2 : i < off
    · rw [if_pos hi2, if_neg (by omega), List.getElem?_take, if_pos hi2]
    · rw [if_neg hi2, if_pos (by omega)]
  · rw [if_neg hi, if_neg (by omega), List.getElem?_drop]
    congr 1
    omega

theorem splice_len {l vs : List AV} {off : Nat} (h : off + vs.length ≤ l.length) : (l.take off ++ vs ++ l.drop (off + vs.length)).length = l.length := by
  simp
  omega

theorem fill_sim {N : Nat → Prop} {φ : Map} {nx : Nat} {w : World} (place : Nat → Option (Nat × Nat)) :
    ∀ (ps : List (Nat × AV)) (qs : List (Nat × Value)) (l : List AV) (A : Array Value) (cs : List AV),
    ps.length = qs.length → (∀ (i : Nat) (p : Nat × AV) (q : Nat × Value), ps[i]? = some p → qs[i]? = some q → p.1 = q.1 ∧ Sim N φ nx w p.2 q.2) →
    Cells N φ nx w l A → pureK.fillA place l ps = some cs → ∃ B, Instr.fill place A qs = some B ∧ Cells N φ nx w cs B := by
  intro ps
  induction ps with
  | nil =>
    intro qs l A cs hlen _ hc h
    cases qs with
    | nil => simp only [pureK.fillA, Option.some.injEq] at h; subst h; exact ⟨A, rfl, hc⟩
    | cons q qs => simp at hlen
  | cons p ps ih =>
    intro qs l A cs hlen hs hc h
    cases qs with
    | nil => simp at hlen
    | cons q qs =>
      obtain ⟨i, v⟩ := p
      obtain ⟨i', u⟩ := q
      obtain ⟨e, hsim⟩ := hs 0 (i, v) (i', u) rfl rfl
      simp only at e hsim
      subst e
      simp only [pureK.fillA] at h
      cases hp : place i with
      | none => simp [hp] at h
      | some pl =>
        obtain ⟨off, size⟩ := pl
        simp only [hp] at h
        split at h
        · cases h
        · rename_i hcond
          have hlen1 : v.cells.length = size := by
            rcases Decidable.em (v.cells.length = size) with h1 | h1
            · exact h1
            · exact absurd (.inl h1) hcond
          have hlen2 : off + size ≤ l.length := by
            rcases Nat.lt_or_ge l.length (off + size) with h1 | h1
            · exact absurd (.inr (.inl h1)) hcond
            · exact h1
          have hall : v.cells.all AV.single = true := by
            cases h1 : v.cells.all AV.single
            · exact absurd (.inr (.inr h1)) hcond
            · rfl
          obtain ⟨hu1, hu2⟩ := cells_sim hsim hall
          have hu3 : u.cells.toList.length = v.cells.length := by simp [hu1]
          obtain ⟨f1, f2⟩ := fold_set u.cells.toList 0 off A (by rw [hu3, hlen1, ← hc.1]; omega)
          have hz : u.cells.zipIdx.foldl (fun cs (c, j) => cs.setIfInBounds (off + j) c) A = (u.cells.toList.zipIdx 0).foldl (fun cs (c, j) => cs.setIfInBounds (off + j) c) A := by
            rw [← Array.foldl_toList]
            simp
          subst hlen1
          obtain ⟨B, hB, hcB⟩ := ih qs _ ((u.cells.toList.zipIdx 0).foldl (fun cs (c, j) => cs.setIfInBounds (off + j) c) A) cs (by simpa using hlen) (fun j p q hp hq => hs (j + 1) p q (by simpa using hp) (by simpa using hq))
            ⟨by rw [splice_len hlen2, f1]; exact hc.1, fun j c x hj hx => by
              rw [splice_get hlen2] at hj
              rw [f2 j, hu3, Nat.add_zero] at hx
              split at hj
              · rename_i hin
                rw [if_pos hin] at hx
                exact (hu2 _ c x hj (by simpa using hx)).1
              · rename_i hin
                rw [if_neg hin] at hx
                exact hc.2 j c x hj hx⟩ h
          refine ⟨B, ?_, hcB⟩
          simp only [Instr.fill, hp]
          rw [if_neg (by have := hc.1; simp [hu1]; omega), hz]
          exact hB

theorem ofConst_one (z : Value) : (∃ cs, z = .agg cs) ∨ ((ofConst z).cells = [ofConst z] ∧ z.cells = #[z]) := by
  unfold ofConst
  split
  · exact .inr ⟨rfl, rfl⟩
  · exact .inr ⟨rfl, rfl⟩
  · exact .inr ⟨rfl, rfl⟩
  · exact .inr ⟨rfl, rfl⟩
  · exact .inr ⟨rfl, rfl⟩
  · exact .inr ⟨rfl, rfl⟩
  · exact .inl ⟨_, rfl⟩
  · rename_i h _
    refine .inr ⟨rfl, ?_⟩
    unfold Value.cells
    split
    · simp_all
    · rfl

theorem ofConst_cells (N : Nat → Prop) (φ : Map) (nx : Nat) (w : World) (z : Value) : Cells N φ nx w (ofConst z).cells z.cells := by
  have hs := ofConst_sim (φ := φ) (nx := nx) (w := w) N z
  rcases ofConst_one z with ⟨cs, rfl⟩ | ⟨h1, h2⟩
  · exact agg_len hs |>.elim fun vs ⟨e, h1, h2⟩ => by injection e with e; subst e; exact ⟨h1, h2⟩
  · rw [h1, h2]
    refine ⟨rfl, fun i c v hc hv => ?_⟩
    cases i with
    | zero => simp at hc hv; subst hc; subst hv; exact hs
    | succ i => simp at hc

theorem rep_get {α : Type} (x : List α) (n : Nat) (hx : 0 < x.length) (i : Nat) (hi : i < n * x.length) : ((List.replicate n x).flatten)[i]? = x[i % x.length]? := by
  induction n generalizing i with
  | zero => simp at hi
  | succ n ih =>
    rw [List.replicate_succ, List.flatten_cons, List.getElem?_append]
    by_cases h : i < x.length
    · rw [if_pos h, Nat.mod_eq_of_lt h]
    · rw [if_neg h, ih (i - x.length) (by rw [Nat.succ_mul] at hi; omega), ← Nat.mod_eq_sub_mod (a := i) (by omega)]

theorem part_sims {o : Oper} {parts : Array (Nat × Operand)} {ρ : Operand → AV} {η : Operand → Value} {N : Nat → Prop} {φ : Map} {nx : Nat} {w : World}
    (ho : (∃ t, o.op = .build t parts) ∨ (∃ t len, o.op = .buildSlice t len parts)) (hs : ∀ x ∈ o.op.operands, Sim N φ nx w (ρ x) (η x)) :
    ∀ (i : Nat) (p : Nat × AV) (q : Nat × Value), (parts.toList.map fun p => (p.1, ρ p.2))[i]? = some p → (parts.toList.map fun p => (p.1, η p.2))[i]? = some q → p.1 = q.1 ∧ Sim N φ nx w p.2 q.2 := by
  intro i p q hp hq
  simp only [List.getElem?_map] at hp hq
  cases hpi : parts.toList[i]? with
  | none => simp [hpi] at hp
  | some pi =>
    simp only [hpi, Option.map_some, Option.some.injEq] at hp hq
    subst hp; subst hq
    refine ⟨rfl, hs _ ?_⟩
    rcases ho with ⟨t, ho⟩ | ⟨t, len, ho⟩ <;>
      (simp only [ho, Op.operands, List.mem_toArray, List.mem_map]; exact ⟨pi, List.mem_of_getElem? hpi, rfl⟩)

theorem fill_len (place : Nat → Option (Nat × Nat)) : ∀ (ps : List (Nat × AV)) (l cs : List AV), pureK.fillA place l ps = some cs → cs.length = l.length := by
  intro ps
  induction ps with
  | nil => intro l cs h; simp only [pureK.fillA, Option.some.injEq] at h; rw [h]
  | cons p ps ih =>
    intro l cs h
    obtain ⟨i, v⟩ := p
    simp only [pureK.fillA] at h
    split at h
    · cases h
    · split at h
      · cases h
      · rename_i off size _ hc
        rw [ih _ _ h]
        have h1 : v.cells.length = size := by
          rcases Decidable.em (v.cells.length = size) with h1 | h1
          · exact h1
          · exact absurd (.inl h1) hc
        have h2 : off + size ≤ l.length := by
          rcases Nat.lt_or_ge l.length (off + size) with h2 | h2
          · exact absurd (.inr (.inl h2)) hc
          · exact h2
        subst h1
        exact splice_len h2

/-- Values that are the same in the model and in the evaluator. -/
def lit : AV → Option Value
  | .int k n => some (.int k n)
  | .bool b => some (.bool b)
  | .str s => some (.string s)
  | _ => none

theorem lit_sim {N : Nat → Prop} {φ : Map} {nx : Nat} {w : World} {c : AV} {v : Value} (h : lit c = some v) : Sim N φ nx w c v := by
  unfold lit at h
  split at h <;> simp only [Option.some.injEq, reduceCtorEq] at h <;> subst h
  · exact .int _ _
  · exact .bool _
  · exact .str _

theorem eqGuard_scalar {P : Program} (op : BinOp) (t : TypeId) (x y : Operand) (a b : Value) (h : ∀ u, a ≠ .agg u) (h' : a ≠ .nilIface) (w : World) : (eqGuard op t x y a b).run P w = .ok () w := by
  unfold eqGuard
  cases op <;> simp <;> (cases a <;> simp_all)

theorem bin_to {P : Program} {o : Oper} {ρ : Operand → AV} {op : BinOp} {xt yt : TypeId} {x y : Operand} (ho : o.op = .binOp op xt x y yt) {c : AV} {u : Value} (hc : lit c = some u)
    (hrun : ∀ (N : Nat → Prop) (φ : Map) (nx : Nat) (w : World) (a b : Value), Sim N φ nx w (ρ x) a → Sim N φ nx w (ρ y) b → (eqGuard op xt x y a b).run P w = .ok () w ∧ (binOp op xt a b).run P w = .ok u w) : PureTo P o ρ c := by
  refine .of_same fun Bad φ nx w η hs => ?_
  have h1 := hs x (by simp [ho, Op.operands])
  have h2 := hs y (by simp [ho, Op.operands])
  obtain ⟨g1, g2⟩ := hrun _ _ _ _ _ _ h1 h2
  refine ⟨u, ?_, lit_sim hc⟩
  simp only [execOp, ho]
  simp [g1, g2]

theorem arith_run {P : Program} {op : BinOp} {i : IntKind} {a b : Int} {c : AV} (h : arith op i a b = some c) (xt : TypeId) : ∃ u, lit c = some u ∧ ∀ w : World, (binOp op xt (.int i a) (.int i b)).run P w = .ok u w := by
  unfold arith at h
  split at h <;> simp only [Option.some.injEq, reduceCtorEq] at h <;> subst h <;>
    exact ⟨_, rfl, fun w => by simp [binOp, Op.intArith, Op.intBits, Op.intCmp]⟩

theorem sameStep_run {P : Program} {N : Nat → Prop} {φ : Map} {nx : Nat} {w0 : World} (d : Nat) {xs ys : List AV} {A B : Array Value} (hx : Cells N φ nx w0 xs A) (hy : Cells N φ nx w0 ys B) (w : World) {inner : Nat → List AV → List AV → Option Bool}
    (hin : ∀ (t : Nat) (px py : List AV) (A B : Array Value) (b : Bool), inner t px py = some b → Cells N φ nx w0 px A → Cells N φ nx w0 py B → (Op.equalIn (d + 1) t (.agg A) (.agg B)).run P w = .ok b w) :
    ∀ (fs : List Field) (r : Bool), sameStep P inner xs ys fs = some r → (Op.eqFields (d + 1) A B fs).run P w = .ok r w := by
  intro fs
  induction fs with
  | nil => intro r h; simp only [sameStep, Option.some.injEq] at h; subst h; simp [Op.eqFields]
  | cons f fs ih =>
    intro r h
    simp only [sameStep] at h
    have cell : ∀ (l : List AV) (C : Array Value) (c : AV) (u : Value), Cells N φ nx w0 l C → l[f.offset]? = some c → lit c = some u → (∀ s, P.underlying f.type ≠ some (.struct s)) → (∀ n e, P.underlying f.type ≠ some (.array n e)) →
        (P.underlying f.type).isSome = true → (part f.type C f.offset).run P w = .ok u w := by
      intro l C c u hl hc hu h1 h2 h3
      obtain ⟨d, hd⟩ := Option.isSome_iff_exists.1 h3
      have hp : partOf P f.type l f.offset = some c := by
        unfold partOf
        rw [hd]
        cases d <;> first | exact hc | exact absurd hd (h1 _) | exact absurd hd (h2 _ _)
      obtain ⟨v, hv, hs⟩ := run_part w w0 hl hp
      have : v = u := by
        unfold lit at hu
        split at hu <;> simp only [Option.some.injEq, reduceCtorEq] at hu <;> subst hu <;> cases hs <;> rfl
      rw [hv, this]
    split at h
    · rename_i hname
      have fin : ∀ (b : Bool) (u v : Value), (part f.type A f.offset).run P w = .ok u w → (part f.type B f.offset).run P w = .ok v w → (Op.equalIn (d + 1) f.type u v).run P w = .ok b w →
          (match sameStep P inner xs ys fs with
          | some t => some (b && t)
          | none => none) = some r → (Op.eqFields (d + 1) A B (f :: fs)).run P w = .ok r w := by
        intro b u v p1 p2 p3 h
        split at h
        · rename_i t ht
          simp only [Option.some.injEq] at h
          subst h
          simp only [Op.eqFields, if_pos hname, Sem.run_bind, p1, p2, p3, Result.andThen_ok]
          cases b
          · simp
          · simpa using ih t ht
        · cases h
      split at h
      · rename_i b hb
        split at hb
        · rename_i ik hd
          split at hb
          · rename_i k a k' b' hxa hyb
            split at hb
            · rename_i hk
              subst hk
              simp only [Option.some.injEq] at hb
              subst hb
              exact fin _ _ _ (cell xs A _ _ hx hxa rfl (by simp [hd]) (by simp [hd]) (by simp [hd])) (cell ys B _ _ hy hyb rfl (by simp [hd]) (by simp [hd]) (by simp [hd])) (run_equalIn_int (P := P) w d f.type k ik a b' hd) h
            · cases hb
          · cases hb
        · rename_i hd
          split at hb
          · rename_i a b' hxa hyb
            simp only [Option.some.injEq] at hb
            subst hb
            exact fin _ _ _ (cell xs A _ _ hx hxa rfl (by simp [hd]) (by simp [hd]) (by simp [hd])) (cell ys B _ _ hy hyb rfl (by simp [hd]) (by simp [hd]) (by simp [hd])) (run_equalIn_bool' (P := P) w d f.type a b' hd) h
          · cases hb
        · split at hb
          · rename_i px py hpx hpy
            obtain ⟨u, p1, s1⟩ := run_part w w0 hx hpx
            obtain ⟨v, p2, s2⟩ := run_part w w0 hy hpy
            obtain ⟨A', rfl, hA⟩ := agg_len s1
            obtain ⟨B', rfl, hB⟩ := agg_len s2
            exact fin _ _ _ p1 p2 (hin _ _ _ _ _ _ hb hA hB) h
          · cases hb
        · cases hb
      · cases h
    · cases h

theorem sameD_run {P : Program} {N : Nat → Prop} {φ : Map} {nx : Nat} {w0 : World} (w : World) : ∀ (k D : Nat), k ≤ D → ∀ (t : Nat) (xs ys : List AV) (A B : Array Value) (b : Bool), sameD P k t xs ys = some b → Cells N φ nx w0 xs A → Cells N φ nx w0 ys B →
    (Op.equalIn (D + 2) t (.agg A) (.agg B)).run P w = .ok b w
  | 0, _, _, _, _, _, _, _, _, h, _, _ => by cases h
  | k + 1, 0, hD, _, _, _, _, _, _, _, _, _ => absurd hD (by omega)
  | k + 1, D + 1, hD, t, xs, ys, A, B, b, h, hx, hy => by
    simp only [sameD] at h
    split at h
    · rename_i fs hd
      split at h
      · rename_i hst
        have hf : P.fieldsOf t = fs := by simp [Program.fieldsOf, hd]
        rw [run_equalIn_struct (P := P) w (D + 1 + 1) t A B (by rw [hf]; exact hd) hst, hf]
        exact sameStep_run (D + 1) hx hy w (fun t px py A B b hb hA hB => sameD_run w k D (by omega) t px py A B b hb hA hB) _ b h
      · cases h
    · cases h

section
variable {P : Program} (w : World)
theorem run_eql_bools (t : TypeId) (a b : Bool) : (binOp .eql t (.bool a) (.bool b)).run P w = ((Op.equalIn 10000 t (.bool a) (.bool b)).run P w).andThen fun b w' => .ok (.bool b) w' := by
  simp only [binOp, Op.equal, Op.maxDepth, Sem.run_bind, Sem.run_pure]
theorem run_neq_bools (t : TypeId) (a b : Bool) : (binOp .neq t (.bool a) (.bool b)).run P w = ((Op.equalIn 10000 t (.bool a) (.bool b)).run P w).andThen fun b w' => .ok (.bool (!b)) w' := by
  simp only [binOp, Op.equal, Op.maxDepth, Sem.run_bind, Sem.run_pure]
theorem run_eql_ptrs (t : TypeId) (a b : Option Addr) : (binOp .eql t (.pointer a) (.pointer b)).run P w = ((Op.equalIn 10000 t (.pointer a) (.pointer b)).run P w).andThen fun b w' => .ok (.bool b) w' := by
  simp only [binOp, Op.equal, Op.maxDepth, Sem.run_bind, Sem.run_pure]
theorem run_neq_ptrs (t : TypeId) (a b : Option Addr) : (binOp .neq t (.pointer a) (.pointer b)).run P w = ((Op.equalIn 10000 t (.pointer a) (.pointer b)).run P w).andThen fun b w' => .ok (.bool (!b)) w' := by
  simp only [binOp, Op.equal, Op.maxDepth, Sem.run_bind, Sem.run_pure]
theorem run_eql_sls (t : TypeId) (a b : Option Addr) (n c n' c' : Nat) : (binOp .eql t (.slice a n c) (.slice b n' c')).run P w = ((Op.equalIn 10000 t (.slice a n c) (.slice b n' c')).run P w).andThen fun b w' => .ok (.bool b) w' := by
  simp only [binOp, Op.equal, Op.maxDepth, Sem.run_bind, Sem.run_pure]
theorem run_neq_sls (t : TypeId) (a b : Option Addr) (n c n' c' : Nat) : (binOp .neq t (.slice a n c) (.slice b n' c')).run P w = ((Op.equalIn 10000 t (.slice a n c) (.slice b n' c')).run P w).andThen fun b w' => .ok (.bool (!b)) w' := by
  simp only [binOp, Op.equal, Op.maxDepth, Sem.run_bind, Sem.run_pure]
theorem run_eql_maps (t : TypeId) (a b : Option Nat) : (binOp .eql t (.map a) (.map b)).run P w = ((Op.equalIn 10000 t (.map a) (.map b)).run P w).andThen fun b w' => .ok (.bool b) w' := by
  simp only [binOp, Op.equal, Op.maxDepth, Sem.run_bind, Sem.run_pure]
theorem run_neq_maps (t : TypeId) (a b : Option Nat) : (binOp .neq t (.map a) (.map b)).run P w = ((Op.equalIn 10000 t (.map a) (.map b)).run P w).andThen fun b w' => .ok (.bool (!b)) w' := by
  simp only [binOp, Op.equal, Op.maxDepth, Sem.run_bind, Sem.run_pure]
theorem eq_mapnil (d : Nat) {t k e : TypeId} (m : Option Nat) (hd : P.underlying t = some (.map k e)) : (Op.equalIn (d + 1) t (.map m) (.map none)).run P w = .ok m.isNone w := by
  cases m <;> simp [Op.equalIn, run_underlying hd]
theorem eq_nilnil (d : Nat) {t e : TypeId} (hd : P.underlying t = some (.pointer e)) : (Op.equalIn (d + 1) t (.pointer none) (.pointer none)).run P w = .ok true w := by
  simp [Op.equalIn, run_underlying hd]
theorem eq_ptrnil (d : Nat) {t e : TypeId} (a : Addr) (hd : P.underlying t = some (.pointer e)) : (Op.equalIn (d + 1) t (.pointer (some a)) (.pointer none)).run P w = .ok false w := by
  simp [Op.equalIn, run_underlying hd]
theorem eq_slnil (d : Nat) {t e : TypeId} (hd : P.underlying t = some (.slice e)) : (Op.equalIn (d + 1) t (.slice none 0 0) (.slice none 0 0)).run P w = .ok true w := by
  simp [Op.equalIn, run_underlying hd]
end

theorem bin_case {Z : Type} {P : Program} {o : Oper} {ρ : Operand → AV} {k : AV → Option Z} {z : Z} {op : BinOp} {xt yt : TypeId} {x y : Operand}
    (ho : o.op = .binOp op xt x y yt) (h : binK P op xt (ρ x) (ρ y) k = some z) : ∃ v, k v = some z ∧ PureTo P o ρ v := by
  unfold binK at h
  split at h
  · rename_i i a j b e1 e2
    have key : ∀ (c : AV) (u : Value), lit c = some u → (∀ w : World, (binOp op xt (.int i a) (.int j b)).run P w = .ok u w) → PureTo P o ρ c := by
      intro c u hc hr
      refine bin_to ho hc fun N φ nx w va vb h1 h2 => ?_
      rw [e1] at h1; rw [e2] at h2
      cases h1; cases h2
      exact ⟨eqGuard_scalar _ _ _ _ _ _ (by simp) (by simp) w, hr w⟩
    split at h
    · split at h
      · rename_i hb
        exact ⟨_, h, key _ _ rfl fun w => by simp [binOp, Op.shift, show ¬ b < 0 by omega]⟩
      · cases h
    · split at h
      · rename_i hb
        exact ⟨_, h, key _ _ rfl fun w => by simp [binOp, Op.shift, show ¬ b < 0 by omega]⟩
      · cases h
    · split at h
      · rename_i hij
        subst hij
        split at h
        · cases h
        · rename_i hb
          exact ⟨_, h, key _ _ rfl fun w => by simp [binOp, Op.intDiv, hb]⟩
      · cases h
    · split at h
      · rename_i hij
        subst hij
        split at h
        · cases h
        · rename_i hb
          exact ⟨_, h, key _ _ rfl fun w => by simp [binOp, Op.intDiv, hb]⟩
      · cases h
    · split at h
      · rename_i hij
        subst hij
        obtain ⟨c, hc, hk⟩ := ob_eq_some.1 h
        obtain ⟨u, hu, hr⟩ := arith_run (P := P) hc xt
        exact ⟨c, hk, key _ _ hu hr⟩
      · cases h
  · rename_i a b e1 e2
    have key : ∀ (c : AV) (u : Value), lit c = some u → (∀ w : World, (binOp op xt (.bool a) (.bool b)).run P w = .ok u w) → PureTo P o ρ c := by
      intro c u hc hr
      refine bin_to ho hc fun N φ nx w va vb h1 h2 => ?_
      rw [e1] at h1; rw [e2] at h2
      cases h1; cases h2
      exact ⟨eqGuard_scalar _ _ _ _ _ _ (by simp) (by simp) w, hr w⟩
    split at h
    · rename_i hd
      exact ⟨_, h, key _ _ rfl fun w => by rw [run_eql_bools, run_equalIn_bool' (P := P) w 9999 xt a b hd]; rfl⟩
    · rename_i hd
      exact ⟨_, h, key _ _ rfl fun w => by rw [run_neq_bools, run_equalIn_bool' (P := P) w 9999 xt a b hd]; rfl⟩
    · cases h
  · rename_i a b e1 e2
    have key : ∀ (c : AV) (u : Value), lit c = some u → (∀ w : World, (binOp op xt (.string a) (.string b)).run P w = .ok u w) → PureTo P o ρ c := by
      intro c u hc hr
      refine bin_to ho hc fun N φ nx w va vb h1 h2 => ?_
      rw [e1] at h1; rw [e2] at h2
      cases h1; cases h2
      exact ⟨eqGuard_scalar _ _ _ _ _ _ (by simp) (by simp) w, hr w⟩
    split at h
    · exact ⟨_, h, key _ _ rfl fun w => by simp [binOp, Op.stringOp, ByteArray.toList_eq]⟩
    · exact ⟨_, h, key _ _ rfl fun w => by simp [binOp, Op.stringOp, ByteArray.toList_eq]⟩
    · split at h
      · rename_i hl
        exact ⟨_, h, key _ _ rfl fun w => by
          have : ¬ ((a.size + b.size : Nat) : Int) > IntKind.i64.max := by have e : IntKind.i64.max = 9223372036854775807 := rfl; omega
          simp only [binOp, Op.stringOp, if_neg this, Sem.run_pure]⟩
      · cases h
    · cases h
  · rename_i xs ys e1 e2
    split at h
    · rename_i fs hd
      split at h
      · rename_i hgd
        obtain ⟨b, hb, hk⟩ := ob_eq_some.1 h
        have key : ∀ (c : AV) (u : Value), lit c = some u → (∀ (w : World) (A B : Array Value), (Op.equalIn 10000 xt (.agg A) (.agg B)).run P w = .ok b w → (binOp op xt (.agg A) (.agg B)).run P w = .ok u w) → PureTo P o ρ c := by
          intro c u hc hr
          refine bin_to ho hc fun N φ nx w va vb h1 h2 => ?_
          rw [e1] at h1; rw [e2] at h2
          obtain ⟨A, rfl, hA⟩ := agg_len h1
          obtain ⟨B, rfl, hB⟩ := agg_len h2
          refine ⟨run_eqGuard_agg (P := P) w op xt x y A B hgd, hr w A B ?_⟩
          exact sameD_run w 4 9998 (by omega) xt xs ys A B b hb hA hB
        split at hk
        · exact ⟨_, hk, key _ _ rfl fun w A B hr => by rw [run_eql_struct, hr]; rfl⟩
        · exact ⟨_, hk, key _ _ rfl fun w A B hr => by rw [run_neq_struct, hr]; rfl⟩
        · cases hk
      · cases h
    · cases h
  · rename_i e1 e2
    have key : ∀ (c : AV) (u : Value), lit c = some u → (∀ w : World, (binOp op xt (.pointer none) (.pointer none)).run P w = .ok u w) → PureTo P o ρ c := by
      intro c u hc hr
      refine bin_to ho hc fun N φ nx w va vb h1 h2 => ?_
      rw [e1] at h1; rw [e2] at h2
      cases h1; cases h2
      exact ⟨eqGuard_scalar _ _ _ _ _ _ (by simp) (by simp) w, hr w⟩
    split at h
    · rename_i e hd
      exact ⟨_, h, key _ _ rfl fun w => by rw [run_eql_ptrs, eq_nilnil w 9999 hd]; rfl⟩
    · rename_i e hd
      exact ⟨_, h, key _ _ rfl fun w => by rw [run_neq_ptrs, eq_nilnil w 9999 hd]; rfl⟩
    · cases h
  · rename_i id i j e1 e2
    have key : ∀ (c : AV) (u : Value), lit c = some u → (∀ (w : World) (a : Addr), (binOp op xt (.pointer (some a)) (.pointer none)).run P w = .ok u w) → PureTo P o ρ c := by
      intro c u hc hr
      refine bin_to ho hc fun N φ nx w va vb h1 h2 => ?_
      rw [e1] at h1; rw [e2] at h2
      cases h2
      cases h1 <;> exact ⟨eqGuard_scalar _ _ _ _ _ _ (by simp) (by simp) w, hr w _⟩
    split at h
    · rename_i e hd
      exact ⟨_, h, key _ _ rfl fun w a => by rw [run_eql_ptrs, eq_ptrnil w 9999 a hd]; rfl⟩
    · rename_i e hd
      exact ⟨_, h, key _ _ rfl fun w a => by rw [run_neq_ptrs, eq_ptrnil w 9999 a hd]; rfl⟩
    · cases h
  · rename_i e1 e2
    have key : ∀ (c : AV) (u : Value), lit c = some u → (∀ w : World, (binOp op xt (.slice none 0 0) (.slice none 0 0)).run P w = .ok u w) → PureTo P o ρ c := by
      intro c u hc hr
      refine bin_to ho hc fun N φ nx w va vb h1 h2 => ?_
      rw [e1] at h1; rw [e2] at h2
      cases h1; cases h2
      exact ⟨eqGuard_scalar _ _ _ _ _ _ (by simp) (by simp) w, hr w⟩
    split at h
    · rename_i e hd
      exact ⟨_, h, key _ _ rfl fun w => by rw [run_eql_sls, eq_slnil w 9999 hd]; rfl⟩
    · rename_i e hd
      exact ⟨_, h, key _ _ rfl fun w => by rw [run_neq_sls, eq_slnil w 9999 hd]; rfl⟩
    · cases h
  · rename_i e1 e2
    have key : ∀ (c : AV) (u : Value), lit c = some u → (∀ w : World, (binOp op xt (.map none) (.map none)).run P w = .ok u w) → PureTo P o ρ c := by
      intro c u hc hr
      refine bin_to ho hc fun N φ nx w va vb h1 h2 => ?_
      rw [e1] at h1; rw [e2] at h2
      cases h1; cases h2
      exact ⟨eqGuard_scalar _ _ _ _ _ _ (by simp) (by simp) w, hr w⟩
    split at h
    · rename_i e1 e2 hd
      exact ⟨_, h, key _ _ rfl fun w => by rw [run_eql_maps, eq_mapnil w 9999 none hd]; rfl⟩
    · rename_i e1 e2 hd
      exact ⟨_, h, key _ _ rfl fun w => by rw [run_neq_maps, eq_mapnil w 9999 none hd]; rfl⟩
    · cases h
  · rename_i id e1 e2
    have key : ∀ (c : AV) (u : Value), lit c = some u → (∀ (w : World) (r : Nat), (binOp op xt (.map (some r)) (.map none)).run P w = .ok u w) → PureTo P o ρ c := by
      intro c u hc hr
      refine bin_to ho hc fun N φ nx w va vb h1 h2 => ?_
      rw [e1] at h1; rw [e2] at h2
      cases h2
      cases h1 <;> exact ⟨eqGuard_scalar _ _ _ _ _ _ (by simp) (by simp) w, hr w _⟩
    split at h
    · rename_i hd
      exact ⟨_, h, key _ _ rfl fun w r => by rw [run_eql_maps, eq_mapnil w 9999 (some r) hd]; rfl⟩
    · rename_i hd
      exact ⟨_, h, key _ _ rfl fun w r => by rw [run_neq_maps, eq_mapnil w 9999 (some r) hd]; rfl⟩
    · cases h
  · cases h

theorem un_case {Z : Type} {P : Program} {o : Oper} {ρ : Operand → AV} {k : AV → Option Z} {z : Z} {op : UnOp} {xt : TypeId} {x : Operand}
    (ho : o.op = .unOp op xt x) (h : unK op (ρ x) k = some z) : ∃ v, k v = some z ∧ PureTo P o ρ v := by
  have key : ∀ (c a : AV) (u b : Value), ρ x = a → lit a = some b → lit c = some u → (∀ w : World, (Op.unary op b).run P w = .ok u w) → PureTo P o ρ c := by
    intro c a u b ha hb hc hr
    refine .of_same fun Bad φ nx w η hs => ?_
    have h1 := hs x (by simp [ho, Op.operands])
    rw [ha] at h1
    have hb' : η x = b := by
      unfold lit at hb
      split at hb <;> simp only [Option.some.injEq, reduceCtorEq] at hb <;> subst hb <;> generalize η x = e at h1 <;> cases h1 <;> rfl
    exact ⟨u, by simp [execOp, ho, hb', hr], lit_sim hc⟩
  unfold unK at h
  split at h
  · rename_i i n e
    exact ⟨_, h, key _ _ _ _ e rfl rfl fun w => by simp [Op.unary, Op.intArith]⟩
  · rename_i i n e
    exact ⟨_, h, key _ _ _ _ e rfl rfl fun w => by simp [Op.unary, Op.intBits]⟩
  · rename_i b e
    exact ⟨_, h, key _ _ _ _ e rfl rfl fun w => by simp [Op.unary]⟩
  · cases h

theorem RepC.cells {N : Nat → Prop} {φ : Map} {nx : Nat} {w : World} : ∀ (τ : Ty) (x : τ.D) (b o : Nat), RepC N w τ x b o →
    ∀ (j : Nat) (c : AV), (cellsOf τ x)[j]? = some c → ∃ v, w.cell? ⟨b, o + j, none⟩ = some v ∧ Sim N φ nx w c v
  | .int k, n, b, o, h, j, c, hc => by
    cases j with
    | zero => simp only [cellsOf, List.getElem?_cons_zero, Option.some.injEq] at hc; subst hc; exact ⟨_, h, .int _ _⟩
    | succ j => simp [cellsOf] at hc
  | .bool, x, b, o, h, j, c, hc => by
    cases j with
    | zero => simp only [cellsOf, List.getElem?_cons_zero, Option.some.injEq] at hc; subst hc; exact ⟨_, h, .bool _⟩
    | succ j => simp [cellsOf] at hc
  | .str, x, b, o, h, j, c, hc => by
    cases j with
    | zero => simp only [cellsOf, List.getElem?_cons_zero, Option.some.injEq] at hc; subst hc; exact ⟨_, h, .str _⟩
    | succ j => simp [cellsOf] at hc
  | .sl e, l, b, o, h, j, c, hc => by
    cases j with
    | zero =>
      simp only [cellsOf, List.getElem?_cons_zero, Option.some.injEq] at hc
      subst hc
      obtain ⟨a, n, c, h1, h2, h3, h4, h5⟩ := h
      exact ⟨_, h1, .fz ⟨a, n, c, rfl, h2, h3, h4, fun h => by simp at h, h5⟩⟩
    | succ j => simp [cellsOf] at hc
  | .pair s t, x, b, o, h, j, c, hc => by
    simp only [cellsOf] at hc
    rw [List.getElem?_append, cellsOf_length] at hc
    split at hc
    · exact RepC.cells s _ b o h.1 j c hc
    · rename_i hj
      obtain ⟨v, h1, h2⟩ := RepC.cells (φ := φ) (nx := nx) t _ b _ h.2 (j - s.size) c hc
      refine ⟨v, ?_, h2⟩
      have : o + s.size + (j - s.size) = o + j := by omega
      rw [← this]
      exact h1

theorem addp (b o i : Nat) : (⟨b, o, none⟩ : Addr).add i = ⟨b, o + i, none⟩ := by unfold Addr.add; split <;> simp_all

theorem run_sliceBound {P : Program} (w : World) (i : IntKind) (n : Int) (y : Nat) (code : BoundsCode) (h0 : 0 ≤ n) (h1 : n ≤ y) : (Instr.sliceBound (.int i n) y code).run P w = .ok n.toNat w := by
  simp [Instr.sliceBound, asIntOf, h0, h1]

/-- What the bounds of a slice expression come to. -/
def Bnd (q : Option Value) (d n : Int) : Prop := (q = none ∧ n = d) ∨ ∃ i, q = some (.int i n)

theorem run_sliceBounds {P : Program} (w : World) {lo hi : Option Value} {n c : Nat} {l m : Int} (hl : Bnd lo 0 l) (hh : Bnd hi n m) (h0 : 0 ≤ l) (h1 : l ≤ m) (h2 : m ≤ n) (hc : n ≤ c) :
    (Instr.sliceBounds true n c lo hi none).run P w = .ok (l.toNat, m.toNat, c) w := by
  unfold Instr.sliceBounds
  have hlb : ∀ i, (Instr.sliceBound (.int i l) m.toNat .sliceB).run P w = .ok l.toNat w := fun i => run_sliceBound w i l _ _ h0 (by omega)
  have hhb : ∀ i, (Instr.sliceBound (.int i m) c .sliceAcap).run P w = .ok m.toNat w := fun i => run_sliceBound w i m _ _ (by omega) (by omega)
  rcases hl with ⟨rfl, rfl⟩ | ⟨i, rfl⟩ <;> rcases hh with ⟨rfl, rfl⟩ | ⟨i', rfl⟩
  · simp
  · simp [hhb]
  · simp at hlb
    simp [hlb]
  · simp [hlb, hhb]

theorem bnd_of {N : Nat → Prop} {φ : Map} {nx : Nat} {w : World} {ρ : Operand → AV} {η : Operand → Value} {q : Option Operand} {d n : Int} (hq : bound (q.map ρ) d = some n) (hs : ∀ y, q = some y → Sim N φ nx w (ρ y) (η y)) : Bnd (q.map η) d n := by
  cases q with
  | none => simp only [bound, Option.map_none, Option.some.injEq] at hq; exact .inl ⟨rfl, hq.symm⟩
  | some y =>
    have h1 := hs y rfl
    simp only [bound, Option.map_some] at hq
    split at hq
    · rename_i e; cases e
    · rename_i i m e
      simp only [Option.some.injEq] at e hq
      subst hq
      rw [e] at h1
      generalize hy : η y = v at h1
      cases h1
      exact .inr ⟨i, by simp [hy]⟩
    · cases hq

theorem slice_case {Z : Type} {P : Program} {o : Oper} {ρ : Operand → AV} {k : AV → Option Z} {z : Z} {t : TypeId} {x : Operand} {lo hi : Option Operand}
    (ho : o.op = .slice t x lo hi none) (h : sliceK P t (ρ x) (lo.map ρ) (hi.map ρ) k = some z) : ∃ v, k v = some z ∧ PureTo P o ρ v := by
  unfold sliceK at h
  split at h
  · rename_i e hu
    split at h
    · rename_i d hd
      have noArr : ∀ n e', TypeDesc.slice e ≠ .array n e' := by simp
      split at h
      · rename_i τ xs ex hx
        split at h
        · rename_i hsz
          obtain ⟨l, hl, h⟩ := ob_eq_some.1 h
          obtain ⟨m, hm, h⟩ := ob_eq_some.1 h
          split at h
          · rename_i hc
            obtain ⟨c1, c2, c3⟩ := hc
            refine ⟨_, h, .of_same fun Bad φ nx w η hs => ?_⟩
            have h1 := hs x (by simp [ho, Op.operands])
            rw [hx] at h1
            generalize hxv : η x = v at h1
            cases h1 with
            | fz hr =>
            obtain ⟨a, n, c, rfl, r2, r3, r4, r5, r6⟩ := hr
            have hlo := bnd_of hl (fun y hy => hs y (by simp [ho, Op.operands, hy]))
            have hhi := bnd_of hm (fun y hy => hs y (by simp [ho, Op.operands, hy]))
            rw [← r2] at hhi c3
            have hb := run_sliceBounds (P := P) w hlo hhi c1 c2 c3 r3
            refine ⟨.slice (if c = l.toNat then a else a.map (·.add (l.toNat * P.cellsOf e))) (m.toNat - l.toNat) (c - l.toNat), ?_, .fz ⟨_, _, _, rfl, ?_, by omega, by omega, (fun h => by cases h), fun hpos => ?_⟩⟩
            · simp [execOp, ho, hxv, Instr.sliceAt, Instr.slice, run_underlying hu, hb, run_size hd]
            · rw [List.length_take, List.length_drop]; omega
            · obtain ⟨b', o', ha, hb', hrep⟩ := r6 (by omega)
              refine ⟨b', o' + l.toNat * τ.size, ?_, hb', fun i x hx => ?_⟩
              · rw [if_neg (by omega), ha, hsz]
                simp [addp]
              · rw [List.getElem?_take] at hx
                split at hx
                · rw [List.getElem?_drop] at hx
                  have := hrep (l.toNat + i) x hx
                  rw [Nat.add_mul, ← Nat.add_assoc] at this
                  exact this
                · cases hx
          · cases h
        · cases h
      · rename_i hx
        obtain ⟨l, hl, h2⟩ := ob_eq_some.1 h
        obtain ⟨m, hm, h3⟩ := ob_eq_some.1 h2
        split at h3
        · rename_i hc
          obtain ⟨e1, e2⟩ := hc
          subst e1; subst e2
          refine ⟨_, h3, .of_same fun Bad φ nx w η hs => ?_⟩
          have h1 := hs x (by simp [ho, Op.operands])
          rw [hx] at h1
          generalize hxv : η x = v at h1
          cases h1
          have hlo := bnd_of hl (fun y hy => hs y (by simp [ho, Op.operands, hy]))
          have hhi := bnd_of hm (fun y hy => hs y (by simp [ho, Op.operands, hy]))
          have hb := run_sliceBounds (P := P) (n := 0) (c := 0) w hlo (by simpa using hhi) (by omega) (by omega) (by omega) (by omega)
          refine ⟨.slice none 0 0, ?_, .nils⟩
          simp at hb
          simp [execOp, ho, hxv, Instr.sliceAt, Instr.slice, run_underlying hu, hb, run_size hd]
        · cases h3
      · cases h
    · cases h
  · cases h

theorem run_fieldAt {P : Program} {s : TypeId} {fs : Array Field} {f : Nat} {fd : Field} {i : TypeInfo} (hu : P.underlying s = some (.struct fs)) (hf : fs[f]? = some fd) (hi : P.info? fd.type = some i) (hp : 0 < i.size) (b o : Nat) (w : World) :
    (Instr.fieldAt s (.pointer (some ⟨b, o, none⟩)) f).run P w = .ok (.pointer (some ⟨b, o + fd.offset, none⟩)) w := by
  have h0 : ¬ i.size = 0 := by omega
  simp [Instr.fieldAt, run_underlying hu, hf, Instr.sureAddr, fieldPlace, sizeOf, typeInfo, hi, h0, addp]

theorem fa_case {Z : Type} {P : Program} {o : Oper} {ρ : Operand → AV} {k : AV → Option Z} {z : Z} {s : TypeId} {x : Operand} {f : Nat}
    (ho : o.op = .fieldAddr s x f) (h : faK P s (ρ x) f k = some z) : ∃ v, k v = some z ∧ PureTo P o ρ v := by
  unfold faK at h
  split at h
  · rename_i fs hu
    split at h
    · rename_i fd hf
      split at h
      · rename_i i hi
        split at h
        · rename_i hp
          split at h
          · rename_i id a j hx
            refine ⟨_, h, .of_same fun Bad φ nx w η hs => ?_⟩
            have h1 := hs x (by simp [ho, Op.operands])
            rw [hx] at h1
            generalize hxv : η x = v at h1
            cases h1 with
            | ptrDead h1 h2 => exact ⟨_, by simp only [execOp, ho, hxv, Sem.run_bind, run_fieldAt hu hf hi hp, Result.andThen_ok, Sem.run_pure]; rfl, .ptrDead h1 h2⟩
            | ptr h1 h2 =>
              refine ⟨_, by simp only [execOp, ho, hxv, Sem.run_bind, run_fieldAt hu hf hi hp, Result.andThen_ok, Sem.run_pure]; rfl, ?_⟩
              have := Sim.ptr (N := Imm Bad φ w) (nx := nx) (w := w) (i := a) (j := j + fd.offset) h1 h2
              simpa [Nat.add_assoc] using this
          · rename_i τ y j hx
            refine ⟨_, h, .of_same fun Bad φ nx w η hs => ?_⟩
            have h1 := hs x (by simp [ho, Op.operands])
            rw [hx] at h1
            generalize hxv : η x = v at h1
            cases h1 with
            | fel h1 h2 =>
              refine ⟨_, by simp only [execOp, ho, hxv, Sem.run_bind, run_fieldAt hu hf hi hp, Result.andThen_ok, Sem.run_pure]; rfl, ?_⟩
              rw [Nat.add_assoc]
              exact .fel h1 h2
          · rename_i cs j hx
            refine ⟨_, h, .of_same fun Bad φ nx w η hs => ?_⟩
            have h1 := hs x (by simp [ho, Op.operands])
            rw [hx] at h1
            generalize hxv : η x = v at h1
            cases h1 with
            | lptr h1 h2 h3 =>
              refine ⟨_, by simp only [execOp, ho, hxv, Sem.run_bind, run_fieldAt hu hf hi hp, Result.andThen_ok, Sem.run_pure]; rfl, ?_⟩
              rw [Nat.add_assoc]
              exact .lptr h1 h2 h3
          · cases h
        · cases h
      · cases h
    · cases h
  · cases h

theorem run_indexAt_slice {P : Program} {t e : TypeId} {d : TypeDesc} (hu : P.underlying t = some (.slice e)) (hd : P.underlying e = some d) (b o len cap : Nat) (i : IntKind) (n : Int) (h0 : 0 ≤ n) (h1 : n < len) (w : World) :
    (Instr.indexAt t (.slice (some ⟨b, o, none⟩) len cap) (.int i n)).run P w = .ok (.pointer (some ⟨b, o + n.toNat * P.cellsOf e, none⟩)) w := by
  simp [Instr.indexAt, asIntOf, run_underlying hu, h0, h1, run_size hd, addp]

theorem run_indexAt_array {P : Program} {t e : TypeId} {len : Nat} {d : TypeDesc} (hu : P.underlying t = some (.array len e)) (hd : P.underlying e = some d) (b o : Nat) (i : IntKind) (n : Int) (h0 : 0 ≤ n) (h1 : n < len) (w : World) :
    (Instr.indexAt t (.pointer (some ⟨b, o, none⟩)) (.int i n)).run P w = .ok (.pointer (some ⟨b, o + n.toNat * P.cellsOf e, none⟩)) w := by
  simp [Instr.indexAt, asIntOf, run_underlying hu, h0, h1, run_size hd, addp, Instr.sureAddr]

theorem idx_some {α : Type} {l : List α} {n : Int} {x : α} (h : idx l n = some x) : 0 ≤ n ∧ l[n.toNat]? = some x ∧ n < l.length := by
  unfold idx at h
  split at h
  · rename_i h0
    refine ⟨h0, h, ?_⟩
    rcases Nat.lt_or_ge n.toNat l.length with h1 | h1
    · omega
    · rw [List.getElem?_eq_none h1] at h; cases h
  · cases h

theorem ixa_case {Z : Type} {P : Program} {o : Oper} {ρ : Operand → AV} {k : AV → Option Z} {z : Z} {t : TypeId} {x i : Operand}
    (ho : o.op = .indexAddr t x i) (h : ixaK P t (ρ x) (ρ i) k = some z) : ∃ v, k v = some z ∧ PureTo P o ρ v := by
  have two : ∀ (c d : AV) (u : AV), ρ x = c → ρ i = d → (∀ (Bad : Nat → Prop) (φ : Map) (nx : Nat) (w : World) (a b : Value), Sim (Imm Bad φ w) φ nx w c a → Sim (Imm Bad φ w) φ nx w d b → ∃ v, (Instr.indexAt t a b).run P w = .ok v w ∧ Sim (Imm Bad φ w) φ nx w u v) → PureTo P o ρ u := by
    intro c d u hc hd hr
    refine .of_same fun Bad φ nx w η hs => ?_
    have h1 := hs x (by simp [ho, Op.operands])
    have h2 := hs i (by simp [ho, Op.operands])
    rw [hc] at h1; rw [hd] at h2
    obtain ⟨v, hv, hsim⟩ := hr _ _ _ _ _ _ h1 h2
    exact ⟨v, by simp [execOp, ho, hv], hsim⟩
  unfold ixaK at h
  split at h
  · rename_i e τ l ex j n hu hx hi
    split at h
    · rename_i d hd
      split at h
      · rename_i hsz
        obtain ⟨y, hy, hk⟩ := ob_eq_some.1 h
        obtain ⟨y0, y1, y2⟩ := idx_some hy
        refine ⟨_, hk, two _ _ _ hx hi fun Bad φ nx w a b h1 h2 => ?_⟩
        cases h2
        cases h1 with
        | fz hr =>
        obtain ⟨a, m, c, rfl, r2, r3, r4, r5, r6⟩ := hr
        obtain ⟨b', o', rfl, hb', hrep⟩ := r6 (by omega)
        refine ⟨_, run_indexAt_slice hu hd _ _ _ _ _ _ y0 (by omega) w, ?_⟩
        have := Sim.fel (φ := φ) (nx := nx) (j := 0) hb' (hrep n.toNat y y1)
        rw [← hsz]
        exact this
      · cases h
    · cases h
  · rename_i e size cs j n hu hx hi
    split at h
    · rename_i d hd
      split at h
      · rename_i hc
        obtain ⟨hsz, h0, hle, hp⟩ := hc
        refine ⟨_, h, two _ _ _ hx hi fun Bad φ nx w a b h1 h2 => ?_⟩
        cases h2
        cases h1 with
        | @lits _ m _ a hs hm hh hv =>
        have hm0 : n.toNat < m := by
          rcases Nat.lt_or_ge n.toNat m with h1 | h1
          · exact h1
          · have := Nat.mul_le_mul_right size h1
            omega
        obtain ⟨b, o, rfl, hb, hcell⟩ := hh (by omega)
        refine ⟨_, run_indexAt_slice hu hd _ _ _ _ _ _ h0 (by omega) w, ?_⟩
        rw [← hsz]
        exact .lptr hb hcell (hv b o rfl)
      · cases h
    · cases h
  · rename_i len e id a m j n hu hx hi
    split at h
    · rename_i d hd
      split at h
      · rename_i hc
        refine ⟨_, h, two _ _ _ hx hi fun Bad φ nx w va vb h1 h2 => ?_⟩
        cases h2
        cases h1 with
        | ptrDead h1 h2 => exact ⟨_, run_indexAt_array hu hd _ _ _ _ hc.1 hc.2 w, .ptrDead h1 h2⟩
        | ptr h1 h2 =>
          refine ⟨_, run_indexAt_array hu hd _ _ _ _ hc.1 hc.2 w, ?_⟩
          have := Sim.ptr (N := Imm Bad φ w) (nx := nx) (w := w) (i := a) (j := m + n.toNat * P.cellsOf e) h1 h2
          simpa [Nat.add_assoc] using this
      · cases h
    · cases h
  · rename_i len e τ y m j n hu hx hi
    split at h
    · rename_i d hd
      split at h
      · rename_i hc
        refine ⟨_, h, two _ _ _ hx hi fun Bad φ nx w a b h1 h2 => ?_⟩
        cases h2
        cases h1 with
        | fel h1 h2 =>
          refine ⟨_, run_indexAt_array hu hd _ _ _ _ hc.1 hc.2 w, ?_⟩
          rw [Nat.add_assoc]
          exact .fel h1 h2
      · cases h
    · cases h
  · rename_i len e cs m j n hu hx hi
    split at h
    · rename_i d hd
      split at h
      · rename_i hc
        refine ⟨_, h, two _ _ _ hx hi fun Bad φ nx w a b h1 h2 => ?_⟩
        cases h2
        cases h1 with
        | lptr h1 h2 h3 =>
          refine ⟨_, run_indexAt_array hu hd _ _ _ _ hc.1 hc.2 w, ?_⟩
          rw [Nat.add_assoc]
          exact .lptr h1 h2 h3
      · cases h
    · cases h
  · cases h

theorem wrap_i64 (n : Int) (h0 : -9223372036854775808 ≤ n) (h1 : n ≤ 9223372036854775807) : IntKind.i64.wrap n = n := by
  have e1 : (2 : Int) ^ 64 = 18446744073709551616 := by decide
  have e2 : (2 : Int) ^ (64 - 1) = 9223372036854775808 := by decide
  simp only [IntKind.wrap, IntKind.bits, IntKind.signed, Bool.true_and, decide_eq_true_eq, e1, e2]
  split <;> omega

theorem zero_rep {N : Nat → Prop} {w : World} : ∀ (τ : Ty) (l : List Value), pureK.zeroOk τ l = true → l.length = τ.size ∧
    ∀ b o, (∀ j v, l[j]? = some v → w.cell? ⟨b, o + j, none⟩ = some v) → RepC N w τ (zeroD τ) b o
  | .int k, [.int k' n], h => by
    simp only [pureK.zeroOk, Bool.and_eq_true, decide_eq_true_eq] at h
    obtain ⟨rfl, rfl⟩ := h
    exact ⟨rfl, fun b o hc => hc 0 _ rfl⟩
  | .bool, [.bool x], h => by
    simp only [pureK.zeroOk, Bool.not_eq_true'] at h
    subst h
    exact ⟨rfl, fun b o hc => hc 0 _ rfl⟩
  | .str, [.string s], h => by
    have hs : s = ByteArray.empty := by
      cases s with
      | mk d => simp [pureK.zeroOk] at h; subst h; rfl
    subst hs
    exact ⟨rfl, fun b o hc => hc 0 _ rfl⟩
  | .sl e, [.slice none 0 0], h => ⟨rfl, fun b o hc => ⟨none, 0, 0, hc 0 _ rfl, rfl, Nat.le_refl _, Nat.zero_le _, fun h => absurd h (by omega)⟩⟩
  | .pair s t, l, h => by
    simp only [pureK.zeroOk, Bool.and_eq_true] at h
    obtain ⟨l1, r1⟩ := zero_rep (N := N) (w := w) s _ h.1
    obtain ⟨l2, r2⟩ := zero_rep (N := N) (w := w) t _ h.2
    rw [List.length_take] at l1
    rw [List.length_drop] at l2
    refine ⟨by simp only [Ty.size]; have := t.size_pos; omega, fun b o hc => ⟨r1 b o fun j v hj => ?_, r2 b _ fun j v hj => ?_⟩⟩
    · rw [List.getElem?_take] at hj
      split at hj
      · exact hc j v hj
      · cases hj
    · rw [List.getElem?_drop] at hj
      rw [Nat.add_assoc]
      exact hc _ v hj

theorem mk_some {Z : Type} {P : Program} {t : TypeId} {x y : AV} {k : TypeId → Ty → Int → Option Z} {z : Z} (h : mkK P t x y k = some z) :
    ∃ e τ n, k e τ n = some z ∧ ∀ {N : Nat → Prop} {φ : Map} {nx : Nat} {w : World} {a b : Value}, Sim N φ nx w x a → Sim N φ nx w y b →
      τ.size = P.cellsOf e ∧ n.toNat ≤ maxLen ∧ ∃ cs : Array Value, (Instr.makeSlice t a b).run P w = .ok (.slice (some ⟨w.heap.size, 0, none⟩) n.toNat n.toNat) (w.alloc (.cells cs e)) ∧ cs.size = n.toNat * τ.size ∧
        ∀ (N' : Nat → Prop) (w' : World) (g : Nat), (∀ k, k < cs.size → w'.cell? ⟨g, k, none⟩ = cs[k]?) → ∀ i, i < n.toNat → RepC N' w' τ (zeroD τ) g (i * τ.size) := by
  unfold mkK at h
  split at h
  · rename_i e τ i n j m he
    split at h
    · rename_i inf hinf
      split at h
      · rename_i zz hz
        split at h
        · rename_i hc
          obtain ⟨hnm, h0, hmax, hby, hzero⟩ := hc
          subst hnm
          refine ⟨e, τ, n, h, fun {N φ nx w a b} h1 h2 => ?_⟩
          cases h1; cases h2
          unfold elemTy at he
          split at he
          · rename_i e' hu
            split at he
            · rename_i τ' hty
              split at he
              · rename_i hsz
                simp only [Option.some.injEq, Prod.mk.injEq] at he
                obtain ⟨rfl, rfl⟩ := he
                have hsz' : τ'.size = inf.size := by rw [hsz]; simp [Program.cellsOf, hinf]
                obtain ⟨zl, zr⟩ := zero_rep (N := fun _ => True) (w := w) τ' _ hzero
                have hw : IntKind.i64.wrap n = n := wrap_i64 n (by omega) (by omega)
                have hpos := τ'.size_pos
                have zl' : zz.cells.size = τ'.size := by simpa using zl
                refine ⟨hsz, by unfold maxLen; omega, (Array.range (n.toNat * inf.size)).map (zz.cells[· % zz.cells.size]!), ?_, by simp [hsz'], fun N' w' g hg i hi => ?_⟩
                · have hb : ¬ ((inf.bytes : Int) * n > 281474976710656) := by omega
                  have e48 : (2 : Int) ^ 48 = 281474976710656 := by decide
                  have hn0 : ¬ n < 0 := by omega
                  have hs0 : ¬ inf.size = 0 := by omega
                  have hcond : (((decide (n < 0) || decide ((inf.bytes : Int) * n > 2 ^ 48)) || decide (n < 0)) || decide (n > n)) = false := by
                    rw [e48]; simp [hn0, hb]
                  have hz0 : n.toNat * inf.size = 0 → (Array.range (n.toNat * inf.size)).map (fun x => (#[] : Array Value)[x % (#[] : Array Value).size]!) = (Array.range (n.toNat * inf.size)).map (zz.cells[· % zz.cells.size]!) := by
                    intro h; rw [h]; simp
                  unfold Instr.makeSlice
                  simp only [Sem.run_bind, run_underlying hu, Result.andThen_ok, asInt, asIntOf, Sem.run_pure, typeInfo, run_program, hinf, hw]
                  rw [if_neg (by rw [hcond]; simp)]
                  have hsz1 : (sizeOf e').run P w = .ok inf.size w := by simp [sizeOf, typeInfo, hinf]
                  have hzv : (zeroValue e').run P w = .ok zz w := by simp [zeroValue, typeInfo, hinf, hz]
                  simp only [Sem.run_bind, run_askRoom, Result.andThen_ok, hsz1]
                  by_cases hnz : n.toNat * inf.size = 0
                  · rw [if_pos hnz]
                    simp only [Sem.run_bind, Sem.run_pure, Result.andThen_ok, newRow, run_newObj]
                    rw [hz0 hnz]
                    rfl
                  · rw [if_neg hnz]
                    simp only [Sem.run_bind, Sem.run_pure, Result.andThen_ok, newRow, run_newObj, hzv]
                    rfl
                · refine (zero_rep (N := N') (w := w') τ' _ hzero).2 g _ fun q v hq => ?_
                  have hq' := (List.getElem?_eq_some_iff.1 hq).1
                  have hlt : i * τ'.size + q < n.toNat * inf.size := by
                    rw [← hsz']
                    have := Nat.mul_le_mul_right τ'.size (show i + 1 ≤ n.toNat by omega)
                    rw [Nat.succ_mul] at this
                    simp at hq'
                    omega
                  rw [hg _ (by simpa using hlt)]
                  have hmod : (i * τ'.size + q) % zz.cells.size = q := by
                    rw [zl', Nat.add_comm, Nat.add_mul_mod_self_right]
                    exact Nat.mod_eq_of_lt (by simp at hq'; omega)
                  simp only [Array.getElem?_map, Array.getElem?_range, hlt, if_true, Option.map_some, hmod]
                  have hq2 : q < zz.cells.size := by simpa using hq'
                  rw [getElem!_pos zz.cells _ hq2]
                  rw [← hq]
                  simp [hq2]
              · cases he
            · cases he
          · cases he
        · cases h
      · cases h
    · cases h
  · cases h

theorem World.alloc_heap_new_ (w : World) (o : Obj) : (w.alloc o).heap[w.heap.size]? = some o := by
  show (w.heap.push o)[w.heap.size]? = some o
  simp

theorem mm_case {Z : Type} {P : Program} {o : Oper} {ρ : Operand → AV} {k : AV → Option Z} {z : Z} {b : Builtin} {args : Array Operand} {argTypes : Array TypeId}
    (ho : o.op = .call { callee := .builtin b, args := args, argTypes := argTypes }) (hb : b = .max ∨ b = .min)
    (h : (match args.toList.map ρ with
      | [.int i a, .int _ c] => k (.int i (if (if b = .max then c > a else c < a) then c else a))
      | _ => none) = some z) : ∃ v, k v = some z ∧ PureTo P o ρ v := by
  split at h
  · rename_i i a j c hargs
    refine ⟨_, h, .of_same fun Bad φ nx w η hs => ?_⟩
    obtain ⟨x, l1, hl1, hx, hr⟩ := List.map_eq_cons_iff.1 hargs
    obtain ⟨y, l2, hl2, hy, hr2⟩ := List.map_eq_cons_iff.1 hr
    have hl3 : l2 = [] := List.map_eq_nil_iff.1 hr2
    subst hl3; subst hl2
    have ha : args = #[x, y] := by apply Array.toList_inj.1; rw [hl1]
    subst ha
    have h1 := hs x (by simp [ho, Op.operands, Call.operands])
    have h2 := hs y (by simp [ho, Op.operands, Call.operands])
    rw [hx] at h1; rw [hy] at h2
    generalize hxv : η x = vx at h1
    generalize hyv : η y = vy at h2
    cases h1; cases h2
    rcases hb with rfl | rfl
    · exact ⟨_, by simp [execOp, ho, resolve, invoke, builtin, hxv, hyv, Builtin.max_, Builtin.max2] <;> rfl, .int _ _⟩
    · exact ⟨_, by simp [execOp, ho, resolve, invoke, builtin, hxv, hyv, Builtin.min_, Builtin.min2] <;> rfl, .int _ _⟩
  · cases h

theorem pureK_to {Z : Type} {P : Program} {ann : Nat → Bool} {o : Oper} {ρ : Operand → AV} {k : AV → Option Z} {z : Z} (h : pureK P ann o ρ k = some z) :
    ∃ v, k v = some z ∧ PureTo P o ρ v := by
  unfold pureK at h
  split at h
  · rename_i x ho
    refine ⟨_, h, .of_same fun Bad φ nx w η hs => ⟨η x, by simp [execOp, ho], hs x (by simp [ho, Op.operands])⟩⟩
  · rename_i x ho
    refine ⟨_, h, .of_same fun Bad φ nx w η hs => ⟨η x, by simp [execOp, ho], hs x (by simp [ho, Op.operands])⟩⟩
  · -- pick
    rename_i c x y ho
    split at h
    · rename_i b u v e1 e2 e3
      refine ⟨_, h, .of_same fun Bad φ nx w η hs => ?_⟩
      have h1 := hs c (by simp [ho, Op.operands])
      have h2 := hs x (by simp [ho, Op.operands])
      have h3 := hs y (by simp [ho, Op.operands])
      rw [e1] at h1; rw [e2] at h2; rw [e3] at h3
      generalize hc : η c = vc at h1; generalize hx : η x = vx at h2; generalize hy : η y = vy at h3
      cases h1; cases h2; cases h3
      refine ⟨_, by simp [execOp, ho, hc, hx, hy, asBool]; rfl, ?_⟩
      cases b <;> exact .bool _
    · rename_i b i u j v e1 e2 e3
      split at h
      · rename_i hij
        subst hij
        refine ⟨_, h, .of_same fun Bad φ nx w η hs => ?_⟩
        have h1 := hs c (by simp [ho, Op.operands])
        have h2 := hs x (by simp [ho, Op.operands])
        have h3 := hs y (by simp [ho, Op.operands])
        rw [e1] at h1; rw [e2] at h2; rw [e3] at h3
        generalize hc : η c = vc at h1; generalize hx : η x = vx at h2; generalize hy : η y = vy at h3
        cases h1; cases h2; cases h3
        refine ⟨_, by simp [execOp, ho, hc, hx, hy, asBool]; rfl, ?_⟩
        cases b <;> exact .int _ _
      · cases h
    · rename_i b e1 e2
      cases b with
      | true => cases h
      | false =>
        refine ⟨_, h, .of_same fun Bad φ nx w η hs => ?_⟩
        have h1 := hs c (by simp [ho, Op.operands])
        have h3 := hs y (by simp [ho, Op.operands])
        rw [e1] at h1
        generalize hc : η c = vc at h1
        cases h1
        exact ⟨η y, by simp [execOp, ho, hc, asBool], h3⟩
    · rename_i b e1 e3 _
      cases b with
      | false => cases h
      | true =>
        refine ⟨_, h, .of_same fun Bad φ nx w η hs => ?_⟩
        have h1 := hs c (by simp [ho, Op.operands])
        have h3 := hs x (by simp [ho, Op.operands])
        rw [e1] at h1
        generalize hc : η c = vc at h1
        cases h1
        exact ⟨η x, by simp [execOp, ho, hc, asBool], h3⟩
    · cases h
  · -- build
    rename_i t parts ho
    have fin : ∀ (place : Nat → Option (Nat × Nat)) (z : Value) (cs : List AV), pureK.fillA place (ofConst z).cells (parts.toList.map fun p => (p.1, ρ p.2)) = some cs →
        (∀ vs B, Instr.fill place z.cells vs = some B → P.built t vs = some B) → PureTo P o ρ (.agg cs) := by
      intro place z cs hf hb
      refine .of_same fun Bad φ nx w η hs => ?_
      have hz := ofConst_cells (Imm Bad φ w) φ nx w z
      obtain ⟨B, hB, hcB⟩ := fill_sim place _ (parts.toList.map fun p => (p.1, η p.2)) _ z.cells cs (by simp) (part_sims (.inl ⟨t, ho⟩) hs) hz hf
      refine ⟨.agg B, ?_, .agg hcB.1 hcB.2⟩
      have := run_build (P := P) w t (parts.map fun p => (p.1, η p.2)) B (hb _ _ (by simpa using hB))
      simp [execOp, ho, this]
    split at h
    · rename_i it fs hit hu
      split at h
      · rename_i z places hz hpl
        obtain ⟨cs, hf, hk⟩ := ob_eq_some.1 h
        refine ⟨_, hk, fin _ z cs hf fun vs B hB => ?_⟩
        simp only [Program.built, hit, hu, hz, hpl]
        simpa using hB
      · cases h
    · rename_i it n e hit hu
      split at h
      · rename_i z ie hz hie
        obtain ⟨cs, hf, hk⟩ := ob_eq_some.1 h
        refine ⟨_, hk, fin _ z cs hf fun vs B hB => ?_⟩
        simp only [Program.built, hit, hu, hz, hie]
        exact hB
      · cases h
    · cases h
  · -- buildSlice
    rename_i t len parts ho
    split at h
    · rename_i e hu
      split at h
      · rename_i ie hie
        split at h
        · rename_i z hz
          split at h
          · rename_i hc
            obtain ⟨hsmall, hpos, hzl, hza⟩ := hc
            obtain ⟨cs, hf, hk⟩ := ob_eq_some.1 h
            refine ⟨_, hk, fun Bad φ nx w η hbad hown hs => ?_⟩
            have hzc := ofConst_cells (Imm Bad φ w) φ nx w z
            have hzs : z.cells.size = ie.size := by rw [← hzc.1]; exact hzl
            have hrow : Cells (Imm Bad φ w) φ nx w (List.replicate len (ofConst z).cells).flatten ((Array.range (len * ie.size)).map (z.cells[· % z.cells.size]!)) := by
              refine ⟨by simp [hzl], fun i c v hc hv => ?_⟩
              have hi := cell_len hc
              have hi' : i < len * (ofConst z).cells.length := by simpa using hi
              rw [rep_get _ _ (by omega) _ hi'] at hc
              have hm : i % z.cells.size < z.cells.size := Nat.mod_lt _ (by omega)
              rw [hzl] at hi'
              simp only [Array.getElem?_map, Array.getElem?_range, hi', if_true, Option.map_some, Option.some.injEq] at hv
              refine hzc.2 (i % z.cells.size) c v (by rw [← hzc.1]; exact hc) ?_
              rw [← hv, getElem!_pos z.cells _ hm, Array.getElem?_eq_getElem hm]
            obtain ⟨B, hB, hcB⟩ := fill_sim _ _ (parts.toList.map fun p => (p.1, η p.2)) _ _ cs (by simp) (part_sims (.inr ⟨t, len, ho⟩) hs) hrow hf
            have hbs : B.size = len * ie.size := by rw [← hcB.1]; have := fill_len _ _ _ _ hf; rw [this]; simp [hzl]
            have hrun : (Instr.buildSlice t len (parts.map fun p => (p.1, η p.2))).run P w = .ok (.slice (some ⟨w.heap.size, 0, none⟩) len len) (w.alloc (.cells B e)) := by
              rcases Nat.eq_zero_or_pos len with h0 | h0
              · subst h0
                simp only [Nat.zero_mul] at hB
                simp [Instr.buildSlice, run_underlying hu, sizeOf, typeInfo, hie, newRow]
                have e0 : (Array.range 0).map (fun x => z.cells[x % z.cells.size]!) = #[] := by simp
                rw [e0] at hB
                have e1 : Array.map (fun _ => (default : Value)) (Array.range 0) = #[] := by simp
                rw [e1, hB]
                simp
              · exact run_buildSlice w t e len _ B ie z hu hie hz (by omega) (by have := Nat.mul_pos h0 hpos; omega) (by simpa using hB)
            have hg := Grew.alloc w (.cells B e)
            refine ⟨.slice (some ⟨w.heap.size, 0, none⟩) len len, w.alloc (.cells B e), by simp [execOp, ho, hrun], hg, ?_⟩
            have himm := imm_new (φ := φ) hbad hown (.cells B e)
            refine .lits (by rw [hcB.1, hbs]) (by unfold maxLen; have := Nat.mul_le_mul_left len hpos; omega) (fun _ => ⟨_, _, rfl, himm, fun i c hc => ?_⟩) (fun b o' hbo i c v hc hcell => ?_)
            · have hi := cell_len hc
              rw [hcB.1] at hi
              exact ⟨B[i], by simp [hi]⟩
            · injection hbo with hbo
              injection hbo with e1 e2 _
              subst e1; subst e2
              have hi := cell_len hc
              rw [hcB.1] at hi
              rw [Nat.zero_add, World.cell?_alloc_new] at hcell
              exact hg.sim (hcB.2 i c v hc hcell)
          · cases h
        · cases h
      · cases h
    · cases h
  · -- nilCheck
    rename_i x ho
    have fin : ∀ c, ρ x = c → (∀ (N : Nat → Prop) φ nx w v, Sim N φ nx w c v → ∃ a, v = .pointer (some a)) → PureTo P o ρ c := by
      intro c hc hrun
      refine .of_same fun Bad φ nx w η hs => ?_
      have h1 := hs x (by simp [ho, Op.operands])
      rw [hc] at h1
      obtain ⟨a, ha⟩ := hrun _ _ _ _ _ h1
      exact ⟨η x, by simp [execOp, ho, ha], h1⟩
    split at h
    · rename_i id i j e
      exact ⟨_, h, fin _ e fun N φ nx w v hv => by cases hv <;> exact ⟨_, rfl⟩⟩
    · rename_i τ x j e
      exact ⟨_, h, fin _ e fun N φ nx w v hv => by cases hv; exact ⟨_, rfl⟩⟩
    · rename_i cs j e
      exact ⟨_, h, fin _ e fun N φ nx w v hv => by cases hv; exact ⟨_, rfl⟩⟩
    · cases h
  · -- binOp
    rename_i op xt x y yt ho
    exact bin_case ho h
  · rename_i op xt x ho
    exact un_case ho h
  · -- convert
    rename_i src dst x ho
    split at h
    · rename_i i0 i j n hu0 hu hx
      refine ⟨_, h, .of_same fun Bad φ nx w η hs => ?_⟩
      have h1 := hs x (by simp [ho, Op.operands])
      rw [hx] at h1
      generalize hv : η x = v at h1
      cases h1
      exact ⟨_, by simp [execOp, ho, hv, convert, run_underlying hu0, run_underlying hu, Conv.intToInt] <;> rfl, .int _ _⟩
    · rename_i s hu0 hu hx
      refine ⟨_, h, .of_same fun Bad φ nx w η hs => ?_⟩
      have h1 := hs x (by simp [ho, Op.operands])
      rw [hx] at h1
      generalize hv : η x = v at h1
      cases h1
      exact ⟨_, by simp [execOp, ho, hv, convert, run_underlying hu0, run_underlying hu] <;> rfl, .str _⟩
    · cases h
  · rename_i t x lo hi mx ho
    split at h
    · exact slice_case ho h
    · cases h
  · rename_i s x f ho
    exact fa_case ho h
  · -- field
    rename_i t x f ho
    split at h
    · rename_i fs cs hu hx
      split at h
      · rename_i fd hf
        obtain ⟨c, hc, hk⟩ := ob_eq_some.1 h
        refine ⟨_, hk, .of_same fun Bad φ nx w η hs => ?_⟩
        have h1 := hs x (by simp [ho, Op.operands])
        rw [hx] at h1
        obtain ⟨A, hA, hl⟩ := agg_len h1
        obtain ⟨v, hv, hsim⟩ := run_part (P := P) w w hl hc
        exact ⟨v, by simp [execOp, ho, hA, Instr.field, run_underlying hu, hf, asAgg, hv], hsim⟩
      · cases h
    · cases h
  · rename_i t x i ho
    exact ixa_case ho h
  · -- index
    rename_i t x i ho
    split at h
    · rename_i len e cs j n hu hx hi
      split at h
      · rename_i d hd
        split at h
        · rename_i hn
          obtain ⟨c, hc, hk⟩ := ob_eq_some.1 h
          refine ⟨_, hk, .of_same fun Bad φ nx w η hs => ?_⟩
          have h1 := hs x (by simp [ho, Op.operands])
          have h2 := hs i (by simp [ho, Op.operands])
          rw [hx] at h1; rw [hi] at h2
          obtain ⟨A, hA, hl⟩ := agg_len h1
          generalize hiv : η i = vi at h2
          cases h2
          obtain ⟨v, hv, hsim⟩ := run_part (P := P) w w hl hc
          exact ⟨v, by simp [execOp, ho, hA, hiv, Instr.index, asIntOf, run_underlying hu, hn.1, hn.2, run_size hd, hv], hsim⟩
        · cases h
      · cases h
    · rename_i s j n hu hx hi
      obtain ⟨c, hc, hk⟩ := ob_eq_some.1 h
      refine ⟨_, hk, .of_same fun Bad φ nx w η hs => ?_⟩
      have h1 := hs x (by simp [ho, Op.operands])
      have h2 := hs i (by simp [ho, Op.operands])
      rw [hx] at h1; rw [hi] at h2
      generalize hxv : η x = vx at h1
      generalize hiv : η i = vi at h2
      cases h1; cases h2
      unfold idx at hc
      split at hc
      · rename_i h0
        have hlt : n.toNat < s.data.size := by
          rcases Nat.lt_or_ge n.toNat s.data.size with h1 | h1
          · exact h1
          · rw [List.getElem?_eq_none (by simpa using h1)] at hc; cases hc
        have hget : s[n.toNat]? = some c := by
          have : s.data[n.toNat]? = some c := by rw [← hc]; simp
          rw [Array.getElem?_eq_getElem hlt] at this
          simp only [Option.some.injEq] at this
          have hs2 : n.toNat < s.size := hlt
          rw [getElem?_pos s n.toNat hs2]
          congr 1
        exact ⟨_, by simp [execOp, ho, hxv, hiv, Instr.index, asIntOf, run_underlying hu, h0, hget] <;> rfl, .int _ _⟩
      · cases hc
    · cases h
  · -- extract
    rename_i x i ho
    split at h
    · rename_i cs hx
      split at h
      · rename_i v hv
        refine ⟨_, h, .of_same fun Bad φ nx w η hs => ?_⟩
        have h1 := hs x (by simp [ho, Op.operands])
        rw [hx] at h1
        generalize hxv : η x = vx at h1
        cases h1 with
        | @tuple _ vs hn hh =>
        have hi := cell_len hv
        rw [hn] at hi
        exact ⟨vs[i], by simp [execOp, ho, hxv, Instr.extract, hi], hh i v _ hv (by simp [hi])⟩
      · cases h
    · cases h
  · -- makeFunc
    rename_i fn first captured ho
    split at h
    · rename_i f hfst
      have e1 : first = #[] := by apply Array.toList_inj.1; simpa using hfst
      subst e1
      refine ⟨_, h, .of_same fun Bad φ nx w η hs => ?_⟩
      refine ⟨.func (.func f) #[] (captured.map η), by simp [execOp, ho, Instr.makeFunc], .clo (by simp) fun i c v hc hv => ?_⟩
      rw [List.getElem?_map] at hc
      rw [Array.getElem?_map] at hv
      cases hx : captured[i]? with
      | none => simp [hx] at hv
      | some x =>
        simp only [Array.getElem?_toList, hx, Option.map_some, Option.some.injEq] at hc hv
        subst hc; subst hv
        refine hs x ?_
        have hm : x ∈ captured := Array.mem_of_getElem? hx
        simp only [ho, Op.operands, Array.mem_append]
        exact .inr hm
    · cases h
  · -- range
    rename_i t x ho
    split at h
    · rename_i kt et hu hx
      refine ⟨_, h, fun Bad φ nx w η hbad hown hs => ?_⟩
      have h1 := hs x (by simp [ho, Op.operands])
      rw [hx] at h1
      generalize hv : η x = v at h1
      cases h1
      have hg := Grew.alloc w (.mapIter none 0 #[] 0)
      have himm := imm_new (φ := φ) hbad hown (.mapIter none 0 #[] 0)
      refine ⟨.pointer (some ⟨w.heap.size, 0, none⟩), w.alloc (.mapIter none 0 #[] 0), ?_, hg, .nit himm (World.alloc_heap_new_ w _)⟩
      simp [execOp, ho, hv, Instr.range, run_underlying hu, run_newObj_alloc, Sem.run_bind, Result.andThen]
    · cases h
  · -- next
    rename_i x isStr ho
    split at h
    · rename_i hx
      cases isStr with
      | true => simp at h
      | false =>
        simp only [Bool.false_eq_true, if_false] at h
        refine ⟨_, h, .of_same fun Bad φ nx w η hs => ?_⟩
        have h1 := hs x (by simp [ho, Op.operands])
        rw [hx] at h1
        generalize hv : η x = v at h1
        cases h1 with
        | @nit b hb hh =>
        refine ⟨.tuple #[.bool false], ?_, .tuple (by simp) fun i c v hc hv => ?_⟩
        · simp [execOp, ho, hv, Instr.next, getObj, Sem.run_bind, Sem.run, hh, Result.andThen]
        · match i with
          | 0 => simp at hc hv; subst hc; subst hv; exact .bool _
          | i + 1 => simp at hc
    · cases h
  · -- make
    rename_i t l c ho
    split at h
    · cases h
    · rename_i hann
      obtain ⟨e, τ, n, hk, hm⟩ := mk_some h
      refine ⟨_, hk, fun Bad φ nx w η hbad hown hs => ?_⟩
      have h1 := hs l (by simp [ho, Op.operands])
      have h2 := hs c (by simp [ho, Op.operands])
      obtain ⟨hsz, hn, cs, hrun, hlen, hcs⟩ := hm (φ := φ) (nx := nx) (N := Imm Bad φ w) (w := w) h1 h2
      have hg := Grew.alloc w (.cells cs e)
      have himm := imm_new (φ := φ) hbad hown (.cells cs e)
      refine ⟨.slice (some ⟨w.heap.size, 0, none⟩) n.toNat n.toNat, w.alloc (.cells cs e), by simp [execOp, ho, hrun], hg, .fz ⟨_, n.toNat, n.toNat, rfl, by simp, Nat.le_refl _, hn, fun _ => rfl, fun _ => ⟨_, _, rfl, himm, fun i x hx => ?_⟩⟩⟩
      rw [List.getElem?_replicate] at hx
      split at hx
      · rename_i hi
        simp only [Option.some.injEq] at hx
        subst hx
        rw [Nat.zero_add]
        exact hcs _ _ _ (fun k hk => by simp) i hi
      · cases hx
  · -- len
    rename_i args argTypes ho
    split at h
    · rename_i x t e1 e2
      have mem : x ∈ o.op.operands := by
        have : x ∈ args.toList := by rw [e1]; simp
        simp [ho, Op.operands, Call.operands]
        exact Array.mem_toList_iff.1 this
      have ex : args[0]? = some x := by rw [← Array.getElem?_toList, e1]; rfl
      have et : argTypes[0]? = some t := by rw [← Array.getElem?_toList, e2]; rfl
      have fin : ∀ (c u : AV) (r : Value), ρ x = c → lit u = some r → (∀ (N : Nat → Prop) (φ : Map) (nx : Nat) (w : World) (v : Value), Sim N φ nx w c v → (Builtin.len_ argTypes o.type (args.map fun _ => v)).run P w = .ok r w) → PureTo P o ρ u := by
        intro c u r hc hu hr
        refine .of_same fun Bad φ nx w η hs => ?_
        have h1 := hs x mem
        rw [hc] at h1
        have hmap : args.map η = args.map fun _ => η x := by
          apply Array.toList_inj.1
          simp [e1]
        have := hr _ φ nx w _ h1
        refine ⟨r, ?_, lit_sim hu⟩
        simp [execOp, ho, resolve, invoke, builtin, hmap, this]
      unfold lenK at h
      split at h
      · rename_i e τ l ex' hu hx
        refine ⟨_, h, fin _ _ _ hx rfl fun N φ nx w v hv => ?_⟩
        cases hv with
        | fz hr =>
        obtain ⟨a, n, c, rfl, r2, _⟩ := hr
        simp [Builtin.len_, et, ex, run_underlying hu, r2, goInt]
      · rename_i e hu hx
        refine ⟨_, h, fin _ _ _ hx rfl fun N φ nx w v hv => ?_⟩
        cases hv
        simp [Builtin.len_, et, ex, run_underlying hu, goInt]
      · rename_i e size cs hu hx
        split at h
        · rename_i hp
          refine ⟨_, h, fin _ _ _ hx rfl fun N φ nx w v hv => ?_⟩
          cases hv with
          | @lits _ m _ a hs hm hh hv =>
          have : cs.length / size = m := by rw [← hs]; exact Nat.mul_div_cancel _ hp
          simp [Builtin.len_, et, ex, run_underlying hu, goInt]
          omega
        · cases h
      · rename_i s hu hx
        refine ⟨_, h, fin _ _ _ hx rfl fun N φ nx w v hv => ?_⟩
        cases hv
        simp [Builtin.len_, et, ex, run_underlying hu, goInt]
      · rename_i n e cs hu hx
        refine ⟨_, h, fin _ _ _ hx rfl fun N φ nx w v hv => ?_⟩
        cases hv
        simp [Builtin.len_, et, ex, run_underlying hu, goInt]
      · cases h
    · cases h
  · -- cap
    rename_i args argTypes ho
    split at h
    · rename_i x t e1 e2
      split at h
      · rename_i e hu hx
        have mem : x ∈ o.op.operands := by
          have : x ∈ args.toList := by rw [e1]; simp
          simp [ho, Op.operands, Call.operands]
          exact Array.mem_toList_iff.1 this
        have ex : args[0]? = some x := by rw [← Array.getElem?_toList, e1]; rfl
        have et : argTypes[0]? = some t := by rw [← Array.getElem?_toList, e2]; rfl
        refine ⟨_, h, .of_same fun Bad φ nx w η hs => ?_⟩
        have h1 := hs x mem
        rw [hx] at h1
        have hmap : args.map η = args.map fun _ => η x := by
          apply Array.toList_inj.1
          simp [e1]
        generalize hv : η x = v at h1 hmap
        cases h1
        exact ⟨_, by simp [execOp, ho, resolve, invoke, builtin, hmap, Builtin.cap_, et, ex, run_underlying hu, goInt] <;> rfl, .int _ _⟩
      · cases h
    · cases h
  · rename_i args argTypes ho
    exact mm_case (b := .max) ho (.inl rfl) h
  · rename_i args argTypes ho
    exact mm_case (b := .min) ho (.inr rfl) h
  · cases h

end Go.Ph

/- The entries of maps whose keys are numbers. -/
namespace Go.Ph
open Go.RowKit

/-- An entry, in the model. -/
abbrev entI (kk : IntKind) (τ : Ty) (x : Int × τ.D × Nat) : MapEntry := entryOf (κ := .int kk) (τ := τ) x

/-- A map's type whose keys are numbers. -/
theorem mapK_some {P : Program} {t kt et : Nat} {z : Value} (h : mapK P t = some (kt, et, z)) : P.underlying t = some (.map kt et) ∧ (∃ ik, P.underlying kt = some (.int ik)) ∧ (P.info? et).bind (·.zero) = some z := by
  unfold mapK at h
  split at h
  · rename_i kt' et' hu
    split at h
    · rename_i ik z' hk hz
      simp only [Option.some.injEq, Prod.mk.injEq] at h
      obtain ⟨rfl, rfl, rfl⟩ := h
      exact ⟨hu, ⟨ik, hk⟩, hz⟩
    · cases h
  · cases h

theorem beq_int (a b : Int) : (a == b) = decide (b = a) := by
  by_cases h : a = b
  · subst h; simp
  · have h' : ¬ b = a := fun e => h e.symm
    simp [h, h']

theorem find_none {ik kk : IntKind} {τ : Ty} {n : Int} : ∀ (es : Ents τ.D) (i : Nat), findE n es = none → Instr.findNow (.int ik) (.int kk n) (es.map (entI kk τ)) i = some none
  | [], i, h => rfl
  | (k, x, b) :: r, i, h => by
    simp only [findE] at h
    cases hd : decide (k = n) with
    | true => rw [hd] at h; cases h
    | false =>
      rw [hd, cond_false] at h
      have := find_none (ik := ik) (kk := kk) r (i + 1) h
      simp only [List.map_cons, Instr.findNow, entI, entryOf, valV, Instr.sameNow, if_true, beq_int, hd]
      exact this

theorem find_some {ik kk : IntKind} {τ : Ty} {n : Int} {x : τ.D} {b : Nat} : ∀ (es : Ents τ.D) (i : Nat), findE n es = some (x, b) →
    ∃ j, Instr.findNow (.int ik) (.int kk n) (es.map (entI kk τ)) i = some (some (i + j, valV τ x)) ∧ (es.map (entI kk τ))[j]? = some (entI kk τ (n, x, b))
  | [], i, h => by cases h
  | (k, y, c) :: r, i, h => by
    simp only [findE] at h
    cases hd : decide (k = n) with
    | true =>
      rw [hd, cond_true] at h
      simp only [Option.some.injEq, Prod.mk.injEq] at h
      obtain ⟨rfl, rfl⟩ := h
      have he : k = n := of_decide_eq_true hd
      subst he
      refine ⟨0, ?_, rfl⟩
      simp only [List.map_cons, Instr.findNow, entI, entryOf, valV, Instr.sameNow, if_true, beq_int, hd]
      rfl
    | false =>
      rw [hd, cond_false] at h
      obtain ⟨j, h1, h2⟩ := find_some (ik := ik) (kk := kk) r (i + 1) h
      refine ⟨j + 1, ?_, by simpa using h2⟩
      simp only [List.map_cons, Instr.findNow, entI, entryOf, valV, Instr.sameNow, if_true, beq_int, hd]
      rw [show i + (j + 1) = i + 1 + j by omega]
      exact h1

theorem set_none {α : Type} {n : Int} {d : α} : ∀ (es : Ents α), setE n d es = none → findE n es = none
  | [], h => rfl
  | (k, x, b) :: r, h => by
    simp only [setE] at h
    simp only [findE]
    cases hd : decide (k = n) with
    | true => rw [hd] at h; cases h
    | false =>
      rw [hd, cond_false] at h
      rw [cond_false]
      split at h
      · cases h
      · rename_i hr
        exact set_none r hr

/-- The entry that is found is set. -/
theorem set_some {ik kk : IntKind} {τ : Ty} {n : Int} {d : τ.D} : ∀ (es es' : Ents τ.D) (i : Nat), setE n d es = some es' →
    ∃ j x b, Instr.findNow (.int ik) (.int kk n) (es.map (entI kk τ)) i = some (some (i + j, valV τ x)) ∧ (es.map (entI kk τ))[j]? = some (entI kk τ (n, x, b)) ∧
      es'.map (entI kk τ) = (es.map (entI kk τ)).modify j (fun e => { e with val := valV τ d })
  | [], es', i, h => by cases h
  | (k, y, c) :: r, es', i, h => by
    simp only [setE] at h
    cases hd : decide (k = n) with
    | true =>
      rw [hd, cond_true] at h
      simp only [Option.some.injEq] at h
      subst h
      have he : k = n := of_decide_eq_true hd
      subst he
      refine ⟨0, y, c, ?_, rfl, by simp [List.modify, entI, entryOf]⟩
      simp only [List.map_cons, Instr.findNow, entI, entryOf, valV, Instr.sameNow, if_true, beq_int, hd]
      rfl
    | false =>
      rw [hd, cond_false] at h
      split at h
      · rename_i r' hr
        simp only [Option.some.injEq] at h
        subst h
        obtain ⟨j, x, b, h1, h2, h3⟩ := set_some (ik := ik) (kk := kk) r r' (i + 1) hr
        refine ⟨j + 1, x, b, ?_, by simpa using h2, ?_⟩
        · simp only [List.map_cons, Instr.findNow, entI, entryOf, valV, Instr.sameNow, if_true, beq_int, hd]
          rw [show i + (j + 1) = i + 1 + j by omega]
          exact h1
        · simp only [List.map_cons, List.modify_succ_cons, List.cons.injEq, true_and]
          exact h3
      · cases h

theorem setB_some {kk : IntKind} {τ : Ty} {m : Int} {d : τ.D} : ∀ (es es' : Ents τ.D), setB m d es = some es' →
    ∃ j, (es.map (entI kk τ)).findIdx? (fun e => (e.born : Int) == m) = some j ∧ es'.map (entI kk τ) = (es.map (entI kk τ)).modify j (fun e => { e with val := valV τ d })
  | [], es', h => by cases h
  | (k, y, c) :: r, es', h => by
    simp only [setB] at h
    cases hd : decide ((c : Int) = m) with
    | true =>
      rw [hd, cond_true] at h
      simp only [Option.some.injEq] at h
      subst h
      have he : (c : Int) = m := of_decide_eq_true hd
      refine ⟨0, ?_, by simp [List.modify, entI, entryOf]⟩
      simp [List.findIdx?_cons, entI, entryOf, he]
    | false =>
      rw [hd, cond_false] at h
      split at h
      · rename_i r' hr
        simp only [Option.some.injEq] at h
        subst h
        obtain ⟨j, h1, h3⟩ := setB_some (kk := kk) r r' hr
        have he : ¬ (c : Int) = m := of_decide_eq_false hd
        refine ⟨j + 1, ?_, ?_⟩
        · have hb : ((c : Int) == m) = false := by simpa using he
          simp only [List.map_cons, List.findIdx?_cons, entI, entryOf] at h1 ⊢
          simp only [hb, Bool.false_eq_true, if_false]
          rw [h1]
          rfl
        · simp only [List.map_cons, List.modify_succ_cons, List.cons.injEq, true_and]
          exact h3
      · cases h

theorem del_none {α : Type} {n : Int} : ∀ (es : Ents α), findE n es = none → delE n es = es
  | [], h => rfl
  | (k, x, b) :: r, h => by
    simp only [findE] at h
    simp only [delE]
    cases hd : decide (k = n) with
    | true => rw [hd] at h; cases h
    | false =>
      rw [hd, cond_false] at h
      rw [cond_false, del_none r h]

theorem del_some {ik kk : IntKind} {τ : Ty} {n : Int} {x : τ.D} {b : Nat} : ∀ (es : Ents τ.D) (i : Nat), findE n es = some (x, b) →
    ∃ j, Instr.findNow (.int ik) (.int kk n) (es.map (entI kk τ)) i = some (some (i + j, valV τ x)) ∧ j < es.length ∧ (delE n es).map (entI kk τ) = (es.map (entI kk τ)).eraseIdx j
  | [], i, h => by cases h
  | (k, y, c) :: r, i, h => by
    simp only [findE] at h
    simp only [delE]
    cases hd : decide (k = n) with
    | true =>
      rw [cond_true]
      refine ⟨0, ?_, by simp, rfl⟩
      rw [hd, cond_true] at h
      simp only [Option.some.injEq, Prod.mk.injEq] at h
      obtain ⟨rfl, rfl⟩ := h
      simp only [List.map_cons, Instr.findNow, entI, entryOf, valV, Instr.sameNow, if_true, beq_int, hd]
      rfl
    | false =>
      rw [hd, cond_false] at h
      rw [cond_false]
      obtain ⟨j, h1, h2, h3⟩ := del_some (ik := ik) (kk := kk) r (i + 1) h
      refine ⟨j + 1, ?_, by simp; omega, by simpa using h3⟩
      simp only [List.map_cons, Instr.findNow, entI, entryOf, valV, Instr.sameNow, if_true, beq_int, hd]
      rw [show i + (j + 1) = i + 1 + j by omega]
      exact h1

def VC (N : Nat → Prop) (φ : Map) (nx : Nat) (w : World) (cs : List AV) (vs : List Value) : Prop :=
  cs.length = vs.length ∧ ∀ (i : Nat) (c : AV) (v : Value), cs[i]? = some c → vs[i]? = some v → Sim N φ nx w c v

section
variable {φ : Map} {nx : Nat} {w : World} {N : Nat → Prop}

/-- Data without slices are their values' cells. -/
theorem cells_flat : ∀ (τ : Ty) (x : τ.D), noSl τ = true → VC N φ nx w (cellsOf τ x) (flatV τ x)
  | .int k, n, _ => ⟨rfl, fun i c v hc hv => by
    match i with
    | 0 => simp [cellsOf, flatV] at hc hv; subst hc; subst hv; exact .int _ _
    | i + 1 => simp [cellsOf] at hc⟩
  | .bool, b, _ => ⟨rfl, fun i c v hc hv => by
    match i with
    | 0 => simp [cellsOf, flatV] at hc hv; subst hc; subst hv; exact .bool _
    | i + 1 => simp [cellsOf] at hc⟩
  | .str, s, _ => ⟨rfl, fun i c v hc hv => by
    match i with
    | 0 => simp [cellsOf, flatV] at hc hv; subst hc; subst hv; exact .str _
    | i + 1 => simp [cellsOf] at hc⟩
  | .sl e, l, h => by simp [noSl] at h
  | .pair a b, x, h => by
    simp only [noSl, Bool.and_eq_true] at h
    obtain ⟨l1, s1⟩ := cells_flat a x.1 h.1
    obtain ⟨l2, s2⟩ := cells_flat b x.2 h.2
    refine ⟨by simp [cellsOf, flatV, l1, l2], fun i c v hc hv => ?_⟩
    simp only [cellsOf, flatV] at hc hv
    by_cases hi : i < (cellsOf a x.1).length
    · rw [List.getElem?_append_left hi] at hc
      rw [List.getElem?_append_left (by omega)] at hv
      exact s1 i c v hc hv
    · rw [List.getElem?_append_right (by omega)] at hc
      rw [List.getElem?_append_right (by omega)] at hv
      rw [l1] at hc
      exact s2 _ c v hc hv

theorem avOf_sim (τ : Ty) (x : τ.D) (h : noSl τ = true) : Sim N φ nx w (avOf τ x) (valV τ x) := by
  cases τ with
  | int k => exact .int _ _
  | bool => exact .bool _
  | str => exact .str _
  | sl e => simp [noSl] at h
  | pair a b =>
    obtain ⟨h1, h2⟩ := cells_flat (N := N) (φ := φ) (nx := nx) (w := w) (.pair a b) x h
    exact .agg (by simpa using h1) fun i c v hc hv => h2 i c v hc (by simpa using hv)
end

theorem outL_sim {N : Nat → Prop} {φ : Map} {nx : Nat} {w : World} {c : AV} {v : Value} (hs : Sim N φ nx w c v) (ok b : Bool) : Sim N φ nx w (outL ok c b) (if ok then .tuple #[v, .bool b] else v) := by
  cases ok with
  | false => exact hs
  | true =>
    refine .tuple (by simp) fun i x u hx hu => ?_
    match i with
    | 0 => simp at hx hu; subst hx; subst hu; exact hs
    | 1 => simp at hx hu; subst hx; subst hu; exact .bool _
    | i + 2 => simp at hx

theorem value_run {P : Program} {s : Sem Value} {v : Value} {w w' : World} (h : s.run P w = .ok v w') : (do pure (Next.value (← s)) : Sem Next).run P w = .ok (.value v) w' := by
  simp [Sem.run_bind, h, Result.andThen]

theorem skip_run {P : Program} {s : Sem Unit} {w w' : World} (h : s.run P w = .ok () w') : (do s; pure Next.skip : Sem Next).run P w = .ok .skip w' := by
  simp [Sem.run_bind, h, Result.andThen]

theorem run_zero {P : Program} {et : Nat} {z : Value} (h : (P.info? et).bind (·.zero) = some z) (w : World) : (zeroValue et).run P w = .ok z w := by
  cases hi : P.info? et with
  | none => rw [hi] at h; cases h
  | some i =>
    rw [hi] at h
    simp only [Option.bind_some] at h
    simp [zeroValue, typeInfo, hi, h]

theorem run_check {P : Program} {kt : TypeId} {ik : IntKind} (hk : P.underlying kt = some (.int ik)) (e : Bool) (kk : IntKind) (n : Int) (w : World) : (Instr.checkKey e 10000 kt (.int kk n)).run P w = .ok () w := by
  unfold Instr.checkKey
  simp only [Sem.run_bind, und hk w, Result.andThen]
  rfl

theorem run_keyStays {P : Program} (kk : IntKind) (n : Int) (w : World) : (Instr.keyThatStays (.int kk n) (.int kk n)).run P w = .ok (.int kk n) w := by
  simp [Instr.keyThatStays, Instr.sameBits]

/-- A lookup, run. -/
theorem run_look {P : Program} {w : World} {t kt et : Nat} {z : Value} {kk ik : IntKind} {τ : Ty} {n : Int} {es : Ents τ.D} {c b : Nat} (hu : P.underlying t = some (.map kt et)) (hk : P.underlying kt = some (.int ik))
    (hz : (P.info? et).bind (·.zero) = some z) (hb : w.heap[b]? = some (.map (es.map (entI kk τ)).toArray c)) (ok : Bool) :
    (Instr.lookup t (.map (some b)) (.int kk n) ok).run P w = .ok (match findE n es with
      | some d => if ok then .tuple #[valV τ d.1, .bool true] else valV τ d.1
      | none => if ok then .tuple #[z, .bool false] else z) w := by
  have h1 := MapKept.run_getObj_map (P := P) hb
  have h2 := run_check (P := P) hk (es.map (entI kk τ)).toArray.isEmpty kk n w
  cases hf : findE n es with
  | none =>
    have h3 := MapKept.run_findKey (P := P) (w := w) hk (find_none (ik := ik) (kk := kk) es 0 hf)
    simp only [Instr.lookup, Sem.run_bind, und hu w, Result.andThen, h1, h2, h3, run_zero hz w, Sem.run_pure]
  | some d =>
    obtain ⟨j, h4, _⟩ := find_some (ik := ik) (kk := kk) (x := d.1) (b := d.2) es 0 hf
    have h3 := MapKept.run_findKey (P := P) (w := w) hk h4
    simp only [Instr.lookup, Sem.run_bind, und hu w, Result.andThen, h1, h2, h3, Sem.run_pure]

theorem run_look_nil {P : Program} {w : World} {t kt et : Nat} {z : Value} {kk ik : IntKind} {n : Int} (hu : P.underlying t = some (.map kt et)) (hk : P.underlying kt = some (.int ik))
    (hz : (P.info? et).bind (·.zero) = some z) (ok : Bool) :
    (Instr.lookup t (.map none) (.int kk n) ok).run P w = .ok (if ok then .tuple #[z, .bool false] else z) w := by
  have h2 := run_check (P := P) hk (#[] : Array MapEntry).isEmpty kk n w
  have h3 := MapKept.run_findKey (P := P) (w := w) (k := .int kk n) (l := []) (a := none) hk rfl
  simp only [Instr.lookup, Sem.run_bind, und hu w, Result.andThen, h2, h3, run_zero hz w, Sem.run_pure]

end Go.Ph

/- What the evaluator says of the operations that read rows. -/
namespace Go.Ph
open Go.RowKit

/-- The operation comes to the value where the rows are as the heap says. -/
def ReadTo (P : Program) (o : Oper) (ρ : Operand → AV) (h : AH) (v : AV) : Prop :=
  ∀ (Bad : Nat → Prop) (φ : Map) (w : World) (η : Operand → Value), Rel Bad φ h w → (∀ x ∈ o.op.operands, Sim (Imm Bad φ w) φ h.next w (ρ x) (η x)) →
    ∃ v' w', (execOp η o).run P w = .ok (.value v') w' ∧ Grew w w' ∧ Sim (Imm Bad φ w') φ h.next w' v v'

theorem PureTo.read {P : Program} {o : Oper} {ρ : Operand → AV} {v : AV} (hp : PureTo P o ρ v) (h : AH) : ReadTo P o ρ h v :=
  fun Bad φ w η hr hs => hp Bad φ h.next w η hr.bad (fun id l b hl hb => (hr.ok id l b hl hb).2) hs

theorem run_load {P : Program} {t : Nat} {l : List AV} {j b o : Nat} {c : AV} {N : Nat → Prop} {φ : Map} {nx : Nat} {w : World} (hp : partOf P t l j = some c)
    (hc : ∀ i x, l[i]? = some x → ∃ v, w.cell? ⟨b, o + i, none⟩ = some v ∧ Sim N φ nx w x v) : ∃ v, (loadVar t ⟨b, o + j, none⟩).run P w = .ok v w ∧ Sim N φ nx w c v := by
  have agg : ∀ d, P.underlying t = some d → (match d with | .struct _ => true | .array _ _ => true | _ => false) = true → j + P.cellsOf t ≤ l.length →
      ∃ v, (loadVar t ⟨b, o + j, none⟩).run P w = .ok v w ∧ Sim N φ nx w (.agg ((l.drop j).take (P.cellsOf t))) v := by
    intro d hd hda hle
    have hag : (isAgg t).run P w = .ok true w := by
      unfold isAgg
      rw [Sem.run_bind, und hd w]
      cases d <;> simp_all
    have hl := run_loadCells (P := P) w ⟨b, o + j, none⟩ (P.cellsOf t) (fun q => (w.cell? ⟨b, o + j + q, none⟩).getD undef) (fun q hq => by
      obtain ⟨v, hv, _⟩ := hc (j + q) l[j + q] (by simp)
      rw [addp, Nat.add_assoc, hv]
      rfl)
    refine ⟨_, by simp [loadVar, hag, run_size hd, hl] <;> rfl, .agg (by simp; omega) fun i x v hx hv => ?_⟩
    rw [List.getElem?_take] at hx
    split at hx
    · rename_i hi
      rw [List.getElem?_drop] at hx
      obtain ⟨u, hu, hs⟩ := hc (j + i) x hx
      simp only [List.getElem?_toArray, List.getElem?_map, List.getElem?_range hi, Option.map_some, Option.some.injEq] at hv
      rw [Nat.add_assoc, hu] at hv
      simp only [Option.getD_some] at hv
      subst hv
      exact hs
    · cases hx
  unfold partOf at hp
  split at hp
  · rename_i fs hd
    split at hp
    · rename_i hle
      simp only [Option.some.injEq] at hp
      subst hp
      exact agg _ hd rfl hle
    · cases hp
  · rename_i n e hd
    split at hp
    · rename_i hle
      simp only [Option.some.injEq] at hp
      subst hp
      exact agg _ hd rfl hle
    · cases hp
  · rename_i d hns hna hd
    have hag : (isAgg t).run P w = .ok false w := by
      unfold isAgg
      rw [Sem.run_bind, und hd w]
      cases d <;> simp_all
    obtain ⟨v, hv, hs⟩ := hc j c hp
    exact ⟨v, by simp [loadVar, hag, hv], hs⟩
  · cases hp

theorem load_to {P : Program} {o : Oper} {ρ : Operand → AV} {h : AH} {t : Nat} {a : Operand} (ho : o.op = .load t a) {c : AV}
    (hr : ∀ (Bad : Nat → Prop) (φ : Map) (w : World) (v : Value), Rel Bad φ h w → Sim (Imm Bad φ w) φ h.next w (ρ a) v → ∃ ad u, v = .pointer (some ad) ∧ (loadVar t ad).run P w = .ok u w ∧ Sim (Imm Bad φ w) φ h.next w c u) : ReadTo P o ρ h c := by
  intro Bad φ w η hrel hs
  have h1 := hs a (by simp [ho, Op.operands])
  obtain ⟨ad, u, h2, h3, h4⟩ := hr Bad φ w _ hrel h1
  exact ⟨u, w, by simp [execOp, ho, h2, Instr.loadAt, Instr.sureAddr, h3], .refl w, h4⟩

/-- A live row's place. -/
theorem Rel.row {Bad : Nat → Prop} {φ : Map} {h : AH} {w : World} (hr : Rel Bad φ h w) {id : Nat} {r : Row} (hg : h.get id = some r) : ∃ l, φ id = some l ∧ Fits w l r := hr.live id r hg

theorem run_size' {P : Program} {t : Nat} (h : 0 < P.cellsOf t) (w : World) : (sizeOf t).run P w = .ok (P.cellsOf t) w := by
  unfold Program.cellsOf at h ⊢
  cases hi : P.info? t with
  | none => simp [hi] at h
  | some i => simp [sizeOf, typeInfo, hi]

theorem run_indexAt_slice' {P : Program} {t e : TypeId} (hu : P.underlying t = some (.slice e)) (hd : 0 < P.cellsOf e) (b o len cap : Nat) (i : IntKind) (n : Int) (h0 : 0 ≤ n) (h1 : n < len) (w : World) :
    (Instr.indexAt t (.slice (some ⟨b, o, none⟩) len cap) (.int i n)).run P w = .ok (.pointer (some ⟨b, o + n.toNat * P.cellsOf e, none⟩)) w := by
  simp [Instr.indexAt, asIntOf, run_underlying hu, h0, h1, run_size' hd, addp]

theorem ixa_to {P : Program} {o : Oper} {ρ : Operand → AV} {h : AH} {t : Nat} {x i : Operand} (ho : o.op = .indexAddr t x i) {c : AV}
    (hr : ∀ (Bad : Nat → Prop) (φ : Map) (w : World) (a b : Value), Rel Bad φ h w → Sim (Imm Bad φ w) φ h.next w (ρ x) a → Sim (Imm Bad φ w) φ h.next w (ρ i) b → ∃ u, (Instr.indexAt t a b).run P w = .ok u w ∧ Sim (Imm Bad φ w) φ h.next w c u) : ReadTo P o ρ h c := by
  intro Bad φ w η hrel hs
  obtain ⟨u, h3, h4⟩ := hr Bad φ w _ _ hrel (hs x (by simp [ho, Op.operands])) (hs i (by simp [ho, Op.operands]))
  exact ⟨u, w, by simp [execOp, ho, h3], .refl w, h4⟩

theorem sliceAt_run {P : Program} {t e : TypeId} (hu : P.underlying t = some (.slice e)) (hd : 0 < P.cellsOf e) {a : Option Addr} {n c l m : Nat} {lo hi : Option Value} {w : World}
    (hb : (Instr.sliceBounds true n c lo hi none).run P w = .ok (l, m, c) w) :
    (do pure (Next.value (← Instr.sliceAt t (.slice a n c) lo hi none)) : Sem Next).run P w = .ok (.value (.slice (if c = l then a else a.map (·.add (l * P.cellsOf e))) (m - l) (c - l))) w := by
  simp [Instr.sliceAt, Instr.slice, run_underlying hu, hb, run_size' hd]

theorem readK_to {Z : Type} {P : Program} {ann : Nat → Bool} {o : Oper} {ρ : Operand → AV} {h : AH} {k : AV → Option Z} {z : Z} (hk : readK P ann o ρ h k = some z) :
    ∃ v, k v = some z ∧ ∀ h2 : AH, (∀ id ∈ readsOf o ρ, h2.get id = h.get id) → ReadTo P o ρ h2 v := by
  have pure_ : pureK P ann o ρ k = some z → ∃ v, k v = some z ∧ ∀ h2 : AH, (∀ id ∈ readsOf o ρ, h2.get id = h.get id) → ReadTo P o ρ h2 v := fun hp => by
    obtain ⟨v, h1, h2⟩ := pureK_to hp
    exact ⟨v, h1, fun h2' _ => h2.read h2'⟩
  unfold readK at hk
  split at hk
  · -- load
    rename_i t a ho
    split at hk
    · rename_i id i j ha
      have hrd : readsOf o ρ = [id] := by simp [readsOf, ho, ha]
      split at hk
      · rename_i cs hg
        split at hk
        · rename_i hi
          subst hi
          obtain ⟨c, hc, hk⟩ := ob_eq_some.1 hk
          refine ⟨c, hk, fun h2 hh => load_to ho fun Bad φ w v hrel hs => ?_⟩
          have hg2 : h2.get id = some (.raw cs) := by rw [hh id (by simp [hrd]), hg]
          rw [ha] at hs
          obtain ⟨l, hl, hf⟩ := hrel.row hg2
          cases hs with
          | ptrDead h1 _ => rw [h1] at hl; cases hl
          | @ptr _ _ _ b o' l' h1 h3 =>
          rw [h1] at hl
          simp only [Option.some.injEq] at hl
          subst hl
          obtain ⟨u, hu, hsu⟩ := run_load (P := P) (N := Imm Bad φ w) (φ := φ) (nx := h2.next) (b := b) (o := o') hc (fun i x hx => by
            obtain ⟨v, h5, _, h6⟩ := hrel.cells id _ _ b o' hg2 h1 h3 i x hx
            exact ⟨v, h5, h6⟩)
          exact ⟨_, u, rfl, by simpa using hu, hsu⟩
        · cases hk
      · rename_i τ l hg
        obtain ⟨x, hx, hk⟩ := ob_eq_some.1 hk
        obtain ⟨c, hc, hk⟩ := ob_eq_some.1 hk
        refine ⟨c, hk, fun h2 hh => load_to ho fun Bad φ w v hrel hs => ?_⟩
        have hg2 : h2.get id = some (.typ τ l) := by rw [hh id (by simp [hrd]), hg]
        rw [ha] at hs
        obtain ⟨lc, hl, hf⟩ := hrel.row hg2
        cases hs with
        | ptrDead h1 _ => rw [h1] at hl; cases hl
        | @ptr _ _ _ b o' l' h1 h3 =>
        rw [h1] at hl
        simp only [Option.some.injEq] at hl
        subst hl
        have hesz : l'.esz = τ.size := hf.esz
        obtain ⟨u, hu, hsu⟩ := run_load (P := P) (N := Imm Bad φ w) (φ := φ) (nx := h2.next) (b := b) (o := o' + i * τ.size) hc (fun q y hy => by
          have hq := cell_len hy
          rw [cellsOf_length] at hq
          have hflat : (Row.typ τ l).flat[i * τ.size + q]? = some y := by
            simp only [Row.flat]
            rw [flat_typ_get τ l i q hq, hx]
            exact hy
          obtain ⟨v, h5, _, h6⟩ := hrel.cells id _ _ b o' hg2 h1 h3 _ y hflat
          exact ⟨v, by rw [Nat.add_assoc]; exact h5, h6⟩)
        exact ⟨_, u, rfl, by rw [hesz, ← Nat.add_assoc]; exact hu, hsu⟩
      · cases hk
    · rename_i τ x j ha
      obtain ⟨c, hc, hk⟩ := ob_eq_some.1 hk
      refine ⟨c, hk, fun h2 hh => load_to ho fun Bad φ w v hrel hs => ?_⟩
      rw [ha] at hs
      cases hs with
      | @fel _ _ _ b o' h1 h3 =>
      obtain ⟨u, hu, hsu⟩ := run_load (P := P) (N := Imm Bad φ w) (φ := φ) (nx := h2.next) (b := b) (o := o') hc (fun q y hy => RepC.cells τ x b o' h3 q y hy)
      exact ⟨_, u, rfl, hu, hsu⟩
    · rename_i cs j ha
      obtain ⟨c, hc, hk⟩ := ob_eq_some.1 hk
      refine ⟨c, hk, fun h2 hh => load_to ho fun Bad φ w v hrel hs => ?_⟩
      rw [ha] at hs
      cases hs with
      | @lptr _ _ b o' h1 h3 h4 =>
      obtain ⟨u, hu, hsu⟩ := run_load (P := P) (N := Imm Bad φ w) (φ := φ) (nx := h2.next) (b := b) (o := o') hc (fun q y hy => by
        obtain ⟨v, hv⟩ := h3 q y hy
        exact ⟨v, hv, h4 q y v hy hv⟩)
      exact ⟨_, u, rfl, hu, hsu⟩
    · cases hk
  · -- indexAddr
    rename_i t x i ho
    split at hk
    · rename_i id j n e hx hi hu
      split at hk
      · rename_i τ l hg
        split at hk
        · rename_i hsz
          obtain ⟨y, hy, hk⟩ := ob_eq_some.1 hk
          obtain ⟨y0, y1, y2⟩ := idx_some hy
          refine ⟨_, hk, fun h2 hh => ixa_to ho fun Bad φ w va vb hrel h1 h3 => ?_⟩
          have hg2 : h2.get id = some (.typ τ l) := by rw [hh id (by simp [readsOf, ho, hx]), hg]
          obtain ⟨lc, hl, hf⟩ := hrel.row hg2
          rw [hx] at h1; rw [hi] at h3
          have hlen : lc.len = l.length := hf.len
          have hesz : lc.esz = τ.size := hf.esz
          cases h3
          cases h1 with
          | ownDead h1 _ => rw [h1] at hl; cases hl
          | ownNil h1 h4 =>
            rw [h1] at hl
            simp only [Option.some.injEq] at hl
            subst hl
            have := (hf.nowhere h4).1
            omega
          | @own _ b o' l' h1 h4 =>
            rw [h1] at hl
            simp only [Option.some.injEq] at hl
            subst hl
            refine ⟨_, run_indexAt_slice' hu (by rw [← hsz]; exact τ.size_pos) _ _ _ _ _ _ y0 (by omega) w, ?_⟩
            have := Sim.ptr (N := Imm Bad φ w) (nx := h2.next) (w := w) (i := n.toNat) (j := 0) h1 h4
            rw [← hsz, ← hesz]
            exact this
        · cases hk
      · cases hk
    · rename_i id off m j n e hx hi hu
      split at hk
      · rename_i τ l hg
        split at hk
        · rename_i hc
          obtain ⟨hsz, h0, h1m⟩ := hc
          refine ⟨_, hk, fun h2 hh => ixa_to ho fun Bad φ w va vb hrel h1 h3 => ?_⟩
          have hg2 : h2.get id = some (.typ τ l) := by rw [hh id (by simp [readsOf, ho, hx]), hg]
          obtain ⟨lc, hl, hf⟩ := hrel.row hg2
          rw [hx] at h1; rw [hi] at h3
          have hlen : lc.len = l.length := hf.len
          have hesz : lc.esz = τ.size := hf.esz
          cases h3
          cases h1 with
          | ownpDead h1 _ => rw [h1] at hl; cases hl
          | ownpNil h1 h4 => omega
          | @ownp _ _ _ c b o' l' a h1 h4 h5 h6 h7 h8 =>
            rw [h1] at hl
            simp only [Option.some.injEq] at hl
            subst hl
            have ha := h8 (by omega)
            subst ha
            refine ⟨_, run_indexAt_slice' hu (by rw [← hsz]; exact τ.size_pos) _ _ _ _ _ _ h0 (by omega) w, ?_⟩
            have := Sim.ptr (N := Imm Bad φ w) (nx := h2.next) (w := w) (i := off + n.toNat) (j := 0) h1 h4
            rw [← hsz, ← hesz, Nat.add_assoc, ← Nat.add_mul]
            exact this
        · cases hk
      · cases hk
    · exact pure_ hk
  · -- len
    rename_i args argTypes ho
    split at hk
    · rename_i x t e1 e2
      have mem : x ∈ o.op.operands := by
        have : x ∈ args.toList := by rw [e1]; simp
        simp [ho, Op.operands, Call.operands]
        exact Array.mem_toList_iff.1 this
      have ex : args[0]? = some x := by rw [← Array.getElem?_toList, e1]; rfl
      have et : argTypes[0]? = some t := by rw [← Array.getElem?_toList, e2]; rfl
      have fin : ∀ (h2 : AH) (n : Nat) (e : TypeId), P.underlying t = some (.slice e) → (∀ (Bad : Nat → Prop) (φ : Map) (w : World) (v : Value), Rel Bad φ h2 w → Sim (Imm Bad φ w) φ h2.next w (ρ x) v → ∃ a c, v = .slice a n c) → ReadTo P o ρ h2 (.int .i64 n) := by
        intro h2 n e hu hr Bad φ w η hrel hs
        obtain ⟨a, c, hv⟩ := hr Bad φ w _ hrel (hs x mem)
        have hmap : args.map η = args.map fun _ => η x := by
          apply Array.toList_inj.1
          simp [e1]
        have hrun : (Builtin.len_ argTypes o.type (args.map fun _ => η x)).run P w = .ok (.int .i64 n) w := by
          rw [hv]
          simp [Builtin.len_, et, ex, run_underlying hu, goInt]
        exact ⟨_, w, by simp [execOp, ho, resolve, invoke, builtin, hmap, hrun] <;> rfl, .refl w, .int _ _⟩
      split at hk
      · rename_i id e hx hu
        split at hk
        · rename_i τ l hg
          refine ⟨_, hk, fun h2 hh => fin h2 _ e hu fun Bad φ w v hrel hs => ?_⟩
          have hg2 : h2.get id = some (.typ τ l) := by rw [hh id (by simp [readsOf, ho, e1, hx]), hg]
          obtain ⟨lc, hl, hf⟩ := hrel.row hg2
          have hlen : lc.len = l.length := hf.len
          rw [hx] at hs
          cases hs with
          | ownDead h1 _ => rw [h1] at hl; cases hl
          | ownNil h1 h4 =>
            rw [h1] at hl
            simp only [Option.some.injEq] at hl
            subst hl
            have := (hf.nowhere h4).1
            exact ⟨_, 0, by rw [show l.length = 0 by omega]⟩
          | @own _ b o' l' h1 h4 =>
            rw [h1] at hl
            simp only [Option.some.injEq] at hl
            subst hl
            exact ⟨_, _, by rw [hlen]⟩
        · cases hk
      · rename_i id off n e hx hu
        split at hk
        · rename_i τ l hg
          refine ⟨_, hk, fun h2 hh => fin h2 _ e hu fun Bad φ w v hrel hs => ?_⟩
          have hg2 : h2.get id = some (.typ τ l) := by rw [hh id (by simp [readsOf, ho, e1, hx]), hg]
          obtain ⟨lc, hl, hf⟩ := hrel.row hg2
          rw [hx] at hs
          cases hs with
          | ownpDead h1 _ => rw [h1] at hl; cases hl
          | ownpNil h1 h4 => exact ⟨_, _, rfl⟩
          | ownp h1 h4 h5 h6 h7 h8 => exact ⟨_, _, rfl⟩
        · cases hk
      · rename_i id kt' et' hx hu
        split at hk
        · rename_i κ τ es c hg
          refine ⟨_, hk, fun h2 hh Bad φ w η hrel hs => ?_⟩
          have hg2 : h2.get id = some (.mp κ τ es c) := by rw [hh id (by simp [readsOf, ho, e1, hx]), hg]
          obtain ⟨lc, hl, hf⟩ := hrel.row hg2
          have h1 := hs x mem
          rw [hx] at h1
          have hmap : args.map η = args.map fun _ => η x := by
            apply Array.toList_inj.1
            simp [e1]
          generalize hv : η x = v at h1 hmap
          cases h1 with
          | mapDead h1 _ => rw [h1] at hl; cases hl
          | @mapp _ b l' h1 h4 =>
            rw [h1] at hl
            simp only [Option.some.injEq] at hl
            subst hl
            have hb := hf.there b 0 h4
            have hrun : (Builtin.len_ argTypes o.type (args.map fun _ => Value.map (some b))).run P w = .ok (.int .i64 es.length) w := by
              simp [Builtin.len_, et, ex, run_underlying hu, goInt, MapKept.run_getObj_map (P := P) hb, Sem.run_bind, Result.andThen]
            exact ⟨_, w, by simp [execOp, ho, resolve, invoke, builtin, hmap, hrun] <;> rfl, .refl w, .int _ _⟩
        · cases hk
      · rename_i kt' et' hx hu
        refine ⟨_, hk, fun h2 hh Bad φ w η hrel hs => ?_⟩
        have h1 := hs x mem
        rw [hx] at h1
        have hmap : args.map η = args.map fun _ => η x := by
          apply Array.toList_inj.1
          simp [e1]
        generalize hv : η x = v at h1 hmap
        cases h1
        have hrun : (Builtin.len_ argTypes o.type (args.map fun _ => Value.map none)).run P w = .ok (.int .i64 0) w := by
          simp [Builtin.len_, et, ex, run_underlying hu, goInt]
        exact ⟨_, w, by simp [execOp, ho, resolve, invoke, builtin, hmap, hrun] <;> rfl, .refl w, .int _ _⟩
      · exact pure_ hk
    · cases hk
  · -- lookup
    rename_i t x i ok ho
    unfold lookK at hk
    split at hk
    · rename_i kt et z' ki n hm hi
      obtain ⟨hu, ⟨ik, hkt⟩, hz⟩ := mapK_some hm
      split at hk
      · rename_i hx
        refine ⟨_, hk, fun h2 hh Bad φ w η hrel hs => ?_⟩
        have h1 := hs x (by simp [ho, Op.operands])
        have h3 := hs i (by simp [ho, Op.operands])
        rw [hx] at h1
        rw [hi] at h3
        generalize hv : η x = v at h1
        generalize hv2 : η i = v2 at h3
        cases h1
        cases h3
        exact ⟨_, w, by simp only [execOp, ho, hv, hv2]; exact value_run (run_look_nil hu hkt hz ok), .refl w, outL_sim (ofConst_sim _ _) ok false⟩
      · rename_i id hx
        split at hk
        · rename_i kk τ es c hg
          split at hk
          · rename_i hkk
            obtain ⟨hkk, hno⟩ := hkk
            subst hkk
            have main : ∀ v, k v = some z → (∀ (N : Nat → Prop) (φ : Map) (nx : Nat) (w : World), Sim N φ nx w v (match findE n es with
                | some d => if ok then .tuple #[valV τ d.1, .bool true] else valV τ d.1
                | none => if ok then .tuple #[z', .bool false] else z')) → ∃ v, k v = some z ∧ ∀ (h2 : AH), (∀ id ∈ readsOf o ρ, h2.get id = h.get id) → ReadTo P o ρ h2 v := by
              intro v hkv hsv
              refine ⟨v, hkv, fun h2 hh Bad φ w η hrel hs => ?_⟩
              have hg2 : h2.get id = some (.mp (.int kk) τ es c) := by rw [hh id (by simp [readsOf, ho, hx]), hg]
              obtain ⟨lc, hl, hf⟩ := hrel.row hg2
              have h1 := hs x (by simp [ho, Op.operands])
              have h3 := hs i (by simp [ho, Op.operands])
              rw [hx] at h1
              rw [hi] at h3
              generalize hv : η x = v1 at h1
              generalize hv2 : η i = v2 at h3
              cases h3
              cases h1 with
              | mapDead h1 _ => rw [h1] at hl; cases hl
              | @mapp _ b l' h1 h4 =>
                rw [h1] at hl
                simp only [Option.some.injEq] at hl
                subst hl
                have hb := hf.there b 0 h4
                exact ⟨_, w, by simp only [execOp, ho, hv, hv2]; exact value_run (run_look hu hkt hz hb ok), .refl w, hsv _ _ _ _⟩
            split at hk
            · rename_i d hd
              refine main _ hk fun N φ nx w => ?_
              rw [hd]
              exact outL_sim (avOf_sim τ d.1 hno) ok true
            · rename_i hd
              refine main _ hk fun N φ nx w => ?_
              rw [hd]
              exact outL_sim (ofConst_sim _ _) ok false
          · cases hk
        · cases hk
      · cases hk
    · cases hk
  · -- slice
    rename_i t x lo hi mx ho
    split at hk
    · rename_i id e hx hu
      split at hk
      · rename_i τ xs hg
        split at hk
        · rename_i hsz
          obtain ⟨l, hl, hk⟩ := ob_eq_some.1 hk
          obtain ⟨m, hm, hk⟩ := ob_eq_some.1 hk
          split at hk
          · rename_i hc
            obtain ⟨c1, c2, c3⟩ := hc
            refine ⟨_, hk, fun h2 hh Bad φ w η hrel hs => ?_⟩
            have hg2 : h2.get id = some (.typ τ xs) := by rw [hh id (by simp [readsOf, ho, hx]), hg]
            obtain ⟨lc, hlc, hf⟩ := hrel.row hg2
            have hlen : lc.len = xs.length := hf.len
            have hesz : lc.esz = τ.size := hf.esz
            have hle := hf.le
            have h1 := hs x (by simp [ho, Op.operands])
            rw [hx] at h1
            generalize hxv : η x = v at h1
            have hlo := bnd_of hl (fun y hy => hs y (by simp [ho, Op.operands, hy]))
            have hhi := bnd_of hm (fun y hy => hs y (by simp [ho, Op.operands, hy]))
            have hpos : 0 < P.cellsOf e := by rw [← hsz]; exact τ.size_pos
            cases h1 with
            | ownDead h1 _ => rw [h1] at hlc; cases hlc
            | @ownNil _ l' a h1 h4 =>
              rw [h1] at hlc
              simp only [Option.some.injEq] at hlc
              subst hlc
              obtain ⟨n1, n2⟩ := hf.nowhere h4
              have hx0 : (xs.length : Int) = 0 := by omega
              rw [hx0] at hhi
              have hb := run_sliceBounds (P := P) (n := 0) (c := 0) w hlo (by simpa using hhi) c1 c2 (by omega) (by omega)
              refine ⟨_, w, by simp only [execOp, ho, hxv]; exact sliceAt_run hu hpos hb, .refl w, ?_⟩
              have e1 : l.toNat = 0 := by omega
              have e2 : m.toNat = 0 := by omega
              simp only [e1, e2]
              exact .ownpNil h1 h4
            | @own _ b o' l' h1 h4 =>
              rw [h1] at hlc
              simp only [Option.some.injEq] at hlc
              subst hlc
              rw [← hlen] at hhi c3
              have hb := run_sliceBounds (P := P) w hlo hhi c1 c2 c3 hle
              refine ⟨_, w, by simp only [execOp, ho, hxv]; exact sliceAt_run hu hpos hb, .refl w, ?_⟩
              refine .ownp h1 h4 (by omega) (by omega) (by omega) (fun hc0 => ?_)
              rw [if_neg (by omega)]
              simp [addp, hesz, hsz]
          · cases hk
        · cases hk
      · cases hk
    · rename_i id off n e hx hu
      split at hk
      · rename_i τ xs hg
        split at hk
        · rename_i hsz
          obtain ⟨l, hl, hk⟩ := ob_eq_some.1 hk
          obtain ⟨m, hm, hk⟩ := ob_eq_some.1 hk
          split at hk
          · rename_i hc
            obtain ⟨c1, c2, c3⟩ := hc
            refine ⟨_, hk, fun h2 hh Bad φ w η hrel hs => ?_⟩
            have hg2 : h2.get id = some (.typ τ xs) := by rw [hh id (by simp [readsOf, ho, hx]), hg]
            obtain ⟨lc, hlc, hf⟩ := hrel.row hg2
            have hlen : lc.len = xs.length := hf.len
            have hesz : lc.esz = τ.size := hf.esz
            have hle := hf.le
            have h1 := hs x (by simp [ho, Op.operands])
            rw [hx] at h1
            generalize hxv : η x = v at h1
            have hlo := bnd_of hl (fun y hy => hs y (by simp [ho, Op.operands, hy]))
            have hhi := bnd_of hm (fun y hy => hs y (by simp [ho, Op.operands, hy]))
            have hpos : 0 < P.cellsOf e := by rw [← hsz]; exact τ.size_pos
            cases h1 with
            | ownpDead h1 _ => rw [h1] at hlc; cases hlc
            | @ownpNil _ _ l' a h1 h4 =>
              rw [h1] at hlc
              simp only [Option.some.injEq] at hlc
              subst hlc
              have hb := run_sliceBounds (P := P) (n := 0) (c := 0) w hlo (by simpa using hhi) c1 c2 (by omega) (by omega)
              refine ⟨_, w, by simp only [execOp, ho, hxv]; exact sliceAt_run hu hpos hb, .refl w, ?_⟩
              have e1 : l.toNat = 0 := by omega
              have e2 : m.toNat = 0 := by omega
              simp only [e1, e2]
              exact .ownpNil h1 h4
            | @ownp _ _ _ c b o' l' a h1 h4 h5 h6 h7 h8 =>
              rw [h1] at hlc
              simp only [Option.some.injEq] at hlc
              subst hlc
              have hb := run_sliceBounds (P := P) w hlo hhi c1 c2 c3 h6
              refine ⟨_, w, by simp only [execOp, ho, hxv]; exact sliceAt_run hu hpos hb, .refl w, ?_⟩
              refine .ownp h1 h4 (by omega) (by omega) (by omega) (fun hc0 => ?_)
              rw [if_neg (by omega), h8 (by omega)]
              simp [addp, hesz, hsz, Nat.add_mul, Nat.add_assoc]
          · cases hk
        · cases hk
      · cases hk
    · exact pure_ hk
  · exact pure_ hk

end Go.Ph

end
