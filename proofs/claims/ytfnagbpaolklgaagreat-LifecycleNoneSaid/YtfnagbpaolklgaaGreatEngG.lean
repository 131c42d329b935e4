/- An evaluator of the given program's form, and that it is sound: part 7. -/
import Derived.Test.YtfnagbpaolklgaaGreatEngF
import Derived.ProofKit
set_option linter.unusedVariables false
noncomputable section
/- Calls in a heap of their own; results as data. -/
namespace Go.Ph
open Go.RowKit

/-- A value as a datum. -/
def datumO (τ : Ty) (c : AV) (h : AH) : Option (τ.D × AH) :=
  match c with
  | .agg cs => match τ with
    | .pair a b => datum (.pair a b) cs h
    | _ => none
  | c => match τ with
    | .pair _ _ => none
    | τ => datum τ [c] h

/-- A datum as a value. -/
def canonV : (τ : Ty) → τ.D → AV
  | .int k, n => .int k n
  | .bool, b => .bool b
  | .str, s => .str s
  | .sl e, l => .fz e l false
  | .pair a b, x => .agg (cellsOf (.pair a b) x)

theorem datumO_to {Bad : Nat → Prop} {w : World} {τ : Ty} {c : AV} {h : AH} {x : τ.D} {h' : AH} {φ : Map} {v : Value} (hd : datumO τ c h = some (x, h')) (hr : Rel Bad φ h w) (hs : Sim (Imm Bad φ w) φ h.next w c v) :
    ∃ φ', Goes Bad φ h w φ' h' w ∧ Sim (Imm Bad φ' w) φ' h'.next w (canonV τ x) v := by
  have single : ∀ (τ : Ty) (x : τ.D), (∀ a b, τ ≠ .pair a b) → datum τ [c] h = some (x, h') → ∃ φ', Goes Bad φ h w φ' h' w ∧ Sim (Imm Bad φ' w) φ' h'.next w (canonV τ x) v := by
    intro τ x hn hd
    obtain ⟨φ', g, hv⟩ := datum_to τ [c] h x h' φ [v] hd hr (.one hs)
    refine ⟨φ', g, ?_⟩
    cases τ with
    | pair a b => exact absurd rfl (hn a b)
    | int k => exact hv.2 0 _ _ rfl rfl
    | bool => exact hv.2 0 _ _ rfl rfl
    | str => exact hv.2 0 _ _ rfl rfl
    | sl e => exact hv.2 0 _ _ rfl rfl
  cases c with
  | agg cs =>
    cases τ with
    | pair a b =>
      simp only [datumO] at hd
      cases hs with
      | @agg _ vs hn hv =>
        obtain ⟨φ', g, hc⟩ := datum_to (.pair a b) cs h x h' φ vs.toList hd hr ⟨by simpa using hn, fun i c v hc hv' => hv i c v hc (by simpa using hv')⟩
        exact ⟨φ', g, .agg (by simpa using hc.1) fun i c v hc' hv' => hc.2 i c v hc' (by simpa using hv')⟩
    | _ => cases hd
  | _ =>
    cases τ with
    | pair a b => cases hd
    | _ => exact single _ x (fun a b h => (by cases h)) hd

/-- How a result comes out: as a datum, or as it is. -/
def outOne (o : Option Ty) (c : AV) (h : AH) : Option (AV × AH) :=
  match o with
  | some τ => match datumO τ c h with
    | some (x, h') => some (canonV τ x, h')
    | none => none
  | none => some (c, h)

def outsL : List (Option Ty) → List AV → AH → Option (List AV × AH)
  | [], [], h => some ([], h)
  | o :: os, c :: cs, h => match outOne o c h with
    | some (c', h1) => match outsL os cs h1 with
      | some (cs', h2) => some (c' :: cs', h2)
      | none => none
    | none => none
  | _, _, _ => none

def outV (os : List (Option Ty)) (c : AV) (h : AH) : Option (AV × AH) :=
  match os with
  | [o] => outOne o c h
  | os => match c with
    | .tuple cs => match outsL os cs h with
      | some (cs', h') => some (.tuple cs', h')
      | none => none
    | _ => none

theorem outOne_to {Bad : Nat → Prop} {w : World} {o : Option Ty} {c c' : AV} {h h' : AH} {φ : Map} {v : Value} (hd : outOne o c h = some (c', h')) (hr : Rel Bad φ h w) (hs : Sim (Imm Bad φ w) φ h.next w c v) :
    ∃ φ', Goes Bad φ h w φ' h' w ∧ Sim (Imm Bad φ' w) φ' h'.next w c' v := by
  unfold outOne at hd
  split at hd
  · split at hd
    · rename_i x h1 hx
      simp only [Option.some.injEq, Prod.mk.injEq] at hd
      obtain ⟨rfl, rfl⟩ := hd
      exact datumO_to hx hr hs
    · cases hd
  · simp only [Option.some.injEq, Prod.mk.injEq] at hd
    obtain ⟨rfl, rfl⟩ := hd
    exact ⟨φ, .refl hr, hs⟩

theorem outsL_to {Bad : Nat → Prop} {w : World} : ∀ {os : List (Option Ty)} {cs cs' : List AV} {h h' : AH} {φ : Map} {vs : List Value}, outsL os cs h = some (cs', h') → Rel Bad φ h w → VCells (Imm Bad φ w) φ h.next w cs vs →
    ∃ φ', Goes Bad φ h w φ' h' w ∧ VCells (Imm Bad φ' w) φ' h'.next w cs' vs
  | [], [], cs', h, h', φ, vs, hd, hr, hv => by
    simp only [outsL, Option.some.injEq, Prod.mk.injEq] at hd
    obtain ⟨rfl, rfl⟩ := hd
    exact ⟨φ, .refl hr, hv⟩
  | o :: os, c :: cs, cs', h, h', φ, vs, hd, hr, hv => by
    simp only [outsL] at hd
    split at hd
    · rename_i c1 h1 hc
      split at hd
      · rename_i cs1 h2 hcs
        simp only [Option.some.injEq, Prod.mk.injEq] at hd
        obtain ⟨rfl, rfl⟩ := hd
        obtain ⟨v, us, rfl, s1, s2⟩ := hv.tail
        obtain ⟨φ1, g1, k1⟩ := outOne_to hc hr s1
        obtain ⟨φ2, g2, k2⟩ := outsL_to hcs g1.rel (s2.evo g1.evo hr.id_lt)
        exact ⟨φ2, g1.trans g2, VCells.cons (g2.evo.sim g1.rel.id_lt k1) k2⟩
      · cases hd
    · cases hd
  | [], _ :: _, _, _, _, _, _, hd, _, _ => by simp [outsL] at hd
  | _ :: _, [], _, _, _, _, _, hd, _, _ => by simp [outsL] at hd

theorem outV_to {Bad : Nat → Prop} {w : World} {os : List (Option Ty)} {c c' : AV} {h h' : AH} {φ : Map} {v : Value} (hd : outV os c h = some (c', h')) (hr : Rel Bad φ h w) (hs : Sim (Imm Bad φ w) φ h.next w c v) :
    ∃ φ', Goes Bad φ h w φ' h' w ∧ Sim (Imm Bad φ' w) φ' h'.next w c' v := by
  unfold outV at hd
  split at hd
  · exact outOne_to hd hr hs
  · split at hd
    · rename_i cs
      split at hd
      · rename_i cs' h1 hcs
        simp only [Option.some.injEq, Prod.mk.injEq] at hd
        obtain ⟨rfl, rfl⟩ := hd
        cases hs with
        | @tuple _ vs hn hv =>
          obtain ⟨φ', g, k⟩ := outsL_to (vs := vs.toList) hcs hr ⟨by simpa using hn, fun i c v hc hv' => hv i c v hc (by simpa using hv')⟩
          exact ⟨φ', g, .tuple (by simpa using k.1) fun i c v hc hv' => k.2 i c v hc (by simpa using hv')⟩
      · cases hd
    · cases hd

/-- A result comes out as data. -/
def outS (os : List (Option Ty)) (S : Spec) : Spec := fun args h Z k =>
  S args h Z fun r h' => match outV os r h' with
    | some (r', h2) => bif Nat.ble h.next h2.next then k r' h2 else none
    | none => none

theorem outS_ok {P : Program} {f : Nat} {S : Spec} {os : List (Option Ty)} {q t : Bool} (hS : SpecTo P f S q t) : SpecTo P f (outS os S) false false := by
  refine ⟨fun args h Z k z hk => ?_⟩
  obtain ⟨r, h1, hz, hn, _, _, hf⟩ := hS.to_ args h Z _ z hk
  split at hz
  · rename_i r' h2 ho
    cases hb : Nat.ble h.next h2.next with
    | false => rw [hb] at hz; cases hz
    | true =>
      rw [hb] at hz
      refine ⟨r', h2, hz, Nat.le_of_ble_eq_true hb, fun h => (by cases h), fun h => (by cases h), fun Bad φ w vs hr hvs => (hf Bad φ w vs hr hvs).mono ?_⟩
      rintro e w' ⟨φ', v, rfl, g, hv⟩
      obtain ⟨φ2, g2, hv2⟩ := outV_to ho g.rel hv
      exact ⟨φ2, v, rfl, g.trans g2, hv2⟩
  · cases hz

theorem back_keeps {L : List Nat} {n : Nat} {h hc h' : AH} (hL : L.Nodup) (hlt : ∀ id ∈ L, id < h.next) (hb : back L n h hc = some h') : Keeps L h h' := by
  unfold back at hb
  split at hb
  · rename_i rs hrs
    simp only [Option.some.injEq] at hb
    subst hb
    refine ⟨Nat.le_add_right _ _, fun id hid hn => ?_⟩
    have hne : ∀ j, backId L h.next j ≠ id := by
      intro j hj
      rcases Nat.lt_or_ge j L.length with hjl | hjl
      · have hj' : L[j]? = some L[j] := by simp [hjl]
        rw [backId_in hj'] at hj
        exact hn (hj ▸ List.mem_of_getElem? hj')
      · rw [backId_out hjl] at hj
        omega
    simp only [AH.get, look_append]
    rw [look_back_out hne hrs, Option.none_or, look_dropAll_out hn]
  · cases hb

/-- The rows that the arguments lead to, as a heap of their own. -/
def hand (S : Spec) : Spec := fun args h Z k =>
  let L := gather h 1000 (args.flatMap (idsIn 3)) []
  bif nodupB L && L.all (fun id => Nat.blt id h.next) then
    match part L 3 h with
    | some hc => S (args.map (ren (fun id => pos id L) 3)) hc Z fun r hc' => match back L 3 h hc' with
      | some h' => k (ren (fun j => some (backId L h.next j)) 3 r) h'
      | none => none
    | none => none
  else none

theorem hand_ok {P : Program} {f : Nat} {S : Spec} {q t : Bool} (hS : SpecTo P f S q t) : SpecTo P f (hand S) false true := by
  refine ⟨fun args h Z k z hk => ?_⟩
  unfold hand at hk
  simp only at hk
  have hreach : reach h args = gather h 1000 (args.flatMap (idsIn 3)) [] := rfl
  generalize gather h 1000 (args.flatMap (idsIn 3)) [] = L at hk hreach
  cases hc : (nodupB L && L.all fun id => Nat.blt id h.next) with
  | false => rw [hc] at hk; cases hk
  | true =>
    rw [hc] at hk
    simp only [cond_true] at hk
    rw [Bool.and_eq_true] at hc
    have hL := nodupB_spec hc.1
    have hlt : ∀ id ∈ L, id < h.next := fun id hid => Nat.le_of_ble_eq_true (List.all_eq_true.1 hc.2 id hid)
    split at hk
    · rename_i hcc hp
      obtain ⟨r, hc', hz, hn, _, _, hf⟩ := hS.to_ _ _ _ _ _ hk
      split at hz
      · rename_i h' hb
        refine ⟨_, h', hz, ?_, fun h => (by cases h), fun _ => ?_, fun Bad φ w vs hr hvs => ?_⟩
        · unfold back at hb
          split at hb
          · simp only [Option.some.injEq] at hb
            subst hb
            exact Nat.le_add_right _ _
          · cases hb
        · rw [hreach]
          exact back_keeps hL hlt hb
        · have hB : ∀ b, badOf Bad φ L b → Bad b ∨ ∃ id l, φ id = some l ∧ l.in_ b ∧ id ∉ L := fun b hb => hb
          have hrc := part_rel hr hL hp hB
          have hnx := (part_spec hp).1
          refine (hf (badOf Bad φ L) (mapOf φ L) w vs hrc ⟨by rw [List.length_map]; exact hvs.1, fun i c v hc hv => ?_⟩).mono ?_
          · rw [List.getElem?_map] at hc
            cases hci : args[i]? with
            | none => rw [hci] at hc; cases hc
            | some c0 =>
              rw [hci] at hc
              simp only [Option.map_some, Option.some.injEq] at hc
              subst hc
              rw [hnx]
              exact part_sim hB (hvs.2 i c0 v hci hv) 3
          · rintro e w' ⟨φc, v, rfl, g, hv⟩
            obtain ⟨g', hsim⟩ := frame hr hL hlt hp g hb
            exact ⟨_, v, rfl, g', hsim r v 3 hv⟩
      · cases hz
    · cases hk

/-- A call that leaves no row behind. -/
def alone (S : Spec) : Spec := fun args h Z k =>
  S (args.map (ren (fun _ => none) 3)) ⟨[], 0⟩ Z fun r _ => k (ren (fun _ => none) 3 r) h

theorem alone_rel {Bad : Nat → Prop} {φ : Map} {h : AH} {w w' : World} {φc : Map} {hc' : AH} (hr : Rel Bad φ h w) (g : Goes (badOf Bad φ []) (fun _ => none) ⟨[], 0⟩ w φc hc' w') :
    Goes Bad φ h w φ h w' ∧ ∀ c v m, Sim (Imm (badOf Bad φ []) φc w') φc hc'.next w' c v → Sim (Imm Bad φ w') φ h.next w' (ren (fun _ => none) m c) v := by
  have keepA : ∀ b, b < w.heap.size → w'.heap[b]? = w.heap[b]? := fun b hb => g.evo.keep b hb fun j l hj => (by cases hj)
  have ev : Evo φ h.next w φ h.next w' := ⟨Nat.le_refl _, g.evo.size, fun b hb _ => keepA b hb, fun id l b hl hin => .inr ⟨id, l, hl, hin⟩, fun id _ => .inl rfl, g.evo.os, g.evo.tape, g.evo.output⟩
  refine ⟨⟨⟨fun id r hg => ?_, fun b hb => Nat.lt_of_lt_of_le (hr.bad b hb) g.evo.size, hr.gone, hr.lt, hr.inj, fun id l b h1 h2 => ?_, fun id r l b o hg hl hat i c hc => ?_⟩, ev⟩, fun c v m hs => ?_⟩
  · obtain ⟨l, k5, k6⟩ := hr.live id r hg
    refine ⟨l, k5, ⟨k6.len, k6.esz, k6.le, k6.max, k6.nowhere, fun b o hat => ?_⟩⟩
    have hk := keepA b (hr.ok id l b k5 ⟨o, hat⟩).2
    exact (k6.there b o hat).keep hk
  · obtain ⟨o1, o2⟩ := hr.ok id l b h1 h2
    exact ⟨o1, Nat.lt_of_lt_of_le o2 g.evo.size⟩
  · obtain ⟨v, h8, h9, h10⟩ := hr.cells id r l b o hg hl hat i c hc
    refine ⟨v, ?_, h9, ev.sim hr.id_lt h10⟩
    rw [cell_of_heap (keepA b (hr.ok id l b hl ⟨o, hat⟩).2)]
    exact h8
  · refine ren_sim (fun b hb => ⟨⟨fun hbad => hb.1 (.inl hbad), hb.2.1, fun id l hl hin => hb.1 (.inr ⟨id, l, hl, hin, by simp⟩)⟩, rfl⟩) (fun id k hk => (by cases hk)) (fun id k hk => (by cases hk)) hs m

theorem alone_ok {P : Program} {f : Nat} {S : Spec} {q t : Bool} (hS : SpecTo P f S q t) : SpecTo P f (alone S) true true := by
  refine ⟨fun args h Z k z hk => ?_⟩
  unfold alone at hk
  obtain ⟨r, hc', hz, hn, _, _, hf⟩ := hS.to_ _ _ _ _ _ hk
  have key : ∀ h2 : AH, FnTo P f args h2 (ren (fun _ => none) 3 r) h2 := by
    intro h2 Bad φ w vs hr hvs
    have hB : ∀ b, badOf Bad φ [] b → Bad b ∨ ∃ id l, φ id = some l ∧ l.in_ b ∧ id ∉ [] := fun b hb => hb
    have hp : part [] 3 h2 = some ⟨[], 0⟩ := rfl
    have hrc := part_rel hr List.nodup_nil hp hB
    have hm : mapOf φ [] = fun _ => none := by funext j; simp [mapOf]
    have hpos : (fun id => pos id []) = fun _ : Nat => (none : Option Nat) := rfl
    refine (hf (badOf Bad φ []) (mapOf φ []) w vs hrc ⟨by rw [List.length_map]; exact hvs.1, fun i c v hc hv => ?_⟩).mono ?_
    · rw [List.getElem?_map] at hc
      cases hci : args[i]? with
      | none => rw [hci] at hc; cases hc
      | some c0 =>
        rw [hci] at hc
        simp only [Option.map_some, Option.some.injEq] at hc
        subst hc
        exact part_sim (L := []) hB (hvs.2 i c0 v hci hv) 3
    · rintro e w' ⟨φc, v, rfl, g, hv⟩
      rw [hm] at g
      obtain ⟨g', hsim⟩ := alone_rel hr g
      exact ⟨φ, v, rfl, g', hsim r v 3 hv⟩
  exact ⟨_, h, hz, Nat.le_refl _, fun _ => ⟨rfl, key⟩, fun _ => ⟨Nat.le_refl _, fun _ _ _ => rfl⟩, key h⟩

end Go.Ph

/- slices.Clone: its check for nil by hand, the rest by the evaluator. -/
namespace Go.Ph
open Go.RowKit

/-- A row's number is used up. -/
def AH.bump (h : AH) : AH := ⟨h.rows, h.next + 1⟩

theorem Rel.congr {Bad : Nat → Prop} {φ : Map} {h h' : AH} {w : World} (hr : Rel Bad φ h w) (hg : ∀ id, h'.get id = h.get id) (hn : h'.next = h.next) : Rel Bad φ h' w :=
  ⟨fun id r h1 => hr.live id r (by rw [← hg]; exact h1), hr.bad, fun id h1 => hr.gone id (by rw [← hg]; exact h1), fun id h1 => hr.lt id (by rw [← hn]; exact h1), hr.inj, hr.ok,
    fun id r l b o h1 h2 h3 i c hc => by rw [hn]; exact hr.cells id r l b o (by rw [← hg]; exact h1) h2 h3 i c hc⟩

theorem Rel.bump {Bad : Nat → Prop} {φ : Map} {h : AH} {w : World} (hr : Rel Bad φ h w) : Goes Bad φ h w φ h.bump w := by
  have ev : Evo φ h.next w φ h.bump.next w := ⟨Nat.le_succ _, Nat.le_refl _, fun _ _ _ => rfl, fun id l b h1 h2 => .inr ⟨id, l, h1, h2⟩, fun _ _ => .inl rfl, rfl, rfl, rfl⟩
  exact ⟨⟨hr.live, hr.bad, hr.gone, fun id h1 => hr.lt id (Nat.le_of_succ_le h1), hr.inj, hr.ok, fun id r l b o h1 h2 h3 i c hc => by
    obtain ⟨v, k1, k2, k3⟩ := hr.cells id r l b o h1 h2 h3 i c hc
    exact ⟨v, k1, k2, ev.sim hr.id_lt k3⟩⟩, ev⟩

theorem get_bump {Bad : Nat → Prop} {φ : Map} {h : AH} {w : World} (hr : Rel Bad φ h w) (r : Row) (id : Nat) : h.bump.get id = ((h.add r).del h.next).get id := by
  by_cases he : id = h.next
  · subst he
    rw [AH.get_del_same]
    cases hg : h.get h.next with
    | none => exact hg
    | some r' =>
      obtain ⟨l, h1, _⟩ := hr.live _ _ hg
      rw [hr.lt _ (Nat.le_refl _)] at h1
      cases h1
  · rw [AH.get_del_ne _ _ _ he, AH.get_add_ne _ _ _ he]
    rfl

theorem eq_sl (P : Program) (w : World) (d : Nat) {t e : TypeId} (hd : P.underlying t = some (.slice e)) (a : Option Addr) (n c : Nat) : (Op.equalIn (d + 1) t (.slice a n c) (.slice none 0 0)).run P w = .ok a.isNone w := by
  cases a <;> simp [Op.equalIn, run_underlying hd]

theorem ev_bool {N : Nat → Prop} {φ : Map} {nx : Nat} {w : World} {a : Act'} {y : Act} (h : ActSim N φ nx w a y) {t : Nat} {b : Bool} (hb : AV.at_ a t = .bool b) : y.eval (.tmp t) = .bool b := by
  have := h.tmps t
  rw [hb] at this
  show y.tmps.getD t undef = _
  generalize y.tmps.getD t undef = u at this
  cases this
  rfl

/-- What a piece of code of a function that is not ranged over does. -/
theorem CodeTo.wp {P : Program} {n0 : Nat} {c : Code} {a : Act'} {h : AH} {e : Ex} {aF : Act'} {hF : AH} (t : CodeTo P (fun _ _ _ _ => True) n0 false c a h e aF hF) :
    ∀ (Bad : Nat → Prop) (φ0 : Map) (h0 : AH) (w0 : World) (φ : Map) (w : World) (y : Act) (Q : Exit → Act → World → Prop), h0.next = n0 → Goes Bad φ0 h0 w0 φ h w → ActSim (Imm Bad φ w) φ h.next w a y →
      (∀ φ' w' y', Goes Bad φ0 h0 w0 φ' hF w' → ActSim (Imm Bad φ' w') φ' hF.next w' aF y' → Q e.exit_ y' w') → c.wp P Q y w :=
  fun Bad φ0 h0 w0 φ w y Q h0n g ha hQ => (wpIn_wide (n := 0)).1 (t none 0 Bad φ0 h0 w0 φ w y Q (fun _ => rfl) h0n trivial g ha hQ)

theorem code_plain {C : Ctx} {fuel : Nat} (hm : C.P.follows .mixedOrders = true) (hY : ∀ id args h Z k, C.yld id args h Z k = none) (hd : ∀ f, hasBody C.P f = true → EnvOk C f) (hI : ∀ g, hasBody C.P g = true → IterOk C.P g (C.iter g))
    (c : Code) (hc : codeOk C c = true) (hcalls : ∀ f ∈ callsOf c, EnvOk C f) {n0 p : Nat} {a : Act'} {h : AH} {Z : Type} {k : Ex → Act' → AH → Option Z} {z : Z} (hk : runCode C fuel idN p false c a h Z k = some z) :
    ∃ e aF hF, k e aF hF = some z ∧ CodeTo C.P (fun _ _ _ _ => True) n0 false c a h e aF hF :=
  code_to hm (fun _ _ _ _ _ _ _ _ _ => trivial) (fun id args h Z k z hk => by rw [hY] at hk; cases hk) hd hI c hc hcalls n0 idN p false a h Z k z (idN_ok n0) hk

/-- A copy of a slice: a row of one's own. -/
def cloneO (τ : Ty) (e : TypeId) (bytes : Nat) : Spec := fun args h Z k =>
  match args with
  | [c] => ob (source τ (.slice e) c h) fun lh =>
    if lh.1.length * bytes ≤ 140737488355328 ∧ lh.1.length ≤ 140737488355328 then k (.own lh.2.next) (lh.2.add (.typ τ lh.1)) else none
  | _ => none

/-- The variables of slices.Clone behind its test. -/
abbrev cloneA (c : AV) (b : Bool) : Act' := putA (putA (putA (Act'.init [c] 8) (some 2) .nils) (some 3) c) (some 4) (.bool b)

theorem clone_ok {P : Program} {f : Nat} {fn : Func} {A N T : Code} {o1 o2 : Oper} {t e : TypeId} {τ : Ty} {bytes : Nat} (hm : P.follows .mixedOrders = true) (hf : P.funcs[f]? = some fn)
    (hb : fn.body = some (.seq A (.seq (.seq (.region 1 #[o1, o2] false) (.cond (.tmp 4) N .skip)) T))) (hnt : fn.ntmps = 8) (hres : fn.results = #[.tmp 2]) (hu : P.underlying t = some (.slice e))
    (e1 : o1.op = .move (.tmp 0)) (d1 : o1.dst = some 3) (g1 : o1.guard = none) (e2 : o2.op = .binOp .eql t (.tmp 3) (.const (.slice none 0 0)) t) (d2 : o2.dst = some 4) (g2 : o2.guard = none)
    (cA : codeOk (ctxOf P [] []) A = true) (cN : codeOk (ctxOf P [] []) N = true) (cT : codeOk (ctxOf P [] []) T = true) (lA : callsOf A = []) (lN : callsOf N = []) (lT : callsOf T = [])
    (hA : ∀ c h, runCode (ctxOf P [] []) 1 idN 1 false A (Act'.init [c] 8) h _ (fun e a h => some (e, a, h)) = some (.normal, putA (Act'.init [c] 8) (some 2) .nils, h))
    (hN : ∀ c h, runCode (ctxOf P [] []) 1 idN 1 false N (cloneA c true) h _ (fun e a h => some (e, a, h)) = some (.ret, putA (cloneA c true) (some 2) .nils, h))
    (hT : ∀ c h l h1, source τ (.slice e) c h = some (l, h1) → l.length * bytes ≤ 140737488355328 ∧ l.length ≤ 140737488355328 →
      ∃ a, AV.at_ a 2 = .own h1.next ∧ a.ds = [] ∧ runCode (ctxOf P [] []) 1 idN 1 false T (cloneA c false) h _ (fun e a h => some (e, a, h)) = some (.ret, a, h1.add (.typ τ l))) :
    SpecTo P f (cloneO τ e bytes) false false := by
  refine ⟨fun args h Z k z hk => ?_⟩
  unfold cloneO at hk
  split at hk
  · rename_i c
    obtain ⟨⟨l, h1⟩, hs, hk⟩ := ob_eq_some.1 hk
    simp only at hk
    split at hk
    · rename_i hbd
      have dyn : ∀ f, hasBody (ctxOf P [] []).P f = true → EnvOk (ctxOf P [] []) f := fun f hb => env_ok (tbl := []) (fun e he => (by cases he)) hb
      have env : ∀ f ∈ ([] : List Nat), EnvOk (ctxOf P [] []) f := fun f hf => (by cases hf)
      have its : ∀ g, hasBody (ctxOf P [] []).P g = true → IterOk P g ((ctxOf P [] []).iter g) := fun g _ => iters_ok (tbl := []) (fun e he => (by cases he)) g
      have noy : ∀ id args h Z k, (ctxOf P [] []).yld id args h Z k = none := fun _ _ _ _ _ => rfl
      obtain ⟨eA, aA, hhA, kA, toA⟩ := code_plain (C := ctxOf P [] []) (n0 := h.next) (fuel := 1) hm noy dyn its A cA (by rw [lA]; exact env) (hA c h)
      simp only [Option.some.injEq, Prod.mk.injEq] at kA
      obtain ⟨q1A, q2A, q3A⟩ := kA
      have q3A' := q3A.symm
      subst q1A q2A q3A'
      obtain ⟨eN, aN, hhN, kN, toN⟩ := code_plain (C := ctxOf P [] []) (n0 := h.next) (fuel := 1) hm noy dyn its N cN (by rw [lN]; exact env) (hN c h)
      simp only [Option.some.injEq, Prod.mk.injEq] at kN
      obtain ⟨q1N, q2N, q3N⟩ := kN
      have q3N' := q3N.symm
      subst q1N q2N q3N'
      obtain ⟨aT', hat, hds, hTr⟩ := hT c h l h1 hs hbd
      obtain ⟨eT, aT, hhT, kT, toT⟩ := code_plain (C := ctxOf P [] []) (n0 := h.next) (fuel := 1) hm noy dyn its T cT (by rw [lT]; exact env) hTr
      simp only [Option.some.injEq, Prod.mk.injEq] at kT
      obtain ⟨q1T, q2T, q3T⟩ := kT
      have q3T' := q3T.symm
      subst q1T q2T q3T'
      have hn1 : h.next ≤ h1.next := (source_keeps hs).next
      refine ⟨_, _, hk, Nat.le_trans hn1 (Nat.le_succ _), fun h => (by cases h), fun h => (by cases h), fun Bad φ w vs hrel hvs => ?_⟩
      obtain ⟨v, hv1, hvc⟩ := one_cell hvs
      have hvs' : vs = #[v] := by rw [← Array.toArray_toList (xs := vs), hv1]
      subst hvs'
      refine calls_of_wp hf hb ?_
      -- region 0
      refine wp_seq (toA.wp Bad φ h w φ w _ _ rfl (.refl hrel) ⟨rfl, by show 8 = _; simp [hnt], fun t => ?_⟩ fun φ1 w1 y1 gA haA => ?_)
      · rw [Act'.init_at (by decide) (by simp)]
        match t with
        | 0 => simpa [Array.getD, hnt] using hvc
        | t + 1 => exact .dead
      · -- region 1
        obtain ⟨a, n, cap, hv, hnil⟩ := source_slice hs gA.rel (haA.tmps 0)
        have hd1 : y1.defers = [] := by
          have := haA.ds
          rw [putA_ds] at this
          exact this
        have hsz : y1.tmps.size = 8 := haA.size.symm
        have h3 : (y1.put (some 3) (.slice a n cap)).eval (.tmp 3) = .slice a n cap := by
          simp [Act.put, Act.eval, Array.getD, hsz]
        have act1 := haA.put (some 3) (c := c) (v := .slice a n cap) (by rw [← hv]; exact haA.tmps 0)
        have act2 := act1.put (some 4) (c := .bool a.isNone) (v := .bool a.isNone) (.bool _)
        have run1 : ∀ w, (execOp y1.eval o1).run P w = .ok (.value (.slice a n cap)) w := fun w => by
          have : y1.eval (.tmp 0) = .slice a n cap := hv
          simp [execOp, e1, this]
        have run2 : ∀ w, (execOp (y1.put (some 3) (.slice a n cap)).eval o2).run P w = .ok (.value (.bool a.isNone)) w := by
          intro w
          have hg := eqGuard_scalar (P := P) .eql t (.tmp 3) (.const (.slice none 0 0)) (.slice a n cap) (.slice none 0 0) (by simp) (by simp) w
          have hq : (binOp .eql t (.slice a n cap) (.slice none 0 0)).run P w = .ok (.bool a.isNone) w := by rw [run_eql_sls, eq_sl P w 9999 hu]; rfl
          have hc : (y1.put (some 3) (.slice a n cap)).eval (.const (.slice none 0 0)) = .slice none 0 0 := rfl
          simp only [execOp, e2, h3, hc]
          simp [hg, hq]
        have w1' : Region.wanted o1 (yielded #[o1, o2] y1.tmps) = true := wanted_of (.inl g1)
        have w2' : Region.wanted o2 (yielded #[o1, o2] (y1.put (some 3) (.slice a n cap)).tmps) = true := wanted_of (.inl g2)
        refine wp_seq (wp_seq (wp_region ?_))
        show wpOps P #[o1, o2] _ [0, 1] y1 w1
        have i0 : (#[o1, o2] : Array Oper)[0]? = some o1 := rfl
        have i1 : (#[o1, o2] : Array Oper)[1]? = some o2 := rfl
        simp only [wpOps, i0, i1, w1', if_true]
        left
        unfold Oper.wp
        rw [run1]
        simp only [Oper.upon_value, d1, w2', if_true]
        left
        rw [run2]
        simp only [Oper.upon_value, d2, Exit.then]
        cases a with
        | none =>
          obtain ⟨hl, hh⟩ := hnil rfl
          subst hl
          subst hh
          refine wp_cond_true (ev_bool act2 rfl) (toN.wp Bad φ h1 w φ1 w1 _ _ rfl gA act2 fun φ2 w2 y2 g2' ha2 => ?_)
          have hd2 : y2.defers = [] := by
            have := ha2.ds
            rw [putA_ds, putA_ds, putA_ds, putA_ds] at this
            exact this
          have b1 := g2'.rel.addNil (.typ τ []) rfl
          simp only [Ex.exit_, Exit.then]
          refine bodyPost_ret (v := y2.tmps.getD 2 undef) (results_tmp hres _ _ _) hd2 ?_
          refine ⟨_, _, rfl, g2'.trans b1, ?_⟩
          have hr := ha2.tmps 2
          have l8 : (Act'.init [c] 8).length = 8 := by
            unfold Act'.length
            have : Nat.ble (Act'.init [c] 8).n 512 = true := rfl
            rw [this]
            rfl
          have e2' : AV.at_ (putA (cloneA c true) (some 2) .nils) 2 = .nils := by
            rw [at_set, if_pos]
            refine ⟨rfl, ?_⟩
            simp only [putA_len, l8]
            decide
          rw [e2'] at hr
          generalize y2.tmps.getD 2 undef = u at hr
          cases hr
          exact .ownNil (l := ⟨none, 0, 0, τ.size, none⟩) (upd_same _ _ _) rfl
        | some ad =>
          refine wp_cond_false (ev_bool act2 rfl) (wp_skip ?_)
          refine toT.wp Bad φ h w φ1 w1 _ _ rfl gA act2 fun φ2 w2 y2 g2' ha2 => ?_
          have hd2 : y2.defers = [] := by
            have := ha2.ds
            rw [hds] at this
            exact this
          have hr := ha2.tmps 2
          rw [hat] at hr
          exact bodyPost_ret (v := y2.tmps.getD 2 undef) (results_tmp hres _ _ _) hd2 ⟨_, _, rfl, g2', hr⟩
    · cases hk
  · cases hk

end Go.Ph

/- slices.Clone: what its last lines do; lists of facts about functions. -/
namespace Go.Ph
open Go.RowKit

theorem Act'.init_len {args : List AV} {n : Nat} (hn : n ≤ 512) : (Act'.init args n).length = n := by
  unfold Act'.length
  have : Nat.ble (Act'.init args n).n 512 = true := Nat.ble_eq_true_of_le hn
  rw [this]
  rfl

theorem cloneA_len (c : AV) (b : Bool) : (cloneA c b).length = 8 := by
  simp only [putA_len]
  exact Act'.init_len (by decide)

theorem cloneA_0 (c : AV) (b : Bool) : AV.at_ (cloneA c b) 0 = c := by
  simp only [at_set]
  simp only [show ¬ (0 = 4) by decide, show ¬ (0 = 3) by decide, show ¬ (0 = 2) by decide, false_and, if_false]
  rw [Act'.init_at (by decide) (by simp)]
  rfl

theorem source_int {τ : Ty} {e : TypeId} {c : AV} {h h1 : AH} {l : List τ.D} (hs : source τ (.slice e) c h = some (l, h1)) : intOk c = true := by
  cases c <;> first | rfl | (simp [source] at hs)

theorem clone_tail {P : Program} {id : Nat} {o3 o4 o5 o6 : Oper} {t e : TypeId} {τ : Ty} {bytes : Nat} (hel : elemTy P t = some (e, τ)) (hu : P.underlying t = some (.slice e)) (hby : P.bytesOf e = bytes) (hz : zeroFits P e τ = true)
    (k3 : o3.op = .buildSlice t 0 #[]) (d3 : o3.dst = some 5) (g3 : o3.guard = none) (k4 : o4.op = .move (.tmp 0)) (d4 : o4.dst = some 6) (g4 : o4.guard = none)
    (k5 : o5.op = .call { callee := .builtin .append, args := #[.tmp 5, .tmp 6], argTypes := #[t, t] }) (d5 : o5.dst = some 7) (g5 : o5.guard = none) (k6 : o6.op = .assign (.tmp 7)) (d6 : o6.dst = some 2) (g6 : o6.guard = none)
    (hbs : ∀ (Z : Type) (ρ : Operand → AV) (k : AV → Option Z), pureK P (fun t => ([] : List Nat).any (Nat.beq t)) o3 ρ k = k (.lits τ.size []))
    (c : AV) (h : AH) (l : List τ.D) (h1 : AH) (hs : source τ (.slice e) c h = some (l, h1)) (hb : l.length * bytes ≤ 140737488355328 ∧ l.length ≤ 140737488355328) :
    ∃ a, AV.at_ a 2 = .own h1.next ∧ a.ds = [] ∧ runCode (ctxOf P [] []) 1 idN 1 false (.seq (.region id #[o3, o4, o5, o6] false) .ret) (cloneA c false) h _ (fun e a h => some (e, a, h)) = some (.ret, a, h1.add (.typ τ l)) := by
  have hi := source_int hs
  refine ⟨putA (putA (putA (putA (cloneA c false) (some 5) (.lits τ.size [])) (some 6) c) (some 7) (.own h1.next)) (some 2) (.own h1.next), by rw [at_set, if_pos]; simp only [putA_len, true_and]; rw [show (Act'.init [c] 8).length = 8 from Act'.init_len (by decide)]; decide, by simp only [putA_ds]; rfl, ?_⟩
  have n3 : isEff (ctxOf P [] []) o3 = false := by simp [isEff, k3, annOf, d3, ctxOf]
  have n4 : isEff (ctxOf P [] []) o4 = false := by simp [isEff, k4]
  have n5 : isEff (ctxOf P [] []) o5 = true := by simp [isEff, k5]
  have n6 : isEff (ctxOf P [] []) o6 = false := by simp [isEff, k6]
  simp only [runCode, runOps, cond_false, g3, g4, g5, g6, oneK, n3, n4, n5, n6, if_true, if_false, Bool.false_eq_true]
  have q3 : ∀ {Z : Type} (ρ : Operand → AV) (h : AH) (k : AV → AH → Option Z), opK (ctxOf P [] []) o3 ρ h k = k (.lits τ.size []) h := by
    intro Z ρ h k
    simp only [opK, n3, Bool.false_eq_true, if_false, k3, readK]
    exact hbs Z ρ _
  have q4 : ∀ {Z : Type} (ρ : Operand → AV) (h : AH) (k : AV → AH → Option Z), opK (ctxOf P [] []) o4 ρ h k = k (ρ (.tmp 0)) h := by
    intro Z ρ h k
    simp only [opK, n4, Bool.false_eq_true, if_false, k4, readK, pureK]
  have q6 : ∀ {Z : Type} (ρ : Operand → AV) (h : AH) (k : AV → AH → Option Z), opK (ctxOf P [] []) o6 ρ h k = k (ρ (.tmp 7)) h := by
    intro Z ρ h k
    simp only [opK, n6, Bool.false_eq_true, if_false, k6, readK, pureK]
  have q5 : ∀ {Z : Type} (ρ : Operand → AV) (k : AV → AH → Option Z), ρ (.tmp 5) = .lits τ.size [] → ρ (.tmp 6) = c → opK (ctxOf P [] []) o5 ρ h k = k (.own h1.next) (h1.add (.typ τ l)) := by
    intro Z ρ k r5 r6
    have p1 : (ctxOf P [] []).P = P := rfl
    simp only [opK, n5, if_true, effK, k5, p1, hel, hu, r5, r6, hs, target, List.length_nil, data, emptyT, hz, hi, hby, Nat.zero_add, hb.1, hb.2, and_self, or_true, List.nil_append]
  have hl8 : (Act'.init [c] 8).length = 8 := Act'.init_len (by decide)
  have v0 : evalA (putA (cloneA c false) (some 5) (.lits τ.size [])) (.tmp 0) = c := by
    simp only [evalA]
    rw [at_set, if_neg (by simp)]
    exact cloneA_0 c false
  have v5 : evalA (putA (putA (cloneA c false) (some 5) (.lits τ.size [])) (some 6) c) (.tmp 5) = .lits τ.size [] := by
    simp only [evalA]
    rw [at_set, if_neg (by simp), at_set, if_pos ⟨rfl, by rw [cloneA_len]; decide⟩]
  have v6 : evalA (putA (putA (cloneA c false) (some 5) (.lits τ.size [])) (some 6) c) (.tmp 6) = c := by
    simp only [evalA]
    rw [at_set, if_pos ⟨rfl, by rw [putA_len, cloneA_len]; decide⟩]
  have v7 : evalA (putA (putA (putA (cloneA c false) (some 5) (.lits τ.size [])) (some 6) c) (some 7) (.own h1.next)) (.tmp 7) = .own h1.next := by
    simp only [evalA]
    rw [at_set, if_pos ⟨rfl, by rw [putA_len, putA_len, cloneA_len]; decide⟩]
  simp only [q3, q4, q6, apartOk, apartOk', readsOf, modsOf, k3, k4, k5, k6, d3, d4, d5, d6, List.all_nil, Bool.and_self, if_true, v0]
  rw [q5 _ _ v5 v6]
  simp only [v7]
  simp [meet]

theorem TblOk.nil {P : Program} : TblOk P [] := fun e h => by cases h
theorem TblOk.cons {P : Program} {e : Entry} {l : List Entry} (h : EntryOk P e) (ht : TblOk P l) : TblOk P (e :: l) := fun x hx => by
  rcases List.mem_cons.1 hx with rfl | hx
  · exact h
  · exact ht x hx

/-- A function, run as it stands. -/
def plainE (P : Program) (fuel f : Nat) (tbl : List Entry) (ann : List Nat) (fn : Func) : Entry := ⟨f, runFn (ctxOf P tbl ann) (fun _ _ a h => some (a, h)) fuel fn, false, false, noIter, false⟩

/-- A function that may be ranged over, too. -/
def iterE (P : Program) (fuel f : Nat) (tbl : List Entry) (ann : List Nat) (fn : Func) : Entry := ⟨f, runFn (ctxOf P tbl ann) (fun _ _ a h => some (a, h)) fuel fn, false, false, runIt (ctxOf P tbl ann) fuel fn, false⟩

/-- A function whose arguments and results are data. -/
def aloneE (P : Program) (fuel f : Nat) (os : List (Option Ty)) (tbl : List Entry) (ann : List Nat) (fn : Func) : Entry := ⟨f, alone (outS os (runFn (ctxOf P tbl ann) (fun _ _ a h => some (a, h)) fuel fn)), true, true, noIter, false⟩

def bodyOk (P : Program) (tbl : List Entry) (ann : List Nat) (fn : Func) : Bool :=
  match fn.body with
  | some c => codeOk (ctxOf P tbl ann) c && (callsOf c).all (hasBody P)
  | none => false

theorem fn_ok {P : Program} {fuel f : Nat} {tbl : List Entry} {ann : List Nat} {fn : Func} (hm : P.follows .mixedOrders = true) (ht : TblOk P tbl) (hf : P.funcs[f]? = some fn) (hb : bodyOk P tbl ann fn = true) :
    SpecTo P f (runFn (ctxOf P tbl ann) (fun _ _ a h => some (a, h)) fuel fn) false false := by
  unfold bodyOk at hb
  split at hb
  · rename_i c hc
    rw [Bool.and_eq_true] at hb
    exact run_ok hm ht hf hc hb.1 hb.2 (fun _ _ => norm_id _)
  · cases hb

theorem norm_fn_ok {P : Program} {fuel f : Nat} {tbl : List Entry} {ann : List Nat} {fn : Func} {norm : Nat → Nat → Norm} (hm : P.follows .mixedOrders = true) (ht : TblOk P tbl) (hf : P.funcs[f]? = some fn) (hb : bodyOk P tbl ann fn = true) (hn : ∀ n p, NormOk n (norm n p)) :
    SpecTo P f (runFn (ctxOf P tbl ann) norm fuel fn) false false := by
  unfold bodyOk at hb
  split at hb
  · rename_i c hc
    rw [Bool.and_eq_true] at hb
    exact run_ok hm ht hf hc hb.1 hb.2 hn
  · cases hb

/-- A function, run in a heap that holds no more than what its arguments lead to. -/
def handE (P : Program) (fuel f : Nat) (tbl : List Entry) (ann : List Nat) (fn : Func) : Entry := ⟨f, hand (runFn (ctxOf P tbl ann) (fun _ _ a h => some (a, h)) fuel fn), false, true, noIter, false⟩

theorem handed_ok {P : Program} {fuel f : Nat} {tbl : List Entry} {ann : List Nat} {fn : Func} (hm : P.follows .mixedOrders = true) (ht : TblOk P tbl) (hf : P.funcs[f]? = some fn) (hb : bodyOk P tbl ann fn = true) : EntryOk P (handE P fuel f tbl ann fn) :=
  ⟨hand_ok (fn_ok hm ht hf hb), noIter_ok P f⟩

def sameRow : Option Row → Option Row → Bool
  | some r, some s => eqRow r s
  | none, none => true
  | _, _ => false

theorem sameRow_eq {r s : Option Row} (h : sameRow r s = true) : r = s := by
  cases r <;> cases s <;> first | rfl | cases h | exact congrArg some (eqRow_eq _ _ h)

/-- A function that leaves all rows as they were. -/
def cleanS (S : Spec) : Spec := fun args h Z k => S args h Z fun r h' => bif (reach h args).all (fun id => sameRow (h'.get id) (h.get id)) then k r h' else none

theorem clean_ok {P : Program} {f : Nat} {S : Spec} {q : Bool} (hS : SpecTo P f S q true) : SpecTo P f (cleanS S) false true true := by
  refine ⟨fun args h Z k z hk => ?_⟩
  obtain ⟨r, h', h1, h2, _, h3, h4⟩ := hS.to_ args h Z _ z hk
  cases hall : (reach h args).all (fun id => sameRow (h'.get id) (h.get id)) with
  | false => rw [hall] at h1; cases h1
  | true =>
    rw [hall, cond_true] at h1
    refine ⟨r, h', h1, h2, fun h => (by cases h), fun _ => ⟨h2, fun id hlt _ => ?_⟩, h4⟩
    by_cases hm : id ∈ reach h args
    · exact sameRow_eq (List.all_eq_true.1 hall id hm)
    · exact (h3 rfl).get id hlt hm

def cleanE (P : Program) (fuel f : Nat) (tbl : List Entry) (ann : List Nat) (fn : Func) : Entry := ⟨f, cleanS (hand (runFn (ctxOf P tbl ann) (fun _ _ a h => some (a, h)) fuel fn)), false, true, noIter, true⟩

theorem cleaned_ok {P : Program} {fuel f : Nat} {tbl : List Entry} {ann : List Nat} {fn : Func} (hm : P.follows .mixedOrders = true) (ht : TblOk P tbl) (hf : P.funcs[f]? = some fn) (hb : bodyOk P tbl ann fn = true) : EntryOk P (cleanE P fuel f tbl ann fn) :=
  ⟨clean_ok (hand_ok (fn_ok hm ht hf hb)), noIter_ok P f⟩

def treeAt (keep : List Nat) (id : Nat) : List (Nat × List (List Nat)) → Option (List Nat × List (List Nat))
  | [] => none
  | (j, E) :: r => bif Nat.beq id j then some (keep, E) else treeAt keep id r

/-- With regions all of whose orders are gone through. -/
def ctxT (P : Program) (tbl : List Entry) (ann : List Nat) (trees : List (Nat × List (List Nat))) (keep : List Nat) : Ctx := { ctxOf P tbl ann with tree := fun id => treeAt keep id trees }

def bodyOkT (P : Program) (tbl : List Entry) (ann : List Nat) (trees : List (Nat × List (List Nat))) (keep : List Nat) (fn : Func) : Bool :=
  match fn.body with
  | some c => codeOk (ctxT P tbl ann trees keep) c && (callsOf c).all (hasBody P)
  | none => false

def treeE (P : Program) (fuel f : Nat) (tbl : List Entry) (ann : List Nat) (trees : List (Nat × List (List Nat))) (keep : List Nat) (fn : Func) : Entry := ⟨f, runFn (ctxT P tbl ann trees keep) (fun n0 _ => canon n0 keep) fuel fn, false, false, noIter, false⟩

theorem treed_spec {P : Program} {fuel f : Nat} {tbl : List Entry} {ann : List Nat} {trees : List (Nat × List (List Nat))} {keep : List Nat} {fn : Func} (hm : P.follows .mixedOrders = true) (ht : TblOk P tbl) (hf : P.funcs[f]? = some fn) (hb : bodyOkT P tbl ann trees keep fn = true) :
    SpecTo P f (runFn (ctxT P tbl ann trees keep) (fun n0 _ => canon n0 keep) fuel fn) false false := by
  unfold bodyOkT at hb
  split at hb
  · rename_i c hc
    rw [Bool.and_eq_true] at hb
    refine ⟨fun args h Z k z hk => ?_⟩
    obtain ⟨r, h', h1, h2, h3⟩ := run_any (C := ctxT P tbl ann trees keep) (G := fun _ _ _ _ => True) hm (fun _ _ _ _ _ _ _ _ _ => trivial) (fun id args h Z k z hk => by cases hk) (fun g hg => ⟨(env_ok (ann := ann) ht hg).body, (env_ok (ann := ann) ht hg).to_⟩) (fun g _ => iters_ok (ann := ann) ht g) hf hc hb.1 hb.2 (fun n p => canon_ok n keep) hk
    exact ⟨r, h', h1, h2, fun h => (by cases h), fun h => (by cases h), fun Bad φ w vs hr hv => h3 Bad φ w vs trivial hr hv⟩
  · cases hb

theorem treed_ok {P : Program} {fuel f : Nat} {tbl : List Entry} {ann : List Nat} {trees : List (Nat × List (List Nat))} {keep : List Nat} {fn : Func} (hm : P.follows .mixedOrders = true) (ht : TblOk P tbl) (hf : P.funcs[f]? = some fn) (hb : bodyOkT P tbl ann trees keep fn = true) : EntryOk P (treeE P fuel f tbl ann trees keep fn) :=
  ⟨treed_spec hm ht hf hb, noIter_ok P f⟩

/-- Such a function in a heap that holds no more than what its arguments lead to. -/
def treeHE (P : Program) (fuel f : Nat) (tbl : List Entry) (ann : List Nat) (trees : List (Nat × List (List Nat))) (keep : List Nat) (fn : Func) : Entry := ⟨f, hand (runFn (ctxT P tbl ann trees keep) (fun n0 _ => canon n0 keep) fuel fn), false, true, noIter, false⟩

theorem treedH_ok {P : Program} {fuel f : Nat} {tbl : List Entry} {ann : List Nat} {trees : List (Nat × List (List Nat))} {keep : List Nat} {fn : Func} (hm : P.follows .mixedOrders = true) (ht : TblOk P tbl) (hf : P.funcs[f]? = some fn) (hb : bodyOkT P tbl ann trees keep fn = true) : EntryOk P (treeHE P fuel f tbl ann trees keep fn) :=
  ⟨hand_ok (treed_spec hm ht hf hb), noIter_ok P f⟩

/-- What comes behind a body. -/
def finK {Z : Type} (P : Program) (fn : Func) (h : AH) (k : AV → AH → Option Z) : Ex → Act' → AH → Option Z := fun e a h' => match e with
  | .exit _ => none
  | _ => match shutD a.ds h' with
    | some h' => match resK P fn a h' with
      | some r => bif Nat.ble h.next h'.next then k r h' else none
      | none => none
    | none => none

theorem runFn_run {C : Ctx} {norm : Nat → Nat → Norm} {fuel : Nat} {fn : Func} {c : Code} {args : List AV} {h : AH} {Z : Type} {k : AV → AH → Option Z} (hb : fn.body = some c) (hs : (Nat.ble fn.ntmps 512 && Nat.ble args.length fn.ntmps) = true) :
    runFn C norm fuel fn args h Z k = runCode C fuel (norm h.next) 1 false c (Act'.init args fn.ntmps) h Z (finK C.P fn h k) := by
  unfold runFn
  rw [hb]
  simp only [hs, cond_true]
  rfl

/-- What comes behind the first of two pieces. -/
def seqK {Z : Type} (C : Ctx) (norm : Nat → Norm) (fl p : Nat) (y : Code) (k : Ex → Act' → AH → Option Z) : Ex → Act' → AH → Option Z := fun e a h => match e with
  | .normal => runCode C fl norm p false y a h Z k
  | e => k e a h

theorem seqK_normal {Z : Type} {C : Ctx} {norm : Nat → Norm} {fl p : Nat} {y : Code} {k : Ex → Act' → AH → Option Z} (a : Act') (h : AH) : seqK C norm fl p y k .normal a h = runCode C fl norm p false y a h Z k := rfl

theorem seq_left {Z : Type} {C : Ctx} {norm : Nat → Norm} {fl p p1 p2 : Nat} {x y : Code} {a : Act'} {h : AH} {k : Ex → Act' → AH → Option Z} (h1 : p1 = 2 * p) (h2 : p2 = 2 * p + 1) :
    runCode C fl norm p false (.seq x y) a h Z k = runCode C fl norm p1 false x a h Z (seqK C norm fl p2 y k) := by
  subst h1; subst h2
  rfl

theorem plain_ok {P : Program} {fuel f : Nat} {tbl : List Entry} {ann : List Nat} {fn : Func} (hm : P.follows .mixedOrders = true) (ht : TblOk P tbl) (hf : P.funcs[f]? = some fn) (hb : bodyOk P tbl ann fn = true) : EntryOk P (plainE P fuel f tbl ann fn) := ⟨fn_ok hm ht hf hb, noIter_ok P f⟩

theorem itered_ok {P : Program} {fuel f : Nat} {tbl : List Entry} {ann : List Nat} {fn : Func} (hm : P.follows .mixedOrders = true) (ht : TblOk P tbl) (hf : P.funcs[f]? = some fn) (hb : bodyOk P tbl ann fn = true) : EntryOk P (iterE P fuel f tbl ann fn) := by
  refine ⟨fn_ok hm ht hf hb, ?_⟩
  unfold bodyOk at hb
  split at hb
  · rename_i c hc
    rw [Bool.and_eq_true] at hb
    exact it_ok hm ht hf hc hb.1 hb.2
  · cases hb

theorem single_ok {P : Program} {fuel f : Nat} {os : List (Option Ty)} {tbl : List Entry} {ann : List Nat} {fn : Func} (hm : P.follows .mixedOrders = true) (ht : TblOk P tbl) (hf : P.funcs[f]? = some fn) (hb : bodyOk P tbl ann fn = true) : EntryOk P (aloneE P fuel f os tbl ann fn) :=
  ⟨alone_ok (outS_ok (fn_ok hm ht hf hb)), noIter_ok P f⟩

end Go.Ph

/- The way out: a law's call. -/
namespace Go.Ph
open Go.RowKit Go.ChangeShapes Go.WideShapes

/-- What was there is as it was. -/
structure Still (W W' : World) : Prop where
  os : W'.os = W.os
  output : W'.output = W.output
  keep : ∀ b, b < W.heap.size → W'.heap[b]? = W.heap[b]?

theorem Still.kept {W W' : World} (h : Still W W') (may : MemPlace → Prop) : W.keptBut W' may := by
  refine ⟨h.os, h.output, fun i hi => ?_⟩
  rw [h.keep i hi]
  cases W.heap[i]? with
  | none => rfl
  | some o => cases o <;> simp

theorem post_still {H : Type} {enc : TypeId × Value → H} {P : Program} {f : Func} {s : ChangeSpec} {apart fresh handsOn again : Bool} {W W' : World} {args : Array Value} {v : Value} {ds gs : List (DataW H)} {before pa pv : List MemPlace}
    (hW : DataW.Whole enc P f.params.toList s.vars apart W args.toList ds gs before)
    (hres : ∀ (b : Nat) (sp : Nat → Bool) (hd : Bool), DataW.TrodAll enc P W' b sp hd f.resultTypes.toList (v.resultList f.resultTypes.size) (s.fn H (ds ++ gs)).results [])
    (hargs : ∀ sp : Nat → Bool, (∀ p ∈ before, sp p.block = true) → DataW.TrodAll enc P W' 0 sp true f.params.toList args.toList (s.fn H (ds ++ gs)).args pa)
    (hvars : ∀ sp : Nat → Bool, (∀ p ∈ before, sp p.block = true) → DataW.TrodVars enc P W' sp s.vars (s.fn H (ds ++ gs)).vars pv)
    (hps : before = pa ++ pv) (hst : Still W W')
    (hok : ∀ (j : Nat) (t : TypeId) (r : Value), f.resultTypes[j]? = some t → (v.resultList f.resultTypes.size)[j]? = some r → Value.okWide P W' .any 0 t r) :
    s.post enc P f apart fresh handsOn again W args v W' := by
  have hlt := hW.lt
  have hold : ∀ p ∈ before, (fun b => decide (b < W.heap.size)) p.block = true := fun p hp => by simpa using hlt p hp
  refine ⟨ds, gs, before, [], pa, pv, hW, hres _ _ _, hargs _ hold, hvars _ hold, World.keptBut_mono (fun p hp => ⟨hp, ?_⟩) (hst.kept (· ∈ before)), fun _ => ?_⟩
  · rw [hps, List.mem_append] at hp
    exact .inr hp
  · obtain ⟨_, _, _, _, _, hz, hn⟩ := hW
    refine ⟨hok, _, _, ([] ++ pa) ++ pv, ⟨[] ++ pa, pv, trodAll_append (hargs _ (fun _ _ => rfl)) (hres _ _ _), hvars _ (fun _ _ => rfl), rfl, ?_, ?_⟩, ?_⟩
    · intro b off hp
      have hb : MemPlace.cell b off ∈ before := by rw [hps]; simpa using hp
      have := hz b off hb
      unfold World.frozen? at this ⊢
      simp only at this ⊢
      rw [hst.keep b (hlt _ hb)]
      exact this
    · intro ha
      have := hn ha
      rw [hps] at this
      simpa using this
    · intro p hp _
      rw [hps]
      simpa using hp

theorem rel_empty (w : World) : Rel (fun _ => False) (fun _ => none) ⟨[], 0⟩ w :=
  ⟨fun id r h => (by cases h), fun b h => h.elim, fun _ _ => rfl, fun _ _ => rfl, fun _ _ _ _ _ h => (by cases h), fun _ _ _ h => (by cases h), fun _ _ _ _ _ _ h => (by cases h)⟩

/-- The blocks that there are: nothing writes to them. -/
abbrev Old (w : World) : Nat → Prop := Imm (fun _ => False) (fun _ => none) w

theorem law_calls {P : Program} {f : Nat} {args : List AV} {b : Bool} {h' : AH} (hf : FnTo P f args ⟨[], 0⟩ (.bool b) h') (vs : Array Value) (w : World) (hv : VCells (Old w) (fun _ => none) 0 w args vs.toList) :
    Calls P f vs w fun e w' => e = .returned (.bool b) ∧ Still w w' := by
  refine (hf (fun _ => False) (fun _ => none) w vs (rel_empty w) hv).mono ?_
  rintro e w' ⟨φ', v, rfl, g, hs⟩
  cases hs
  exact ⟨rfl, g.evo.os, g.evo.output, fun b hb => g.evo.keep b hb fun id l h => (by cases h)⟩

theorem VCells.nil {N : Nat → Prop} {φ : Map} {nx : Nat} {w : World} : VCells N φ nx w [] [] := ⟨rfl, fun i c v hc => (by simp at hc)⟩

/-- What comes of a law. -/
def boolK : AV → AH → Option Bool := fun r _ => match r with
  | .bool b => some b
  | _ => none

theorem spec_calls {P : Program} {f : Nat} {S : Spec} {q t : Bool} (hS : SpecTo P f S q t) {args : List AV} {b : Bool} (hk : S args ⟨[], 0⟩ Bool boolK = some b) (vs : Array Value) (w : World) (hv : VCells (Old w) (fun _ => none) 0 w args vs.toList) :
    Calls P f vs w fun e w' => e = .returned (.bool b) ∧ Still w w' := by
  obtain ⟨r, h', hz, _, _, _, hf⟩ := hS.to_ _ _ _ _ _ hk
  cases r with
  | bool b' =>
    simp only [boolK, Option.some.injEq] at hz
    subst hz
    exact law_calls hf vs w hv
  | _ => cases hz

/-- A call without arguments that always answers the same. -/
def constS (b : Bool) : Spec := fun args h Z k => match args with
  | [] => k (.bool b) h
  | _ => none

theorem const_ok {P : Program} {f : Nat} {S : Spec} {t : Bool} (hS : SpecTo P f S true t) {b : Bool} (hk : S [] ⟨[], 0⟩ Bool boolK = some b) : SpecTo P f (constS b) true true := by
  obtain ⟨r, h', hz, _, hq, _, hf⟩ := hS.to_ _ _ _ _ _ hk
  cases r with
  | bool b' =>
    simp only [boolK, Option.some.injEq] at hz
    subst hz
    obtain ⟨_, hq⟩ := hq rfl
    refine ⟨fun args h Z k z hk => ?_⟩
    unfold constS at hk
    split at hk
    · exact ⟨_, h, hk, Nat.le_refl _, fun _ => ⟨rfl, hq⟩, fun _ => ⟨Nat.le_refl _, fun _ _ _ => rfl⟩, hq h⟩
    · cases hk
  | _ => cases hz

/-- A call that has been run before. -/
def memoS (a0 : List AV) (h0 : AH) (r : AV) (h1 : AH) : Spec := fun args h Z k => bif eqL (eqAV 5) args a0 && eqAH h h0 then k r h1 else none

def pairK : AV → AH → Option (AV × AH) := fun r h => some (r, h)

theorem memo_ok {P : Program} {f : Nat} {S : Spec} {q t c : Bool} (hS : SpecTo P f S q t c) {a0 : List AV} {h0 h1 : AH} {r : AV} (hk : S a0 h0 (AV × AH) pairK = some (r, h1)) : SpecTo P f (memoS a0 h0 r h1) false false := by
  obtain ⟨r', h', hz, hn, _, _, hf⟩ := hS.to_ _ _ _ _ _ hk
  simp only [pairK, Option.some.injEq, Prod.mk.injEq] at hz
  obtain ⟨rfl, rfl⟩ := hz
  refine ⟨fun args h Z k z hk2 => ?_⟩
  unfold memoS at hk2
  cases he : (eqL (eqAV 5) args a0 && eqAH h h0) with
  | false => rw [he] at hk2; cases hk2
  | true =>
    rw [he, cond_true] at hk2
    rw [Bool.and_eq_true] at he
    have e1 := eqL_eq (eqAV_eq 5) he.1
    have e2 := eqAH_eq he.2
    subst e1
    subst e2
    exact ⟨_, _, hk2, hn, fun h => (by cases h), fun h => (by cases h), hf⟩

/-- An entry for a call that has been run before. -/
def memoE (f : Nat) (a0 : List AV) (h0 : AH) (r : AV) (h1 : AH) : Entry := ⟨f, memoS a0 h0 r h1, false, false, noIter, false⟩

end Go.Ph

end
