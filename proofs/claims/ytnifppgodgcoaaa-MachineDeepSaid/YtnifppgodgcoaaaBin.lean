/- The functions of the program, run by the evaluator: what calculates. -/
import Derived.Test.YtnifppgodgcoaaaProg
import Derived.KernelRfl
import Derived.Test.YtnifppgodgcoaaaEngF
set_option linter.unusedVariables false
noncomputable section
namespace Go.Ph
theorem mixed : Go.Proofs.Try.prog.follows .mixedOrders = true := by kernel_rfl
abbrev fuel : Nat := 400
noncomputable def e29 : Entry := ⟨29, hand (cloneS (.pair (.int .i64) (.pair (.int .i64) (.pair (.int .i64) (.int .i64)))) 43 32), false, true⟩
theorem ok29 : EntryOk Go.Proofs.Try.prog e29 := hand_ok (
  clone_ok mixed Go.Proofs.Try.func29 rfl rfl rfl Go.Proofs.Try.underlying37 rfl rfl rfl rfl rfl rfl (by kernel_rfl) (by kernel_rfl) (by kernel_rfl) rfl rfl rfl
    (fun c h => by kernel_rfl) (fun c h => by kernel_rfl)
    (clone_tail (by kernel_rfl) Go.Proofs.Try.underlying37 (by kernel_rfl) (by kernel_rfl) rfl rfl rfl rfl rfl rfl rfl rfl rfl rfl rfl rfl (fun Z ρ k => by kernel_rfl)))
noncomputable def e30 : Entry := ⟨30, hand (cloneS (.int .u64) 47 8), false, true⟩
theorem ok30 : EntryOk Go.Proofs.Try.prog e30 := hand_ok (
  clone_ok mixed Go.Proofs.Try.func30 rfl rfl rfl Go.Proofs.Try.underlying38 rfl rfl rfl rfl rfl rfl (by kernel_rfl) (by kernel_rfl) (by kernel_rfl) rfl rfl rfl
    (fun c h => by kernel_rfl) (fun c h => by kernel_rfl)
    (clone_tail (by kernel_rfl) Go.Proofs.Try.underlying38 (by kernel_rfl) (by kernel_rfl) rfl rfl rfl rfl rfl rfl rfl rfl rfl rfl rfl rfl (fun Z ρ k => by kernel_rfl)))
noncomputable def e40 : Entry := ⟨40, hand (cloneS (.pair (.int .i64) (.int .u64)) 49 16), false, true⟩
theorem ok40 : EntryOk Go.Proofs.Try.prog e40 := hand_ok (
  clone_ok mixed Go.Proofs.Try.func40 rfl rfl rfl Go.Proofs.Try.underlying44 rfl rfl rfl rfl rfl rfl (by kernel_rfl) (by kernel_rfl) (by kernel_rfl) rfl rfl rfl
    (fun c h => by kernel_rfl) (fun c h => by kernel_rfl)
    (clone_tail (by kernel_rfl) Go.Proofs.Try.underlying44 (by kernel_rfl) (by kernel_rfl) rfl rfl rfl rfl rfl rfl rfl rfl rfl rfl rfl rfl (fun Z ρ k => by kernel_rfl)))
/- pluginhost/machine.truth -/
noncomputable def e62 : Entry := aloneE Go.Proofs.Try.prog fuel 62 [some (.int .u64)] [] [] Go.Proofs.Try.f62
theorem ok62 : EntryOk Go.Proofs.Try.prog e62 := single_ok mixed .nil Go.Proofs.Try.func62 (by kernel_rfl)
/- pluginhost/machine.binary -/
noncomputable def e63 : Entry := aloneE Go.Proofs.Try.prog fuel 63 [some (.int .u64)] [e62] [] Go.Proofs.Try.f63
theorem ok63 : EntryOk Go.Proofs.Try.prog e63 := single_ok mixed (.cons ok62 .nil) Go.Proofs.Try.func63 (by kernel_rfl)
/-- What an operation on two numbers comes to. -/
def binV (n : Nat) (a b : Int) : Int :=
  match n with
  | 6 => IntKind.u64.wrap (a + b)
  | 7 => IntKind.u64.wrap (a - b)
  | 8 => IntKind.u64.wrap (a * b)
  | 9 => IntKind.u64.wrap (a.tdiv b)
  | 10 => a.tmod b
  | 11 => IntKind.u64.wrap (BitVec.ofInt 64 a &&& BitVec.ofInt 64 b).toNat
  | 12 => IntKind.u64.wrap (BitVec.ofInt 64 a ||| BitVec.ofInt 64 b).toNat
  | 13 => IntKind.u64.wrap (BitVec.ofInt 64 a ^^^ BitVec.ofInt 64 b).toNat
  | 14 => IntKind.u64.wrap (a * 2 ^ (min b.toNat 64))
  | 15 => a.fdiv (2 ^ (min b.toNat 64))
  | 16 => cond (a == b) 1 0
  | _ => cond (decide (a < b)) 1 0

def binS : Spec := fun args h Z k =>
  match args with
  | [.int .i64 (.ofNat n), .int .u64 (.ofNat a), .int .u64 (.ofNat b)] =>
    bif Nat.ble 6 n && Nat.ble n 17 && !((Nat.beq n 9 || Nat.beq n 10) && Nat.beq b 0) then k (.int .u64 (binV n (.ofNat a) (.ofNat b))) h else none
  | _ => none

def valK : AV → AH → Option AV := fun r _ => some r

theorem quiet_val {P : Program} {f : Nat} {S : Spec} {t : Bool} (hS : SpecTo P f S true t) {args : List AV} {h : AH} {r : AV} (hk : S args h AV valK = some r) : ∀ h2 : AH, FnTo P f args h2 r h2 := by
  obtain ⟨r', h', hz, _, hq, _, _⟩ := hS.to_ _ _ _ _ _ hk
  simp only [valK, Option.some.injEq] at hz
  subst hz
  exact (hq rfl).2

theorem bin_val (n a b : Nat) (h : AH) (hn : 6 ≤ n) (hn2 : n ≤ 17) (hb : (n = 9 ∨ n = 10) → b ≠ 0) : e63.spec [.int .i64 (.ofNat n), .int .u64 (.ofNat a), .int .u64 (.ofNat b)] h AV valK = some (.int .u64 (binV n (.ofNat a) (.ofNat b))) := by
  have hc : n = 6 ∨ n = 7 ∨ n = 8 ∨ n = 9 ∨ n = 10 ∨ n = 11 ∨ n = 12 ∨ n = 13 ∨ n = 14 ∨ n = 15 ∨ n = 16 ∨ n = 17 := by omega
  rcases hc with rfl | rfl | rfl | rfl | rfl | rfl | rfl | rfl | rfl | rfl | rfl | rfl
  · show e63.spec _ h AV valK = some _
    kernel_rfl
  · show e63.spec _ h AV valK = some _
    kernel_rfl
  · show e63.spec _ h AV valK = some _
    kernel_rfl
  · obtain ⟨m, rfl⟩ := Nat.exists_eq_succ_of_ne_zero (hb (.inl rfl))
    show e63.spec _ h AV valK = some _
    kernel_rfl
  · obtain ⟨m, rfl⟩ := Nat.exists_eq_succ_of_ne_zero (hb (.inr rfl))
    show e63.spec _ h AV valK = some _
    kernel_rfl
  · show e63.spec _ h AV valK = some _
    kernel_rfl
  · show e63.spec _ h AV valK = some _
    kernel_rfl
  · show e63.spec _ h AV valK = some _
    kernel_rfl
  · show e63.spec _ h AV valK = some _
    kernel_rfl
  · show e63.spec _ h AV valK = some _
    kernel_rfl
  · have e : e63.spec [.int .i64 (.ofNat 16), .int .u64 (.ofNat a), .int .u64 (.ofNat b)] h AV valK = cond (Int.ofNat a == Int.ofNat b) (some (.int .u64 1)) (some (.int .u64 0)) := by kernel_rfl
    refine e.trans ?_
    simp only [binV]
    cases Int.ofNat a == Int.ofNat b <;> rfl
  · have e : e63.spec [.int .i64 (.ofNat 17), .int .u64 (.ofNat a), .int .u64 (.ofNat b)] h AV valK = cond (decide (Int.ofNat a < Int.ofNat b)) (some (.int .u64 1)) (some (.int .u64 0)) := by kernel_rfl
    refine e.trans ?_
    simp only [binV]
    cases decide (Int.ofNat a < Int.ofNat b) <;> rfl

theorem bin_ok : SpecTo Go.Proofs.Try.prog 63 binS true true := by
  refine ⟨fun args h Z k z hk => ?_⟩
  unfold binS at hk
  split at hk
  · rename_i n a b
    cases hc : (Nat.ble 6 n && Nat.ble n 17 && !((Nat.beq n 9 || Nat.beq n 10) && Nat.beq b 0)) with
    | false => rw [hc] at hk; cases hk
    | true =>
      rw [hc] at hk
      simp only [Bool.and_eq_true, Bool.not_eq_true', Bool.and_eq_false_iff, Bool.or_eq_false_iff] at hc
      obtain ⟨⟨h1, h2⟩, h3⟩ := hc
      have v := quiet_val (P := Go.Proofs.Try.prog) ok63 (bin_val n a b h (Nat.le_of_ble_eq_true h1) (Nat.le_of_ble_eq_true h2) (fun hd hb => by
        subst hb
        rcases h3 with ⟨h4, h5⟩ | h4
        · rcases hd with rfl | rfl
          · cases h4
          · cases h5
        · cases h4))
      exact ⟨_, h, hk, Nat.le_refl _, fun _ => ⟨rfl, v⟩, fun _ => ⟨Nat.le_refl _, fun _ _ _ => rfl⟩, v h⟩
  · cases hk

noncomputable def k63 : Entry := ⟨63, binS, true, true⟩
theorem ok63k : EntryOk Go.Proofs.Try.prog k63 := bin_ok
end Go.Ph
end
