/- MachineCalculates: the results are those that are documented. -/
import Derived.Test.YtnifppgodgcoaaaCalcB
import Derived.Test.YtnifppgodgcoaaaCalcC
import Derived.Test.YtnifppgodgcoaaaCalcD
import Derived.Test.YtnifppgodgcoaaaCalcE
set_option linter.unusedVariables false
namespace Go.Ph

theorem wrap64 (x : Int) : IntKind.u64.wrap x = x % 18446744073709551616 := by
  simp [IntKind.wrap, IntKind.signed, IntKind.bits]

theorem wrap_bv (x : BitVec 64) : IntKind.u64.wrap (x.toNat : Int) = x.toNat := by
  rw [wrap64]
  have := x.isLt
  omega

theorem of_bv (x : BitVec 64) : BitVec.ofInt 64 (x.toNat : Int) = x := by
  simp

theorem to_bv (a : Nat) (h : a < 18446744073709551616) : ((BitVec.ofInt 64 (Int.ofNat a)).toNat : Int) = Int.ofNat a := by
  simp
  omega

theorem not_bv (a : Int) : notW a = ((~~~ (BitVec.ofInt 64 a)).toNat : Nat) := by
  show IntKind.u64.wrap ((BitVec.ofInt 64 (if IntKind.u64.signed then -1 else IntKind.u64.max) ^^^ BitVec.ofInt 64 a).toNat) = _
  rw [wrap_bv]
  have : BitVec.ofInt 64 (if IntKind.u64.signed then -1 else IntKind.u64.max) = BitVec.allOnes 64 := by decide
  rw [this, BitVec.allOnes_xor]

theorem r5_ok (k : Nat) (hk : 6 ≤ k) (hk2 : k ≤ 17) (a b : Nat) (ha : a < 18446744073709551616) (hb : b < 18446744073709551616) (h0 : k = 10 → b ≠ 0) : R5 k (.ofNat a) (.ofNat b) = some true := by
  have hc : k = 6 ∨ k = 7 ∨ k = 8 ∨ k = 9 ∨ k = 10 ∨ k = 11 ∨ k = 12 ∨ k = 13 ∨ k = 14 ∨ k = 15 ∨ k = 16 ∨ k = 17 := by omega
  rcases hc with rfl | rfl | rfl | rfl | rfl | rfl | rfl | rfl | rfl | rfl | rfl | rfl
  · simp only [R5, binV, wrap64, Option.some.injEq, beq_iff_eq]
    simp only [Int.ofNat_eq_natCast]
    omega
  · simp only [R5, binV, wrap64, Option.some.injEq, beq_iff_eq]
    simp only [Int.ofNat_eq_natCast]
    omega
  · simp [R5, binV]
  · simp [R5, binV]
  · have hb0 := h0 rfl
    have e1 : (Int.ofNat a).tmod (Int.ofNat b) = Int.ofNat (a % b) := rfl
    have hlt := Nat.mod_lt a (Nat.pos_of_ne_zero hb0)
    have hle := Nat.mod_le a b
    have e2 : IntKind.u64.wrap (Int.ofNat a - Int.ofNat (a % b)) = Int.ofNat (a - a % b) := by
      rw [wrap64]
      simp only [Int.ofNat_eq_natCast]
      omega
    have e3 : (Int.ofNat (a - a % b)).tmod (Int.ofNat b) = Int.ofNat ((a - a % b) % b) := rfl
    have e4 : (a - a % b) % b = 0 := by
      have h5 := Nat.div_add_mod a b
      have : a - a % b = b * (a / b) := by omega
      rw [this]
      exact Nat.mul_mod_right b _
    have c1 : decide (Int.ofNat (a % b) < Int.ofNat b) = true := by
      simp only [Int.ofNat_eq_natCast, decide_eq_true_eq]
      omega
    have c2 : decide (Int.ofNat (a % b) ≤ Int.ofNat a) = true := by
      simp only [Int.ofNat_eq_natCast, decide_eq_true_eq]
      omega
    simp only [R5, binV, e1, e2, e3, e4, c1, c2]
    rfl
  · have h : R5 11 (.ofNat a) (.ofNat b) = some (IntKind.u64.wrap (BitVec.ofInt 64 (.ofNat a) &&& BitVec.ofInt 64 (.ofNat b)).toNat == notW (IntKind.u64.wrap (BitVec.ofInt 64 (notW (.ofNat a)) ||| BitVec.ofInt 64 (notW (.ofNat b))).toNat)) := rfl
    rw [h, not_bv (Int.ofNat a), not_bv (Int.ofNat b), of_bv, of_bv, wrap_bv, wrap_bv, not_bv, of_bv]
    simp only [Option.some.injEq, beq_iff_eq]
    congr 2
    ext i hi
    simp
  · have h : R5 12 (.ofNat a) (.ofNat b) = some (IntKind.u64.wrap (BitVec.ofInt 64 (.ofNat a) ||| BitVec.ofInt 64 (.ofNat b)).toNat == notW (IntKind.u64.wrap (BitVec.ofInt 64 (notW (.ofNat a)) &&& ~~~ BitVec.ofInt 64 (.ofNat b)).toNat)) := rfl
    rw [h, not_bv (Int.ofNat a), of_bv, wrap_bv, wrap_bv, not_bv, of_bv]
    simp only [Option.some.injEq, beq_iff_eq]
    congr 2
    ext i hi
    simp
  · simp only [R5, binV, wrap_bv, of_bv, Option.some.injEq, beq_iff_eq, BitVec.xor_assoc, BitVec.xor_self, BitVec.xor_zero]
    exact to_bv a ha
  · simp only [R5, binV]
    by_cases h : Int.ofNat b < 64
    · rw [decide_eq_true h, cond_true]
      simp
    · have hm : min (Int.ofNat b).toNat 64 = 64 := by
        simp only [Int.ofNat_eq_natCast] at h ⊢
        simp
        omega
      simp only [h, decide_false, cond_false, hm, wrap64, Option.some.injEq, beq_iff_eq]
      omega
  · simp only [R5, binV]
    by_cases h : Int.ofNat b < 64
    · rw [decide_eq_true h, cond_true]
      simp
    · have hm : min (Int.ofNat b).toNat 64 = 64 := by
        simp only [Int.ofNat_eq_natCast] at h ⊢
        simp
        omega
      simp only [h, decide_false, cond_false, hm, Option.some.injEq, beq_iff_eq]
      rw [Int.fdiv_eq_ediv_of_nonneg _ (by decide)]
      simp only [Int.ofNat_eq_natCast]
      omega
  · simp only [R5, binV]
    cases Int.ofNat a == Int.ofNat b <;> rfl
  · simp only [R5, binV]
    cases decide (Int.ofNat a < Int.ofNat b) <;> rfl

theorem opK_eq (op : Nat) (h : op < 256) : opK5 (.ofNat op) = ((6 + op % 12 : Nat) : Int) := by
  have e : (Int.ofNat op).tmod 12 = Int.ofNat (op % 12) := rfl
  have hlt := Nat.mod_lt op (by decide : 12 > 0)
  simp only [opK5, e]
  simp only [IntKind.wrap, IntKind.signed, IntKind.bits, Int.ofNat_eq_natCast]
  simp
  omega

theorem g5_ok (u0 u2 u3 u16 u17 u18 u19 u20 u21 u22 u23 u24 : AV) (k : Nat) (hk : 6 ≤ k) (hk2 : k ≤ 17) (a b : Nat) (ha : a < 18446744073709551616) (hb : b < 18446744073709551616) :
    G5 (st5 (ini5 u0 (.int .u64 (.ofNat a)) u2 u3) u16 u17 u18 u19 u20 (.int .u64 (.ofNat b)) u21 u22 u23 u24 (.int .i64 (k : Int))) = some true := by
  have same : ∀ (c : Bool) (x : Option Bool), cond c x x = x := fun c x => by cases c <;> rfl
  have hc : k = 6 ∨ k = 7 ∨ k = 8 ∨ k = 9 ∨ k = 10 ∨ k = 11 ∨ k = 12 ∨ k = 13 ∨ k = 14 ∨ k = 15 ∨ k = 16 ∨ k = 17 := by omega
  rcases hc with rfl | rfl | rfl | rfl | rfl | rfl | rfl | rfl | rfl | rfl | rfl | rfl
  · exact (g6 ..).trans ((same _ _).trans (r5_ok 6 (by decide) (by decide) a b ha hb (fun h => by cases h)))
  · exact (g7 ..).trans ((same _ _).trans (r5_ok 7 (by decide) (by decide) a b ha hb (fun h => by cases h)))
  · exact (g8 ..).trans ((same _ _).trans (r5_ok 8 (by decide) (by decide) a b ha hb (fun h => by cases h)))
  · cases b with
    | zero => exact g9z ..
    | succ n => exact (g9s ..).trans (r5_ok 9 (by decide) (by decide) a (n + 1) ha hb (fun h => by cases h))
  · cases b with
    | zero => exact g10z ..
    | succ n => exact (g10s ..).trans (r5_ok 10 (by decide) (by decide) a (n + 1) ha hb (fun _ => by omega))
  · exact (g11 ..).trans ((same _ _).trans (r5_ok 11 (by decide) (by decide) a b ha hb (fun h => by cases h)))
  · exact (g12 ..).trans ((same _ _).trans (r5_ok 12 (by decide) (by decide) a b ha hb (fun h => by cases h)))
  · exact (g13 ..).trans ((same _ _).trans (r5_ok 13 (by decide) (by decide) a b ha hb (fun h => by cases h)))
  · exact (g14 ..).trans ((same _ _).trans (r5_ok 14 (by decide) (by decide) a b ha hb (fun h => by cases h)))
  · exact (g15 ..).trans ((same _ _).trans (r5_ok 15 (by decide) (by decide) a b ha hb (fun h => by cases h)))
  · exact (g16 ..).trans ((same _ _).trans (r5_ok 16 (by decide) (by decide) a b ha hb (fun h => by cases h)))
  · exact (g17 ..).trans ((same _ _).trans (r5_ok 17 (by decide) (by decide) a b ha hb (fun h => by cases h)))

theorem calc_ev (op a b near : Nat) (ho : op < 256) (ha : a < 18446744073709551616) (hb : b < 18446744073709551616) :
    e5.spec [.int .u8 (.ofNat op), .int .u64 (.ofNat a), .int .u64 (.ofNat b), .int .u8 (.ofNat near)] ⟨[], 0⟩ Bool boolK = some true := by
  obtain ⟨u2, u16, u17, u18, u19, u20, u21, u22, u23, u24, h⟩ := cut5 (.ofNat op) (.ofNat a) (.ofNat b) (.ofNat near)
  rw [h, opK_eq op ho]
  have hlt := Nat.mod_lt op (by decide : 12 > 0)
  by_cases hn : (Int.ofNat near).tmod 3 = 0
  · rw [if_pos hn]
    have e : (Int.ofNat b).tmod 70 = Int.ofNat (b % 70) := rfl
    rw [e]
    exact g5_ok _ _ _ _ _ _ _ _ _ _ _ _ _ (by omega) (by omega) a (b % 70) ha (by omega)
  · rw [if_neg hn]
    exact g5_ok _ _ _ _ _ _ _ _ _ _ _ _ _ (by omega) (by omega) a b ha hb

theorem u8_nat {a : Int} (h : (Lit.int .u8 a).wf = true) : ∃ n : Nat, a = Int.ofNat n ∧ n < 256 := by
  simp only [Lit.wf, Bool.and_eq_true, decide_eq_true_eq] at h
  have h1 : (0 : Int) ≤ a := h.1
  have h2 : a ≤ 255 := h.2
  exact ⟨a.toNat, by simp only [Int.ofNat_eq_natCast]; omega, by omega⟩

theorem u64_nat {a : Int} (h : (Lit.int .u64 a).wf = true) : ∃ n : Nat, a = Int.ofNat n ∧ n < 18446744073709551616 := by
  simp only [Lit.wf, Bool.and_eq_true, decide_eq_true_eq] at h
  have h1 : (0 : Int) ≤ a := h.1
  have h2 : a ≤ 18446744073709551615 := h.2
  exact ⟨a.toNat, by simp only [Int.ofNat_eq_natCast]; omega, by omega⟩

end Go.Ph
