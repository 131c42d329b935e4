/- MachineDeep: the law. -/
import Derived.Test.YtnifppgodgcoaaaDeepI
set_option linter.unusedVariables false
noncomputable section
namespace Go.Ph.Deep
open Go.Ph

theorem frames_eq (fr : Nat) (h : fr < 256) : IntKind.i64.wrap (1 + IntKind.i64.wrap ((Int.ofNat fr).tmod 20)) = Int.ofNat (fr % 20 + 1) := by
  have e : (Int.ofNat fr).tmod 20 = Int.ofNat (fr % 20) := rfl
  rw [e]
  simp only [IntKind.wrap, IntKind.signed, IntKind.bits, Int.ofNat_eq_natCast]
  simp
  omega

theorem depth_eq (d : Nat) (h : d < 256) : IntKind.u64.wrap ((Int.ofNat d).tmod 24) = Int.ofNat (d % 24) := by
  have e : (Int.ofNat d).tmod 24 = Int.ofNat (d % 24) := rfl
  rw [e]
  simp only [IntKind.wrap, IntKind.signed, IntKind.bits, Int.ofNat_eq_natCast]
  simp
  omega

theorem need_eq (d : Nat) (h : d < 256) : IntKind.i64.wrap (2 + IntKind.i64.wrap ((Int.ofNat d).tmod 24)) = Int.ofNat (d % 24 + 2) := by
  have e : (Int.ofNat d).tmod 24 = Int.ofNat (d % 24) := rfl
  rw [e]
  simp only [IntKind.wrap, IntKind.signed, IntKind.bits, Int.ofNat_eq_natCast]
  simp
  omega

/-- Up to the run. -/
theorem law_run (fr depth : Nat) (h1 : fr < 256) (h2 : depth < 256) : ∃ u0 u13 u14 u15 u17 u18 : AV, law6 [.int .u8 (.ofNat fr), .int .u8 (.ofNat depth)] ⟨[], 0⟩ Bool boolK =
    run11 [.ptr 0 0 0, .int .i64 10000] (heap0 (.ofNat (fr % 20 + 1)) (.ofNat (depth % 24))) Bool (backK (.ofNat (fr % 20 + 1)) (.ofNat (depth % 24)) (afterK (hand run11) (L6 u0 u13 u14 u15 u17 u18 (.ofNat depth) (.ofNat (fr % 20 + 1)) (.ofNat (depth % 24))))) := by
  refine ⟨.int .u8 (.ofNat fr), .int .u8 (.ofNat fr), .int .u8 ((Int.ofNat fr).tmod 20), .int .i64 (IntKind.i64.wrap ((Int.ofNat fr).tmod 20)), .int .u8 (.ofNat depth), .int .u8 ((Int.ofNat depth).tmod 24), ?_⟩
  rw [start6, body6_eq]
  rw [seq_run (p1 := 2) (p2 := 3) rfl rfl (fun k => r0_6 _ k _ _)]
  rw [seq_run (p1 := 6) (p2 := 7) rfl rfl (fun k => r1_6 _ k _ _ _)]
  rw [seq_run (p1 := 14) (p2 := 15) rfl rfl (fun k => r2_6 _ k _ _ _ _ _ _ _)]
  rw [frames_eq fr h1, depth_eq depth h2]
  refine (pre_6 _ _ _ _ _ _ _ _ _ _).trans ?_
  have hc : decide (Int.ofNat (fr % 20 + 1) > 256) = false := by
    apply decide_eq_false
    simp only [Int.ofNat_eq_natCast]
    omega
  rw [hc]
  refine (show ∀ (x y : Option Bool), cond (false == false) x y = x from fun x y => rfl) _ _ |>.trans ?_
  rw [call_6]
  exact hand_6 _ _ _ _

theorem law_true (fr depth : Nat) (h1 : fr < 256) (h2 : depth < 256) : law6 [.int .u8 (.ofNat fr), .int .u8 (.ofNat depth)] ⟨[], 0⟩ Bool boolK = some true := by
  obtain ⟨u0, u13, u14, u15, u17, u18, h⟩ := law_run fr depth h1 h2
  rw [h]
  clear h
  have hneed := need_eq depth h2
  have hD : depth % 24 < 24 := Nat.mod_lt _ (by decide)
  have hN : fr % 20 < 20 := Nat.mod_lt _ (by decide)
  generalize fr % 20 = F at hN ⊢
  generalize hd : depth % 24 = D at hD hneed ⊢
  have yes : ∀ N : Int, N < Int.ofNat (D + 2) → ∀ x y : Option Bool, cond (decide (IntKind.i64.wrap (2 + IntKind.i64.wrap ((Int.ofNat depth).tmod 24)) > N)) x y = x := by
    intro N hlt x y
    rw [hneed, decide_eq_true (show Int.ofNat (D + 2) > N from hlt)]
    rfl
  have no : ∀ N : Int, Int.ofNat (D + 2) ≤ N → ∀ x y : Option Bool, cond (decide (IntKind.i64.wrap (2 + IntKind.i64.wrap ((Int.ofNat depth).tmod 24)) > N)) x y = y := by
    intro N hle x y
    rw [hneed, decide_eq_false (show ¬ Int.ofNat (D + 2) > N from fun hh => absurd (Int.lt_of_lt_of_le hh hle) (Int.lt_irrefl _))]
    rfl
  by_cases ht : F ≤ D
  · have hF : F = 0 ∨ F = 1 ∨ F = 2 ∨ F = 3 ∨ F = 4 ∨ F = 5 ∨ F = 6 ∨ F = 7 ∨ F = 8 ∨ F = 9 ∨ F = 10 ∨ F = 11 ∨ F = 12 ∨ F = 13 ∨ F = 14 ∨ F = 15 ∨ F = 16 ∨ F = 17 ∨ F = 18 ∨ F = 19 := by omega
    rcases hF with rfl | rfl | rfl | rfl | rfl | rfl | rfl | rfl | rfl | rfl | rfl | rfl | rfl | rfl | rfl | rfl | rfl | rfl | rfl | rfl
    · refine (trap0 _ _).trans ((suf_t0 _ _ _ _ _ _ _ _ _ _).trans (yes 1 ?_ _ _))
      simp only [Int.ofNat_eq_natCast]; omega
    · obtain ⟨y, rfl⟩ : ∃ y, D = y + 1 := ⟨D - 1, by omega⟩
      refine (trap1 y (by omega) _).trans ((suf_t1 _ _ _ _ _ _ _ _ _ _ _ _).trans (yes 2 ?_ _ _))
      simp only [Int.ofNat_eq_natCast]; omega
    · obtain ⟨y, rfl⟩ : ∃ y, D = y + 2 := ⟨D - 2, by omega⟩
      refine (trap2 y (by omega) _).trans ((suf_t2 _ _ _ _ _ _ _ _ _ _ _ _ _).trans (yes 3 ?_ _ _))
      simp only [Int.ofNat_eq_natCast]; omega
    · obtain ⟨y, rfl⟩ : ∃ y, D = y + 3 := ⟨D - 3, by omega⟩
      refine (trap3 y (by omega) _).trans ((suf_t3 _ _ _ _ _ _ _ _ _ _ _ _ _ _).trans (yes 4 ?_ _ _))
      simp only [Int.ofNat_eq_natCast]; omega
    · obtain ⟨y, rfl⟩ : ∃ y, D = y + 4 := ⟨D - 4, by omega⟩
      refine (trap4 y (by omega) _).trans ((suf_t4 _ _ _ _ _ _ _ _ _ _ _ _ _ _ _).trans (yes 5 ?_ _ _))
      simp only [Int.ofNat_eq_natCast]; omega
    · obtain ⟨y, rfl⟩ : ∃ y, D = y + 5 := ⟨D - 5, by omega⟩
      refine (trap5 y (by omega) _).trans ((suf_t5 _ _ _ _ _ _ _ _ _ _ _ _ _ _ _ _).trans (yes 6 ?_ _ _))
      simp only [Int.ofNat_eq_natCast]; omega
    · obtain ⟨y, rfl⟩ : ∃ y, D = y + 6 := ⟨D - 6, by omega⟩
      refine (trap6 y (by omega) _).trans ((suf_t6 _ _ _ _ _ _ _ _ _ _ _ _ _ _ _ _ _).trans (yes 7 ?_ _ _))
      simp only [Int.ofNat_eq_natCast]; omega
    · obtain ⟨y, rfl⟩ : ∃ y, D = y + 7 := ⟨D - 7, by omega⟩
      refine (trap7 y (by omega) _).trans ((suf_t7 _ _ _ _ _ _ _ _ _ _ _ _ _ _ _ _ _ _).trans (yes 8 ?_ _ _))
      simp only [Int.ofNat_eq_natCast]; omega
    · obtain ⟨y, rfl⟩ : ∃ y, D = y + 8 := ⟨D - 8, by omega⟩
      refine (trap8 y (by omega) _).trans ((suf_t8 _ _ _ _ _ _ _ _ _ _ _ _ _ _ _ _ _ _ _).trans (yes 9 ?_ _ _))
      simp only [Int.ofNat_eq_natCast]; omega
    · obtain ⟨y, rfl⟩ : ∃ y, D = y + 9 := ⟨D - 9, by omega⟩
      refine (trap9 y (by omega) _).trans ((suf_t9 _ _ _ _ _ _ _ _ _ _ _ _ _ _ _ _ _ _ _ _).trans (yes 10 ?_ _ _))
      simp only [Int.ofNat_eq_natCast]; omega
    · obtain ⟨y, rfl⟩ : ∃ y, D = y + 10 := ⟨D - 10, by omega⟩
      refine (trap10 y (by omega) _).trans ((suf_t10 _ _ _ _ _ _ _ _ _ _ _ _ _ _ _ _ _ _ _ _ _).trans (yes 11 ?_ _ _))
      simp only [Int.ofNat_eq_natCast]; omega
    · obtain ⟨y, rfl⟩ : ∃ y, D = y + 11 := ⟨D - 11, by omega⟩
      refine (trap11 y (by omega) _).trans ((suf_t11 _ _ _ _ _ _ _ _ _ _ _ _ _ _ _ _ _ _ _ _ _ _).trans (yes 12 ?_ _ _))
      simp only [Int.ofNat_eq_natCast]; omega
    · obtain ⟨y, rfl⟩ : ∃ y, D = y + 12 := ⟨D - 12, by omega⟩
      refine (trap12 y (by omega) _).trans ((suf_t12 _ _ _ _ _ _ _ _ _ _ _ _ _ _ _ _ _ _ _ _ _ _ _).trans (yes 13 ?_ _ _))
      simp only [Int.ofNat_eq_natCast]; omega
    · obtain ⟨y, rfl⟩ : ∃ y, D = y + 13 := ⟨D - 13, by omega⟩
      refine (trap13 y (by omega) _).trans ((suf_t13 _ _ _ _ _ _ _ _ _ _ _ _ _ _ _ _ _ _ _ _ _ _ _ _).trans (yes 14 ?_ _ _))
      simp only [Int.ofNat_eq_natCast]; omega
    · obtain ⟨y, rfl⟩ : ∃ y, D = y + 14 := ⟨D - 14, by omega⟩
      refine (trap14 y (by omega) _).trans ((suf_t14 _ _ _ _ _ _ _ _ _ _ _ _ _ _ _ _ _ _ _ _ _ _ _ _ _).trans (yes 15 ?_ _ _))
      simp only [Int.ofNat_eq_natCast]; omega
    · obtain ⟨y, rfl⟩ : ∃ y, D = y + 15 := ⟨D - 15, by omega⟩
      refine (trap15 y (by omega) _).trans ((suf_t15 _ _ _ _ _ _ _ _ _ _ _ _ _ _ _ _ _ _ _ _ _ _ _ _ _ _).trans (yes 16 ?_ _ _))
      simp only [Int.ofNat_eq_natCast]; omega
    · obtain ⟨y, rfl⟩ : ∃ y, D = y + 16 := ⟨D - 16, by omega⟩
      refine (trap16 y (by omega) _).trans ((suf_t16 _ _ _ _ _ _ _ _ _ _ _ _ _ _ _ _ _ _ _ _ _ _ _ _ _ _ _).trans (yes 17 ?_ _ _))
      simp only [Int.ofNat_eq_natCast]; omega
    · obtain ⟨y, rfl⟩ : ∃ y, D = y + 17 := ⟨D - 17, by omega⟩
      refine (trap17 y (by omega) _).trans ((suf_t17 _ _ _ _ _ _ _ _ _ _ _ _ _ _ _ _ _ _ _ _ _ _ _ _ _ _ _ _).trans (yes 18 ?_ _ _))
      simp only [Int.ofNat_eq_natCast]; omega
    · obtain ⟨y, rfl⟩ : ∃ y, D = y + 18 := ⟨D - 18, by omega⟩
      refine (trap18 y (by omega) _).trans ((suf_t18 _ _ _ _ _ _ _ _ _ _ _ _ _ _ _ _ _ _ _ _ _ _ _ _ _ _ _ _ _).trans (yes 19 ?_ _ _))
      simp only [Int.ofNat_eq_natCast]; omega
    · obtain ⟨y, rfl⟩ : ∃ y, D = y + 19 := ⟨D - 19, by omega⟩
      refine (trap19 y (by omega) _).trans ((suf_t19 _ _ _ _ _ _ _ _ _ _ _ _ _ _ _ _ _ _ _ _ _ _ _ _ _ _ _ _ _ _).trans (yes 20 ?_ _ _))
      simp only [Int.ofNat_eq_natCast]; omega
  · have hF : D = 0 ∨ D = 1 ∨ D = 2 ∨ D = 3 ∨ D = 4 ∨ D = 5 ∨ D = 6 ∨ D = 7 ∨ D = 8 ∨ D = 9 ∨ D = 10 ∨ D = 11 ∨ D = 12 ∨ D = 13 ∨ D = 14 ∨ D = 15 ∨ D = 16 ∨ D = 17 ∨ D = 18 := by omega
    rcases hF with rfl | rfl | rfl | rfl | rfl | rfl | rfl | rfl | rfl | rfl | rfl | rfl | rfl | rfl | rfl | rfl | rfl | rfl | rfl
    · obtain ⟨m, rfl⟩ : ∃ m, F = m + 1 := ⟨F - 1, by omega⟩
      refine (halt1 m _).trans ((suf_h _ _ _ _ _ _ _ _ _ _ _).trans (no _ ?_ _ _))
      simp only [Int.ofNat_eq_natCast]; omega
    · obtain ⟨m, rfl⟩ : ∃ m, F = m + 2 := ⟨F - 2, by omega⟩
      refine (halt2 m _).trans ((suf_h _ _ _ _ _ _ _ _ _ _ _).trans (no _ ?_ _ _))
      simp only [Int.ofNat_eq_natCast]; omega
    · obtain ⟨m, rfl⟩ : ∃ m, F = m + 3 := ⟨F - 3, by omega⟩
      refine (halt3 m _).trans ((suf_h _ _ _ _ _ _ _ _ _ _ _).trans (no _ ?_ _ _))
      simp only [Int.ofNat_eq_natCast]; omega
    · obtain ⟨m, rfl⟩ : ∃ m, F = m + 4 := ⟨F - 4, by omega⟩
      refine (halt4 m _).trans ((suf_h _ _ _ _ _ _ _ _ _ _ _).trans (no _ ?_ _ _))
      simp only [Int.ofNat_eq_natCast]; omega
    · obtain ⟨m, rfl⟩ : ∃ m, F = m + 5 := ⟨F - 5, by omega⟩
      refine (halt5 m _).trans ((suf_h _ _ _ _ _ _ _ _ _ _ _).trans (no _ ?_ _ _))
      simp only [Int.ofNat_eq_natCast]; omega
    · obtain ⟨m, rfl⟩ : ∃ m, F = m + 6 := ⟨F - 6, by omega⟩
      refine (halt6 m _).trans ((suf_h _ _ _ _ _ _ _ _ _ _ _).trans (no _ ?_ _ _))
      simp only [Int.ofNat_eq_natCast]; omega
    · obtain ⟨m, rfl⟩ : ∃ m, F = m + 7 := ⟨F - 7, by omega⟩
      refine (halt7 m _).trans ((suf_h _ _ _ _ _ _ _ _ _ _ _).trans (no _ ?_ _ _))
      simp only [Int.ofNat_eq_natCast]; omega
    · obtain ⟨m, rfl⟩ : ∃ m, F = m + 8 := ⟨F - 8, by omega⟩
      refine (halt8 m _).trans ((suf_h _ _ _ _ _ _ _ _ _ _ _).trans (no _ ?_ _ _))
      simp only [Int.ofNat_eq_natCast]; omega
    · obtain ⟨m, rfl⟩ : ∃ m, F = m + 9 := ⟨F - 9, by omega⟩
      refine (halt9 m _).trans ((suf_h _ _ _ _ _ _ _ _ _ _ _).trans (no _ ?_ _ _))
      simp only [Int.ofNat_eq_natCast]; omega
    · obtain ⟨m, rfl⟩ : ∃ m, F = m + 10 := ⟨F - 10, by omega⟩
      refine (halt10 m _).trans ((suf_h _ _ _ _ _ _ _ _ _ _ _).trans (no _ ?_ _ _))
      simp only [Int.ofNat_eq_natCast]; omega
    · obtain ⟨m, rfl⟩ : ∃ m, F = m + 11 := ⟨F - 11, by omega⟩
      refine (halt11 m _).trans ((suf_h _ _ _ _ _ _ _ _ _ _ _).trans (no _ ?_ _ _))
      simp only [Int.ofNat_eq_natCast]; omega
    · obtain ⟨m, rfl⟩ : ∃ m, F = m + 12 := ⟨F - 12, by omega⟩
      refine (halt12 m _).trans ((suf_h _ _ _ _ _ _ _ _ _ _ _).trans (no _ ?_ _ _))
      simp only [Int.ofNat_eq_natCast]; omega
    · obtain ⟨m, rfl⟩ : ∃ m, F = m + 13 := ⟨F - 13, by omega⟩
      refine (halt13 m _).trans ((suf_h _ _ _ _ _ _ _ _ _ _ _).trans (no _ ?_ _ _))
      simp only [Int.ofNat_eq_natCast]; omega
    · obtain ⟨m, rfl⟩ : ∃ m, F = m + 14 := ⟨F - 14, by omega⟩
      refine (halt14 m _).trans ((suf_h _ _ _ _ _ _ _ _ _ _ _).trans (no _ ?_ _ _))
      simp only [Int.ofNat_eq_natCast]; omega
    · obtain ⟨m, rfl⟩ : ∃ m, F = m + 15 := ⟨F - 15, by omega⟩
      refine (halt15 m _).trans ((suf_h _ _ _ _ _ _ _ _ _ _ _).trans (no _ ?_ _ _))
      simp only [Int.ofNat_eq_natCast]; omega
    · obtain ⟨m, rfl⟩ : ∃ m, F = m + 16 := ⟨F - 16, by omega⟩
      refine (halt16 m _).trans ((suf_h _ _ _ _ _ _ _ _ _ _ _).trans (no _ ?_ _ _))
      simp only [Int.ofNat_eq_natCast]; omega
    · obtain ⟨m, rfl⟩ : ∃ m, F = m + 17 := ⟨F - 17, by omega⟩
      refine (halt17 m _).trans ((suf_h _ _ _ _ _ _ _ _ _ _ _).trans (no _ ?_ _ _))
      simp only [Int.ofNat_eq_natCast]; omega
    · obtain ⟨m, rfl⟩ : ∃ m, F = m + 18 := ⟨F - 18, by omega⟩
      refine (halt18 m _).trans ((suf_h _ _ _ _ _ _ _ _ _ _ _).trans (no _ ?_ _ _))
      simp only [Int.ofNat_eq_natCast]; omega
    · obtain ⟨m, rfl⟩ : ∃ m, F = m + 19 := ⟨F - 19, by omega⟩
      refine (halt19 m _).trans ((suf_h _ _ _ _ _ _ _ _ _ _ _).trans (no _ ?_ _ _))
      simp only [Int.ofNat_eq_natCast]; omega

theorem u8_nat {a : Int} (h : (Lit.int .u8 a).wf = true) : ∃ n : Nat, a = Int.ofNat n ∧ n < 256 := by
  simp only [Lit.wf, Bool.and_eq_true, decide_eq_true_eq] at h
  have h1 : (0 : Int) ≤ a := h.1
  have h2 : a ≤ 255 := h.2
  exact ⟨a.toNat, by simp only [Int.ofNat_eq_natCast]; omega, by omega⟩

end Go.Ph.Deep
end
