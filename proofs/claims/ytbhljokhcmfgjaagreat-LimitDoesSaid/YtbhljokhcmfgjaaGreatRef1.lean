import Derived.Test.YtbhljokhcmfgjaaGreatE7
/- The document's answers of layers 1, 3, 5, 13 and 22, as far as a constant's length reaches: short walks, and what they compute. -/
set_option linter.unusedVariables false
set_option linter.unusedSimpArgs false
namespace Go.Proofs.YtbhljokhcmfgjaaGreat.P
open Go.RowKit Go.Proofs.YtbhljokhcmfgjaaGreatW.PrintWords Go.Proofs.YtbhljokhcmfgjaaGreatW.PrintLast Go.Proofs.YtbhljokhcmfgjaaGreatW.PrintMore

theorem tm2 {a b c d : Int} (h1 : a = c) (h2 : b = d) : Ending.returned (.tuple #[.int .i64 a, .int .i64 b]) = .returned (.tuple #[.int .i64 c, .int .i64 d]) := by rw [h1, h2]
theorem tm1 {a b : Int} (h1 : a = b) : Ending.returned (.int .i64 a) = .returned (.int .i64 b) := by rw [h1]
theorem tmb {a b : Bool} (h1 : a = b) : Ending.returned (.bool a) = .returned (.bool b) := by rw [h1]
theorem len01 (a : Int) (w : World) : Calls Tryz.prog 49 #[.int .i64 a] w fun e w' => e = .returned (.bool (isLen a)) ∧ w = w' := by
  by_cases h1 : -1073741823 ≤ a
  · have e2 : decide (-1073741823 ≤ a) = true := by simpa using h1
    go_enter Tryz.func49, Tryz.ntmps49
    go_wp2
    go_ret
    exact ⟨tmb (by simp [isLen, e2]), rfl⟩
  · have e2 : decide (-1073741823 ≤ a) = false := by simpa using h1
    go_enter Tryz.func49, Tryz.ntmps49
    go_wp2
    go_ret
    exact ⟨tmb (by simp [isLen, e2]), rfl⟩
theorem len01_t {a : Int} (h : isLen a = true) (w : World) : Calls Tryz.prog 49 #[.int .i64 a] w fun e w' => e = .returned (.bool true) ∧ w = w' := by
  have := len01 a w
  rwa [h] at this
theorem len01_f {a : Int} (h : isLen a = false) (w : World) : Calls Tryz.prog 49 #[.int .i64 a] w fun e w' => e = .returned (.bool false) ∧ w = w' := by
  have := len01 a w
  rwa [h] at this
theorem told01 (a : Int) (w : World) : Calls Tryz.prog 75 #[.int .i64 a] w fun e w' => e = .returned (.tuple #[.int .i64 (toldOf (.ok a)).1, .int .i64 (toldOf (.ok a)).2]) ∧ w = w' := by
  by_cases h : isLen a = true
  · have HL := Aside0.mk h
    clear h
    go_enter Tryz.func75, Tryz.ntmps75
    go_wp2_with (refine (len01_t HL.out _).mono ?_; rintro _ w1 ⟨rfl, rfl⟩)
    go_ret2
    exact ⟨tm2 (by simp [toldOf, HL.out]) (by simp [toldOf, HL.out]), rfl⟩
  · have HL := Aside0.mk (show isLen a = false by simpa using h)
    clear h
    go_enter Tryz.func75, Tryz.ntmps75
    go_wp2_with (refine (len01_f HL.out _).mono ?_; rintro _ w1 ⟨rfl, rfl⟩)
    go_ret2
    exact ⟨tm2 (by simp [toldOf, HL.out]) (by simp [toldOf, HL.out]), rfl⟩
theorem add_val (a b : Int) (ha : isLen a = true) (hb : isLen b = true) : toldOf (sumR [a, b]) = toldOf (.ok (a + b)) := by
  have h0 : isLen (0 + a) = true := by simpa using ha
  simp only [sumR, List.all_cons, ha, hb, List.all_nil, Bool.and_self, if_true, sumGo, h0, Int.zero_add]
  by_cases h : isLen (a + b) = true
  · simp [h, toldOf]
  · have h' : isLen (a + b) = false := by simpa using h
    simp [h', toldOf]
theorem add_bad {a b : Int} (h : isLen a = false ∨ isLen b = false) : toldOf (sumR [a, b]) = (0, 1) := by
  rcases h with h | h <;> simp [sumR, h, toldOf]
theorem add01 (a b : Int) (w : World) : Calls Tryz.prog 52 #[.int .i64 a, .int .i64 b] w fun e w' => e = .returned (.tuple #[.int .i64 (toldOf (sumR [a, b])).1, .int .i64 (toldOf (sumR [a, b])).2]) ∧ w = w' := by
  by_cases h : isLen a = true
  · have HL := Aside0.mk h
    by_cases h2 : isLen b = true
    · have HL2 := Aside0.mk h2
      have b1 := (isLen_iff.1 h).1
      have b2 := (isLen_iff.1 h).2
      have b3 := (isLen_iff.1 h2).1
      have b4 := (isLen_iff.1 h2).2
      have HV := Aside0.mk (add_val a b h h2)
      clear h h2
      go_enter Tryz.func52, Tryz.ntmps52
      go_wp2_with fail
      refine (len01_t HL.out _).mono ?_
      rintro _ w1 ⟨rfl, rfl⟩
      go_wp2_with fail
      refine (len01_t HL2.out _).mono ?_
      rintro _ w1 ⟨rfl, rfl⟩
      go_wp2_with fail
      refine (told01 _ _).mono ?_
      rintro _ w1 ⟨rfl, rfl⟩
      go_wp2
      go_ret2
      exact ⟨tm2 (by rw [HV.out]) (by rw [HV.out]), rfl⟩
    · have HL2 := Aside0.mk (show isLen b = false by simpa using h2)
      clear h h2
      go_enter Tryz.func52, Tryz.ntmps52
      go_wp2_with fail
      refine (len01_t HL.out _).mono ?_
      rintro _ w1 ⟨rfl, rfl⟩
      go_wp2_with fail
      refine (len01_f HL2.out _).mono ?_
      rintro _ w1 ⟨rfl, rfl⟩
      go_wp2
      go_ret2
      exact ⟨tm2 (by rw [add_bad (.inr HL2.out)]) (by rw [add_bad (.inr HL2.out)]), rfl⟩
  · have HL := Aside0.mk (show isLen a = false by simpa using h)
    clear h
    go_enter Tryz.func52, Tryz.ntmps52
    go_wp2_with fail
    refine (len01_f HL.out _).mono ?_
    rintro _ w1 ⟨rfl, rfl⟩
    go_wp2
    go_ret2
    exact ⟨tm2 (by rw [add_bad (.inl HL.out)]) (by rw [add_bad (.inl HL.out)]), rfl⟩
theorem half_val (a : Int) (h : isLen a = true) : toldOf (halfR a) = (a / 2, 0) := by
  have h1 := isLen_iff.1 h
  have : isLen (a / 2) = true := isLen_iff.2 (by omega)
  simp [halfR, h, toldOf, this]
theorem half_bad {a : Int} (h : isLen a = false) : toldOf (halfR a) = (0, 1) := by simp [halfR, h, toldOf]
theorem tdiv2 (a : Int) : a.tdiv 2 = if a < 0 then -((-a) / 2) else a / 2 := by
  by_cases h : a < 0
  · rw [if_pos h]
    obtain ⟨n, rfl⟩ : ∃ n : Int, a = -n := ⟨-a, by omega⟩
    rw [Int.neg_tdiv, Int.tdiv_eq_ediv_of_nonneg (by omega), Int.neg_neg]
  · rw [if_neg h, Int.tdiv_eq_ediv_of_nonneg (by omega)]
theorem tmod2 (a : Int) : a.tmod 2 = if a < 0 then -((-a) % 2) else a % 2 := by
  by_cases h : a < 0
  · rw [if_pos h]
    obtain ⟨n, rfl⟩ : ∃ n : Int, a = -n := ⟨-a, by omega⟩
    rw [Int.neg_tmod, Int.tmod_eq_emod_of_nonneg (by omega), Int.neg_neg]
  · rw [if_neg h, Int.tmod_eq_emod_of_nonneg (by omega)]
theorem half_even {a : Int} (h : a.tmod 2 = 0) : a.tdiv 2 = a / 2 := by
  rw [tmod2] at h
  rw [tdiv2]
  split <;> simp_all <;> omega
theorem half_odd {a : Int} (h : ¬ a.tmod 2 = 0) : (a - 1).tdiv 2 = a / 2 := by
  rw [tmod2] at h
  rw [tdiv2]
  split at h <;> split <;> omega
end Go.Proofs.YtbhljokhcmfgjaaGreat.P
