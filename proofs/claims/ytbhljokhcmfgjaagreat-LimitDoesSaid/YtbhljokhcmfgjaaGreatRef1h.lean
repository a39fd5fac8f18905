import Derived.Test.YtbhljokhcmfgjaaGreatRef1
/- The document's answers of layers 1, 3, 5, 13 and 22, as far as a constant's length reaches: short walks, and what they compute. -/
set_option linter.unusedVariables false
set_option linter.unusedSimpArgs false
namespace Go.Proofs.YtbhljokhcmfgjaaGreat.P
open Go.RowKit Go.Proofs.YtbhljokhcmfgjaaGreatW.PrintWords Go.Proofs.YtbhljokhcmfgjaaGreatW.PrintLast Go.Proofs.YtbhljokhcmfgjaaGreatW.PrintMore

theorem half01 (a : Int) (w : World) : Calls Tryz.prog 51 #[.int .i64 a] w fun e w' => e = .returned (.tuple #[.int .i64 (toldOf (halfR a)).1, .int .i64 (toldOf (halfR a)).2]) ∧ w = w' := by
  by_cases h : isLen a = true
  · have HL := Aside0.mk h
    have b1 := (isLen_iff.1 h).1
    have b2 := (isLen_iff.1 h).2
    have HV := Aside0.mk (half_val a h)
    clear h
    by_cases hz : a.tmod 2 = 0
    · have hd : (a.tmod 2 == 0) = true := by simpa using hz
      have hd2 : (a.tmod 2 != 0) = false := by simpa using hz
      have HZ := Aside0.mk hz
      clear hz
      go_enter Tryz.func51, Tryz.ntmps51
      go_wp2_with fail
      refine (len01_t HL.out _).mono ?_
      rintro _ w1 ⟨rfl, rfl⟩
      go_wp2
      go_ret2
      exact ⟨tm2 (by rw [HV.out]; exact half_even HZ.out) (by rw [HV.out]), rfl⟩
    · have hd : (a.tmod 2 == 0) = false := by simpa using hz
      have hd2 : (a.tmod 2 != 0) = true := by simpa using hz
      have HZ := Aside0.mk hz
      clear hz
      go_enter Tryz.func51, Tryz.ntmps51
      go_wp2_with fail
      refine (len01_t HL.out _).mono ?_
      rintro _ w1 ⟨rfl, rfl⟩
      go_wp2
      go_ret2
      exact ⟨tm2 (by rw [HV.out]; exact half_odd HZ.out) (by rw [HV.out]), rfl⟩
  · have HL := Aside0.mk (show isLen a = false by simpa using h)
    clear h
    go_enter Tryz.func51, Tryz.ntmps51
    go_wp2_with fail
    refine (len01_f HL.out _).mono ?_
    rintro _ w1 ⟨rfl, rfl⟩
    go_wp2
    go_ret2
    exact ⟨tm2 (by rw [half_bad HL.out]) (by rw [half_bad HL.out]), rfl⟩
end Go.Proofs.YtbhljokhcmfgjaaGreat.P
