import Derived.Test.YtbhljokhcmfgjaaGreatTPD
/- What the texts behind need of this work's joined texts. -/
set_option linter.unusedVariables false
set_option linter.unusedSimpArgs false
set_option linter.unusedVariables false
set_option linter.unusedSimpArgs false
namespace Go.Proofs.YtbhljokhcmfgjaaGreat.P
open Go.RowKit Go.Proofs.YtbhljokhcmfgjaaGreatW.PrintWords
theorem keepV_ok {e : Int} {r : Int × Int} (h : (keepV e r).2 = 0) : e = 0 ∧ r.2 = 0 ∧ (keepV e r).1 = r.1 := by
  simp only [keepV] at h ⊢
  by_cases he : e = 0
  · rw [if_pos he] at h
    exact ⟨he, h, by rw [if_pos ⟨he, h⟩]⟩
  · rw [if_neg he] at h
    exact absurd h he
end Go.Proofs.YtbhljokhcmfgjaaGreat.P
set_option linter.unusedVariables false
set_option linter.unusedSimpArgs false
set_option linter.unusedVariables false
set_option linter.unusedSimpArgs false
set_option linter.unusedVariables false
set_option linter.unusedSimpArgs false
namespace Go.Proofs.YtbhljokhcmfgjaaGreat.P
open Go.RowKit Go.Proofs.YtbhljokhcmfgjaaGreatW.PrintWords Go.Proofs.YtbhljokhcmfgjaaGreatW.PrintLast Go.Proofs.YtbhljokhcmfgjaaGreatW.PrintMore
theorem toldOf_len (r : Except Int Int) : isLen (toldOf r).1 = true := by
  cases r with
  | error c => rfl
  | ok n =>
    by_cases h : isLen n = true
    · simp [toldOf, h]
    · simp [toldOf, h]
      rfl
theorem konst_len (F : S36) (k c z : Int) : isLen (konstV F k c z).1 = true := by
  have key : ∃ v e, style_Konst.f 3 F.f0.f0 F.f0.f1 F.f0.f2 F.f0.f3 F.f0.f4 F.f0.f5 F.f1 F.f2 F.f3 F.f4.f0 F.f4.f1 F.f4.f2 F.f4.f3 F.f4.f4 F.f4.f5.f0 F.f4.f5.f1 F.f4.f5.f2 k c z = some (v, e) ∧ isLen v = true := by
    have hj : ∀ b : Bool, (b = false → 0 ≤ k ∧ k < 56) → ∃ v e, style_Konst.j0 3 k c z b F.f0.f0 F.f0.f1 F.f0.f2 F.f0.f3 F.f0.f4 F.f0.f5 F.f1 F.f2 F.f3 F.f4.f0 F.f4.f1 F.f4.f2 F.f4.f3 F.f4.f4 F.f4.f5.f0 F.f4.f5.f1 F.f4.f5.f2 = some (v, e) ∧ isLen v = true := by
      intro b hb
      simp only [style_Konst.j0]
      cases b with
      | true => exact ⟨0, 1, by simp, rfl⟩
      | false =>
        obtain ⟨h0, h1⟩ := hb rfl
        obtain ⟨v, e, hv, hi⟩ := size_total F.f4.f0 c z 2 (by omega)
        rw [if_neg (by simp), hv, Option.bind_some]
        by_cases he : e = 0
        · have hl := konstIs_length (hi he)
          simp only [he, if_true]
          rw [if_pos h0, if_pos (by omega)]
          unfold head_Units.f head_Is.f fixed_MulDiv.f
          simp only [Option.bind_some]
          split
          all_goals first | exact ⟨_, _, rfl, toldOf_len _⟩ | exact ⟨_, _, rfl, rfl⟩
        · simp only [he, if_false]
          exact ⟨_, _, rfl, rfl⟩
    unfold style_Konst.f
    split
    · exact hj true (by simp)
    · refine hj (decide (k ≥ 56)) (fun h => ?_)
      simp at h
      omega
  obtain ⟨v, e, h1, h2⟩ := key
  rw [konstV, h1]
  exact h2
end Go.Proofs.YtbhljokhcmfgjaaGreat.P
