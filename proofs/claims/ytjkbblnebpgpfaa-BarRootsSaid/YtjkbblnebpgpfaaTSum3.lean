import Derived.Test.YtjkbblnebpgpfaaTPB
/- Sums of three and of four, kept: sums of two, one behind the other. Plain arithmetic. -/
set_option linter.unusedVariables false
set_option linter.unusedSimpArgs false
namespace Go.Proofs.Ytjkbblnebpgpfaa.P
open Go.RowKit Go.Proofs.YtjkbblnebpgpfaaW.PrintWords Go.Proofs.YtjkbblnebpgpfaaW.PrintLast Go.Proofs.YtjkbblnebpgpfaaW.PrintMore

/-- A sum of three lengths is a sum of two and of one more. -/
theorem keep_sum3 {e x y z : Int} (h : e = 0 → isLen x = true ∧ isLen y = true ∧ isLen z = true) :
    keepV e (toldOf (sumR [x, y, z])) = keepV (keepV e (toldOf (sumR [x, y]))).2 (toldOf (sumR [(keepV e (toldOf (sumR [x, y]))).1, z])) := by
  by_cases he : e = 0
  · obtain ⟨hx, hy, hz⟩ := h he
    subst he
    by_cases h2 : isLen (x + y) = true
    · have e2 : keepV 0 (toldOf (sumR [x, y])) = (x + y, 0) := by
        simp [keepV, sumR, sumGo, toldOf, hx, hy, h2]
      rw [e2]
      by_cases h3 : isLen (x + y + z) = true
      · simp [keepV, sumR, sumGo, toldOf, hx, hy, hz, h2, h3]
      · simp [keepV, sumR, sumGo, toldOf, hx, hy, hz, h2, h3]
    · have e2 : keepV 0 (toldOf (sumR [x, y])) = (0, 2) := by
        simp [keepV, sumR, sumGo, toldOf, hx, hy, h2]
      rw [e2]
      simp [keepV, sumR, sumGo, toldOf, hx, hy, hz, h2]
  · simp [keepV, he]
/-- .. and of four. -/
theorem keep_sum4 {e x y z u : Int} (h : e = 0 → isLen x = true ∧ isLen y = true ∧ isLen z = true ∧ isLen u = true) :
    keepV e (toldOf (sumR [x, y, z, u])) = keepV (keepV e (toldOf (sumR [x, y, z]))).2 (toldOf (sumR [(keepV e (toldOf (sumR [x, y, z]))).1, u])) := by
  by_cases he : e = 0
  · obtain ⟨hx, hy, hz, hu⟩ := h he
    subst he
    by_cases h2 : isLen (x + y) = true
    · by_cases h3 : isLen (x + y + z) = true
      · have e2 : keepV 0 (toldOf (sumR [x, y, z])) = (x + y + z, 0) := by
          simp [keepV, sumR, sumGo, toldOf, hx, hy, hz, h2, h3]
        rw [e2]
        by_cases h4 : isLen (x + y + z + u) = true
        · simp [keepV, sumR, sumGo, toldOf, hx, hy, hz, hu, h2, h3, h4]
        · simp [keepV, sumR, sumGo, toldOf, hx, hy, hz, hu, h2, h3, h4]
      · have e2 : keepV 0 (toldOf (sumR [x, y, z])) = (0, 2) := by
          simp [keepV, sumR, sumGo, toldOf, hx, hy, hz, h2, h3]
        rw [e2]
        simp [keepV, sumR, sumGo, toldOf, hx, hy, hz, hu, h2, h3]
    · have e2 : keepV 0 (toldOf (sumR [x, y, z])) = (0, 2) := by
        simp [keepV, sumR, sumGo, toldOf, hx, hy, hz, h2]
      rw [e2]
      simp [keepV, sumR, sumGo, toldOf, hx, hy, hz, hu, h2]
  · simp [keepV, he]
end Go.Proofs.Ytjkbblnebpgpfaa.P
