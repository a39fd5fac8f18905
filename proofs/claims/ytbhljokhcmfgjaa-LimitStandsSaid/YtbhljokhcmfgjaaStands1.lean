import Derived.Test.YtbhljokhcmfgjaaLimF
import Derived.Test.YtbhljokhcmfgjaaLim7
/- The law LimitStands: what it asks (plain). -/
set_option linter.unusedVariables false
set_option linter.unusedSimpArgs false
namespace Go.Proofs.Ytbhljokhcmfgjaa.P
open Go.RowKit Go.Proofs.YtbhljokhcmfgjaaW.PrintWords Go.Proofs.YtbhljokhcmfgjaaW.PrintLast Go.Proofs.YtbhljokhcmfgjaaW.PrintMore

theorem accent_nil (F : S63) (c z : Int) (x : S25) (gx ix : Int) (y : S25) (gy iy : Int) (h : (accentV F c z x gx ix y gy iy).2.2.2.2.2.2.2 ≠ 0) : (accentV F c z x gx ix y gy iy).2.2.2.2.2.2.1 = [] := by
  unfold accentV at h ⊢
  dsimp only at h ⊢
  split
  · rfl
  · next hc =>
    rw [if_neg hc] at h
    unfold setV setR at h ⊢
    split at h
    · next he =>
      rw [if_pos he]
      generalize hg : setGo _ 0 0 = g at h ⊢
      cases g with
      | error e' => rfl
      | ok p =>
        obtain ⟨H, D⟩ := p
        simp only [setEnd] at h ⊢
        split at h
        · next hw =>
          rw [if_pos hw]
          split at h
          · exact absurd rfl h
          · next hl => rw [if_neg hl]
        · next hw => rw [if_neg hw]
    · next he => rw [if_neg he]
theorem stands_plain (F : S63) (c z : Int) (x : S25) (gx ix : Int) (y : S25) (gy iy : Int) (h : (accentV F c z x gx ix y gy iy).2.2.2.2.2.2.2 = 0) :
    ∃ hh dd u v, accentV F c z x gx ix y gy iy = (3, x.f1, hh, dd, 0, 0, [⟨0, 0, x⟩, ⟨u, v, y⟩], 0) ∧ (konstV F 6 c z).2 = 0 ∧ (sizeV F c z).2 = 0 ∧ (attachV F (sizeV F c z).1 x gx ix).2 = 0 ∧ (attachV F (sizeV F c z).1 y gy iy).2 = 0 ∧
      v = max 0 (wrap64 (x.f2 - (konstV F 6 c z).1)) ∧ wrap64 (u + (attachV F (sizeV F c z).1 y gy iy).1) = (attachV F (sizeV F c z).1 x gx ix).1 := by
  have lk := konst_len F 6 c z
  unfold accentV at h ⊢
  dsimp only at h ⊢
  split at h
  · next hc => exact absurd h hc
  · next hc =>
    rw [if_neg hc]
    have hc := Classical.byContradiction hc
    generalize hk : keepV 0 (konstV F 6 c z) = k at h hc ⊢
    generalize hs : keepV k.2 (sizeV F c z) = s at h hc ⊢
    have hn1 : needI [x.f1, x.f2, x.f3, ix] s.2 = 0 ∧ [y.f1, y.f2, y.f3, iy].all isLen = true := by
      unfold needI at hc ⊢
      by_cases hy : [y.f1, y.f2, y.f3, iy].all isLen = true
      · rw [if_pos hy] at hc; exact ⟨hc, hy⟩
      · rw [if_neg hy] at hc; have := keepV_ok hc; exact absurd this.2.1 (by decide)
    have hn2 : s.2 = 0 ∧ [x.f1, x.f2, x.f3, ix].all isLen = true := by
      have h1 := hn1.1
      unfold needI at h1
      by_cases hx : [x.f1, x.f2, x.f3, ix].all isLen = true
      · rw [if_pos hx] at h1; exact ⟨h1, hx⟩
      · rw [if_neg hx] at h1; have := keepV_ok h1; exact absurd this.2.1 (by decide)
    obtain ⟨k0, q1, v1⟩ := keepV_ok (e := k.2) (by rw [hs]; exact hn2.1)
    rw [hs] at v1
    obtain ⟨_, q0, v0⟩ := keepV_ok (e := 0) (by rw [hk]; exact k0)
    rw [hk] at v0
    rw [v1] at h ⊢
    generalize ha : keepV 0 (attachV F (sizeV F c z).1 x gx ix) = a at h ⊢
    generalize hb : keepV a.2 (attachV F (sizeV F c z).1 y gy iy) = b at h ⊢
    generalize hu : keepV b.2 (toldOf (sumR [a.1, wrap64 (-b.1)])) = u at h ⊢
    generalize hv : keepV u.2 (toldOf (sumR [x.f2, wrap64 (-(min x.f2 k.1))])) = v at h ⊢
    obtain ⟨h5, hh, dd, hset⟩ := setV_ok h (setGo_err _ 0 0)
    obtain ⟨h4, q4, v4⟩ := keepV_ok (e := u.2) (by rw [hv]; exact h5)
    rw [hv] at v4
    obtain ⟨h3, q3, v3⟩ := keepV_ok (e := b.2) (by rw [hu]; exact h4)
    rw [hu] at v3
    obtain ⟨h2, qb, vb⟩ := keepV_ok (e := a.2) (by rw [hb]; exact h3)
    rw [hb] at vb
    obtain ⟨_, qa, va⟩ := keepV_ok (e := 0) (by rw [ha]; exact h2)
    rw [ha] at va
    obtain ⟨la, lw, lu, e3⟩ := sum2_ok q3
    obtain ⟨lx, lm, lv, e4⟩ := sum2_ok q4
    obtain ⟨a1, b1⟩ := isLen_iff.1 la
    obtain ⟨a2, b2⟩ := isLen_iff.1 lw
    obtain ⟨a3, b3⟩ := isLen_iff.1 lx
    obtain ⟨a4, b4⟩ := isLen_iff.1 lk
    refine ⟨hh, dd, u.1, v.1, hset, q0, q1, qa, qb, ?_, ?_⟩
    · have hm : wrap64 (-(min x.f2 k.1)) = -(min x.f2 k.1) := by rw [v0]; unfold wrap64; omega
      rw [v4, e4, hm, v0]
      unfold wrap64
      omega
    · rw [v3, e3, ← va, ← vb]
      unfold wrap64 at a2 b2 ⊢
      omega
end Go.Proofs.Ytbhljokhcmfgjaa.P
