import Derived.Test.YtbhljokhcmfgjaaTMid1
/- What LimitGaps and LimitMiddle ask, in the laws' own words (plain). -/
set_option linter.unusedVariables false
set_option linter.unusedSimpArgs false
namespace Go.Proofs.Ytbhljokhcmfgjaa.P
open Go.RowKit Go.Proofs.YtbhljokhcmfgjaaW.PrintWords

/-- What LimitGaps asks of one side: y: how far; b: what reaches back; k, r: the constants. -/
def Gapped (y b k r : Int) : Prop := k ≤ wrap64 (y - b) ∧ r ≤ y ∧ (wrap64 (y - b) = k ∨ y = r)
theorem gaps_plain {F : S63} {c z : Int} {x : S25} {it : Int} {u d : S25} (h : (lim11V F c z x it u d).2.2.2.2.2.2.2 = 0) :
    ∃ W hh dd p q r Y Z, lim11V F c z x it u d = (3, W, hh, dd, 0, 0, [⟨p, 0, x⟩, ⟨q, Y, u⟩, ⟨r, Z, d⟩], 0) ∧ (konstV F 18 c z).2 = 0 ∧ (konstV F 19 c z).2 = 0 ∧ (konstV F 20 c z).2 = 0 ∧ (konstV F 21 c z).2 = 0 ∧
      Gapped (wrap64 (Y - x.f2)) u.f3 (konstV F 18 c z).1 (konstV F 19 c z).1 ∧ Gapped (wrap64 (wrap64 (-Z) - x.f3)) d.f2 (konstV F 20 c z).1 (konstV F 21 c z).1 ∧
      (Right x → Right u → Right d → Right ⟨3, W, hh, dd, 0, 0, [⟨p, 0, x⟩, ⟨q, Y, u⟩, ⟨r, Z, d⟩]⟩) := by
  obtain ⟨hh, dd, hV, _, hR⟩ := lim11_box h
  have hl := lim11_ok h
  obtain ⟨a1, b1⟩ := isLen_iff.1 (konst_len F 18 c z)
  obtain ⟨a2, b2⟩ := isLen_iff.1 (konst_len F 19 c z)
  obtain ⟨a3, b3⟩ := isLen_iff.1 (konst_len F 20 c z)
  obtain ⟨a4, b4⟩ := isLen_iff.1 (konst_len F 21 c z)
  obtain ⟨a5, b5⟩ := isLen_iff.1 hl.x2
  obtain ⟨a6, b6⟩ := isLen_iff.1 hl.x3
  obtain ⟨a7, b7⟩ := isLen_iff.1 hl.u3
  obtain ⟨a8, b8⟩ := isLen_iff.1 hl.d2
  obtain ⟨a9, b9⟩ := isLen_iff.1 hl.uy
  obtain ⟨a10, b10⟩ := isLen_iff.1 hl.dy
  obtain ⟨a11, b11⟩ := isLen_iff.1 hl.ug
  obtain ⟨a12, b12⟩ := isLen_iff.1 hl.dg
  have e1 : wrap64 (upY F c z x u - x.f2) = max ((konstV F 18 c z).1 + u.f3) (konstV F 19 c z).1 := by unfold upY at *; unfold wrap64; omega
  have e2 : wrap64 (wrap64 (- -loY F c z x d) - x.f3) = max ((konstV F 20 c z).1 + d.f2) (konstV F 21 c z).1 := by unfold loY at *; unfold wrap64; omega
  refine ⟨_, hh, dd, _, _, _, upY F c z x u, -loY F c z x d, hV, hl.k1, hl.k2, hl.k3, hl.k4, ?_, ?_, hR⟩
  · rw [e1]; unfold Gapped wrap64; omega
  · rw [e2]; unfold Gapped wrap64; omega
/-- In the middle, or as near as can be. -/
def Mid (W b p : Int) : Prop := wrap64 (wrap64 (W - b) - p) = p ∨ wrap64 (wrap64 (W - b) - p) = wrap64 (p + 1)
theorem mid_of {W b : Int} (hw : isLen W = true) (hb : isLen b = true) (h : isLen (W - b) = true) : Mid W b ((W - b) / 2) := by
  have := isLen_iff.1 hw
  have := isLen_iff.1 hb
  have := isLen_iff.1 h
  unfold Mid wrap64
  omega
/-- By how much. -/
def By (it p1 q1 p2 q2 : Int) : Prop := p2 = wrap64 (q2 - wrap64 (p1 - q1)) ∧ (wrap64 (2 * wrap64 (p1 - q1)) = it ∨ wrap64 (wrap64 (2 * wrap64 (p1 - q1)) + 1) = it)
theorem middle_plain {F : S63} {c z : Int} {x : S25} {u d : S25} (h : (lim11V F c z x 0 u d).2.2.2.2.2.2.2 = 0) :
    ∃ hh dd p q r Y Z, lim11V F c z x 0 u d = (3, max (max x.f1 u.f1) d.f1, hh, dd, 0, 0, [⟨p, 0, x⟩, ⟨q, Y, u⟩, ⟨r, Z, d⟩], 0) ∧ Mid (max (max x.f1 u.f1) d.f1) x.f1 p ∧ Mid (max (max x.f1 u.f1) d.f1) u.f1 q ∧ Mid (max (max x.f1 u.f1) d.f1) d.f1 r ∧
      ∀ it, (lim11V F c z x it u d).2.2.2.2.2.2.2 = 0 → ∃ h2 d2 q2 r2, lim11V F c z x it u d = (3, max (max x.f1 u.f1) d.f1, h2, d2, 0, 0, [⟨p, 0, x⟩, ⟨q2, Y, u⟩, ⟨r2, Z, d⟩], 0) ∧ By it q2 q r2 r := by
  obtain ⟨hh, dd, hV, _, _⟩ := lim11_box h
  have hl := lim11_ok h
  have hw : isLen (wid x u d) = true := isLen_max (isLen_max hl.x1 hl.u1) hl.d1
  have e1 : (wid x u d - u.f1) / 2 + 0 / 2 = (wid x u d - u.f1) / 2 := by omega
  have e2 : (wid x u d - d.f1) / 2 + -(0 / 2) = (wid x u d - d.f1) / 2 := by omega
  refine ⟨hh, dd, _, _, _, _, _, hV, mid_of hw hl.x1 hl.mx, ?_, ?_, fun it hi => ?_⟩
  · rw [e1]; exact mid_of hw hl.u1 hl.mu
  · rw [e2]; exact mid_of hw hl.d1 hl.md
  · obtain ⟨h2, d2, hV2, _, _⟩ := lim11_box hi
    have hm := lim11_ok hi
    refine ⟨h2, d2, _, _, hV2, ?_⟩
    have := isLen_iff.1 hm.hi
    have := isLen_iff.1 hm.mu
    have := isLen_iff.1 hm.md
    have := isLen_iff.1 hm.ux
    have := isLen_iff.1 hm.dx
    unfold By
    rw [e1, e2]
    generalize (wid x u d - u.f1) / 2 = m at *
    generalize (wid x u d - d.f1) / 2 = n at *
    have e3 : wrap64 (m + it / 2 - m) = it / 2 := by unfold wrap64; omega
    rw [e3]
    constructor
    · unfold wrap64; omega
    · unfold wrap64; omega
theorem middle_err {F : S63} {c z : Int} {x : S25} {it : Int} {u d : S25} (h : (lim11V F c z x 0 u d).2.2.2.2.2.2.2 ≠ 0) : (lim11V F c z x it u d).2.2.2.2.2.2.2 ≠ 0 := fun hi => h (by obtain ⟨_, _, _, hV, _⟩ := lim11_box hi; rw [hV])
end Go.Proofs.Ytbhljokhcmfgjaa.P
