import Derived.Test.YtbhljokhcmfgjaaTGaps1
import Derived.Test.YtbhljokhcmfgjaaTLim4
/- Limits with one above and one below: where all stand (plain); what LimitMiddle and LimitGaps ask. -/
set_option linter.unusedVariables false
set_option linter.unusedSimpArgs false
namespace Go.Proofs.Ytbhljokhcmfgjaa.P
open Go.RowKit Go.Proofs.YtbhljokhcmfgjaaW.PrintWords

theorem keep0 {r : Int × Int} (h : r.2 = 0) : keepV 0 r = (r.1, 0) := by simp [keepV, h]
theorem sum2_val {a b : Int} (h1 : isLen a = true) (h2 : isLen b = true) (h3 : isLen (a + b) = true) : toldOf (sumR [a, b]) = (a + b, 0) := by
  have h4 : isLen (0 + a) = true := by rw [Int.zero_add]; exact h1
  have h5 : isLen (0 + a + b) = true := by rw [Int.zero_add]; exact h3
  simp only [sumR, List.all_cons, List.all_nil, h1, h2, Bool.and_true, if_true, sumGo, h4, h5]
  simp [toldOf, h3]
theorem isLen_half {a : Int} (h : isLen a = true) : isLen (a / 2) = true := by have := isLen_iff.1 h; exact isLen_iff.2 (by omega)
theorem half_val' {a : Int} (h : isLen a = true) : toldOf (halfR a) = (a / 2, 0) := by simp [halfR, h, toldOf, isLen_half h]
theorem isLen_max {a b : Int} (h : isLen a = true) (k : isLen b = true) : isLen (max a b) = true := by have := isLen_iff.1 h; have := isLen_iff.1 k; exact isLen_iff.2 (by omega)
theorem mid_val {w b : Int} (h1 : isLen w = true) (h2 : isLen b = true) (h3 : isLen (w - b) = true) : midL 0 w b = ((w - b) / 2, 0) := by
  unfold midL
  rw [wneg h2, sum2_val h1 (isLen_neg h2) (by rw [← Int.sub_eq_add_neg]; exact h3), keep0 rfl, half_val' (by rw [← Int.sub_eq_add_neg]; exact h3), keep0 rfl, Int.sub_eq_add_neg]
theorem midL_ok {e w b : Int} (h : (midL e w b).2 = 0) (hb : isLen b = true) : e = 0 ∧ isLen (w - b) = true ∧ (midL e w b).1 = (w - b) / 2 := by
  unfold midL at h ⊢
  obtain ⟨h1, h2, h3⟩ := keepV_ok h
  obtain ⟨h4, h5, h6⟩ := keepV_ok h1
  obtain ⟨l1, l2, l3, l4⟩ := sum2_ok h5
  obtain ⟨l5, l6⟩ := half_ok h2
  rw [wneg hb, ← Int.sub_eq_add_neg] at l3
  exact ⟨h4, l3, by rw [h3, l6, h6, l4, wneg hb, Int.sub_eq_add_neg]⟩
theorem needI_ok {xs : List Int} {e : Int} (h : needI xs e = 0) : e = 0 ∧ xs.all isLen = true := by
  unfold needI at h
  by_cases hx : xs.all isLen = true
  · rw [if_pos hx] at h; exact ⟨h, hx⟩
  · rw [if_neg hx] at h; have := keepV_ok h; exact absurd this.2.1 (by decide)
theorem needI_val {xs : List Int} (h : xs.all isLen = true) : needI xs 0 = 0 := by unfold needI; rw [if_pos h]
/-- Both widths' greatest, and the nucleus's. -/
abbrev wid (x u d : S25) : Int := max (max x.f1 u.f1) d.f1
abbrev upY (F : S63) (c z : Int) (x u : S25) : Int := x.f2 + max ((konstV F 18 c z).1 + u.f3) (konstV F 19 c z).1
abbrev loY (F : S63) (c z : Int) (x d : S25) : Int := x.f3 + max ((konstV F 20 c z).1 + d.f2) (konstV F 21 c z).1
/-- All that must be lengths, and told. -/
structure L11 (F : S63) (c z : Int) (x : S25) (it : Int) (u d : S25) : Prop where
  k1 : (konstV F 18 c z).2 = 0
  k2 : (konstV F 19 c z).2 = 0
  k3 : (konstV F 20 c z).2 = 0
  k4 : (konstV F 21 c z).2 = 0
  x1 : isLen x.f1 = true
  x2 : isLen x.f2 = true
  x3 : isLen x.f3 = true
  hi : isLen it = true
  u1 : isLen u.f1 = true
  u2 : isLen u.f2 = true
  u3 : isLen u.f3 = true
  d1 : isLen d.f1 = true
  d2 : isLen d.f2 = true
  d3 : isLen d.f3 = true
  mx : isLen (wid x u d - x.f1) = true
  mu : isLen (wid x u d - u.f1) = true
  md : isLen (wid x u d - d.f1) = true
  ux : isLen ((wid x u d - u.f1) / 2 + it / 2) = true
  ug : isLen ((konstV F 18 c z).1 + u.f3) = true
  uy : isLen (upY F c z x u) = true
  dx : isLen ((wid x u d - d.f1) / 2 + -(it / 2)) = true
  dg : isLen ((konstV F 20 c z).1 + d.f2) = true
  dy : isLen (loY F c z x d) = true
abbrev kids11 (F : S63) (c z : Int) (x : S25) (it : Int) (u d : S25) : List S41 :=
  [⟨(wid x u d - x.f1) / 2, 0, x⟩, ⟨(wid x u d - u.f1) / 2 + it / 2, upY F c z x u, u⟩, ⟨(wid x u d - d.f1) / 2 + -(it / 2), -loY F c z x d, d⟩]
theorem lim11_val {F : S63} {c z : Int} {x : S25} {it : Int} {u d : S25} (h : L11 F c z x it u d) : lim11V F c z x it u d = setV 0 (wid x u d) (kids11 F c z x it u d) := by
  have hw : isLen (wid x u d) = true := isLen_max (isLen_max h.x1 h.u1) h.d1
  have l1 := konst_len F 18 c z
  have l2 := konst_len F 19 c z
  have l3 := konst_len F 20 c z
  have l4 := konst_len F 21 c z
  unfold lim11V
  simp only [keep0 h.k1, keep0 h.k2, keep0 h.k3, keep0 h.k4]
  rw [needI_val (xs := [x.f1, x.f2, x.f3, it]) (by simp [h.x1, h.x2, h.x3, h.hi]), needI_val (xs := [u.f1, u.f2, u.f3]) (by simp [h.u1, h.u2, h.u3]), needI_val (xs := [d.f1, d.f2, d.f3]) (by simp [h.d1, h.d2, h.d3]), if_neg (by simp)]
  simp only [half_val' h.hi, keep0 (r := (it / 2, 0)) rfl]
  rw [show max (max x.f1 u.f1) d.f1 = wid x u d from rfl]
  simp only [mid_val hw h.x1 h.mx, mid_val hw h.u1 h.mu]
  simp only [sum2_val (isLen_half h.mu) (isLen_half h.hi) h.ux, keep0 (r := ((_ : Int), (0 : Int))) rfl]
  simp only [sum2_val l1 h.u3 h.ug, keep0 (r := ((_ : Int), (0 : Int))) rfl]
  simp only [sum2_val h.x2 (isLen_max h.ug l2) h.uy, keep0 (r := ((_ : Int), (0 : Int))) rfl]
  simp only [mid_val hw h.d1 h.md, wneg (isLen_half h.hi)]
  simp only [sum2_val (isLen_half h.md) (isLen_neg (isLen_half h.hi)) h.dx, keep0 (r := ((_ : Int), (0 : Int))) rfl]
  simp only [sum2_val l3 h.d2 h.dg, keep0 (r := ((_ : Int), (0 : Int))) rfl]
  simp only [sum2_val h.x3 (isLen_max h.dg l4) h.dy, keep0 (r := ((_ : Int), (0 : Int))) rfl, wneg h.dy]
theorem lim11_ok {F : S63} {c z : Int} {x : S25} {it : Int} {u d : S25} (h : (lim11V F c z x it u d).2.2.2.2.2.2.2 = 0) : L11 F c z x it u d := by
  have l1 := konst_len F 18 c z
  have l2 := konst_len F 19 c z
  have l3 := konst_len F 20 c z
  have l4 := konst_len F 21 c z
  unfold lim11V at h
  dsimp only at h
  split at h
  · next hc => exact absurd h hc
  · next hc =>
    have hc := Classical.byContradiction hc
    generalize hk1 : keepV 0 (konstV F 18 c z) = k1 at h hc
    generalize hk2 : keepV k1.2 (konstV F 19 c z) = k2 at h hc
    generalize hk3 : keepV k2.2 (konstV F 20 c z) = k3 at h hc
    generalize hk4 : keepV k3.2 (konstV F 21 c z) = k4 at h hc
    obtain ⟨hc, ld⟩ := needI_ok hc
    obtain ⟨hc, lu⟩ := needI_ok hc
    obtain ⟨hc, lx⟩ := needI_ok hc
    obtain ⟨p3, e4, v4⟩ := keepV_ok (e := k3.2) (by rw [hk4]; exact hc)
    obtain ⟨p2, e3, v3⟩ := keepV_ok (e := k2.2) (by rw [hk3]; exact p3)
    obtain ⟨p1, e2, v2⟩ := keepV_ok (e := k1.2) (by rw [hk2]; exact p2)
    obtain ⟨_, e1, v1⟩ := keepV_ok (e := 0) (by rw [hk1]; exact p1)
    rw [hk1] at v1
    rw [hk2] at v2
    rw [hk3] at v3
    rw [hk4] at v4
    simp only [List.all_cons, List.all_nil, Bool.and_true, Bool.and_eq_true] at lx lu ld
    generalize hh : keepV 0 (toldOf (halfR it)) = hf at h
    rw [show max (max x.f1 u.f1) d.f1 = wid x u d from rfl] at h
    generalize hm0 : midL hf.2 (wid x u d) x.f1 = m0 at h
    generalize hmu : midL m0.2 (wid x u d) u.f1 = mu at h
    generalize hux : keepV mu.2 (toldOf (sumR [mu.1, hf.1])) = ux at h
    generalize hug : keepV ux.2 (toldOf (sumR [k1.1, u.f3])) = ug at h
    generalize huy : keepV ug.2 (toldOf (sumR [x.f2, max ug.1 k2.1])) = uy at h
    generalize hmd : midL uy.2 (wid x u d) d.f1 = md at h
    generalize hdx : keepV md.2 (toldOf (sumR [md.1, wrap64 (-hf.1)])) = dx at h
    generalize hdg : keepV dx.2 (toldOf (sumR [k3.1, d.f2])) = dg at h
    generalize hdy : keepV dg.2 (toldOf (sumR [x.f3, max dg.1 k4.1])) = dy at h
    obtain ⟨q, _⟩ := setV_ok h (setGo_err _ 0 0)
    obtain ⟨q, r1, w1⟩ := keepV_ok (e := dg.2) (by rw [hdy]; exact q)
    obtain ⟨q, r2, w2⟩ := keepV_ok (e := dx.2) (by rw [hdg]; exact q)
    obtain ⟨q, r3, w3⟩ := keepV_ok (e := md.2) (by rw [hdx]; exact q)
    obtain ⟨q, r4, w4⟩ := midL_ok (e := uy.2) (by rw [hmd]; exact q) ld.1
    obtain ⟨q, r5, w5⟩ := keepV_ok (e := ug.2) (by rw [huy]; exact q)
    obtain ⟨q, r6, w6⟩ := keepV_ok (e := ux.2) (by rw [hug]; exact q)
    obtain ⟨q, r7, w7⟩ := keepV_ok (e := mu.2) (by rw [hux]; exact q)
    obtain ⟨q, r8, w8⟩ := midL_ok (e := m0.2) (by rw [hmu]; exact q) lu.1
    obtain ⟨q, r9, _⟩ := midL_ok (e := hf.2) (by rw [hm0]; exact q) lx.1
    obtain ⟨_, r10, w10⟩ := keepV_ok (e := 0) (by rw [hh]; exact q)
    obtain ⟨t10, w10'⟩ := half_ok r10
    rw [hh, w10'] at w10
    rw [hmu] at w8
    rw [hmd] at w4
    rw [w8, w10] at r7
    rw [w4, w10, wneg (isLen_half t10)] at r3
    rw [v1] at r6
    rw [v3] at r2
    obtain ⟨_, _, s7, _⟩ := sum2_ok r7
    obtain ⟨_, _, s3, _⟩ := sum2_ok r3
    obtain ⟨_, _, s6, y6⟩ := sum2_ok r6
    obtain ⟨_, _, s2, y2⟩ := sum2_ok r2
    rw [hug, v1, y6] at w6
    rw [hdg, v3, y2] at w2
    rw [w6, v2] at r5
    rw [w2, v4] at r1
    obtain ⟨_, _, s5, _⟩ := sum2_ok r5
    obtain ⟨_, _, s1, _⟩ := sum2_ok r1
    exact ⟨e1, e2, e3, e4, lx.1, lx.2.1, lx.2.2.1, t10, lu.1, lu.2.1, lu.2.2, ld.1, ld.2.1, ld.2.2, r9, r8, r4, s7, s6, s5, s3, s2, s1⟩
theorem L11.zero {F : S63} {c z : Int} {x : S25} {it : Int} {u d : S25} (h : L11 F c z x it u d) : L11 F c z x 0 u d := by
  have := isLen_iff.1 h.mu
  have := isLen_iff.1 h.md
  exact ⟨h.k1, h.k2, h.k3, h.k4, h.x1, h.x2, h.x3, by decide, h.u1, h.u2, h.u3, h.d1, h.d2, h.d3, h.mx, h.mu, h.md, isLen_iff.2 (by omega), h.ug, h.uy, isLen_iff.2 (by omega), h.dg, h.dy⟩
theorem kids_zero {F : S63} {c z : Int} {x : S25} {it : Int} {u d : S25} (h : L11 F c z x it u d) {hh dd : Int} (hs : setV 0 (wid x u d) (kids11 F c z x it u d) = (3, wid x u d, hh, dd, 0, 0, kids11 F c z x it u d, 0)) : setV 0 (wid x u d) (kids11 F c z x 0 u d) = (3, wid x u d, hh, dd, 0, 0, kids11 F c z x 0 u d, 0) := by
  have g0 := L11.zero h
  have hg : setGo (kids11 F c z x 0 u d) 0 0 = setGo (kids11 F c z x it u d) 0 0 := by
    have a1 : kidOk (⟨(wid x u d - u.f1) / 2 + 0 / 2, upY F c z x u, u⟩ : S41) = kidOk (⟨(wid x u d - u.f1) / 2 + it / 2, upY F c z x u, u⟩ : S41) := by
      unfold kidOk; simp only [List.all_cons, h.ux, g0.ux]
    have a2 : kidOk (⟨(wid x u d - d.f1) / 2 + -(0 / 2), -loY F c z x d, d⟩ : S41) = kidOk (⟨(wid x u d - d.f1) / 2 + -(it / 2), -loY F c z x d, d⟩ : S41) := by
      unfold kidOk; simp only [List.all_cons, h.dx, g0.dx]
    simp only [setGo, a1, a2]
  unfold setV setR at hs ⊢
  rw [if_pos rfl] at hs ⊢
  rw [hg]
  cases hq : setGo (kids11 F c z x it u d) 0 0 with
  | error e => rw [hq] at hs; simp [setEnd] at hs
  | ok p =>
    obtain ⟨H, D⟩ := p
    rw [hq] at hs
    simp only [setEnd] at hs ⊢
    split at hs
    · split at hs
      · simp only [Prod.mk.injEq, true_and, and_true] at hs
        obtain ⟨rfl, rfl⟩ := hs
        simp_all
      · simp at hs
    · simp at hs
/-- What is made: the box, whole. -/
theorem lim11_box {F : S63} {c z : Int} {x : S25} {it : Int} {u d : S25} (h : (lim11V F c z x it u d).2.2.2.2.2.2.2 = 0) : ∃ hh dd, lim11V F c z x it u d = (3, wid x u d, hh, dd, 0, 0, kids11 F c z x it u d, 0) ∧ lim11V F c z x 0 u d = (3, wid x u d, hh, dd, 0, 0, kids11 F c z x 0 u d, 0) ∧ (Right x → Right u → Right d → Right ⟨3, wid x u d, hh, dd, 0, 0, kids11 F c z x it u d⟩) := by
  have hl := lim11_ok h
  have hv := lim11_val hl
  rw [hv] at h
  obtain ⟨_, hh, dd, hs⟩ := setV_ok h (setGo_err _ 0 0)
  refine ⟨hh, dd, hv.trans hs, (lim11_val hl.zero).trans (kids_zero hl hs), fun hx hu hd => set_right hs fun k hk => ?_⟩
  simp only [List.mem_cons, List.not_mem_nil, or_false] at hk
  rcases hk with rfl | rfl | rfl
  · exact hx
  · exact hu
  · exact hd
/-- No error, no kids. -/
theorem lim11_nil {F : S63} {c z : Int} {x : S25} {it : Int} {u d : S25} (h : (lim11V F c z x it u d).2.2.2.2.2.2.2 ≠ 0) : (lim11V F c z x it u d).2.2.2.2.2.2.1 = [] := by
  unfold lim11V at h ⊢
  dsimp only at h ⊢
  split
  · rfl
  · next hc =>
    rw [if_neg hc] at h
    unfold setV setR at h ⊢
    split at h
    · next he =>
      rw [if_pos he]
      generalize hg : setGo _ 0 0 = g at h ⊢
      cases g with
      | error e' => rfl
      | ok p =>
        obtain ⟨H, D⟩ := p
        simp only [setEnd] at h ⊢
        split at h
        · next hw =>
          rw [if_pos hw]
          split at h
          · exact absurd rfl h
          · next hl => rw [if_neg hl]
        · next hw => rw [if_neg hw]
    · next he => rw [if_neg he]
end Go.Proofs.Ytbhljokhcmfgjaa.P
