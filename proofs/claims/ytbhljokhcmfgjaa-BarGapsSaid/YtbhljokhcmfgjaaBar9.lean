import Derived.Test.YtbhljokhcmfgjaaBar6
/- Where bar.Radical puts its boxes, without a degree: plain arithmetic. -/
set_option linter.unusedVariables false
set_option linter.unusedSimpArgs false
namespace Go.Proofs.Ytbhljokhcmfgjaa.P
open Go.RowKit Go.Proofs.YtbhljokhcmfgjaaW.PrintWords Go.Proofs.YtbhljokhcmfgjaaW.PrintLast Go.Proofs.YtbhljokhcmfgjaaW.PrintMore

theorem gap_len (F : S63) (c z : Int) : isLen (gapV F c z).1 = true := konst_len F _ c z
theorem sum4_ok {x y z v : Int} (h : (toldOf (sumR [x, y, z, v])).2 = 0) : isLen x = true ∧ isLen y = true ∧ isLen z = true ∧ isLen v = true ∧ isLen (x + y + z + v) = true ∧ (toldOf (sumR [x, y, z, v])).1 = x + y + z + v := by
  unfold sumR at h ⊢
  by_cases ha : [x, y, z, v].all isLen = true
  · rw [if_pos ha] at h ⊢
    simp only [List.all_cons, List.all_nil, Bool.and_true, Bool.and_eq_true] at ha
    simp only [sumGo, Int.zero_add] at h ⊢
    rw [if_pos ha.1] at h ⊢
    by_cases hs : isLen (x + y) = true
    · rw [if_pos hs] at h ⊢
      by_cases ht : isLen (x + y + z) = true
      · rw [if_pos ht] at h ⊢
        by_cases hu : isLen (x + y + z + v) = true
        · rw [if_pos hu] at h ⊢
          exact ⟨ha.1, ha.2.1, ha.2.2.1, ha.2.2.2, hu, by simp [toldOf, hu]⟩
        · rw [if_neg hu] at h
          simp [toldOf] at h
      · rw [if_neg ht] at h
        simp [toldOf] at h
    · rw [if_neg hs] at h
      simp [toldOf] at h
  · rw [if_neg ha] at h
    simp [toldOf] at h
theorem radGap_ok {g n h e : Int} (hg : isLen g = true) (hn : isLen n = true) (r : (radGap g n h e).2 = 0) : e = 0 ∧ isLen (radGap g n h e).1 = true ∧ ((h ≤ n ∧ (radGap g n h e).1 = g) ∨ (n < h ∧ (radGap g n h e).1 = g + (h - n) / 2)) := by
  unfold radGap at r ⊢
  by_cases hp : n < h
  · rw [if_pos hp] at r ⊢
    obtain ⟨h2, s3, v3⟩ := keepV_ok r
    obtain ⟨h1, s2, v2⟩ := keepV_ok h2
    obtain ⟨h0, s1, v1⟩ := keepV_ok h1
    rw [wneg hn] at s1 v1
    obtain ⟨_, _, _, e1⟩ := sum2_ok s1
    refine ⟨h0, keepV_len (toldOf_len _), .inr ⟨hp, ?_⟩⟩
    rw [v3]
    obtain ⟨_, _, _, e3⟩ := sum2_ok s3
    rw [e3, v2]
    obtain ⟨_, e2⟩ := half_ok s2
    rw [e2, wneg hn, v1, e1]
    rfl
  · rw [if_neg hp] at r ⊢
    exact ⟨r, hg, .inl ⟨by omega, rfl⟩⟩

theorem rad_plain (F : S63) (c z : Int) (b s : S25) (h : (radV F c z b s).2.2.2.2.2.2.2 = 0) :
    (needV F c z b).2 = 0 ∧ (gapV F c z).2 = 0 ∧ isLen (needV F c z b).1 = true ∧ isLen b.f1 = true ∧ isLen b.f2 = true ∧ isLen b.f3 = true ∧ isLen s.f1 = true ∧ isLen s.f2 = true ∧ isLen s.f3 = true ∧
    ∃ th top hi hh dd q, radV F c z b s = (3, s.f1 + b.f1, hh, dd, 0, 0, [⟨0, top - s.f2, s⟩, ⟨s.f1, top - th, ⟨2, b.f1, th, 0, 0, 0, []⟩⟩, ⟨s.f1, 0, b⟩, ⟨0, 0, ⟨0, 0, hi, 0, 0, 0, []⟩⟩], 0) ∧
      isLen th = true ∧ isLen top = true ∧ isLen q = true ∧ top = b.f2 + q + th ∧ ((s.f2 + s.f3 ≤ (needV F c z b).1 ∧ q = (gapV F c z).1) ∨ ((needV F c z b).1 < s.f2 + s.f3 ∧ q = (gapV F c z).1 + (s.f2 + s.f3 - (needV F c z b).1) / 2)) := by
  have hgl := gap_len F c z
  have htl := konst_len F 51 c z
  have hnv : needV F c z b = keepV (needE [b] (keepV (keepV 0 (gapV F c z)).2 (konstV F 51 c z)).2) (toldOf (sumR [(keepV 0 (gapV F c z)).1, (keepV (keepV 0 (gapV F c z)).2 (konstV F 51 c z)).1, b.f2, b.f3])) := rfl
  unfold radV at h ⊢
  dsimp only at h ⊢
  generalize hpg : keepV 0 (gapV F c z) = g at h hnv ⊢
  generalize hpt : keepV g.2 (konstV F 51 c z) = t at h hnv ⊢
  generalize hpf : keepV t.2 (konstV F 52 c z) = f at h ⊢
  generalize hpe : needE [b, s] f.2 = e at h ⊢
  by_cases he : e = 0
  · rw [if_pos he] at h ⊢
    have hg1 : isLen g.1 = true := hpg ▸ keepV_len hgl
    have ht1 : isLen t.1 = true := hpt ▸ keepV_len htl
    generalize hpn : keepV e (toldOf (sumR [g.1, t.1, b.f2, b.f3])) = n at h ⊢
    generalize hph : keepV n.2 (toldOf (sumR [s.f2, s.f3])) = w at h ⊢
    generalize hpq : radGap g.1 n.1 w.1 w.2 = q at h ⊢
    generalize hpo : keepV q.2 (toldOf (sumR [b.f2, q.1, t.1])) = top at h ⊢
    generalize hpu : keepV top.2 (toldOf (sumR [top.1, wrap64 (-s.f2)])) = up at h ⊢
    generalize hpa : keepV up.2 (toldOf (sumR [0, s.f1])) = a at h ⊢
    generalize hpl : keepV a.2 (toldOf (sumR [top.1, wrap64 (-t.1)])) = ln at h ⊢
    generalize hpi : keepV ln.2 (toldOf (sumR [top.1, f.1])) = hi at h ⊢
    generalize hpw : keepV hi.2 (toldOf (sumR [a.1, b.f1])) = wd at h ⊢
    have hn1 : isLen n.1 = true := hpn ▸ keepV_len (toldOf_len _)
    have hto : isLen top.1 = true := hpo ▸ keepV_len (toldOf_len _)
    unfold radEnd at h ⊢
    obtain ⟨hw2, hh, dd, hset⟩ := setV_ok h (setGo_err _ 0 0)
    obtain ⟨hi2, qw, vw⟩ := keepV_ok (e := hi.2) (by rw [hpw]; exact hw2)
    rw [hpw] at vw
    obtain ⟨ln2, qi, vi⟩ := keepV_ok (e := ln.2) (by rw [hpi]; exact hi2)
    obtain ⟨a2, ql, vl⟩ := keepV_ok (e := a.2) (by rw [hpl]; exact ln2)
    rw [hpl] at vl
    obtain ⟨up2, qa, va⟩ := keepV_ok (e := up.2) (by rw [hpa]; exact a2)
    rw [hpa] at va
    obtain ⟨top2, qu, vu⟩ := keepV_ok (e := top.2) (by rw [hpu]; exact up2)
    rw [hpu] at vu
    obtain ⟨q2, qo, vo⟩ := keepV_ok (e := q.2) (by rw [hpo]; exact top2)
    rw [hpo] at vo
    obtain ⟨w2, hql, hqc⟩ := radGap_ok (e := w.2) (h := w.1) hg1 hn1 (by rw [hpq]; exact q2)
    rw [hpq] at hql hqc
    obtain ⟨n2, qh, vh⟩ := keepV_ok (e := n.2) (by rw [hph]; exact w2)
    rw [hph] at vh
    obtain ⟨_, qn, vn⟩ := keepV_ok (e := e) (by rw [hpn]; exact n2)
    rw [hpn] at vn
    obtain ⟨f2, hl⟩ := needE_ok (by rw [hpe]; exact he)
    obtain ⟨t2, _, _⟩ := keepV_ok (e := t.2) (by rw [hpf]; exact f2)
    obtain ⟨g2, _, _⟩ := keepV_ok (e := g.2) (by rw [hpt]; exact t2)
    obtain ⟨_, hgz, vg⟩ := keepV_ok (e := 0) (by rw [hpg]; exact g2)
    rw [hpg] at vg
    have hb := hl b (by simp)
    have hs := hl s (by simp)
    simp only [lens, List.all_cons, List.all_nil, Bool.and_true, Bool.and_eq_true] at hb hs
    have hne : needE [b] t.2 = 0 := by
      rw [t2]
      simp [needE, lens, hb.1, hb.2.1, hb.2.2]
    have hnn : needV F c z b = n := by rw [hnv, hne, ← hpn, he]
    obtain ⟨_, _, _, e1⟩ := sum2_ok qw
    rw [wneg ht1] at ql vl
    obtain ⟨_, _, _, e2⟩ := sum2_ok ql
    obtain ⟨_, _, _, e3⟩ := sum2_ok qa
    rw [wneg hs.2.1] at qu vu
    obtain ⟨_, _, _, e4⟩ := sum2_ok qu
    obtain ⟨_, _, _, _, e5⟩ := sum3_ok qo
    obtain ⟨_, _, _, e6⟩ := sum2_ok qh
    have ea : a.1 = s.f1 := by rw [va, e3]; omega
    have eu : up.1 = top.1 - s.f2 := by rw [vu, e4]; rfl
    have el : ln.1 = top.1 - t.1 := by rw [vl, e2]; rfl
    have ew : wd.1 = s.f1 + b.f1 := by rw [vw, e1, ea]
    have eh : w.1 = s.f2 + s.f3 := by rw [vh, e6]
    rw [hnn]
    refine ⟨n2, hgz, hn1, hb.1, hb.2.1, hb.2.2, hs.1, hs.2.1, hs.2.2, t.1, top.1, hi.1, hh, dd, q.1, ?_, ht1, hto, hql, by rw [vo, e5], ?_⟩
    · rw [hset, ew, eu, el, ea]
    · rw [← eh, ← vg]
      exact hqc
  · rw [if_neg he] at h
    exact absurd h he
end Go.Proofs.Ytbhljokhcmfgjaa.P
