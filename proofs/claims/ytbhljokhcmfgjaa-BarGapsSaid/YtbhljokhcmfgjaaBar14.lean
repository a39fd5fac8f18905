import Derived.Test.YtbhljokhcmfgjaaBar9
/- bar.Radical with a degree, as a total plain function; without and with a degree: the same root, moved to the right. -/
set_option linter.unusedVariables false
set_option linter.unusedSimpArgs false
namespace Go.Proofs.Ytbhljokhcmfgjaa.P
open Go.RowKit Go.Proofs.YtbhljokhcmfgjaaW.PrintWords Go.Proofs.YtbhljokhcmfgjaaW.PrintLast Go.Proofs.YtbhljokhcmfgjaaW.PrintMore

theorem mxx_le (a b : Int) : a ≤ mx a b ∧ b ≤ mx a b := by
  unfold mx
  split <;> omega
theorem mxx_len {a b : Int} (ha : isLen a = true) (hb : isLen b = true) : isLen (mx a b) = true := by
  unfold mx
  split <;> assumption
/-- With a degree d; r: the constant of how far it is raised. -/
def radV1 (F : S63) (c z : Int) (b s d : S25) (r : Int) : BoxV :=
  let g := keepV 0 (gapV F c z)
  let t := keepV g.2 (konstV F 51 c z)
  let f := keepV t.2 (konstV F 52 c z)
  let ah := keepV f.2 (konstV F 53 c z)
  let bh := keepV ah.2 (konstV F 54 c z)
  let e := needE [d] (needE [b, s] bh.2)
  if e = 0 then
    let n := keepV e (toldOf (sumR [g.1, t.1, b.f2, b.f3]))
    let h := keepV n.2 (toldOf (sumR [s.f2, s.f3]))
    let q := radGap g.1 n.1 h.1 h.2
    let top := keepV q.2 (toldOf (sumR [b.f2, q.1, t.1]))
    let up := keepV top.2 (toldOf (sumR [top.1, wrap64 (-s.f2)]))
    let xs := keepV up.2 (toldOf (sumR [ah.1, d.f1, bh.1]))
    let ra := keepV xs.2 (toldOf (mulDivR h.1 r 100))
    let u2 := keepV ra.2 (toldOf (sumR [up.1, wrap64 (-s.f3)]))
    let y := keepV u2.2 (toldOf (sumR [d.f3, u2.1, ra.1]))
    let a := keepV y.2 (toldOf (sumR [mx 0 xs.1, s.f1]))
    let ln := keepV a.2 (toldOf (sumR [top.1, wrap64 (-t.1)]))
    let hi := keepV ln.2 (toldOf (sumR [top.1, f.1]))
    let wd := keepV hi.2 (toldOf (sumR [a.1, b.f1]))
    setV wd.2 wd.1 [⟨ah.1, y.1, d⟩, ⟨mx 0 xs.1, up.1, s⟩, ⟨a.1, ln.1, ⟨2, b.f1, t.1, 0, 0, 0, []⟩⟩, ⟨a.1, 0, b⟩, ⟨0, 0, ⟨0, 0, hi.1, 0, 0, 0, []⟩⟩]
  else (0, 0, 0, 0, 0, 0, [], e)

/-- Where the root stands, without a degree. -/
def radQ (F : S63) (c z : Int) (b s : S25) : Int :=
  (radGap (gapV F c z).1 ((gapV F c z).1 + (konstV F 51 c z).1 + b.f2 + b.f3) (s.f2 + s.f3) 0).1
theorem rad_one (F : S63) (c z : Int) (b s d : S25) (r : Int) (h1 : (radV1 F c z b s d r).2.2.2.2.2.2.2 = 0) :
    isLen b.f1 = true ∧ ∃ x y ah hh dd top, 0 ≤ x ∧ isLen (x + s.f1) = true ∧ isLen (x + s.f1 + b.f1) = true ∧ isLen x = true ∧ top = b.f2 + radQ F c z b s + (konstV F 51 c z).1 ∧
      radV1 F c z b s d r = (3, x + s.f1 + b.f1, hh, dd, 0, 0, [⟨ah, y, d⟩, ⟨x, top - s.f2, s⟩, ⟨x + s.f1, top - (konstV F 51 c z).1, ⟨2, b.f1, (konstV F 51 c z).1, 0, 0, 0, []⟩⟩, ⟨x + s.f1, 0, b⟩, ⟨0, 0, ⟨0, 0, top + (konstV F 52 c z).1, 0, 0, 0, []⟩⟩], 0) := by
  have hgl := gap_len F c z
  have htl := konst_len F 51 c z
  have hfl := konst_len F 52 c z
  unfold radV1 at h1 ⊢
  dsimp only at h1 ⊢
  generalize hpg : keepV 0 (gapV F c z) = g at h1 ⊢
  generalize hpt : keepV g.2 (konstV F 51 c z) = t at h1 ⊢
  generalize hpf : keepV t.2 (konstV F 52 c z) = f at h1 ⊢
  generalize hpA : keepV f.2 (konstV F 53 c z) = ah at h1 ⊢
  generalize hpB : keepV ah.2 (konstV F 54 c z) = bh at h1 ⊢
  generalize hpe : needE [b, s] bh.2 = e0 at h1 ⊢
  generalize hpd : needE [d] e0 = e at h1 ⊢
  by_cases he : e = 0
  · rw [if_pos he] at h1 ⊢
    have hg1 : isLen g.1 = true := hpg ▸ keepV_len hgl
    have ht1 : isLen t.1 = true := hpt ▸ keepV_len htl
    generalize hpn : keepV e (toldOf (sumR [g.1, t.1, b.f2, b.f3])) = n at h1 ⊢
    generalize hph : keepV n.2 (toldOf (sumR [s.f2, s.f3])) = w at h1 ⊢
    generalize hpq : radGap g.1 n.1 w.1 w.2 = q at h1 ⊢
    generalize hpo : keepV q.2 (toldOf (sumR [b.f2, q.1, t.1])) = top at h1 ⊢
    generalize hpu : keepV top.2 (toldOf (sumR [top.1, wrap64 (-s.f2)])) = up at h1 ⊢
    generalize hpx : keepV up.2 (toldOf (sumR [ah.1, d.f1, bh.1])) = xs at h1 ⊢
    generalize hpr : keepV xs.2 (toldOf (mulDivR w.1 r 100)) = ra at h1 ⊢
    generalize hp2 : keepV ra.2 (toldOf (sumR [up.1, wrap64 (-s.f3)])) = u2 at h1 ⊢
    generalize hpy : keepV u2.2 (toldOf (sumR [d.f3, u2.1, ra.1])) = y at h1 ⊢
    generalize hpa : keepV y.2 (toldOf (sumR [mx 0 xs.1, s.f1])) = a at h1 ⊢
    generalize hpl : keepV a.2 (toldOf (sumR [top.1, wrap64 (-t.1)])) = ln at h1 ⊢
    generalize hpi : keepV ln.2 (toldOf (sumR [top.1, f.1])) = hi at h1 ⊢
    generalize hpw : keepV hi.2 (toldOf (sumR [a.1, b.f1])) = wd at h1 ⊢
    have hn1 : isLen n.1 = true := hpn ▸ keepV_len (toldOf_len _)
    have hxl : isLen xs.1 = true := hpx ▸ keepV_len (toldOf_len _)
    have hmx : isLen (mx 0 xs.1) = true := mxx_len rfl hxl
    obtain ⟨hw2, hh, dd, hset⟩ := setV_ok h1 (setGo_err _ 0 0)
    obtain ⟨hi2, qw, vw⟩ := keepV_ok (e := hi.2) (by rw [hpw]; exact hw2)
    rw [hpw] at vw
    obtain ⟨ln2, qi, vi⟩ := keepV_ok (e := ln.2) (by rw [hpi]; exact hi2)
    rw [hpi] at vi
    obtain ⟨a2, ql, vl⟩ := keepV_ok (e := a.2) (by rw [hpl]; exact ln2)
    rw [hpl] at vl
    obtain ⟨y2, qa, va⟩ := keepV_ok (e := y.2) (by rw [hpa]; exact a2)
    rw [hpa] at va
    obtain ⟨u22, _, _⟩ := keepV_ok (e := u2.2) (by rw [hpy]; exact y2)
    obtain ⟨ra2, _, _⟩ := keepV_ok (e := ra.2) (by rw [hp2]; exact u22)
    obtain ⟨xs2, _, _⟩ := keepV_ok (e := xs.2) (by rw [hpr]; exact ra2)
    obtain ⟨up2, _, _⟩ := keepV_ok (e := up.2) (by rw [hpx]; exact xs2)
    obtain ⟨top2, qu, vu⟩ := keepV_ok (e := top.2) (by rw [hpu]; exact up2)
    rw [hpu] at vu
    obtain ⟨q2, qo, vo⟩ := keepV_ok (e := q.2) (by rw [hpo]; exact top2)
    rw [hpo] at vo
    obtain ⟨w2, hql, hqc⟩ := radGap_ok (e := w.2) (h := w.1) hg1 hn1 (by rw [hpq]; exact q2)
    obtain ⟨n2, qh, vh⟩ := keepV_ok (e := n.2) (by rw [hph]; exact w2)
    rw [hph] at vh
    obtain ⟨_, qn, vn⟩ := keepV_ok (e := e) (by rw [hpn]; exact n2)
    rw [hpn] at vn
    obtain ⟨e02, _⟩ := needE_ok (by rw [hpd]; exact he)
    obtain ⟨bh2, hl⟩ := needE_ok (by rw [hpe]; exact e02)
    obtain ⟨ah2, _, _⟩ := keepV_ok (e := ah.2) (by rw [hpB]; exact bh2)
    obtain ⟨f2, _, _⟩ := keepV_ok (e := f.2) (by rw [hpA]; exact ah2)
    obtain ⟨t2, _, vf⟩ := keepV_ok (e := t.2) (by rw [hpf]; exact f2)
    rw [hpf] at vf
    obtain ⟨g2, _, vt⟩ := keepV_ok (e := g.2) (by rw [hpt]; exact t2)
    rw [hpt] at vt
    obtain ⟨_, hgz, vg⟩ := keepV_ok (e := 0) (by rw [hpg]; exact g2)
    rw [hpg] at vg
    have hb := hl b (by simp)
    have hs := hl s (by simp)
    simp only [lens, List.all_cons, List.all_nil, Bool.and_true, Bool.and_eq_true] at hb hs
    obtain ⟨_, _, i1, e1⟩ := sum2_ok qw
    rw [wneg ht1] at ql vl
    obtain ⟨_, _, _, e2⟩ := sum2_ok ql
    obtain ⟨_, _, i3, e3⟩ := sum2_ok qa
    rw [wneg hs.2.1] at qu vu
    obtain ⟨_, _, _, e4⟩ := sum2_ok qu
    obtain ⟨_, _, _, _, e5⟩ := sum3_ok qo
    obtain ⟨_, _, _, e6⟩ := sum2_ok qh
    obtain ⟨_, _, _, _, _, e7⟩ := sum4_ok qn
    obtain ⟨_, _, _, e8⟩ := sum2_ok qi
    have ea : a.1 = mx 0 xs.1 + s.f1 := by rw [va, e3]
    have eu : up.1 = top.1 - s.f2 := by rw [vu, e4]; rfl
    have el : ln.1 = top.1 - t.1 := by rw [vl, e2]; rfl
    have ei : hi.1 = top.1 + f.1 := by rw [vi, e8]
    have ew : wd.1 = mx 0 xs.1 + s.f1 + b.f1 := by rw [vw, e1, ea]
    have eh : w.1 = s.f2 + s.f3 := by rw [vh, e6]
    have en : n.1 = g.1 + t.1 + b.f2 + b.f3 := by rw [vn, e7]
    have eq : q.1 = radQ F c z b s := by
      rw [← hpq, radQ, eh, en, vg, vt, w2]
    refine ⟨hb.1, mx 0 xs.1, y.1, ah.1, hh, dd, top.1, (mxx_le 0 xs.1).1, i3, by rw [ea] at i1; exact i1, hmx, by rw [vo, e5, eq, vt], ?_⟩
    rw [hset, ew, eu, el, ea, ei, vt, vf]
  · rw [if_neg he] at h1
    exact absurd h1 he
theorem rad_zero (F : S63) (c z : Int) (b s : S25) (h : (radV F c z b s).2.2.2.2.2.2.2 = 0) :
    isLen s.f1 = true ∧ isLen (s.f1 + b.f1) = true ∧ ∃ hh dd top, top = b.f2 + radQ F c z b s + (konstV F 51 c z).1 ∧
      radV F c z b s = (3, s.f1 + b.f1, hh, dd, 0, 0, [⟨0, top - s.f2, s⟩, ⟨s.f1, top - (konstV F 51 c z).1, ⟨2, b.f1, (konstV F 51 c z).1, 0, 0, 0, []⟩⟩, ⟨s.f1, 0, b⟩, ⟨0, 0, ⟨0, 0, top + (konstV F 52 c z).1, 0, 0, 0, []⟩⟩], 0) := by
  have hgl := gap_len F c z
  have htl := konst_len F 51 c z
  unfold radV at h ⊢
  dsimp only at h ⊢
  generalize hpg : keepV 0 (gapV F c z) = g at h ⊢
  generalize hpt : keepV g.2 (konstV F 51 c z) = t at h ⊢
  generalize hpf : keepV t.2 (konstV F 52 c z) = f at h ⊢
  generalize hpe : needE [b, s] f.2 = e at h ⊢
  by_cases he : e = 0
  · rw [if_pos he] at h ⊢
    have hg1 : isLen g.1 = true := hpg ▸ keepV_len hgl
    have ht1 : isLen t.1 = true := hpt ▸ keepV_len htl
    generalize hpn : keepV e (toldOf (sumR [g.1, t.1, b.f2, b.f3])) = n at h ⊢
    generalize hph : keepV n.2 (toldOf (sumR [s.f2, s.f3])) = w at h ⊢
    generalize hpq : radGap g.1 n.1 w.1 w.2 = q at h ⊢
    generalize hpo : keepV q.2 (toldOf (sumR [b.f2, q.1, t.1])) = top at h ⊢
    generalize hpu : keepV top.2 (toldOf (sumR [top.1, wrap64 (-s.f2)])) = up at h ⊢
    generalize hpa : keepV up.2 (toldOf (sumR [0, s.f1])) = a at h ⊢
    generalize hpl : keepV a.2 (toldOf (sumR [top.1, wrap64 (-t.1)])) = ln at h ⊢
    generalize hpi : keepV ln.2 (toldOf (sumR [top.1, f.1])) = hi at h ⊢
    generalize hpw : keepV hi.2 (toldOf (sumR [a.1, b.f1])) = wd at h ⊢
    have hn1 : isLen n.1 = true := hpn ▸ keepV_len (toldOf_len _)
    have hto : isLen top.1 = true := hpo ▸ keepV_len (toldOf_len _)
    unfold radEnd at h ⊢
    obtain ⟨hw2, hh, dd, hset⟩ := setV_ok h (setGo_err _ 0 0)
    obtain ⟨hi2, qw, vw⟩ := keepV_ok (e := hi.2) (by rw [hpw]; exact hw2)
    rw [hpw] at vw
    obtain ⟨ln2, qi, vi⟩ := keepV_ok (e := ln.2) (by rw [hpi]; exact hi2)
    rw [hpi] at vi
    obtain ⟨a2, ql, vl⟩ := keepV_ok (e := a.2) (by rw [hpl]; exact ln2)
    rw [hpl] at vl
    obtain ⟨up2, qa, va⟩ := keepV_ok (e := up.2) (by rw [hpa]; exact a2)
    rw [hpa] at va
    obtain ⟨top2, qu, vu⟩ := keepV_ok (e := top.2) (by rw [hpu]; exact up2)
    rw [hpu] at vu
    obtain ⟨q2, qo, vo⟩ := keepV_ok (e := q.2) (by rw [hpo]; exact top2)
    rw [hpo] at vo
    obtain ⟨w2, hql, hqc⟩ := radGap_ok (e := w.2) (h := w.1) hg1 hn1 (by rw [hpq]; exact q2)
    obtain ⟨n2, qh, vh⟩ := keepV_ok (e := n.2) (by rw [hph]; exact w2)
    rw [hph] at vh
    obtain ⟨_, qn, vn⟩ := keepV_ok (e := e) (by rw [hpn]; exact n2)
    rw [hpn] at vn
    obtain ⟨f2, hl⟩ := needE_ok (by rw [hpe]; exact he)
    obtain ⟨t2, _, vf⟩ := keepV_ok (e := t.2) (by rw [hpf]; exact f2)
    rw [hpf] at vf
    obtain ⟨g2, _, vt⟩ := keepV_ok (e := g.2) (by rw [hpt]; exact t2)
    rw [hpt] at vt
    obtain ⟨_, hgz, vg⟩ := keepV_ok (e := 0) (by rw [hpg]; exact g2)
    rw [hpg] at vg
    have hb := hl b (by simp)
    have hs := hl s (by simp)
    simp only [lens, List.all_cons, List.all_nil, Bool.and_true, Bool.and_eq_true] at hb hs
    obtain ⟨_, _, i1, e1⟩ := sum2_ok qw
    rw [wneg ht1] at ql vl
    obtain ⟨_, _, _, e2⟩ := sum2_ok ql
    obtain ⟨_, _, _, e3⟩ := sum2_ok qa
    rw [wneg hs.2.1] at qu vu
    obtain ⟨_, _, _, e4⟩ := sum2_ok qu
    obtain ⟨_, _, _, _, e5⟩ := sum3_ok qo
    obtain ⟨_, _, _, e6⟩ := sum2_ok qh
    have ea : a.1 = s.f1 := by rw [va, e3]; omega
    have eu : up.1 = top.1 - s.f2 := by rw [vu, e4]; rfl
    have el : ln.1 = top.1 - t.1 := by rw [vl, e2]; rfl
    have ew : wd.1 = s.f1 + b.f1 := by rw [vw, e1, ea]
    have eh : w.1 = s.f2 + s.f3 := by rw [vh, e6]
    obtain ⟨_, _, _, _, _, e7⟩ := sum4_ok qn
    obtain ⟨_, _, _, e8⟩ := sum2_ok qi
    have ei : hi.1 = top.1 + f.1 := by rw [vi, e8]
    have en : n.1 = g.1 + t.1 + b.f2 + b.f3 := by rw [vn, e7]
    have eq : q.1 = radQ F c z b s := by
      rw [← hpq, radQ, eh, en, vg, vt, w2]
    refine ⟨hs.1, by rw [ea] at i1; exact i1, hh, dd, top.1, by rw [vo, e5, eq, vt], ?_⟩
    rw [hset, ew, eu, el, ea, ei, vt, vf]
  · rw [if_neg he] at h
    exact absurd h he
end Go.Proofs.Ytbhljokhcmfgjaa.P
