import Derived.Test.YtbhljokhcmfgjaaE12
import Derived.Test.YtbhljokhcmfgjaaE17
/- Where stack.Atop and stack.Frac put their boxes: plain arithmetic (over the joined texts K1..K18). -/
set_option linter.unusedVariables false
set_option linter.unusedSimpArgs false
namespace Go.Proofs.Ytbhljokhcmfgjaa.P
open Go.RowKit Go.Proofs.YtbhljokhcmfgjaaW.PrintWords Go.Proofs.YtbhljokhcmfgjaaW.PrintLast Go.Proofs.YtbhljokhcmfgjaaW.PrintMore

theorem toldOf_len (r : Except Int Int) : isLen (toldOf r).1 = true := by
  cases r with
  | error c => rfl
  | ok n =>
    by_cases h : isLen n = true
    · simp [toldOf, h]
    · simp [toldOf, h]
      rfl
theorem keepV_len {e : Int} {r : Int × Int} (h : isLen r.1 = true) : isLen (keepV e r).1 = true := by
  simp only [keepV]
  split
  · exact h
  · rfl
theorem wneg {x : Int} (h : isLen x = true) : wrap64 (-x) = -x := wrap_neg h
theorem wsub {x y : Int} (hx : isLen x = true) (hy : isLen y = true) : wrap64 (x - y) = x - y := by
  obtain ⟨h1, h2⟩ := isLen_iff.1 hx
  obtain ⟨h3, h4⟩ := isLen_iff.1 hy
  unfold wrap64
  omega
theorem isLen_neg {x : Int} (h : isLen x = true) : isLen (-x) = true := by
  obtain ⟨h1, h2⟩ := isLen_iff.1 h
  exact isLen_iff.2 ⟨by omega, by omega⟩
theorem konst_len (F : S63) (k c z : Int) : isLen (konstV F k c z).1 = true := by
  have key : ∃ v e, style_Konst.f 3 F.f0.f0 F.f0.f1 F.f0.f2 F.f0.f3 F.f0.f4 F.f0.f5 F.f1 F.f2 F.f3 F.f4.f0 F.f4.f1 F.f4.f2 F.f4.f3 F.f4.f4 F.f4.f5.f0 F.f4.f5.f1 F.f4.f5.f2 k c z = some (v, e) ∧ isLen v = true := by
    have hj : ∀ b : Bool, (b = false → 0 ≤ k ∧ k < 56) → ∃ v e, style_Konst.j0 3 k c z b F.f0.f0 F.f0.f1 F.f0.f2 F.f0.f3 F.f0.f4 F.f0.f5 F.f1 F.f2 F.f3 F.f4.f0 F.f4.f1 F.f4.f2 F.f4.f3 F.f4.f4 F.f4.f5.f0 F.f4.f5.f1 F.f4.f5.f2 = some (v, e) ∧ isLen v = true := by
      intro b hb
      simp only [style_Konst.j0]
      cases b with
      | true => exact ⟨0, 1, by simp, rfl⟩
      | false =>
        obtain ⟨h0, h1⟩ := hb rfl
        obtain ⟨v, e, hv, hi⟩ := size_total F.f4.f0 c z 2 (by omega)
        rw [if_neg (by simp), hv, Option.bind_some]
        by_cases he : e = 0
        · have hl := konstIs_length (hi he)
          simp only [he, if_true]
          rw [if_pos h0, if_pos (by omega)]
          unfold head_Units.f head_Is.f fixed_MulDiv.f
          simp only [Option.bind_some]
          split
          all_goals first | exact ⟨_, _, rfl, toldOf_len _⟩ | exact ⟨_, _, rfl, rfl⟩
        · simp only [he, if_false]
          exact ⟨_, _, rfl, rfl⟩
    unfold style_Konst.f
    split
    · exact hj true (by simp)
    · refine hj (decide (k ≥ 56)) (fun h => ?_)
      simp at h
      omega
  obtain ⟨v, e, h1, h2⟩ := key
  rw [konstV, h1]
  exact h2
theorem either_len (F : S63) (k c z : Int) : isLen (eitherV F k c z).1 = true := konst_len F _ c z
theorem sum3_ok {x y z : Int} (h : (toldOf (sumR [x, y, z])).2 = 0) : isLen x = true ∧ isLen y = true ∧ isLen z = true ∧ isLen (x + y + z) = true ∧ (toldOf (sumR [x, y, z])).1 = x + y + z := by
  unfold sumR at h ⊢
  by_cases ha : [x, y, z].all isLen = true
  · rw [if_pos ha] at h ⊢
    simp only [List.all_cons, List.all_nil, Bool.and_true, Bool.and_eq_true] at ha
    simp only [sumGo, Int.zero_add] at h ⊢
    rw [if_pos ha.1] at h ⊢
    by_cases hs : isLen (x + y) = true
    · rw [if_pos hs] at h ⊢
      by_cases ht : isLen (x + y + z) = true
      · rw [if_pos ht] at h ⊢
        exact ⟨ha.1, ha.2.1, ha.2.2, ht, by simp [toldOf, ht]⟩
      · rw [if_neg ht] at h
        simp [toldOf] at h
    · rw [if_neg hs] at h
      simp [toldOf] at h
  · rw [if_neg ha] at h
    simp [toldOf] at h
theorem len_half {n : Int} (h : isLen n = true) : isLen (n / 2) = true := by
  obtain ⟨h1, h2⟩ := isLen_iff.1 h
  exact isLen_iff.2 ⟨by omega, by omega⟩
theorem mx_le (a b : Int) : a ≤ mx a b ∧ b ≤ mx a b := by
  unfold mx
  split <;> omega
theorem mx_len {a b : Int} (ha : isLen a = true) (hb : isLen b = true) : isLen (mx a b) = true := by
  unfold mx
  split <;> assumption
/-- A kid in the middle. -/
theorem kid_ok {e w : Int} {x : S25} (hx : isLen x.f1 = true) (h : (kidV e w x).2 = 0) : e = 0 ∧ isLen w = true ∧ (kidV e w x).1 = (w - x.f1) / 2 := by
  obtain ⟨h1, s2, v2⟩ := keepV_ok h
  obtain ⟨h0, s1, v1⟩ := keepV_ok h1
  obtain ⟨i1, i2, i3, e3⟩ := sum2_ok s1
  rw [v1, e3] at s2
  obtain ⟨j1, e4⟩ := half_ok s2
  refine ⟨h0, i1, ?_⟩
  show (keepV _ _).1 = _
  rw [v2, v1, e3, e4, wneg hx]
  rfl
theorem atopEnd_ok {e w u d : Int} {num den : S25} (hn : isLen num.f1 = true) (hd : isLen den.f1 = true) (h : (atopEnd e w u d num den).2.2.2.2.2.2.2 = 0) :
    e = 0 ∧ ∃ hh dd, atopEnd e w u d num den = (3, w, hh, dd, 0, 0, [⟨(w - num.f1) / 2, u, num⟩, ⟨(w - den.f1) / 2, wrap64 (-d), den⟩], 0) := by
  obtain ⟨h2, hh, dd, hset⟩ := setV_ok h (setGo_err _ 0 0)
  obtain ⟨h1, _, v2⟩ := kid_ok hd h2
  obtain ⟨h0, _, v1⟩ := kid_ok hn h1
  refine ⟨h0, hh, dd, ?_⟩
  show setV _ _ _ = _
  rw [hset, v1, v2]
theorem fracEnd_ok {e w u d t b : Int} {num den : S25} (hn : isLen num.f1 = true) (hd : isLen den.f1 = true) (h : (fracEnd e w u d t b num den).2.2.2.2.2.2.2 = 0) :
    e = 0 ∧ ∃ hh dd, fracEnd e w u d t b num den = (3, w, hh, dd, 0, 0, [⟨(w - num.f1) / 2, u, num⟩, ⟨0, 0, ⟨2, w, t, wrap64 (-b), 0, 0, []⟩⟩, ⟨(w - den.f1) / 2, wrap64 (-d), den⟩], 0) := by
  obtain ⟨h2, hh, dd, hset⟩ := setV_ok h (setGo_err _ 0 0)
  obtain ⟨h1, _, v2⟩ := kid_ok hd h2
  obtain ⟨h0, _, v1⟩ := kid_ok hn h1
  refine ⟨h0, hh, dd, ?_⟩
  show setV _ _ _ = _
  rw [hset, v1, v2]
theorem atopMove_ok {u d m e : Int} (hu : isLen u = true) (hd : isLen d = true) (hm : isLen m = true) (h : (atopMove u d m e).2.2 = 0) :
    e = 0 ∧ isLen (atopMove u d m e).1 = true ∧ isLen (atopMove u d m e).2.1 = true ∧ ((m ≤ 0 ∧ (atopMove u d m e).1 = u ∧ (atopMove u d m e).2.1 = d) ∨ (0 < m ∧ (atopMove u d m e).1 = u + m / 2 ∧ (atopMove u d m e).2.1 = d + (m - m / 2))) := by
  unfold atopMove at h ⊢
  by_cases hp : 0 < m
  · rw [if_pos hp] at h ⊢
    obtain ⟨h2, s3, v3⟩ := keepV_ok h
    obtain ⟨h1, s2, v2⟩ := keepV_ok h2
    obtain ⟨h0, s1, v1⟩ := keepV_ok h1
    obtain ⟨j1, e1⟩ := half_ok s1
    rw [v1, e1] at s2 s3
    obtain ⟨_, _, i2, e2⟩ := sum2_ok s2
    rw [wsub hm (len_half hm)] at s3
    obtain ⟨_, _, i3, e3⟩ := sum2_ok s3
    refine ⟨h0, ?_, ?_, .inr ⟨hp, ?_, ?_⟩⟩
    · show isLen (keepV _ _).1 = true
      exact keepV_len (toldOf_len _)
    · show isLen (keepV _ _).1 = true
      exact keepV_len (toldOf_len _)
    · show (keepV _ _).1 = _
      rw [v2, v1, e1, e2]
    · show (keepV _ _).1 = _
      rw [v3, v1, e1, wsub hm (len_half hm), e3]
  · rw [if_neg hp] at h ⊢
    exact ⟨h, hu, hd, .inl ⟨by omega, rfl, rfl⟩⟩
/-- Where stack.Atop puts its boxes, if there is no error. -/
theorem atop_plain (F : S63) (c z : Int) (num den : S25) (h : (atopV F c z num den).2.2.2.2.2.2.2 = 0) :
    (eitherV F 22 c z).2 = 0 ∧ (eitherV F 24 c z).2 = 0 ∧ (eitherV F 26 c z).2 = 0 ∧ isLen num.f1 = true ∧ isLen den.f1 = true ∧ isLen num.f3 = true ∧ isLen den.f2 = true ∧
    ∃ up dn hh dd, atopV F c z num den = (3, mx num.f1 den.f1, hh, dd, 0, 0, [⟨(mx num.f1 den.f1 - num.f1) / 2, up, num⟩, ⟨(mx num.f1 den.f1 - den.f1) / 2, wrap64 (-dn), den⟩], 0) ∧ isLen up = true ∧ isLen dn = true ∧
      ((up = (eitherV F 22 c z).1 ∧ dn = (eitherV F 24 c z).1 ∧ (eitherV F 26 c z).1 ≤ up - num.f3 - den.f2 + dn) ∨
       (∃ m, 0 < m ∧ up = (eitherV F 22 c z).1 + m / 2 ∧ dn = (eitherV F 24 c z).1 + (m - m / 2) ∧ (eitherV F 26 c z).1 = up - num.f3 - den.f2 + dn)) := by
  have hu := either_len F 22 c z
  have hd := either_len F 24 c z
  have hg := either_len F 26 c z
  unfold atopV at h ⊢
  dsimp only at h ⊢
  generalize hp1 : keepV 0 (eitherV F 22 c z) = p1 at h ⊢
  generalize hp2 : keepV p1.2 (eitherV F 24 c z) = p2 at h ⊢
  generalize hp3 : keepV p2.2 (eitherV F 26 c z) = p3 at h ⊢
  generalize hp5 : keepV (needE [num, den] p3.2) (toldOf (sumR [p1.1, wrap64 (-num.f3)])) = p5 at h ⊢
  generalize hp6 : keepV p5.2 (toldOf (sumR [den.f2, wrap64 (-p2.1)])) = p6 at h ⊢
  generalize hp7 : keepV p6.2 (toldOf (sumR [p5.1, wrap64 (-p6.1)])) = p7 at h ⊢
  generalize hp8 : keepV p7.2 (toldOf (sumR [p3.1, wrap64 (-p7.1)])) = p8 at h ⊢
  have l1 : isLen p1.1 = true := hp1 ▸ keepV_len hu
  have l2 : isLen p2.1 = true := hp2 ▸ keepV_len hd
  have l3 : isLen p3.1 = true := hp3 ▸ keepV_len hg
  have l6 : isLen p6.1 = true := hp6 ▸ keepV_len (toldOf_len _)
  have l7 : isLen p7.1 = true := hp7 ▸ keepV_len (toldOf_len _)
  have l8 : isLen p8.1 = true := hp8 ▸ keepV_len (toldOf_len _)
  generalize hq : atopMove p1.1 p2.1 p8.1 p8.2 = q at h ⊢
  try dsimp only at h ⊢
  -- the errors, backwards
  have hE : q.2.2 = 0 := by
    by_cases he : q.2.2 = 0
    · exact he
    · exfalso
      have k1 : ∀ (e w : Int) (x : S25), e ≠ 0 → (kidV e w x).2 ≠ 0 := by
        intro e w x h1 h2
        obtain ⟨h3, _, _⟩ := keepV_ok h2
        obtain ⟨h4, _, _⟩ := keepV_ok h3
        exact h1 h4
      obtain ⟨h2, _⟩ := setV_ok h (setGo_err _ 0 0)
      exact k1 _ _ _ (k1 _ _ _ he) h2
  obtain ⟨h8, lu, ld, hm⟩ := atopMove_ok (e := p8.2) l1 l2 l8 (by rw [hq]; exact hE)
  rw [hq] at lu ld hm
  obtain ⟨h7, s8, v8⟩ := keepV_ok (e := p7.2) (by rw [hp8]; exact h8)
  rw [hp8] at v8
  obtain ⟨h6, s7, v7⟩ := keepV_ok (e := p6.2) (by rw [hp7]; exact h7)
  rw [hp7] at v7
  obtain ⟨h5, s6, v6⟩ := keepV_ok (e := p5.2) (by rw [hp6]; exact h6)
  rw [hp6] at v6
  obtain ⟨h4, s5, v5⟩ := keepV_ok (by rw [hp5]; exact h5)
  rw [hp5] at v5
  obtain ⟨h3, hl⟩ := needE_ok h4
  obtain ⟨h2, s3, v3⟩ := keepV_ok (e := p2.2) (by rw [hp3]; exact h3)
  rw [hp3] at v3
  obtain ⟨h1, s2, v2⟩ := keepV_ok (e := p1.2) (by rw [hp2]; exact h2)
  rw [hp2] at v2
  obtain ⟨_, s1, v1⟩ := keepV_ok (e := 0) (by rw [hp1]; exact h1)
  rw [hp1] at v1
  have hnum := hl num (by simp)
  have hden := hl den (by simp)
  simp only [lens, List.all_cons, List.all_nil, Bool.and_true, Bool.and_eq_true] at hnum hden
  obtain ⟨_, _, _, e5⟩ := sum2_ok s5
  obtain ⟨_, _, _, e6⟩ := sum2_ok s6
  obtain ⟨_, _, _, e7⟩ := sum2_ok s7
  obtain ⟨_, _, _, e8⟩ := sum2_ok s8
  rw [wneg hnum.2.2] at e5 v5
  rw [wneg l2] at e6 v6
  rw [wneg l6] at e7 v7
  rw [wneg l7] at e8 v8
  obtain ⟨_, hh, dd, hend⟩ := atopEnd_ok hnum.1 hden.1 h
  refine ⟨s1, s2, s3, hnum.1, hden.1, hnum.2.2, hden.2.1, q.1, q.2.1, hh, dd, hend, lu, ld, ?_⟩
  have a8 : p8.1 = p3.1 - ((p1.1 - num.f3) - (den.f2 - p2.1)) := by
    rw [v8, e8]
    have : p7.1 = p5.1 - p6.1 := by rw [v7, e7]; rfl
    rw [this, v5, e5, v6, e6]
    omega
  rw [← v1, ← v2, ← v3]
  rcases hm with ⟨m0, m1, m2⟩ | ⟨m0, m1, m2⟩
  · left
    refine ⟨m1, m2, ?_⟩
    rw [m1, m2]
    omega
  · right
    refine ⟨p8.1, m0, m1, m2, ?_⟩
    rw [m1, m2]
    omega
theorem kid_err {e w : Int} {x : S25} (h : (kidV e w x).2 = 0) : e = 0 := by
  obtain ⟨h3, _, _⟩ := keepV_ok h
  exact (keepV_ok h3).1
theorem fracEnd_err {e w u d t b : Int} {num den : S25} (h : (fracEnd e w u d t b num den).2.2.2.2.2.2.2 = 0) : e = 0 :=
  kid_err (kid_err (setV_ok h (setGo_err _ 0 0)).1)
/-- Where stack.Frac puts its boxes, if there is no error. -/
theorem frac_plain (F : S63) (c z : Int) (num den : S25) (h : (fracV F c z num den).2.2.2.2.2.2.2 = 0) :
    (konstV F 38 c z).2 = 0 ∧ (eitherV F 36 c z).2 = 0 ∧ (eitherV F 39 c z).2 = 0 ∧ isLen num.f1 = true ∧ isLen den.f1 = true ∧ isLen num.f3 = true ∧ isLen den.f2 = true ∧
    ∃ up dn tp bo hh dd, fracV F c z num den = (3, mx num.f1 den.f1, hh, dd, 0, 0, [⟨(mx num.f1 den.f1 - num.f1) / 2, up, num⟩, ⟨0, 0, ⟨2, mx num.f1 den.f1, tp, -bo, 0, 0, []⟩⟩, ⟨(mx num.f1 den.f1 - den.f1) / 2, -dn, den⟩], 0) ∧ isLen up = true ∧ isLen dn = true ∧ isLen tp = true ∧ isLen bo = true ∧
      tp = bo + (konstV F 38 c z).1 ∧ tp + (eitherV F 36 c z).1 + num.f3 ≤ up ∧ den.f2 + (eitherV F 39 c z).1 - bo ≤ dn := by
  have ha := konst_len F 5 c z
  have ht := konst_len F 38 c z
  have hu := either_len F 32 c z
  have hd := either_len F 34 c z
  have hab := either_len F 36 c z
  have hbe := either_len F 39 c z
  unfold fracV at h ⊢
  dsimp only at h ⊢
  generalize hpa : keepV 0 (konstV F 5 c z) = a at h ⊢
  generalize hpt : keepV a.2 (konstV F 38 c z) = t at h ⊢
  generalize hpu : keepV t.2 (eitherV F 32 c z) = u at h ⊢
  generalize hpd : keepV u.2 (eitherV F 34 c z) = d at h ⊢
  generalize hpab : keepV d.2 (eitherV F 36 c z) = ab at h ⊢
  generalize hpbe : keepV ab.2 (eitherV F 39 c z) = be at h ⊢
  generalize hph : keepV (needE [num, den] be.2) (toldOf (halfR t.1)) = hf at h ⊢
  generalize hpbo : keepV hf.2 (toldOf (sumR [a.1, wrap64 (-hf.1)])) = bo at h ⊢
  generalize hptp : keepV bo.2 (toldOf (sumR [bo.1, t.1])) = tp at h ⊢
  generalize hps1 : keepV tp.2 (toldOf (sumR [tp.1, ab.1, num.f3])) = s1 at h ⊢
  generalize hps2 : keepV s1.2 (toldOf (sumR [den.f2, be.1, wrap64 (-bo.1)])) = s2 at h ⊢
  have la : isLen a.1 = true := hpa ▸ keepV_len ha
  have lt : isLen t.1 = true := hpt ▸ keepV_len ht
  have lu : isLen u.1 = true := hpu ▸ keepV_len hu
  have ld : isLen d.1 = true := hpd ▸ keepV_len hd
  have lhf : isLen hf.1 = true := hph ▸ keepV_len (toldOf_len _)
  have lbo : isLen bo.1 = true := hpbo ▸ keepV_len (toldOf_len _)
  have ltp : isLen tp.1 = true := hptp ▸ keepV_len (toldOf_len _)
  have ls1 : isLen s1.1 = true := hps1 ▸ keepV_len (toldOf_len _)
  have ls2 : isLen s2.1 = true := hps2 ▸ keepV_len (toldOf_len _)
  try dsimp only at h ⊢
  have hE := fracEnd_err h
  obtain ⟨h10, q2, v2⟩ := keepV_ok (e := s1.2) (by rw [hps2]; exact hE)
  rw [hps2] at v2
  obtain ⟨h9, q1, v1⟩ := keepV_ok (e := tp.2) (by rw [hps1]; exact h10)
  rw [hps1] at v1
  obtain ⟨h8, qtp, vtp⟩ := keepV_ok (e := bo.2) (by rw [hptp]; exact h9)
  rw [hptp] at vtp
  obtain ⟨h7, qbo, vbo⟩ := keepV_ok (e := hf.2) (by rw [hpbo]; exact h8)
  rw [hpbo] at vbo
  obtain ⟨h6, qh, vh⟩ := keepV_ok (by rw [hph]; exact h7)
  rw [hph] at vh
  obtain ⟨h5, hl⟩ := needE_ok h6
  obtain ⟨h4, qbe, vbe⟩ := keepV_ok (e := ab.2) (by rw [hpbe]; exact h5)
  rw [hpbe] at vbe
  obtain ⟨h3, qab, vab⟩ := keepV_ok (e := d.2) (by rw [hpab]; exact h4)
  rw [hpab] at vab
  obtain ⟨h2, _, _⟩ := keepV_ok (e := u.2) (by rw [hpd]; exact h3)
  obtain ⟨h1, _, _⟩ := keepV_ok (e := t.2) (by rw [hpu]; exact h2)
  obtain ⟨h0, qt, vt⟩ := keepV_ok (e := a.2) (by rw [hpt]; exact h1)
  rw [hpt] at vt
  have hnum := hl num (by simp)
  have hden := hl den (by simp)
  simp only [lens, List.all_cons, List.all_nil, Bool.and_true, Bool.and_eq_true] at hnum hden
  obtain ⟨_, e1⟩ := half_ok qh
  obtain ⟨_, _, _, e2⟩ := sum2_ok qbo
  obtain ⟨_, _, _, e3⟩ := sum2_ok qtp
  obtain ⟨_, _, _, _, e4⟩ := sum3_ok q1
  obtain ⟨_, _, _, _, e5⟩ := sum3_ok q2
  rw [wneg lhf] at e2 vbo
  rw [wneg lbo] at e5 v2
  have lup := mx_len lu ls1
  have ldn := mx_len ld ls2
  obtain ⟨_, hh, dd, hend⟩ := fracEnd_ok hnum.1 hden.1 h
  rw [wneg lbo, wneg ldn] at hend
  refine ⟨qt, qab, qbe, hnum.1, hden.1, hnum.2.2, hden.2.1, _, _, _, _, hh, dd, hend, lup, ldn, ltp, lbo, ?_, ?_, ?_⟩
  · rw [← vt, vtp, e3]
  · have := (mx_le u.1 s1.1).2
    rw [← vab]
    rw [v1, e4] at this
    rwa [v1, e4]
  · have := (mx_le d.1 s2.1).2
    rw [← vbe]
    rw [v2, e5] at this
    rw [v2, e5]
    omega

theorem info_box : (Try.prog.info? 25).map (·.size) = some 7 := by kernel_rfl
/-- A world whose blocks are known is as good as any other one whose blocks are the same. -/
theorem Pd.fold {P : Program} {ops : Array Oper} {rest : List Oper} {o : Oper} {a : Act} {Q : Exit → Act → World → Prop} {w W : World} {L : List (Nat × Obj)} (h : Pd w W L) (k : ∀ W', Pd w W' L → wpList P ops Q (o :: rest) a W') : wpList P ops Q (o :: rest) a W := k W h
theorem Pd.fold2 {P : Program} {ops : Array Oper} {rest : List Oper} {o : Oper} {a : Act} {Q : Exit → Act → World → Prop} {w v W : World} {L M : List (Nat × Obj)} (h : Pd w W L) (h2 : Pd v W M) (k : ∀ W', Pd w W' L → Pd v W' M → wpList P ops Q (o :: rest) a W') : wpList P ops Q (o :: rest) a W := k W h h2
theorem Pd.fold3 {P : Program} {ops : Array Oper} {rest : List Oper} {o : Oper} {a : Act} {Q : Exit → Act → World → Prop} {w v u W : World} {L M N : List (Nat × Obj)} (h : Pd w W L) (h2 : Pd v W M) (h3 : Pd u W N) (k : ∀ W', Pd w W' L → Pd v W' M → Pd u W' N → wpList P ops Q (o :: rest) a W') : wpList P ops Q (o :: rest) a W := k W h h2 h3
/-- Where a kid stands: its place, from there on. -/
theorem kid_ad {w : World} {A : Option Addr} {xs : List S41} (h : Kd.C k41 w A xs.length xs) (h0 : 0 < xs.length) : ∃ ad, A = some ad := by
  obtain ⟨ad, _, _, hA, _⟩ := kid_keep h 0 h0
  exact ⟨ad, hA⟩
theorem kid_xy {w W : World} {ad : Addr} {xs : List S41} (h : Kd.C k41 w (some ad) xs.length xs) (hb : Below w.heap.size w W) (kk : Nat) (hk : kk < xs.length) :
    W.cell? (ad.add (kk * 9)) = some (.int .i64 xs[kk].f0) ∧ W.cell? ⟨(ad.add (kk * 9)).block, (ad.add (kk * 9)).off + 1, none⟩ = some (.int .i64 xs[kk].f1) := by
  obtain ⟨ad', _, _, hA, _, _, hW⟩ := kid_keep h kk hk
  cases hA
  exact ⟨(hW W hb).1, (hW W hb).2.1⟩
end Go.Proofs.Ytbhljokhcmfgjaa.P
