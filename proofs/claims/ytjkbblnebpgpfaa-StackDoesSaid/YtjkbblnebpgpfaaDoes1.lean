import Derived.Test.YtjkbblnebpgpfaaRefFrac
import Derived.Test.YtjkbblnebpgpfaaSum3
/- stack's numbers are the document's (layer 26): plain arithmetic. -/
set_option linter.unusedVariables false
set_option linter.unusedSimpArgs false
namespace Go.Proofs.Ytjkbblnebpgpfaa.P
open Go.RowKit Go.Proofs.YtjkbblnebpgpfaaW.PrintWords Go.Proofs.YtjkbblnebpgpfaaW.PrintLast Go.Proofs.YtjkbblnebpgpfaaW.PrintMore

theorem center_same (F : S36) (c z : Int) (b : S39) : centerV F c z b = rCenterV F c z b := rfl
theorem rEither_eq (F : S36) (k c z : Int) (h : 0 ≤ k ∧ k ≤ 100) : rEitherV F k c z = eitherV F k c z := by
  unfold rEitherV eitherV
  rw [show wrap64 (k + 1) = k + 1 by unfold wrap64; omega]
theorem atop_same (F : S36) (c z : Int) (num den : S39) : atopV F c z num den = rAtopV F c z num den := by
  obtain ⟨up, hup⟩ : ∃ u, u = keepV 0 (eitherV F 22 c z) := ⟨_, rfl⟩
  obtain ⟨dn, hdn⟩ : ∃ u, u = keepV up.2 (eitherV F 24 c z) := ⟨_, rfl⟩
  obtain ⟨gp, hgp⟩ : ∃ u, u = keepV dn.2 (eitherV F 26 c z) := ⟨_, rfl⟩
  obtain ⟨p, hp⟩ : ∃ u, u = keepV (needE [num, den] gp.2) (toldOf (sumR [up.1, wrap64 (-num.f3)])) := ⟨_, rfl⟩
  obtain ⟨q, hq⟩ : ∃ u, u = keepV p.2 (toldOf (sumR [den.f2, wrap64 (-dn.1)])) := ⟨_, rfl⟩
  obtain ⟨th, hth⟩ : ∃ u, u = keepV q.2 (toldOf (sumR [p.1, wrap64 (-q.1)])) := ⟨_, rfl⟩
  obtain ⟨ms, hms⟩ : ∃ u, u = keepV th.2 (toldOf (sumR [gp.1, wrap64 (-th.1)])) := ⟨_, rfl⟩
  have h1 : atopV F c z num den = atopEnd (atopMove up.1 dn.1 ms.1 ms.2).2.2 (mx num.f1 den.f1) (atopMove up.1 dn.1 ms.1 ms.2).1 (atopMove up.1 dn.1 ms.1 ms.2).2.1 num den := by subst hup hdn hgp hp hq hth hms; rfl
  have h2 : rAtopV F c z num den = if 0 < ms.1 then rAtopEnd num den (keepV (keepV ms.2 (toldOf (halfR ms.1))).2 (toldOf (sumR [up.1, (keepV ms.2 (toldOf (halfR ms.1))).1]))).1 (keepV (keepV (keepV ms.2 (toldOf (halfR ms.1))).2 (toldOf (sumR [up.1, (keepV ms.2 (toldOf (halfR ms.1))).1]))).2 (toldOf (sumR [dn.1, wrap64 (ms.1 - (keepV ms.2 (toldOf (halfR ms.1))).1)]))).1 (keepV (keepV (keepV ms.2 (toldOf (halfR ms.1))).2 (toldOf (sumR [up.1, (keepV ms.2 (toldOf (halfR ms.1))).1]))).2 (toldOf (sumR [dn.1, wrap64 (ms.1 - (keepV ms.2 (toldOf (halfR ms.1))).1)]))).2 else rAtopEnd num den up.1 dn.1 ms.2 := by
    subst hup hdn hgp hp hq hth hms
    unfold rAtopV
    simp only [rEither_eq F 22 c z (by omega), rEither_eq F 24 c z (by omega), rEither_eq F 26 c z (by omega)]
    rfl
  rw [h1, h2]
  unfold atopMove
  by_cases hm : 0 < ms.1
  · rw [if_pos hm, if_pos hm]
    unfold atopEnd rAtopEnd
    simp only [mx_max]
    rfl
  · rw [if_neg hm, if_neg hm]
    unfold atopEnd rAtopEnd
    simp only [mx_max]
    rfl
def fracT (e tp ab be bo u d : Int) (num den : S39) : BoxV :=
  let s1 := keepV e (toldOf (sumR [tp, ab, num.f3]))
  let s2 := keepV s1.2 (toldOf (sumR [den.f2, be, wrap64 (-bo)]))
  fracEnd s2.2 (mx num.f1 den.f1) (mx u s1.1) (mx d s2.1) tp bo num den
def rFracT (e tp ab be bo u d : Int) (num den : S39) : BoxV :=
  let u1 := keepV e (toldOf (sumR [tp, ab]))
  let u2 := keepV u1.2 (toldOf (sumR [u1.1, num.f3]))
  let d1 := keepV u2.2 (toldOf (sumR [den.f2, be]))
  let d2 := keepV d1.2 (toldOf (sumR [d1.1, wrap64 (-bo)]))
  let m := midV d2.2 (max num.f1 den.f1) num.f1
  let n := midV m.2 (max num.f1 den.f1) den.f1
  setV n.2 (max num.f1 den.f1) [⟨m.1, max u u2.1, num⟩, ⟨0, 0, ⟨2, max num.f1 den.f1, tp, wrap64 (-bo), 0, 0, []⟩⟩, ⟨n.1, wrap64 (-(max d d2.1)), den⟩]
theorem fracT_same {e tp ab be bo u d : Int} {num den : S39} (h1 : isLen tp = true) (h2 : isLen ab = true) (h3 : isLen be = true) (h4 : isLen bo = true) (h : e = 0 → isLen num.f3 = true ∧ isLen den.f2 = true) : fracT e tp ab be bo u d num den = rFracT e tp ab be bo u d num den := by
  have a1 := keep_sum3 (e := e) (x := tp) (y := ab) (z := num.f3) (fun he => ⟨h1, h2, (h he).1⟩)
  unfold fracT rFracT
  dsimp only
  rw [a1]
  obtain ⟨u1, hu1⟩ : ∃ u1, u1 = keepV e (toldOf (sumR [tp, ab])) := ⟨_, rfl⟩
  rw [← hu1]
  obtain ⟨u2, hu2⟩ : ∃ u2, u2 = keepV u1.2 (toldOf (sumR [u1.1, num.f3])) := ⟨_, rfl⟩
  rw [← hu2]
  have a2 := keep_sum3 (e := u2.2) (x := den.f2) (y := be) (z := wrap64 (-bo)) (fun he => by
    rw [hu2] at he
    have b1 := (keepV_ok he).1
    rw [hu1] at b1
    have b2 := (keepV_ok b1).1
    refine ⟨(h b2).2, h3, ?_⟩
    rw [wneg h4]
    exact isLen_neg h4)
  rw [a2]
  unfold fracEnd
  simp only [mx_max]
  rfl
theorem frac_same (F : S36) (c z : Int) (num den : S39) : fracV F c z num den = rFracV F c z num den := by
  obtain ⟨a, ha⟩ : ∃ a, a = keepV 0 (konstV F 5 c z) := ⟨_, rfl⟩
  obtain ⟨t, ht⟩ : ∃ t, t = keepV a.2 (konstV F 38 c z) := ⟨_, rfl⟩
  obtain ⟨u, hu⟩ : ∃ u, u = keepV t.2 (eitherV F 32 c z) := ⟨_, rfl⟩
  obtain ⟨d, hd⟩ : ∃ d, d = keepV u.2 (eitherV F 34 c z) := ⟨_, rfl⟩
  obtain ⟨ab, hab⟩ : ∃ ab, ab = keepV d.2 (eitherV F 36 c z) := ⟨_, rfl⟩
  obtain ⟨be, hbe⟩ : ∃ be, be = keepV ab.2 (eitherV F 39 c z) := ⟨_, rfl⟩
  obtain ⟨hf, hhf⟩ : ∃ hf, hf = keepV (needE [num, den] be.2) (toldOf (halfR t.1)) := ⟨_, rfl⟩
  obtain ⟨bo, hbo⟩ : ∃ bo, bo = keepV hf.2 (toldOf (sumR [a.1, wrap64 (-hf.1)])) := ⟨_, rfl⟩
  obtain ⟨tp, htp⟩ : ∃ tp, tp = keepV bo.2 (toldOf (sumR [bo.1, t.1])) := ⟨_, rfl⟩
  have l1 : isLen tp.1 = true := by rw [htp]; exact keepV_len (toldOf_len _)
  have l2 : isLen ab.1 = true := by rw [hab]; exact keepV_len (either_len F _ c z)
  have l3 : isLen be.1 = true := by rw [hbe]; exact keepV_len (either_len F _ c z)
  have l4 : isLen bo.1 = true := by rw [hbo]; exact keepV_len (toldOf_len _)
  have l5 : tp.2 = 0 → isLen num.f3 = true ∧ isLen den.f2 = true := fun h0 => by
    rw [htp] at h0
    have b1 := (keepV_ok h0).1
    rw [hbo] at b1
    have b2 := (keepV_ok b1).1
    rw [hhf] at b2
    have b3 := (needE_ok (keepV_ok b2).1).2
    have b4 := b3 num (by simp)
    have b5 := b3 den (by simp)
    simp only [lens, List.all_cons, List.all_nil, Bool.and_true, Bool.and_eq_true] at b4 b5
    exact ⟨b4.2.2, b5.2.1⟩
  have h1 : fracV F c z num den = fracT tp.2 tp.1 ab.1 be.1 bo.1 u.1 d.1 num den := by subst ha ht hu hd hab hbe hhf hbo htp; rfl
  have h2 : rFracV F c z num den = rFracT tp.2 tp.1 ab.1 be.1 bo.1 u.1 d.1 num den := by
    subst ha ht hu hd hab hbe hhf hbo htp
    unfold rFracV
    simp only [rEither_eq F 32 c z (by omega), rEither_eq F 34 c z (by omega), rEither_eq F 36 c z (by omega), rEither_eq F 39 c z (by omega)]
    rfl
  rw [h1, h2]
  exact fracT_same l1 l2 l3 l4 l5
end Go.Proofs.Ytjkbblnebpgpfaa.P
