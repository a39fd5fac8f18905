import Derived.Test.YtbhljokhcmfgjaaGaps1
import Derived.Test.YtbhljokhcmfgjaaBar4
import Derived.Test.YtbhljokhcmfgjaaBarU
/- Lines above and below: where they stand, and what is made of a right box is right (plain). -/
set_option linter.unusedVariables false
set_option linter.unusedSimpArgs false
namespace Go.Proofs.Ytbhljokhcmfgjaa.P
open Go.RowKit Go.Proofs.YtbhljokhcmfgjaaW.PrintWords

theorem set_hd {e w W hh dd : Int} {l kids : List S41} (h : setV e w l = (3, W, hh, dd, 0, 0, kids, 0)) : ∀ k ∈ kids, kidOk k = true ∧ wrap64 (k.f1 + k.f2.f2) ≤ hh ∧ wrap64 (k.f2.f3 - k.f1) ≤ dd := by
  obtain ⟨h0, H, D, hs⟩ := setV_ok (e := e) (wd := w) (l := l) (by rw [h]) (setGo_err l 0 0)
  rw [h] at hs
  simp only [Prod.mk.injEq, true_and] at hs
  obtain ⟨rfl, rfl, rfl, rfl, _⟩ := hs
  unfold setV setR at h
  rw [if_pos h0] at h
  cases hg : setGo kids 0 0 with
  | error e => rw [hg] at h; simp [setEnd] at h
  | ok p =>
    obtain ⟨H, D⟩ := p
    rw [hg, setEnd] at h
    split at h
    · split at h
      · simp only [Prod.mk.injEq, true_and] at h
        obtain ⟨rfl, rfl, _⟩ := h
        exact (setGo_in kids 0 0 H D hg).2.2
      · simp at h
    · simp at h
/-- A line above: what the law asks. -/
def OverOk (y bh G T Fr hh : Int) : Prop := wrap64 (y - bh) = G ∧ wrap64 (wrap64 (y + T) + Fr) ≤ hh
def UnderOk (y bd G T Fr dd : Int) : Prop := wrap64 (wrap64 (wrap64 (-wrap64 (-y)) - T) - bd) = G ∧ wrap64 (wrap64 (-wrap64 (-y)) + Fr) ≤ dd
theorem right_empty {h d : Int} (h2 : isLen h = true) (h3 : isLen d = true) : Right ⟨0, 0, h, d, 0, 0, []⟩ := .mk _ (by simp [ownV, h2, h3, show isLen 0 = true by decide]) (fun k hk => by cases hk)
theorem over_gaps (F : S63) (c z : Int) (b : S25) (h : (overV F c z b).2.2.2.2.2.2.2 = 0) :
    ∃ hh dd y q, overV F c z b = (3, b.f1, hh, dd, 0, 0, [⟨0, 0, b⟩, ⟨0, y, ⟨2, b.f1, (konstV F 44 c z).1, 0, 0, 0, []⟩⟩, ⟨0, 0, ⟨0, 0, q, 0, 0, 0, []⟩⟩], 0) ∧ (konstV F 43 c z).2 = 0 ∧ (konstV F 44 c z).2 = 0 ∧ (konstV F 45 c z).2 = 0 ∧
      OverOk y b.f2 (konstV F 43 c z).1 (konstV F 44 c z).1 (konstV F 45 c z).1 hh ∧ (Right b → Right ⟨3, b.f1, hh, dd, 0, 0, [⟨0, 0, b⟩, ⟨0, y, ⟨2, b.f1, (konstV F 44 c z).1, 0, 0, 0, []⟩⟩, ⟨0, 0, ⟨0, 0, q, 0, 0, 0, []⟩⟩]⟩) := by
  have l1 := konst_len F 43 c z
  have l2 := konst_len F 44 c z
  have l3 := konst_len F 45 c z
  unfold overV at h ⊢
  dsimp only at h ⊢
  generalize hg : keepV 0 (konstV F 43 c z) = g at h ⊢
  generalize ht : keepV g.2 (konstV F 44 c z) = t at h ⊢
  generalize hf : keepV t.2 (konstV F 45 c z) = f at h ⊢
  generalize hy : keepV (needE [b] f.2) (toldOf (sumR [b.f2, g.1])) = y at h ⊢
  generalize hq : keepV y.2 (toldOf (sumR [y.1, t.1, f.1])) = q at h ⊢
  obtain ⟨h5, hh, dd, hset⟩ := setV_ok h (setGo_err _ 0 0)
  obtain ⟨h4, q4, v4⟩ := keepV_ok (e := y.2) (by rw [hq]; exact h5)
  rw [hq] at v4
  obtain ⟨h3, q3, v3⟩ := keepV_ok (e := needE [b] f.2) (by rw [hy]; exact h4)
  rw [hy] at v3
  obtain ⟨h2, hl⟩ := needE_ok h3
  obtain ⟨h1, q2, v2⟩ := keepV_ok (e := t.2) (by rw [hf]; exact h2)
  rw [hf] at v2
  obtain ⟨h0, q1, v1⟩ := keepV_ok (e := g.2) (by rw [ht]; exact h1)
  rw [ht] at v1
  obtain ⟨_, q0, v0⟩ := keepV_ok (e := 0) (by rw [hg]; exact h0)
  rw [hg] at v0
  have hb := hl b (by simp)
  simp only [lens, List.all_cons, List.all_nil, Bool.and_true, Bool.and_eq_true] at hb
  obtain ⟨_, _, ly, e1⟩ := sum2_ok q3
  obtain ⟨_, _, _, lq, e2⟩ := sum3_ok q4
  have vy : y.1 = b.f2 + (konstV F 43 c z).1 := by rw [v3, e1, v0]
  have vq : q.1 = y.1 + (konstV F 44 c z).1 + (konstV F 45 c z).1 := by rw [v4, e2, v1, v2]
  have ly2 : isLen y.1 = true := by rw [v3]; exact toldOf_len _
  have lq2 : isLen q.1 = true := by rw [v4]; exact toldOf_len _
  have hk := set_hd hset
  have hk3 := (hk ⟨0, 0, ⟨0, 0, q.1, 0, 0, 0, []⟩⟩ (by simp)).2.1
  have hlt := (isLen3 (hk ⟨0, y.1, ⟨2, b.f1, t.1, 0, 0, 0, []⟩⟩ (by simp)).1)
  have hlq := (isLen3 (hk ⟨0, 0, ⟨0, 0, q.1, 0, 0, 0, []⟩⟩ (by simp)).1)
  dsimp only at hk3 hlt hlq
  obtain ⟨a1, b1⟩ := isLen_iff.1 l1
  obtain ⟨a2, b2⟩ := isLen_iff.1 l2
  obtain ⟨a3, b3⟩ := isLen_iff.1 l3
  obtain ⟨a4, b4⟩ := isLen_iff.1 ly2
  obtain ⟨a5, b5⟩ := isLen_iff.1 lq2
  obtain ⟨a6, b6⟩ := isLen_iff.1 hb.2.1
  have w1 : wrap64 (y.1 - b.f2) = y.1 - b.f2 := by unfold wrap64; omega
  have w2 : wrap64 (y.1 + (konstV F 44 c z).1) = y.1 + (konstV F 44 c z).1 := by unfold wrap64; omega
  have w3 : wrap64 (y.1 + (konstV F 44 c z).1 + (konstV F 45 c z).1) = y.1 + (konstV F 44 c z).1 + (konstV F 45 c z).1 := by unfold wrap64; omega
  have w4 : wrap64 (0 + q.1) = q.1 := by unfold wrap64; omega
  refine ⟨hh, dd, y.1, q.1, ?_, q0, q1, q2, ⟨?_, ?_⟩, fun hr => ?_⟩
  · rw [hset, v1]
  · rw [w1]; omega
  · rw [w2, w3]; rw [w4] at hk3; omega
  · rw [v1] at hset
    refine set_right hset fun k hk => ?_
    simp only [List.mem_cons, List.not_mem_nil, or_false] at hk
    rcases hk with rfl | rfl | rfl
    · exact hr
    · exact right_rule hb.1 l2 (by decide)
    · exact right_empty hlq.2.2.2.1 (by decide)
theorem under_gaps (F : S63) (c z : Int) (b : S25) (h : (underV F c z b).2.2.2.2.2.2.2 = 0) :
    ∃ hh dd y q, underV F c z b = (3, b.f1, hh, dd, 0, 0, [⟨0, 0, b⟩, ⟨0, wrap64 (-y), ⟨2, b.f1, (konstV F 47 c z).1, 0, 0, 0, []⟩⟩, ⟨0, 0, ⟨0, 0, 0, q, 0, 0, []⟩⟩], 0) ∧ (konstV F 46 c z).2 = 0 ∧ (konstV F 47 c z).2 = 0 ∧ (konstV F 48 c z).2 = 0 ∧
      UnderOk y b.f3 (konstV F 46 c z).1 (konstV F 47 c z).1 (konstV F 48 c z).1 dd ∧ (Right b → Right ⟨3, b.f1, hh, dd, 0, 0, [⟨0, 0, b⟩, ⟨0, wrap64 (-y), ⟨2, b.f1, (konstV F 47 c z).1, 0, 0, 0, []⟩⟩, ⟨0, 0, ⟨0, 0, 0, q, 0, 0, []⟩⟩]⟩) := by
  have l1 := konst_len F 46 c z
  have l2 := konst_len F 47 c z
  have l3 := konst_len F 48 c z
  unfold underV at h ⊢
  dsimp only at h ⊢
  generalize hg : keepV 0 (konstV F 46 c z) = g at h ⊢
  generalize ht : keepV g.2 (konstV F 47 c z) = t at h ⊢
  generalize hf : keepV t.2 (konstV F 48 c z) = f at h ⊢
  generalize hy : keepV (needE [b] f.2) (toldOf (sumR [b.f3, g.1, t.1])) = y at h ⊢
  generalize hq : keepV y.2 (toldOf (sumR [y.1, f.1])) = q at h ⊢
  obtain ⟨h5, hh, dd, hset⟩ := setV_ok h (setGo_err _ 0 0)
  obtain ⟨h4, q4, v4⟩ := keepV_ok (e := y.2) (by rw [hq]; exact h5)
  rw [hq] at v4
  obtain ⟨h3, q3, v3⟩ := keepV_ok (e := needE [b] f.2) (by rw [hy]; exact h4)
  rw [hy] at v3
  obtain ⟨h2, hl⟩ := needE_ok h3
  obtain ⟨h1, q2, v2⟩ := keepV_ok (e := t.2) (by rw [hf]; exact h2)
  rw [hf] at v2
  obtain ⟨h0, q1, v1⟩ := keepV_ok (e := g.2) (by rw [ht]; exact h1)
  rw [ht] at v1
  obtain ⟨_, q0, v0⟩ := keepV_ok (e := 0) (by rw [hg]; exact h0)
  rw [hg] at v0
  have hb := hl b (by simp)
  simp only [lens, List.all_cons, List.all_nil, Bool.and_true, Bool.and_eq_true] at hb
  obtain ⟨_, _, _, ly, e1⟩ := sum3_ok q3
  obtain ⟨_, _, lq, e2⟩ := sum2_ok q4
  have vy : y.1 = b.f3 + (konstV F 46 c z).1 + (konstV F 47 c z).1 := by rw [v3, e1, v0, v1]
  have vq : q.1 = y.1 + (konstV F 48 c z).1 := by rw [v4, e2, v2]
  have ly2 : isLen y.1 = true := by rw [v3]; exact toldOf_len _
  have lq2 : isLen q.1 = true := by rw [v4]; exact toldOf_len _
  have hk := set_hd hset
  have hk3 := (hk ⟨0, 0, ⟨0, 0, 0, q.1, 0, 0, []⟩⟩ (by simp)).2.2
  have hlt := (isLen3 (hk ⟨0, wrap64 (-y.1), ⟨2, b.f1, t.1, 0, 0, 0, []⟩⟩ (by simp)).1)
  have hlq := (isLen3 (hk ⟨0, 0, ⟨0, 0, 0, q.1, 0, 0, []⟩⟩ (by simp)).1)
  dsimp only at hk3 hlt hlq
  obtain ⟨a1, b1⟩ := isLen_iff.1 l1
  obtain ⟨a2, b2⟩ := isLen_iff.1 l2
  obtain ⟨a3, b3⟩ := isLen_iff.1 l3
  obtain ⟨a4, b4⟩ := isLen_iff.1 ly2
  obtain ⟨a5, b5⟩ := isLen_iff.1 lq2
  obtain ⟨a6, b6⟩ := isLen_iff.1 hb.2.2
  have wn : wrap64 (-y.1) = -y.1 := wneg ly2
  have w0 : wrap64 (-wrap64 (-y.1)) = y.1 := by rw [wn]; unfold wrap64; omega
  have w1 : wrap64 (y.1 - (konstV F 47 c z).1) = y.1 - (konstV F 47 c z).1 := by unfold wrap64; omega
  have w2 : wrap64 (y.1 - (konstV F 47 c z).1 - b.f3) = y.1 - (konstV F 47 c z).1 - b.f3 := by unfold wrap64; omega
  have w3 : wrap64 (y.1 + (konstV F 48 c z).1) = y.1 + (konstV F 48 c z).1 := by unfold wrap64; omega
  have w4 : wrap64 (q.1 - 0) = q.1 := by unfold wrap64; omega
  refine ⟨hh, dd, y.1, q.1, ?_, q0, q1, q2, ⟨?_, ?_⟩, fun hr => ?_⟩
  · rw [hset, v1]
  · rw [w0, w1, w2]; omega
  · rw [w0, w3]; rw [w4] at hk3; omega
  · rw [v1] at hset
    refine set_right hset fun k hk => ?_
    simp only [List.mem_cons, List.not_mem_nil, or_false] at hk
    rcases hk with rfl | rfl | rfl
    · exact hr
    · exact right_rule hb.1 l2 (by decide)
    · exact right_empty (by decide) hlq.2.2.2.2
end Go.Proofs.Ytbhljokhcmfgjaa.P
