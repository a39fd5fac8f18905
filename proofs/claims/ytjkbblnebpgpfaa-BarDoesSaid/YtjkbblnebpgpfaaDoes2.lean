import Derived.Test.YtjkbblnebpgpfaaRefBar
import Derived.Test.YtjkbblnebpgpfaaBarU
import Derived.Test.YtjkbblnebpgpfaaBar4
import Derived.Test.YtjkbblnebpgpfaaSum3
/- bar's numbers are the document's (layer 27): plain arithmetic. -/
set_option linter.unusedVariables false
set_option linter.unusedSimpArgs false
namespace Go.Proofs.Ytjkbblnebpgpfaa.P
open Go.RowKit Go.Proofs.YtjkbblnebpgpfaaW.PrintWords Go.Proofs.YtjkbblnebpgpfaaW.PrintLast Go.Proofs.YtjkbblnebpgpfaaW.PrintMore

theorem need_lens {b : S39} {e : Int} (h : needE [b] e = 0) : isLen b.f1 = true ∧ isLen b.f2 = true ∧ isLen b.f3 = true := by
  have h1 := (needE_ok h).2 b (by simp)
  simp only [lens, List.all_cons, List.all_nil, Bool.and_true, Bool.and_eq_true] at h1
  exact h1
theorem over_same (F : S36) (c z : Int) (b : S39) : overV F c z b = rOverV F c z b := by
  obtain ⟨g, hg⟩ : ∃ g, g = keepV 0 (konstV F 43 c z) := ⟨_, rfl⟩
  obtain ⟨t, ht⟩ : ∃ t, t = keepV g.2 (konstV F 44 c z) := ⟨_, rfl⟩
  obtain ⟨f, hf⟩ : ∃ f, f = keepV t.2 (konstV F 45 c z) := ⟨_, rfl⟩
  obtain ⟨y, hy⟩ : ∃ y, y = keepV (needE [b] f.2) (toldOf (sumR [b.f2, g.1])) := ⟨_, rfl⟩
  have l1 : isLen t.1 = true := by rw [ht]; exact keepV_len (konst_len F _ c z)
  have l2 : isLen f.1 = true := by rw [hf]; exact keepV_len (konst_len F _ c z)
  have l3 : isLen y.1 = true := by rw [hy]; exact keepV_len (toldOf_len _)
  have a1 := keep_sum3 (e := y.2) (x := y.1) (y := t.1) (z := f.1) (fun _ => ⟨l3, l1, l2⟩)
  have h1 : overV F c z b = setV (keepV y.2 (toldOf (sumR [y.1, t.1, f.1]))).2 b.f1 [⟨0, 0, b⟩, ⟨0, y.1, ⟨2, b.f1, t.1, 0, 0, 0, []⟩⟩, ⟨0, 0, ⟨0, 0, (keepV y.2 (toldOf (sumR [y.1, t.1, f.1]))).1, 0, 0, 0, []⟩⟩] := by subst hg ht hf hy; rfl
  rw [h1, a1]
  subst hg ht hf hy
  rfl
theorem under_same (F : S36) (c z : Int) (b : S39) : underV F c z b = rUnderV F c z b := by
  obtain ⟨g, hg⟩ : ∃ g, g = keepV 0 (konstV F 46 c z) := ⟨_, rfl⟩
  obtain ⟨t, ht⟩ : ∃ t, t = keepV g.2 (konstV F 47 c z) := ⟨_, rfl⟩
  obtain ⟨f, hf⟩ : ∃ f, f = keepV t.2 (konstV F 48 c z) := ⟨_, rfl⟩
  have l1 : isLen t.1 = true := by rw [ht]; exact keepV_len (konst_len F _ c z)
  have l2 : isLen g.1 = true := by rw [hg]; exact keepV_len (konst_len F _ c z)
  have a1 := keep_sum3 (e := needE [b] f.2) (x := b.f3) (y := g.1) (z := t.1) (fun h0 => ⟨(need_lens h0).2.2, l2, l1⟩)
  obtain ⟨y, hy⟩ : ∃ y, y = keepV (needE [b] f.2) (toldOf (sumR [b.f3, g.1, t.1])) := ⟨_, rfl⟩
  have h1 : underV F c z b = setV (keepV y.2 (toldOf (sumR [y.1, f.1]))).2 b.f1 [⟨0, 0, b⟩, ⟨0, wrap64 (-y.1), ⟨2, b.f1, t.1, 0, 0, 0, []⟩⟩, ⟨0, 0, ⟨0, 0, 0, (keepV y.2 (toldOf (sumR [y.1, f.1]))).1, 0, 0, []⟩⟩] := by subst hg ht hf hy; rfl
  rw [h1]
  rw [a1] at hy
  subst hg ht hf hy
  rfl
theorem need_same (F : S36) (c z : Int) (b : S39) : needV F c z b = rNeedV F c z b := by
  obtain ⟨g, hg⟩ : ∃ g, g = keepV 0 (gapV F c z) := ⟨_, rfl⟩
  obtain ⟨t, ht⟩ : ∃ t, t = keepV g.2 (konstV F 51 c z) := ⟨_, rfl⟩
  have l1 : isLen t.1 = true := by rw [ht]; exact keepV_len (konst_len F _ c z)
  have l2 : isLen g.1 = true := by rw [hg]; exact keepV_len (konst_len F _ c z)
  have h1 : needV F c z b = keepV (needE [b] t.2) (toldOf (sumR [g.1, t.1, b.f2, b.f3])) := by subst hg ht; rfl
  rw [h1, keep_sum4 (fun h0 => ⟨l2, l1, (need_lens h0).2.1, (need_lens h0).2.2⟩), keep_sum3 (fun h0 => ⟨l2, l1, (need_lens h0).2.1⟩)]
  subst hg ht
  rfl
end Go.Proofs.Ytjkbblnebpgpfaa.P
