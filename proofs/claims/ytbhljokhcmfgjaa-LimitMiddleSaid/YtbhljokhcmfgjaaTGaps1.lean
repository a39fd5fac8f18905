import Derived.Test.YtbhljokhcmfgjaaTCheck3
/- What is made of right boxes is right (plain); no program in sight but for checkV. -/
set_option linter.unusedVariables false
set_option linter.unusedSimpArgs false
namespace Go.Proofs.Ytbhljokhcmfgjaa.P
open Go.RowKit Go.Proofs.YtbhljokhcmfgjaaW.PrintWords

abbrev Right (b : S25) : Prop := AllP (fun x => ownV x = true) b
theorem check_right {m : Nat} {b : S25} (hm : SizeOf.sizeOf b < m) (h : checkV m b = 0) : Right b := by
  unfold checkV at h
  split at h
  · exact absurd h (by decide)
  · split at h
    · exact absurd h (by decide)
    · split at h
      · next ha => exact (flatF_all _ m 0 0 0 b hm).1 (fun it hit => List.all_eq_true.1 ha it hit)
      · exact absurd h (by decide)
theorem right_check {m : Nat} {b : S25} (hm : SizeOf.sizeOf b < m) (h : Right b) : checkV m b ≠ 5 := by
  have ha : (flatF m 0 0 0 b).all (fun it => ownV it.2.2.2) = true := List.all_eq_true.2 fun it hit => (flatF_all _ m 0 0 0 b hm).2 h it hit
  unfold checkV
  rw [ha]
  split
  · decide
  · split <;> decide
theorem setGo_in : ∀ (l : List S41) (h d H D : Int), setGo l h d = .ok (H, D) → h ≤ H ∧ d ≤ D ∧ ∀ k ∈ l, kidOk k = true ∧ wrap64 (k.f1 + k.f2.f2) ≤ H ∧ wrap64 (k.f2.f3 - k.f1) ≤ D
  | [], h, d, H, D, e => by
    rw [setGo] at e
    injection e with e
    injection e with e1 e2
    exact ⟨by omega, by omega, fun k hk => by cases hk⟩
  | x :: l, h, d, H, D, e => by
    rw [setGo] at e
    split at e
    · next hx =>
      obtain ⟨h1, h2, h3⟩ := setGo_in l _ _ H D e
      have m1 := mx_le h (wrap64 (x.f1 + x.f2.f2))
      have m2 := mx_le d (wrap64 (x.f2.f3 - x.f1))
      refine ⟨by omega, by omega, fun k hk => ?_⟩
      rcases List.mem_cons.1 hk with rfl | hk
      · exact ⟨hx, by omega, by omega⟩
      · exact h3 k hk
    · cases e
theorem setR_own {w hh dd : Int} {l : List S41} (h : setR w l = (3, w, hh, dd, 0, 0, l, 0)) : ownV ⟨3, w, hh, dd, 0, 0, l⟩ = true := by
  unfold setR at h
  cases hg : setGo l 0 0 with
  | error e => rw [hg] at h; simp [setEnd] at h
  | ok p =>
    obtain ⟨H, D⟩ := p
    rw [hg, setEnd] at h
    by_cases hw : isLen w = true
    · rw [if_pos hw] at h
      by_cases hl : (isLen H && isLen D) = true
      · rw [if_pos hl] at h
        simp only [Prod.mk.injEq, true_and] at h
        obtain ⟨rfl, rfl, _⟩ := h
        simp only [Bool.and_eq_true] at hl
        obtain ⟨_, _, hk⟩ := setGo_in l 0 0 H D hg
        unfold ownV
        have h3 : l.all (kidIn ⟨3, w, H, D, 0, 0, l⟩) = true := by
          refine List.all_eq_true.2 fun k hk1 => ?_
          obtain ⟨k1, k2, k3⟩ := hk k hk1
          obtain ⟨a, b, _, c, d⟩ := isLen3 k1
          unfold kidIn
          simp only [List.all_cons, List.all_nil, a, b, c, d, Bool.and_true, Bool.true_and]
          simp only [Bool.and_eq_true, Bool.not_eq_true', decide_eq_false_iff_not]
          exact ⟨by omega, by omega⟩
        simp [hw, hl.1, hl.2, h3]
      · rw [if_neg hl] at h; simp at h
    · rw [if_neg hw] at h; simp at h
theorem set_right {e w W hh dd : Int} {l kids : List S41} (h : setV e w l = (3, W, hh, dd, 0, 0, kids, 0)) (hk : ∀ k ∈ kids, Right k.f2) : Right ⟨3, W, hh, dd, 0, 0, kids⟩ := by
  obtain ⟨h0, H, D, hs⟩ := setV_ok (e := e) (wd := w) (l := l) (by rw [h]) (setGo_err l 0 0)
  rw [h] at hs
  simp only [Prod.mk.injEq, true_and] at hs
  obtain ⟨rfl, rfl, rfl, rfl, _⟩ := hs
  unfold setV at h
  rw [if_pos h0] at h
  exact .mk _ (setR_own h) hk
theorem right_rule {w h d : Int} (h1 : isLen w = true) (h2 : isLen h = true) (h3 : isLen d = true) : Right ⟨2, w, h, d, 0, 0, []⟩ := .mk _ (by simp [ownV, h1, h2, h3]) (fun k hk => by cases hk)
end Go.Proofs.Ytbhljokhcmfgjaa.P
