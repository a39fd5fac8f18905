import Derived.Test.YtjkbblnebpgpfaaTRefRad0
import Derived.Test.YtjkbblnebpgpfaaTBar16
import Derived.Test.YtjkbblnebpgpfaaTSum3
/- bar.Radical's numbers are the document's (layer 27): plain arithmetic. -/
set_option linter.unusedVariables false
set_option linter.unusedSimpArgs false
namespace Go.Proofs.Ytjkbblnebpgpfaa.P
open Go.RowKit Go.Proofs.YtjkbblnebpgpfaaW.PrintWords Go.Proofs.YtjkbblnebpgpfaaW.PrintLast Go.Proofs.YtjkbblnebpgpfaaW.PrintMore

theorem putGo_app : ∀ (s1 l1 s2 l2 : List Int) (bs : List UInt8), s1.length = l1.length → (putGo (s1 ++ s2) (l1 ++ l2) bs).2 = 0 → ∃ bs', (putGo s2 l2 bs').2 = 0
  | [], [], s2, l2, bs, _, h => ⟨bs, h⟩
  | [], _ :: _, _, _, _, h, _ => by simp at h
  | _ :: _, [], _, _, _, h, _ => by simp at h
  | n :: s1, v :: l1, s2, l2, bs, h, h2 => by
    simp only [List.cons_append, putGo] at h2
    by_cases hf : fitsR v n = true
    · rw [if_pos hf] at h2
      exact putGo_app s1 l1 s2 l2 _ (by simpa using h) h2
    · rw [if_neg hf] at h2
      simp at h2
theorem both_to (l : List Int) : ∀ k, (sizesTo k).length = (allTo l k).length
  | 0 => rfl
  | k + 1 => by
    simp only [sizesTo, allTo, List.length_append, both_to l k]
    split <;> rfl
theorem raise_fits {l : List Int} (h : konstIs l = true) : fitsR (rd l 55) (kSize 55) = true := by
  unfold konstIs konstPut at h
  by_cases hl : l.length = 56
  · rw [if_pos hl] at h
    by_cases hp : (putR (sizesTo 56) (allTo l 56)).2 = 0
    · unfold putR at hp
      split at hp
      · have hs : sizesTo 56 = sizesTo 55 ++ (if kMore 55 = true then [kSize 55, 2] else [kSize 55]) := rfl
        have ha : allTo l 56 = allTo l 55 ++ (if kMore 55 = true then [rd l 55, 0] else [rd l 55]) := rfl
        rw [hs, ha] at hp
        obtain ⟨bs, hq⟩ := putGo_app _ _ _ _ _ (both_to l 55) hp
        by_cases hm : kMore 55 = true
        · rw [if_pos hm, if_pos hm] at hq
          simp only [putGo] at hq
          by_cases hf : fitsR (rd l 55) (kSize 55) = true
          · exact hf
          · rw [if_neg hf] at hq; simp at hq
        · rw [if_neg hm, if_neg hm] at hq
          simp only [putGo] at hq
          by_cases hf : fitsR (rd l 55) (kSize 55) = true
          · exact hf
          · rw [if_neg hf] at hq; simp at hq
      · simp at hp
    · rw [if_neg hp] at h
      simp at h
  · rw [if_neg hl] at h
    simp at h
theorem konst_is {F : S36} {k c z : Int} (h : (konstV F k c z).2 = 0) : konstIs F.f4.f0 = true := by
  have key : ∃ v e, style_Konst.f 3 F.f0.f0 F.f0.f1 F.f0.f2 F.f0.f3 F.f0.f4 F.f0.f5 F.f1 F.f2 F.f3 F.f4.f0 F.f4.f1 F.f4.f2 F.f4.f3 F.f4.f4 F.f4.f5.f0 F.f4.f5.f1 F.f4.f5.f2 k c z = some (v, e) ∧ (e = 0 → konstIs F.f4.f0 = true) := by
    have hj : ∀ b : Bool, (b = false → 0 ≤ k ∧ k < 56) → ∃ v e, style_Konst.j0 3 k c z b F.f0.f0 F.f0.f1 F.f0.f2 F.f0.f3 F.f0.f4 F.f0.f5 F.f1 F.f2 F.f3 F.f4.f0 F.f4.f1 F.f4.f2 F.f4.f3 F.f4.f4 F.f4.f5.f0 F.f4.f5.f1 F.f4.f5.f2 = some (v, e) ∧ (e = 0 → konstIs F.f4.f0 = true) := by
      intro b hb
      simp only [style_Konst.j0]
      cases b with
      | true => exact ⟨0, 1, by simp, fun h => absurd h (by decide)⟩
      | false =>
        obtain ⟨h0, h1⟩ := hb rfl
        obtain ⟨v, e, hv, hi⟩ := size_total F.f4.f0 c z 2 (by omega)
        rw [if_neg (by simp), hv, Option.bind_some]
        by_cases he : e = 0
        · have hl := konstIs_length (hi he)
          have hk := hi he
          simp only [he, if_true]
          rw [if_pos h0, if_pos (by omega)]
          unfold head_Units.f head_Is.f fixed_MulDiv.f
          simp only [Option.bind_some]
          split
          all_goals exact ⟨_, _, rfl, fun _ => hk⟩
        · simp only [he, if_false]
          exact ⟨_, _, rfl, fun h => absurd h he⟩
    unfold style_Konst.f
    split
    · exact hj true (by simp)
    · refine hj (decide (k ≥ 56)) (fun h => ?_)
      simp at h
      omega
  obtain ⟨v, e, h1, h2⟩ := key
  rw [konstV, h1] at h
  exact h2 h
theorem raise_len {l : List Int} (h : konstIs l = true) : isLen (rd l 55) = true := by
  have h1 := raise_fits h
  have h2 : kSize 55 = kSize 55 := rfl
  revert h1
  generalize rd l 55 = v
  intro h1
  have h3 : -32768 ≤ v ∧ v ≤ 65535 := by
    unfold fitsR at h1
    simp [kSize] at h1
    omega
  exact isLen_iff.2 ⟨by omega, by omega⟩
theorem told2 {a b : Int} (ha : isLen a = true) (hb : isLen b = true) : (toldOf (sumR [a, b])).2 = 0 ∨ (toldOf (sumR [a, b])).2 = 2 := by
  by_cases h : isLen (a + b) = true
  · left; simp [sumR, sumGo, toldOf, ha, hb, h]
  · right; simp [sumR, sumGo, toldOf, ha, hb, h]
theorem toldM {a b : Int} (ha : isLen a = true) (hb : isLen b = true) : (toldOf (mulDivR a b 100)).2 = 0 ∨ (toldOf (mulDivR a b 100)).2 = 2 := by
  have hc : isLen 100 = true := by decide
  unfold mulDivR
  rw [if_pos (by simp [ha, hb, hc]), if_neg (by omega)]
  by_cases h : isLen (mulDivQ a b 100) = true
  · left; simp [toldOf, h]
  · right; simp [toldOf, h]
theorem len_neg {x : Int} (h : isLen x = true) : isLen (wrap64 (-x)) = true := by
  rw [wneg h]
  exact isLen_neg h
/-- What is kept: whichever is asked first, where all that may go wrong is the same. -/
theorem keep_turn {e d : Int} {U M : Int × Int} (hU : U.2 = 0 ∨ U.2 = 2) (hM : M.2 = 0 ∨ M.2 = 2) (lU : isLen U.1 = true) (lM : isLen M.1 = true) (hd : e = 0 → isLen d = true) :
    keepV (keepV (keepV e M).2 U).2 (toldOf (sumR [d, (keepV (keepV e M).2 U).1, (keepV e M).1])) = keepV (keepV (keepV (keepV e U).2 (toldOf (sumR [d, (keepV e U).1]))).2 M).2 (toldOf (sumR [(keepV (keepV e U).2 (toldOf (sumR [d, (keepV e U).1]))).1, (keepV (keepV (keepV e U).2 (toldOf (sumR [d, (keepV e U).1]))).2 M).1])) := by
  by_cases he : e = 0
  · have hdd := hd he
    clear hd
    subst he
    rcases hU with hU | hU
    · have kU : keepV 0 U = (U.1, 0) := by simp [keepV, hU]
      rcases hM with hM | hM
      · have kM : keepV 0 M = (M.1, 0) := by simp [keepV, hM]
        rw [kM]
        dsimp only
        rw [kU]
        dsimp only
        rw [keep_sum3 (fun _ => ⟨hdd, lU, lM⟩)]
        obtain ⟨T, hT⟩ : ∃ T, T = keepV 0 (toldOf (sumR [d, U.1])) := ⟨_, rfl⟩
        rw [← hT]
        by_cases ht : T.2 = 0
        · rw [ht, kM]
        · simp [keepV, ht]
      · have kM : keepV 0 M = (0, 2) := by simp [keepV, hM]
        rw [kM]
        dsimp only
        rw [kU]
        dsimp only
        rcases told2 hdd lU with h | h
        · simp [keepV, h, hM]
        · simp [keepV, h]
    · have kU : keepV 0 U = (0, 2) := by simp [keepV, hU]
      rw [kU]
      rcases hM with hM | hM
      · have kM : keepV 0 M = (M.1, 0) := by simp [keepV, hM]
        rw [kM]
        dsimp only
        rw [kU]
        simp [keepV]
      · have kM : keepV 0 M = (0, 2) := by simp [keepV, hM]
        rw [kM]
        simp [keepV]
  · simp [keepV, he]
theorem zero_need (e : Int) : needE [(⟨0, 0, 0, 0, 0, 0, []⟩ : S39)] e = e := by
  have h : lens (⟨0, 0, 0, 0, 0, 0, []⟩ : S39) = true := by decide
  simp only [needE, h, if_true]
theorem box_lens {b : S39} {e : Int} (h : needE [b] e = 0) : isLen b.f1 = true ∧ isLen b.f2 = true ∧ isLen b.f3 = true := by
  have h1 := (needE_ok h).2 b (by simp)
  simp only [lens, List.all_cons, List.all_nil, Bool.and_true, Bool.and_eq_true] at h1
  exact h1
theorem rad_same0 (F : S36) (c z : Int) (b s : S39) : radV F c z b s = rRadV0 F c z b s := by
  obtain ⟨gp, hgp⟩ : ∃ gp, gp = keepV 0 (gapV F c z) := ⟨_, rfl⟩
  obtain ⟨th, hth⟩ : ∃ th, th = keepV gp.2 (konstV F 51 c z) := ⟨_, rfl⟩
  obtain ⟨fr, hfr⟩ : ∃ fr, fr = keepV th.2 (konstV F 52 c z) := ⟨_, rfl⟩
  have l1 : isLen gp.1 = true := by rw [hgp]; exact keepV_len (konst_len F _ c z)
  have l2 : isLen th.1 = true := by rw [hth]; exact keepV_len (konst_len F _ c z)
  obtain ⟨e, hE⟩ : ∃ e, e = needE [s] (needE [b] fr.2) := ⟨_, rfl⟩
  by_cases he : e = 0
  · have hs := box_lens (hE.symm.trans he)
    have hb := box_lens (needE_ok (hE.symm.trans he)).1
    have h1 : radV F c z b s = (let n := keepV e (toldOf (sumR [gp.1, th.1, b.f2, b.f3])); let h := keepV n.2 (toldOf (sumR [s.f2, s.f3])); let q := radGap gp.1 n.1 h.1 h.2; let top := keepV q.2 (toldOf (sumR [b.f2, q.1, th.1])); let up := keepV top.2 (toldOf (sumR [top.1, wrap64 (-s.f2)])); let a := keepV up.2 (toldOf (sumR [0, s.f1])); let ln := keepV a.2 (toldOf (sumR [top.1, wrap64 (-th.1)])); let hi := keepV ln.2 (toldOf (sumR [top.1, fr.1])); let wd := keepV hi.2 (toldOf (sumR [a.1, b.f1])); radEnd wd.2 wd.1 a.1 up.1 th.1 ln.1 hi.1 b s) := by
      subst hgp hth hfr
      rw [hE] at he ⊢
      exact if_pos he
    have h2 : rRadV0 F c z b s = (let n1 := keepV e (toldOf (sumR [gp.1, th.1])); let n2 := keepV n1.2 (toldOf (sumR [n1.1, b.f2])); let n := keepV n2.2 (toldOf (sumR [n2.1, b.f3])); let h := keepV n.2 (toldOf (sumR [s.f2, s.f3])); let q := radGap gp.1 n.1 h.1 h.2; let t1 := keepV q.2 (toldOf (sumR [b.f2, q.1])); let top := keepV t1.2 (toldOf (sumR [t1.1, th.1])); let up := keepV top.2 (toldOf (sumR [top.1, wrap64 (-s.f2)])); let a := keepV up.2 (toldOf (sumR [0, s.f1])); let ln := keepV a.2 (toldOf (sumR [top.1, wrap64 (-th.1)])); let hi := keepV ln.2 (toldOf (sumR [top.1, fr.1])); let wd := keepV hi.2 (toldOf (sumR [a.1, b.f1])); setV wd.2 wd.1 [⟨0, up.1, s⟩, ⟨a.1, ln.1, ⟨2, b.f1, th.1, 0, 0, 0, []⟩⟩, ⟨a.1, 0, b⟩, ⟨0, 0, ⟨0, 0, hi.1, 0, 0, 0, []⟩⟩]) := by
      subst hgp hth hfr
      rw [hE] at he ⊢
      unfold rRadV0
      simp only [zero_need]
      exact if_pos he
    rw [h1, h2, keep_sum4 (fun _ => ⟨l1, l2, hb.2.1, hb.2.2⟩), keep_sum3 (fun _ => ⟨l1, l2, hb.2.1⟩)]
    dsimp only
    obtain ⟨n, hn⟩ : ∃ n, n = keepV (keepV (keepV e (toldOf (sumR [gp.1, th.1]))).2 (toldOf (sumR [(keepV e (toldOf (sumR [gp.1, th.1]))).1, b.f2]))).2 (toldOf (sumR [(keepV (keepV e (toldOf (sumR [gp.1, th.1]))).2 (toldOf (sumR [(keepV e (toldOf (sumR [gp.1, th.1]))).1, b.f2]))).1, b.f3])) := ⟨_, rfl⟩
    rw [← hn]
    have ln : isLen n.1 = true := by rw [hn]; exact keepV_len (toldOf_len _)
    obtain ⟨h, hh⟩ : ∃ h, h = keepV n.2 (toldOf (sumR [s.f2, s.f3])) := ⟨_, rfl⟩
    rw [← hh]
    have hl : isLen (radGap gp.1 n.1 h.1 h.2).1 = true := by
      unfold radGap
      split
      · exact keepV_len (toldOf_len _)
      · exact l1
    rw [keep_sum3 (x := b.f2) (fun _ => ⟨hb.2.1, hl, l2⟩)]
    rfl
  · have h1 : radV F c z b s = (0, 0, 0, 0, 0, 0, [], e) := by
      subst hgp hth hfr
      rw [hE] at he ⊢
      exact if_neg he
    have h2 : rRadV0 F c z b s = (0, 0, 0, 0, 0, 0, [], e) := by
      subst hgp hth hfr
      rw [hE] at he ⊢
      unfold rRadV0
      simp only [zero_need]
      exact if_neg he
    rw [h1, h2]
theorem rad_same1 (F : S36) (c z : Int) (b s d : S39) : radV1 F c z b s d (rd F.f4.f0 55) = rRadV1 F c z b s d (rd F.f4.f0 55) := by
  obtain ⟨r, hr⟩ : ∃ r, r = rd F.f4.f0 55 := ⟨_, rfl⟩
  rw [← hr]
  obtain ⟨gp, hgp⟩ : ∃ gp, gp = keepV 0 (gapV F c z) := ⟨_, rfl⟩
  obtain ⟨th, hth⟩ : ∃ th, th = keepV gp.2 (konstV F 51 c z) := ⟨_, rfl⟩
  obtain ⟨fr, hfr⟩ : ∃ fr, fr = keepV th.2 (konstV F 52 c z) := ⟨_, rfl⟩
  obtain ⟨ah, hah⟩ : ∃ ah, ah = keepV fr.2 (konstV F 53 c z) := ⟨_, rfl⟩
  obtain ⟨bh, hbh⟩ : ∃ bh, bh = keepV ah.2 (konstV F 54 c z) := ⟨_, rfl⟩
  have l1 : isLen gp.1 = true := by rw [hgp]; exact keepV_len (konst_len F _ c z)
  have l2 : isLen th.1 = true := by rw [hth]; exact keepV_len (konst_len F _ c z)
  have l3 : isLen ah.1 = true := by rw [hah]; exact keepV_len (konst_len F _ c z)
  have l4 : isLen bh.1 = true := by rw [hbh]; exact keepV_len (konst_len F _ c z)
  obtain ⟨e, hE⟩ : ∃ e, e = needE [d] (needE [s] (needE [b] bh.2)) := ⟨_, rfl⟩
  by_cases he : e = 0
  · have e1 := (needE_ok (hE.symm.trans he)).1
    have e2 := (needE_ok e1).1
    have hd := box_lens (hE.symm.trans he)
    have hs := box_lens e1
    have hb := box_lens e2
    have hrl : isLen r = true := by
      rw [hr]
      have e3 := (needE_ok e2).1
      rw [hbh] at e3
      exact raise_len (konst_is (keepV_ok e3).2.1)
    have h1 : radV1 F c z b s d r = (let n := keepV e (toldOf (sumR [gp.1, th.1, b.f2, b.f3])); let h := keepV n.2 (toldOf (sumR [s.f2, s.f3])); let q := radGap gp.1 n.1 h.1 h.2; let top := keepV q.2 (toldOf (sumR [b.f2, q.1, th.1])); let up := keepV top.2 (toldOf (sumR [top.1, wrap64 (-s.f2)])); let xs := keepV up.2 (toldOf (sumR [ah.1, d.f1, bh.1])); let ra := keepV xs.2 (toldOf (mulDivR h.1 r 100)); let u2 := keepV ra.2 (toldOf (sumR [up.1, wrap64 (-s.f3)])); let y := keepV u2.2 (toldOf (sumR [d.f3, u2.1, ra.1])); let a := keepV y.2 (toldOf (sumR [mx 0 xs.1, s.f1])); let ln := keepV a.2 (toldOf (sumR [top.1, wrap64 (-th.1)])); let hi := keepV ln.2 (toldOf (sumR [top.1, fr.1])); let wd := keepV hi.2 (toldOf (sumR [a.1, b.f1])); setV wd.2 wd.1 [⟨ah.1, y.1, d⟩, ⟨mx 0 xs.1, up.1, s⟩, ⟨a.1, ln.1, ⟨2, b.f1, th.1, 0, 0, 0, []⟩⟩, ⟨a.1, 0, b⟩, ⟨0, 0, ⟨0, 0, hi.1, 0, 0, 0, []⟩⟩]) := by
      subst hgp hth hfr hah hbh
      rw [hE] at he ⊢
      exact if_pos he
    have h2 : rRadV1 F c z b s d r = (let n1 := keepV e (toldOf (sumR [gp.1, th.1])); let n2 := keepV n1.2 (toldOf (sumR [n1.1, b.f2])); let n := keepV n2.2 (toldOf (sumR [n2.1, b.f3])); let h := keepV n.2 (toldOf (sumR [s.f2, s.f3])); let q := radGap gp.1 n.1 h.1 h.2; let t1 := keepV q.2 (toldOf (sumR [b.f2, q.1])); let top := keepV t1.2 (toldOf (sumR [t1.1, th.1])); let up := keepV top.2 (toldOf (sumR [top.1, wrap64 (-s.f2)])); let x1 := keepV up.2 (toldOf (sumR [ah.1, d.f1])); let xs := keepV x1.2 (toldOf (sumR [x1.1, bh.1])); let u2 := keepV xs.2 (toldOf (sumR [up.1, wrap64 (-s.f3)])); let y1 := keepV u2.2 (toldOf (sumR [d.f3, u2.1])); let ra := keepV y1.2 (toldOf (mulDivR h.1 r 100)); let y := keepV ra.2 (toldOf (sumR [y1.1, ra.1])); let a := keepV y.2 (toldOf (sumR [max 0 xs.1, s.f1])); let ln := keepV a.2 (toldOf (sumR [top.1, wrap64 (-th.1)])); let hi := keepV ln.2 (toldOf (sumR [top.1, fr.1])); let wd := keepV hi.2 (toldOf (sumR [a.1, b.f1])); setV wd.2 wd.1 [⟨ah.1, y.1, d⟩, ⟨max 0 xs.1, up.1, s⟩, ⟨a.1, ln.1, ⟨2, b.f1, th.1, 0, 0, 0, []⟩⟩, ⟨a.1, 0, b⟩, ⟨0, 0, ⟨0, 0, hi.1, 0, 0, 0, []⟩⟩]) := by
      subst hgp hth hfr hah hbh
      rw [hE] at he ⊢
      exact if_pos he
    rw [h1, h2, keep_sum4 (fun _ => ⟨l1, l2, hb.2.1, hb.2.2⟩), keep_sum3 (fun _ => ⟨l1, l2, hb.2.1⟩)]
    clear h1 h2 hE hgp hth hfr hah hbh
    dsimp only
    obtain ⟨n, hn⟩ : ∃ n, n = keepV (keepV (keepV e (toldOf (sumR [gp.1, th.1]))).2 (toldOf (sumR [(keepV e (toldOf (sumR [gp.1, th.1]))).1, b.f2]))).2 (toldOf (sumR [(keepV (keepV e (toldOf (sumR [gp.1, th.1]))).2 (toldOf (sumR [(keepV e (toldOf (sumR [gp.1, th.1]))).1, b.f2]))).1, b.f3])) := ⟨_, rfl⟩
    rw [← hn]
    clear hn
    obtain ⟨h, hh⟩ : ∃ h, h = keepV n.2 (toldOf (sumR [s.f2, s.f3])) := ⟨_, rfl⟩
    rw [← hh]
    have lh : isLen h.1 = true := by rw [hh]; exact keepV_len (toldOf_len _)
    clear hh
    obtain ⟨q, hq⟩ : ∃ q, q = radGap gp.1 n.1 h.1 h.2 := ⟨_, rfl⟩
    rw [← hq]
    have lq : isLen q.1 = true := by
      rw [hq]
      unfold radGap
      split
      · exact keepV_len (toldOf_len _)
      · exact l1
    clear hq
    rw [keep_sum3 (x := b.f2) (fun _ => ⟨hb.2.1, lq, l2⟩)]
    obtain ⟨top, htop⟩ : ∃ top, top = keepV (keepV q.2 (toldOf (sumR [b.f2, q.1]))).2 (toldOf (sumR [(keepV q.2 (toldOf (sumR [b.f2, q.1]))).1, th.1])) := ⟨_, rfl⟩
    rw [← htop]
    clear htop
    obtain ⟨up, hup⟩ : ∃ up, up = keepV top.2 (toldOf (sumR [top.1, wrap64 (-s.f2)])) := ⟨_, rfl⟩
    rw [← hup]
    have lup : isLen up.1 = true := by rw [hup]; exact keepV_len (toldOf_len _)
    clear hup
    rw [keep_sum3 (x := ah.1) (fun _ => ⟨l3, hd.1, l4⟩)]
    obtain ⟨xs, hxs⟩ : ∃ xs, xs = keepV (keepV up.2 (toldOf (sumR [ah.1, d.f1]))).2 (toldOf (sumR [(keepV up.2 (toldOf (sumR [ah.1, d.f1]))).1, bh.1])) := ⟨_, rfl⟩
    rw [← hxs]
    clear hxs
    rw [keep_turn (e := xs.2) (d := d.f3) (U := toldOf (sumR [up.1, wrap64 (-s.f3)])) (M := toldOf (mulDivR h.1 r 100)) (told2 lup (len_neg hs.2.2)) (toldM lh hrl) (toldOf_len _) (toldOf_len _) (fun _ => hd.2.2)]
    simp only [mx_max]
  · have h1 : radV1 F c z b s d r = (0, 0, 0, 0, 0, 0, [], e) := by
      subst hgp hth hfr hah hbh
      rw [hE] at he ⊢
      exact if_neg he
    have h2 : rRadV1 F c z b s d r = (0, 0, 0, 0, 0, 0, [], e) := by
      subst hgp hth hfr hah hbh
      rw [hE] at he ⊢
      exact if_neg he
    rw [h1, h2]
end Go.Proofs.Ytjkbblnebpgpfaa.P
