import Derived.Test.YtbhljokhcmfgjaaGreatTPE
import Derived.Test.YtbhljokhcmfgjaaGreatTRefLV
/- The document's limits (layer 29) and the program's: the same (plain). Printed by a program of this work (mklimeq.py). -/
set_option linter.unusedVariables false
set_option linter.unusedSimpArgs false
namespace Go.Proofs.YtbhljokhcmfgjaaGreat.P
open Go.RowKit Go.Proofs.YtbhljokhcmfgjaaGreatW.PrintWords Go.Proofs.YtbhljokhcmfgjaaGreatW.PrintLast Go.Proofs.YtbhljokhcmfgjaaGreatW.PrintMore

theorem keep0' {r : Int × Int} (h : r.2 = 0) : keepV 0 r = (r.1, 0) := by simp [keepV, h]
theorem keep02 : keepV 0 (0, 2) = (0, 2) := by simp [keepV]
theorem keep2 (r : Int × Int) : keepV 2 r = (0, 2) := by simp [keepV]
theorem keep00 (a : Int) : keepV 0 (a, 0) = (a, 0) := by simp [keepV]
theorem isLen_neg' {a : Int} (h : isLen a = true) : isLen (-a) = true := by have := isLen_iff.1 h; exact isLen_iff.2 (by omega)
theorem wneg' {a : Int} (h : isLen a = true) : wrap64 (-a) = -a := by have := isLen_iff.1 h; unfold wrap64; omega
theorem isLen_half' {a : Int} (h : isLen a = true) : isLen (a / 2) = true := by have := isLen_iff.1 h; exact isLen_iff.2 (by omega)
theorem isLen_max' {a b : Int} (h : isLen a = true) (k : isLen b = true) : isLen (max a b) = true := by have := isLen_iff.1 h; have := isLen_iff.1 k; exact isLen_iff.2 (by omega)
theorem half_v {a : Int} (h : isLen a = true) : toldOf (halfR a) = (a / 2, 0) := by simp [halfR, h, toldOf, isLen_half' h]
theorem sum2_v {a b : Int} (h1 : isLen a = true) (h2 : isLen b = true) (h3 : isLen (a + b) = true) : toldOf (sumR [a, b]) = (a + b, 0) := by
  have h4 : isLen (0 + a) = true := by rw [Int.zero_add]; exact h1
  have h5 : isLen (0 + a + b) = true := by rw [Int.zero_add]; exact h3
  simp only [sumR, List.all_cons, List.all_nil, h1, h2, Bool.and_true, if_true, sumGo, h4, h5]
  simp [toldOf, h3]
theorem sum2_b {a b : Int} (h1 : isLen a = true) (h2 : isLen b = true) (h3 : ¬ isLen (a + b) = true) : toldOf (sumR [a, b]) = (0, 2) := by
  have h4 : isLen (0 + a) = true := by rw [Int.zero_add]; exact h1
  have h5 : isLen (a + b) = false := by simpa using h3
  simp [sumR, List.all_cons, List.all_nil, h1, h2, sumGo, h4, h5, toldOf]
theorem midV_L (e a b : Int) : midV e a b = midL e a b := rfl
theorem mid_v {w b : Int} (h1 : isLen w = true) (h2 : isLen b = true) (h3 : isLen (w + -b) = true) : midL 0 w b = ((w + -b) / 2, 0) := by
  unfold midL
  rw [wneg' h2, sum2_v h1 (isLen_neg' h2) h3, keep00, half_v h3, keep00]
theorem mid_b {w b : Int} (h1 : isLen w = true) (h2 : isLen b = true) (h3 : ¬ isLen (w + -b) = true) : midL 0 w b = (0, 2) := by
  unfold midL
  rw [wneg' h2, sum2_b h1 (isLen_neg' h2) h3, keep02, keep2]
theorem mid2 (w b : Int) : midL 2 w b = (0, 2) := by
  unfold midL
  rw [keep2, keep2]
theorem setV2 (w : Int) (l : List S67) : setV 2 w l = (0, 0, 0, 0, 0, 0, [], 2) := by unfold setV; exact if_neg (by decide)
theorem needE_I (y : S39) (e : Int) : needE [y] e = needI [y.f1, y.f2, y.f3] e := by
  by_cases h : [y.f1, y.f2, y.f3].all isLen = true
  · simp only [needE, needI, lens, h, if_true]
  · have e1 : needE [y] e = if e = 0 then 1 else e := if_neg h
    have e2 : needI [y.f1, y.f2, y.f3] e = (keepV e (0, 1)).2 := if_neg h
    rw [e1, e2]
    simp [keepV]
theorem needI_o {xs : List Int} {e : Int} (h : needI xs e = 0) : e = 0 ∧ xs.all isLen = true := by
  unfold needI at h
  by_cases hx : xs.all isLen = true
  · rw [if_pos hx] at h; exact ⟨h, hx⟩
  · rw [if_neg hx] at h; have := keepV_ok h; exact absurd this.2.1 (by decide)
theorem needI_v {xs : List Int} (h : xs.all isLen = true) : needI xs 0 = 0 := by unfold needI; rw [if_pos h]
set_option maxHeartbeats 2000000 in
theorem lim11_case {F : S36} {c z : Int} {x : S39} {it : Int} {u : S39} {d : S39} (hx1 : isLen x.f1 = true) (hx2 : isLen x.f2 = true) (hx3 : isLen x.f3 = true) (hit : isLen it = true) (hu1 : isLen u.f1 = true) (hu2 : isLen u.f2 = true) (hu3 : isLen u.f3 = true) (hd1 : isLen d.f1 = true) (hd2 : isLen d.f2 = true) (hd3 : isLen d.f3 = true) (hk18 : (konstV F 18 c z).2 = 0) (hk19 : (konstV F 19 c z).2 = 0) (hk20 : (konstV F 20 c z).2 = 0) (hk21 : (konstV F 21 c z).2 = 0) : lim11V F c z x it u d = if (isLen ((max (max x.f1 u.f1) d.f1) + -x.f1) && isLen ((max (max x.f1 u.f1) d.f1) + -u.f1) && isLen ((((max (max x.f1 u.f1) d.f1) + -u.f1) / 2) + (it / 2)) && isLen ((konstV F 18 c z).1 + u.f3) && isLen (x.f2 + (max ((konstV F 18 c z).1 + u.f3) (konstV F 19 c z).1)) && isLen ((max (max x.f1 u.f1) d.f1) + -d.f1) && isLen ((((max (max x.f1 u.f1) d.f1) + -d.f1) / 2) + (-(it / 2))) && isLen ((konstV F 20 c z).1 + d.f2) && isLen (x.f3 + (max ((konstV F 20 c z).1 + d.f2) (konstV F 21 c z).1))) = true then setV 0 (max (max x.f1 u.f1) d.f1) ([⟨(((max (max x.f1 u.f1) d.f1) + -x.f1) / 2), 0, x⟩, ⟨((((max (max x.f1 u.f1) d.f1) + -u.f1) / 2) + (it / 2)), (x.f2 + max ((konstV F 18 c z).1 + u.f3) (konstV F 19 c z).1), u⟩, ⟨((((max (max x.f1 u.f1) d.f1) + -d.f1) / 2) + -(it / 2)), wrap64 (-(x.f3 + max ((konstV F 20 c z).1 + d.f2) (konstV F 21 c z).1)), d⟩] : List S67) else (0, 0, 0, 0, 0, 0, [], 2) := by
  have l18 := konst_len F 18 c z
  have l19 := konst_len F 19 c z
  have l20 := konst_len F 20 c z
  have l21 := konst_len F 21 c z
  have hw : isLen (max (max x.f1 u.f1) d.f1) = true := (isLen_max' (isLen_max' hx1 hu1) hd1)
  unfold lim11V
  simp only [midV_L, needE_I, keep0' hk18, keep0' hk19, keep0' hk20, keep0' hk21]
  rw [needI_v (xs := [x.f1, x.f2, x.f3, it]) (by simp [hx1, hx2, hx3, hit]), needI_v (xs := [u.f1, u.f2, u.f3]) (by simp [hu1, hu2, hu3]), needI_v (xs := [d.f1, d.f2, d.f3]) (by simp [hd1, hd2, hd3]), if_neg (by simp)]
  simp only [half_v hit, keep00]
  by_cases cm0 : isLen ((max (max x.f1 u.f1) d.f1) + -x.f1) = true
  rotate_left
  · simp only [mid_b hw hx1 cm0, keep02, keep2, mid2, setV2]
    rw [if_neg (fun h => cm0 (by (try simp only [Bool.and_eq_true] at h); exact h.1.1.1.1.1.1.1.1))]
  simp only [mid_v hw hx1 cm0, keep00]
  by_cases cmu : isLen ((max (max x.f1 u.f1) d.f1) + -u.f1) = true
  rotate_left
  · simp only [mid_b hw hu1 cmu, keep02, keep2, mid2, setV2]
    rw [if_neg (fun h => cmu (by (try simp only [Bool.and_eq_true] at h); exact h.1.1.1.1.1.1.1.2))]
  simp only [mid_v hw hu1 cmu, keep00]
  by_cases cux : isLen ((((max (max x.f1 u.f1) d.f1) + -u.f1) / 2) + (it / 2)) = true
  rotate_left
  · simp only [sum2_b (isLen_half' cmu) (isLen_half' hit) cux, keep02, keep2, mid2, setV2]
    rw [if_neg (fun h => cux (by (try simp only [Bool.and_eq_true] at h); exact h.1.1.1.1.1.1.2))]
  simp only [sum2_v (isLen_half' cmu) (isLen_half' hit) cux, keep00]
  by_cases cug : isLen ((konstV F 18 c z).1 + u.f3) = true
  rotate_left
  · simp only [sum2_b l18 hu3 cug, keep02, keep2, mid2, setV2]
    rw [if_neg (fun h => cug (by (try simp only [Bool.and_eq_true] at h); exact h.1.1.1.1.1.2))]
  simp only [sum2_v l18 hu3 cug, keep00]
  by_cases cuy : isLen (x.f2 + (max ((konstV F 18 c z).1 + u.f3) (konstV F 19 c z).1)) = true
  rotate_left
  · simp only [sum2_b hx2 (isLen_max' cug l19) cuy, keep02, keep2, mid2, setV2]
    rw [if_neg (fun h => cuy (by (try simp only [Bool.and_eq_true] at h); exact h.1.1.1.1.2))]
  simp only [sum2_v hx2 (isLen_max' cug l19) cuy, keep00]
  by_cases cmd : isLen ((max (max x.f1 u.f1) d.f1) + -d.f1) = true
  rotate_left
  · simp only [mid_b hw hd1 cmd, keep02, keep2, mid2, setV2]
    rw [if_neg (fun h => cmd (by (try simp only [Bool.and_eq_true] at h); exact h.1.1.1.2))]
  simp only [mid_v hw hd1 cmd, keep00]
  by_cases cdx : isLen ((((max (max x.f1 u.f1) d.f1) + -d.f1) / 2) + (-(it / 2))) = true
  rotate_left
  · simp only [sum2_b (isLen_half' cmd) (isLen_neg' (isLen_half' hit)) cdx, wneg' (isLen_half' hit), keep02, keep2, mid2, setV2]
    rw [if_neg (fun h => cdx (by (try simp only [Bool.and_eq_true] at h); exact h.1.1.2))]
  simp only [sum2_v (isLen_half' cmd) (isLen_neg' (isLen_half' hit)) cdx, wneg' (isLen_half' hit), keep00]
  by_cases cdg : isLen ((konstV F 20 c z).1 + d.f2) = true
  rotate_left
  · simp only [sum2_b l20 hd2 cdg, keep02, keep2, mid2, setV2]
    rw [if_neg (fun h => cdg (by (try simp only [Bool.and_eq_true] at h); exact h.1.2))]
  simp only [sum2_v l20 hd2 cdg, keep00]
  by_cases cdy : isLen (x.f3 + (max ((konstV F 20 c z).1 + d.f2) (konstV F 21 c z).1)) = true
  rotate_left
  · simp only [sum2_b hx3 (isLen_max' cdg l21) cdy, keep02, keep2, mid2, setV2]
    rw [if_neg (fun h => cdy (by (try simp only [Bool.and_eq_true] at h); exact h.2))]
  simp only [sum2_v hx3 (isLen_max' cdg l21) cdy, keep00]
  rw [if_pos (by simp only [cm0, cmu, cux, cug, cuy, cmd, cdx, cdg, cdy, Bool.and_self])]
set_option maxHeartbeats 2000000 in
theorem rlim11_case {F : S36} {c z : Int} {x : S39} {it : Int} {u : S39} {d : S39} (hx1 : isLen x.f1 = true) (hx2 : isLen x.f2 = true) (hx3 : isLen x.f3 = true) (hit : isLen it = true) (hu1 : isLen u.f1 = true) (hu2 : isLen u.f2 = true) (hu3 : isLen u.f3 = true) (hd1 : isLen d.f1 = true) (hd2 : isLen d.f2 = true) (hd3 : isLen d.f3 = true) (hk18 : (konstV F 18 c z).2 = 0) (hk19 : (konstV F 19 c z).2 = 0) (hk20 : (konstV F 20 c z).2 = 0) (hk21 : (konstV F 21 c z).2 = 0) : rlim11V F c z x it u d = if (isLen ((max (max x.f1 u.f1) d.f1) + -x.f1) && isLen ((max (max x.f1 u.f1) d.f1) + -u.f1) && isLen ((((max (max x.f1 u.f1) d.f1) + -u.f1) / 2) + (it / 2)) && isLen ((konstV F 18 c z).1 + u.f3) && isLen (x.f2 + (max ((konstV F 18 c z).1 + u.f3) (konstV F 19 c z).1)) && isLen ((max (max x.f1 u.f1) d.f1) + -d.f1) && isLen ((((max (max x.f1 u.f1) d.f1) + -d.f1) / 2) + (-(it / 2))) && isLen ((konstV F 20 c z).1 + d.f2) && isLen (x.f3 + (max ((konstV F 20 c z).1 + d.f2) (konstV F 21 c z).1))) = true then setV 0 (max (max x.f1 u.f1) d.f1) ([⟨(((max (max x.f1 u.f1) d.f1) + -x.f1) / 2), 0, x⟩, ⟨((((max (max x.f1 u.f1) d.f1) + -u.f1) / 2) + (it / 2)), (x.f2 + max ((konstV F 18 c z).1 + u.f3) (konstV F 19 c z).1), u⟩, ⟨((((max (max x.f1 u.f1) d.f1) + -d.f1) / 2) + -(it / 2)), wrap64 (-(x.f3 + max ((konstV F 20 c z).1 + d.f2) (konstV F 21 c z).1)), d⟩] : List S67) else (0, 0, 0, 0, 0, 0, [], 2) := by
  have l18 := konst_len F 18 c z
  have l19 := konst_len F 19 c z
  have l20 := konst_len F 20 c z
  have l21 := konst_len F 21 c z
  have hw : isLen (max (max x.f1 u.f1) d.f1) = true := (isLen_max' (isLen_max' hx1 hu1) hd1)
  unfold rlim11V
  simp only [midV_L, needE_I, keep0' hk18, keep0' hk19, keep0' hk20, keep0' hk21]
  rw [needI_v (xs := [x.f1, x.f2, x.f3, it]) (by simp [hx1, hx2, hx3, hit]), needI_v (xs := [u.f1, u.f2, u.f3]) (by simp [hu1, hu2, hu3]), needI_v (xs := [d.f1, d.f2, d.f3]) (by simp [hd1, hd2, hd3]), if_neg (by simp)]
  simp only [half_v hit, keep00]
  by_cases cm0 : isLen ((max (max x.f1 u.f1) d.f1) + -x.f1) = true
  rotate_left
  · simp only [mid_b hw hx1 cm0, keep02, keep2, mid2, setV2]
    rw [if_neg (fun h => cm0 (by (try simp only [Bool.and_eq_true] at h); exact h.1.1.1.1.1.1.1.1))]
  simp only [mid_v hw hx1 cm0, keep00]
  by_cases cug : isLen ((konstV F 18 c z).1 + u.f3) = true
  rotate_left
  · simp only [sum2_b l18 hu3 cug, keep02, keep2, mid2, setV2]
    rw [if_neg (fun h => cug (by (try simp only [Bool.and_eq_true] at h); exact h.1.1.1.1.1.2))]
  simp only [sum2_v l18 hu3 cug, keep00]
  by_cases cuy : isLen (x.f2 + (max ((konstV F 18 c z).1 + u.f3) (konstV F 19 c z).1)) = true
  rotate_left
  · simp only [sum2_b hx2 (isLen_max' cug l19) cuy, keep02, keep2, mid2, setV2]
    rw [if_neg (fun h => cuy (by (try simp only [Bool.and_eq_true] at h); exact h.1.1.1.1.2))]
  simp only [sum2_v hx2 (isLen_max' cug l19) cuy, keep00]
  by_cases cmu : isLen ((max (max x.f1 u.f1) d.f1) + -u.f1) = true
  rotate_left
  · simp only [mid_b hw hu1 cmu, keep02, keep2, mid2, setV2]
    rw [if_neg (fun h => cmu (by (try simp only [Bool.and_eq_true] at h); exact h.1.1.1.1.1.1.1.2))]
  simp only [mid_v hw hu1 cmu, keep00]
  by_cases cux : isLen ((((max (max x.f1 u.f1) d.f1) + -u.f1) / 2) + (it / 2)) = true
  rotate_left
  · simp only [sum2_b (isLen_half' cmu) (isLen_half' hit) cux, keep02, keep2, mid2, setV2]
    rw [if_neg (fun h => cux (by (try simp only [Bool.and_eq_true] at h); exact h.1.1.1.1.1.1.2))]
  simp only [sum2_v (isLen_half' cmu) (isLen_half' hit) cux, keep00]
  by_cases cdg : isLen ((konstV F 20 c z).1 + d.f2) = true
  rotate_left
  · simp only [sum2_b l20 hd2 cdg, keep02, keep2, mid2, setV2]
    rw [if_neg (fun h => cdg (by (try simp only [Bool.and_eq_true] at h); exact h.1.2))]
  simp only [sum2_v l20 hd2 cdg, keep00]
  by_cases cdy : isLen (x.f3 + (max ((konstV F 20 c z).1 + d.f2) (konstV F 21 c z).1)) = true
  rotate_left
  · simp only [sum2_b hx3 (isLen_max' cdg l21) cdy, keep02, keep2, mid2, setV2]
    rw [if_neg (fun h => cdy (by (try simp only [Bool.and_eq_true] at h); exact h.2))]
  simp only [sum2_v hx3 (isLen_max' cdg l21) cdy, keep00]
  by_cases cmd : isLen ((max (max x.f1 u.f1) d.f1) + -d.f1) = true
  rotate_left
  · simp only [mid_b hw hd1 cmd, keep02, keep2, mid2, setV2]
    rw [if_neg (fun h => cmd (by (try simp only [Bool.and_eq_true] at h); exact h.1.1.1.2))]
  simp only [mid_v hw hd1 cmd, keep00]
  by_cases cdx : isLen ((((max (max x.f1 u.f1) d.f1) + -d.f1) / 2) + (-(it / 2))) = true
  rotate_left
  · simp only [sum2_b (isLen_half' cmd) (isLen_neg' (isLen_half' hit)) cdx, wneg' (isLen_half' hit), keep02, keep2, mid2, setV2]
    rw [if_neg (fun h => cdx (by (try simp only [Bool.and_eq_true] at h); exact h.1.1.2))]
  simp only [sum2_v (isLen_half' cmd) (isLen_neg' (isLen_half' hit)) cdx, wneg' (isLen_half' hit), keep00]
  rw [if_pos (by simp only [cm0, cug, cuy, cmu, cux, cdg, cdy, cmd, cdx, Bool.and_self])]
theorem rlim11_eq (F : S36) (c z : Int) (x : S39) (it : Int) (u : S39) (d : S39) : rlim11V F c z x it u d = lim11V F c z x it u d := by
  by_cases he : needI [d.f1, d.f2, d.f3] (needI [u.f1, u.f2, u.f3] (needI [x.f1, x.f2, x.f3, it] (keepV (keepV (keepV (keepV 0 (konstV F 18 c z)).2 (konstV F 19 c z)).2 (konstV F 20 c z)).2 (konstV F 21 c z)).2)) = 0
  · have hc := he
    obtain ⟨hc, ld⟩ := needI_o hc
    obtain ⟨hc, lu⟩ := needI_o hc
    obtain ⟨hc, lx⟩ := needI_o hc
    obtain ⟨hc, q21, _⟩ := keepV_ok hc
    obtain ⟨hc, q20, _⟩ := keepV_ok hc
    obtain ⟨hc, q19, _⟩ := keepV_ok hc
    obtain ⟨hc, q18, _⟩ := keepV_ok hc
    simp only [List.all_cons, List.all_nil, Bool.and_true, Bool.and_eq_true] at lx lu ld
    exact (rlim11_case lx.1 lx.2.1 lx.2.2.1 lx.2.2.2 lu.1 lu.2.1 lu.2.2 ld.1 ld.2.1 ld.2.2 q18 q19 q20 q21).trans (lim11_case lx.1 lx.2.1 lx.2.2.1 lx.2.2.2 lu.1 lu.2.1 lu.2.2 ld.1 ld.2.1 ld.2.2 q18 q19 q20 q21).symm
  · unfold rlim11V lim11V
    dsimp only
    try simp only [needE_I]
    rw [if_pos he, if_pos he]
set_option maxHeartbeats 2000000 in
theorem lim10_case {F : S36} {c z : Int} {x : S39} {it : Int} {u : S39} (hx1 : isLen x.f1 = true) (hx2 : isLen x.f2 = true) (hx3 : isLen x.f3 = true) (hit : isLen it = true) (hu1 : isLen u.f1 = true) (hu2 : isLen u.f2 = true) (hu3 : isLen u.f3 = true) (hk18 : (konstV F 18 c z).2 = 0) (hk19 : (konstV F 19 c z).2 = 0) : lim10V F c z x it u = if (isLen ((max x.f1 u.f1) + -x.f1) && isLen ((max x.f1 u.f1) + -u.f1) && isLen ((((max x.f1 u.f1) + -u.f1) / 2) + (it / 2)) && isLen ((konstV F 18 c z).1 + u.f3) && isLen (x.f2 + (max ((konstV F 18 c z).1 + u.f3) (konstV F 19 c z).1))) = true then setV 0 (max x.f1 u.f1) ([⟨(((max x.f1 u.f1) + -x.f1) / 2), 0, x⟩, ⟨((((max x.f1 u.f1) + -u.f1) / 2) + (it / 2)), (x.f2 + max ((konstV F 18 c z).1 + u.f3) (konstV F 19 c z).1), u⟩] : List S67) else (0, 0, 0, 0, 0, 0, [], 2) := by
  have l18 := konst_len F 18 c z
  have l19 := konst_len F 19 c z
  have hw : isLen (max x.f1 u.f1) = true := (isLen_max' hx1 hu1)
  unfold lim10V
  simp only [midV_L, needE_I, keep0' hk18, keep0' hk19]
  rw [needI_v (xs := [x.f1, x.f2, x.f3, it]) (by simp [hx1, hx2, hx3, hit]), needI_v (xs := [u.f1, u.f2, u.f3]) (by simp [hu1, hu2, hu3]), if_neg (by simp)]
  simp only [half_v hit, keep00]
  by_cases cm0 : isLen ((max x.f1 u.f1) + -x.f1) = true
  rotate_left
  · simp only [mid_b hw hx1 cm0, keep02, keep2, mid2, setV2]
    rw [if_neg (fun h => cm0 (by (try simp only [Bool.and_eq_true] at h); exact h.1.1.1.1))]
  simp only [mid_v hw hx1 cm0, keep00]
  by_cases cmu : isLen ((max x.f1 u.f1) + -u.f1) = true
  rotate_left
  · simp only [mid_b hw hu1 cmu, keep02, keep2, mid2, setV2]
    rw [if_neg (fun h => cmu (by (try simp only [Bool.and_eq_true] at h); exact h.1.1.1.2))]
  simp only [mid_v hw hu1 cmu, keep00]
  by_cases cux : isLen ((((max x.f1 u.f1) + -u.f1) / 2) + (it / 2)) = true
  rotate_left
  · simp only [sum2_b (isLen_half' cmu) (isLen_half' hit) cux, keep02, keep2, mid2, setV2]
    rw [if_neg (fun h => cux (by (try simp only [Bool.and_eq_true] at h); exact h.1.1.2))]
  simp only [sum2_v (isLen_half' cmu) (isLen_half' hit) cux, keep00]
  by_cases cug : isLen ((konstV F 18 c z).1 + u.f3) = true
  rotate_left
  · simp only [sum2_b l18 hu3 cug, keep02, keep2, mid2, setV2]
    rw [if_neg (fun h => cug (by (try simp only [Bool.and_eq_true] at h); exact h.1.2))]
  simp only [sum2_v l18 hu3 cug, keep00]
  by_cases cuy : isLen (x.f2 + (max ((konstV F 18 c z).1 + u.f3) (konstV F 19 c z).1)) = true
  rotate_left
  · simp only [sum2_b hx2 (isLen_max' cug l19) cuy, keep02, keep2, mid2, setV2]
    rw [if_neg (fun h => cuy (by (try simp only [Bool.and_eq_true] at h); exact h.2))]
  simp only [sum2_v hx2 (isLen_max' cug l19) cuy, keep00]
  rw [if_pos (by simp only [cm0, cmu, cux, cug, cuy, Bool.and_self])]
set_option maxHeartbeats 2000000 in
theorem rlim10_case {F : S36} {c z : Int} {x : S39} {it : Int} {u : S39} (hx1 : isLen x.f1 = true) (hx2 : isLen x.f2 = true) (hx3 : isLen x.f3 = true) (hit : isLen it = true) (hu1 : isLen u.f1 = true) (hu2 : isLen u.f2 = true) (hu3 : isLen u.f3 = true) (hk18 : (konstV F 18 c z).2 = 0) (hk19 : (konstV F 19 c z).2 = 0) : rlim10V F c z x it u = if (isLen ((max x.f1 u.f1) + -x.f1) && isLen ((max x.f1 u.f1) + -u.f1) && isLen ((((max x.f1 u.f1) + -u.f1) / 2) + (it / 2)) && isLen ((konstV F 18 c z).1 + u.f3) && isLen (x.f2 + (max ((konstV F 18 c z).1 + u.f3) (konstV F 19 c z).1))) = true then setV 0 (max x.f1 u.f1) ([⟨(((max x.f1 u.f1) + -x.f1) / 2), 0, x⟩, ⟨((((max x.f1 u.f1) + -u.f1) / 2) + (it / 2)), (x.f2 + max ((konstV F 18 c z).1 + u.f3) (konstV F 19 c z).1), u⟩] : List S67) else (0, 0, 0, 0, 0, 0, [], 2) := by
  have l18 := konst_len F 18 c z
  have l19 := konst_len F 19 c z
  have hw : isLen (max x.f1 u.f1) = true := (isLen_max' hx1 hu1)
  unfold rlim10V
  simp only [midV_L, needE_I, keep0' hk18, keep0' hk19]
  rw [needI_v (xs := [x.f1, x.f2, x.f3, it]) (by simp [hx1, hx2, hx3, hit]), needI_v (xs := [u.f1, u.f2, u.f3]) (by simp [hu1, hu2, hu3]), if_neg (by simp)]
  simp only [half_v hit, keep00]
  by_cases cm0 : isLen ((max x.f1 u.f1) + -x.f1) = true
  rotate_left
  · simp only [mid_b hw hx1 cm0, keep02, keep2, mid2, setV2]
    rw [if_neg (fun h => cm0 (by (try simp only [Bool.and_eq_true] at h); exact h.1.1.1.1))]
  simp only [mid_v hw hx1 cm0, keep00]
  by_cases cug : isLen ((konstV F 18 c z).1 + u.f3) = true
  rotate_left
  · simp only [sum2_b l18 hu3 cug, keep02, keep2, mid2, setV2]
    rw [if_neg (fun h => cug (by (try simp only [Bool.and_eq_true] at h); exact h.1.2))]
  simp only [sum2_v l18 hu3 cug, keep00]
  by_cases cuy : isLen (x.f2 + (max ((konstV F 18 c z).1 + u.f3) (konstV F 19 c z).1)) = true
  rotate_left
  · simp only [sum2_b hx2 (isLen_max' cug l19) cuy, keep02, keep2, mid2, setV2]
    rw [if_neg (fun h => cuy (by (try simp only [Bool.and_eq_true] at h); exact h.2))]
  simp only [sum2_v hx2 (isLen_max' cug l19) cuy, keep00]
  by_cases cmu : isLen ((max x.f1 u.f1) + -u.f1) = true
  rotate_left
  · simp only [mid_b hw hu1 cmu, keep02, keep2, mid2, setV2]
    rw [if_neg (fun h => cmu (by (try simp only [Bool.and_eq_true] at h); exact h.1.1.1.2))]
  simp only [mid_v hw hu1 cmu, keep00]
  by_cases cux : isLen ((((max x.f1 u.f1) + -u.f1) / 2) + (it / 2)) = true
  rotate_left
  · simp only [sum2_b (isLen_half' cmu) (isLen_half' hit) cux, keep02, keep2, mid2, setV2]
    rw [if_neg (fun h => cux (by (try simp only [Bool.and_eq_true] at h); exact h.1.1.2))]
  simp only [sum2_v (isLen_half' cmu) (isLen_half' hit) cux, keep00]
  rw [if_pos (by simp only [cm0, cug, cuy, cmu, cux, Bool.and_self])]
theorem rlim10_eq (F : S36) (c z : Int) (x : S39) (it : Int) (u : S39) : rlim10V F c z x it u = lim10V F c z x it u := by
  by_cases he : needI [u.f1, u.f2, u.f3] (needI [x.f1, x.f2, x.f3, it] (keepV (keepV 0 (konstV F 18 c z)).2 (konstV F 19 c z)).2) = 0
  · have hc := he
    obtain ⟨hc, lu⟩ := needI_o hc
    obtain ⟨hc, lx⟩ := needI_o hc
    obtain ⟨hc, q19, _⟩ := keepV_ok hc
    obtain ⟨hc, q18, _⟩ := keepV_ok hc
    simp only [List.all_cons, List.all_nil, Bool.and_true, Bool.and_eq_true] at lx lu
    exact (rlim10_case lx.1 lx.2.1 lx.2.2.1 lx.2.2.2 lu.1 lu.2.1 lu.2.2 q18 q19).trans (lim10_case lx.1 lx.2.1 lx.2.2.1 lx.2.2.2 lu.1 lu.2.1 lu.2.2 q18 q19).symm
  · unfold rlim10V lim10V
    dsimp only
    try simp only [needE_I]
    rw [if_pos he, if_pos he]
set_option maxHeartbeats 2000000 in
theorem lim01_case {F : S36} {c z : Int} {x : S39} {it : Int} {d : S39} (hx1 : isLen x.f1 = true) (hx2 : isLen x.f2 = true) (hx3 : isLen x.f3 = true) (hit : isLen it = true) (hd1 : isLen d.f1 = true) (hd2 : isLen d.f2 = true) (hd3 : isLen d.f3 = true) (hk20 : (konstV F 20 c z).2 = 0) (hk21 : (konstV F 21 c z).2 = 0) : lim01V F c z x it d = if (isLen ((max x.f1 d.f1) + -x.f1) && isLen ((max x.f1 d.f1) + -d.f1) && isLen ((((max x.f1 d.f1) + -d.f1) / 2) + (-(it / 2))) && isLen ((konstV F 20 c z).1 + d.f2) && isLen (x.f3 + (max ((konstV F 20 c z).1 + d.f2) (konstV F 21 c z).1))) = true then setV 0 (max x.f1 d.f1) ([⟨(((max x.f1 d.f1) + -x.f1) / 2), 0, x⟩, ⟨((((max x.f1 d.f1) + -d.f1) / 2) + -(it / 2)), wrap64 (-(x.f3 + max ((konstV F 20 c z).1 + d.f2) (konstV F 21 c z).1)), d⟩] : List S67) else (0, 0, 0, 0, 0, 0, [], 2) := by
  have l20 := konst_len F 20 c z
  have l21 := konst_len F 21 c z
  have hw : isLen (max x.f1 d.f1) = true := (isLen_max' hx1 hd1)
  unfold lim01V
  simp only [midV_L, needE_I, keep0' hk20, keep0' hk21]
  rw [needI_v (xs := [x.f1, x.f2, x.f3, it]) (by simp [hx1, hx2, hx3, hit]), needI_v (xs := [d.f1, d.f2, d.f3]) (by simp [hd1, hd2, hd3]), if_neg (by simp)]
  simp only [half_v hit, keep00]
  by_cases cm0 : isLen ((max x.f1 d.f1) + -x.f1) = true
  rotate_left
  · simp only [mid_b hw hx1 cm0, keep02, keep2, mid2, setV2]
    rw [if_neg (fun h => cm0 (by (try simp only [Bool.and_eq_true] at h); exact h.1.1.1.1))]
  simp only [mid_v hw hx1 cm0, keep00]
  by_cases cmd : isLen ((max x.f1 d.f1) + -d.f1) = true
  rotate_left
  · simp only [mid_b hw hd1 cmd, keep02, keep2, mid2, setV2]
    rw [if_neg (fun h => cmd (by (try simp only [Bool.and_eq_true] at h); exact h.1.1.1.2))]
  simp only [mid_v hw hd1 cmd, keep00]
  by_cases cdx : isLen ((((max x.f1 d.f1) + -d.f1) / 2) + (-(it / 2))) = true
  rotate_left
  · simp only [sum2_b (isLen_half' cmd) (isLen_neg' (isLen_half' hit)) cdx, wneg' (isLen_half' hit), keep02, keep2, mid2, setV2]
    rw [if_neg (fun h => cdx (by (try simp only [Bool.and_eq_true] at h); exact h.1.1.2))]
  simp only [sum2_v (isLen_half' cmd) (isLen_neg' (isLen_half' hit)) cdx, wneg' (isLen_half' hit), keep00]
  by_cases cdg : isLen ((konstV F 20 c z).1 + d.f2) = true
  rotate_left
  · simp only [sum2_b l20 hd2 cdg, keep02, keep2, mid2, setV2]
    rw [if_neg (fun h => cdg (by (try simp only [Bool.and_eq_true] at h); exact h.1.2))]
  simp only [sum2_v l20 hd2 cdg, keep00]
  by_cases cdy : isLen (x.f3 + (max ((konstV F 20 c z).1 + d.f2) (konstV F 21 c z).1)) = true
  rotate_left
  · simp only [sum2_b hx3 (isLen_max' cdg l21) cdy, keep02, keep2, mid2, setV2]
    rw [if_neg (fun h => cdy (by (try simp only [Bool.and_eq_true] at h); exact h.2))]
  simp only [sum2_v hx3 (isLen_max' cdg l21) cdy, keep00]
  rw [if_pos (by simp only [cm0, cmd, cdx, cdg, cdy, Bool.and_self])]
set_option maxHeartbeats 2000000 in
theorem rlim01_case {F : S36} {c z : Int} {x : S39} {it : Int} {d : S39} (hx1 : isLen x.f1 = true) (hx2 : isLen x.f2 = true) (hx3 : isLen x.f3 = true) (hit : isLen it = true) (hd1 : isLen d.f1 = true) (hd2 : isLen d.f2 = true) (hd3 : isLen d.f3 = true) (hk20 : (konstV F 20 c z).2 = 0) (hk21 : (konstV F 21 c z).2 = 0) : rlim01V F c z x it d = if (isLen ((max x.f1 d.f1) + -x.f1) && isLen ((max x.f1 d.f1) + -d.f1) && isLen ((((max x.f1 d.f1) + -d.f1) / 2) + (-(it / 2))) && isLen ((konstV F 20 c z).1 + d.f2) && isLen (x.f3 + (max ((konstV F 20 c z).1 + d.f2) (konstV F 21 c z).1))) = true then setV 0 (max x.f1 d.f1) ([⟨(((max x.f1 d.f1) + -x.f1) / 2), 0, x⟩, ⟨((((max x.f1 d.f1) + -d.f1) / 2) + -(it / 2)), wrap64 (-(x.f3 + max ((konstV F 20 c z).1 + d.f2) (konstV F 21 c z).1)), d⟩] : List S67) else (0, 0, 0, 0, 0, 0, [], 2) := by
  have l20 := konst_len F 20 c z
  have l21 := konst_len F 21 c z
  have hw : isLen (max x.f1 d.f1) = true := (isLen_max' hx1 hd1)
  unfold rlim01V
  simp only [midV_L, needE_I, keep0' hk20, keep0' hk21]
  rw [needI_v (xs := [x.f1, x.f2, x.f3, it]) (by simp [hx1, hx2, hx3, hit]), needI_v (xs := [d.f1, d.f2, d.f3]) (by simp [hd1, hd2, hd3]), if_neg (by simp)]
  simp only [half_v hit, keep00]
  by_cases cm0 : isLen ((max x.f1 d.f1) + -x.f1) = true
  rotate_left
  · simp only [mid_b hw hx1 cm0, keep02, keep2, mid2, setV2]
    rw [if_neg (fun h => cm0 (by (try simp only [Bool.and_eq_true] at h); exact h.1.1.1.1))]
  simp only [mid_v hw hx1 cm0, keep00]
  by_cases cdg : isLen ((konstV F 20 c z).1 + d.f2) = true
  rotate_left
  · simp only [sum2_b l20 hd2 cdg, keep02, keep2, mid2, setV2]
    rw [if_neg (fun h => cdg (by (try simp only [Bool.and_eq_true] at h); exact h.1.2))]
  simp only [sum2_v l20 hd2 cdg, keep00]
  by_cases cdy : isLen (x.f3 + (max ((konstV F 20 c z).1 + d.f2) (konstV F 21 c z).1)) = true
  rotate_left
  · simp only [sum2_b hx3 (isLen_max' cdg l21) cdy, keep02, keep2, mid2, setV2]
    rw [if_neg (fun h => cdy (by (try simp only [Bool.and_eq_true] at h); exact h.2))]
  simp only [sum2_v hx3 (isLen_max' cdg l21) cdy, keep00]
  by_cases cmd : isLen ((max x.f1 d.f1) + -d.f1) = true
  rotate_left
  · simp only [mid_b hw hd1 cmd, keep02, keep2, mid2, setV2]
    rw [if_neg (fun h => cmd (by (try simp only [Bool.and_eq_true] at h); exact h.1.1.1.2))]
  simp only [mid_v hw hd1 cmd, keep00]
  by_cases cdx : isLen ((((max x.f1 d.f1) + -d.f1) / 2) + (-(it / 2))) = true
  rotate_left
  · simp only [sum2_b (isLen_half' cmd) (isLen_neg' (isLen_half' hit)) cdx, wneg' (isLen_half' hit), keep02, keep2, mid2, setV2]
    rw [if_neg (fun h => cdx (by (try simp only [Bool.and_eq_true] at h); exact h.1.1.2))]
  simp only [sum2_v (isLen_half' cmd) (isLen_neg' (isLen_half' hit)) cdx, wneg' (isLen_half' hit), keep00]
  rw [if_pos (by simp only [cm0, cdg, cdy, cmd, cdx, Bool.and_self])]
theorem rlim01_eq (F : S36) (c z : Int) (x : S39) (it : Int) (d : S39) : rlim01V F c z x it d = lim01V F c z x it d := by
  by_cases he : needI [d.f1, d.f2, d.f3] (needI [x.f1, x.f2, x.f3, it] (keepV (keepV 0 (konstV F 20 c z)).2 (konstV F 21 c z)).2) = 0
  · have hc := he
    obtain ⟨hc, ld⟩ := needI_o hc
    obtain ⟨hc, lx⟩ := needI_o hc
    obtain ⟨hc, q21, _⟩ := keepV_ok hc
    obtain ⟨hc, q20, _⟩ := keepV_ok hc
    simp only [List.all_cons, List.all_nil, Bool.and_true, Bool.and_eq_true] at lx ld
    exact (rlim01_case lx.1 lx.2.1 lx.2.2.1 lx.2.2.2 ld.1 ld.2.1 ld.2.2 q20 q21).trans (lim01_case lx.1 lx.2.1 lx.2.2.1 lx.2.2.2 ld.1 ld.2.1 ld.2.2 q20 q21).symm
  · unfold rlim01V lim01V
    dsimp only
    try simp only [needE_I]
    rw [if_pos he, if_pos he]
set_option maxHeartbeats 2000000 in
theorem lim00_case {F : S36} {c z : Int} {x : S39} {it : Int} (hx1 : isLen x.f1 = true) (hx2 : isLen x.f2 = true) (hx3 : isLen x.f3 = true) (hit : isLen it = true) : lim00V F c z x it = if (isLen (x.f1 + -x.f1)) = true then setV 0 x.f1 ([⟨((x.f1 + -x.f1) / 2), 0, x⟩] : List S67) else (0, 0, 0, 0, 0, 0, [], 2) := by
  have hw : isLen x.f1 = true := hx1
  unfold lim00V
  simp only [midV_L, needE_I]
  rw [needI_v (xs := [x.f1, x.f2, x.f3, it]) (by simp [hx1, hx2, hx3, hit]), if_neg (by simp)]
  simp only [half_v hit, keep00]
  by_cases cm0 : isLen (x.f1 + -x.f1) = true
  rotate_left
  · simp only [mid_b hw hx1 cm0, keep02, keep2, mid2, setV2]
    rw [if_neg (fun h => cm0 (by (try simp only [Bool.and_eq_true] at h); exact h))]
  simp only [mid_v hw hx1 cm0, keep00]
  rw [if_pos (by simp only [cm0, Bool.and_self])]
set_option maxHeartbeats 2000000 in
theorem rlim00_case {F : S36} {c z : Int} {x : S39} {it : Int} (hx1 : isLen x.f1 = true) (hx2 : isLen x.f2 = true) (hx3 : isLen x.f3 = true) (hit : isLen it = true) : rlim00V F c z x it = if (isLen (x.f1 + -x.f1)) = true then setV 0 x.f1 ([⟨((x.f1 + -x.f1) / 2), 0, x⟩] : List S67) else (0, 0, 0, 0, 0, 0, [], 2) := by
  have hw : isLen x.f1 = true := hx1
  unfold rlim00V
  simp only [midV_L, needE_I]
  rw [needI_v (xs := [x.f1, x.f2, x.f3, it]) (by simp [hx1, hx2, hx3, hit]), if_neg (by simp)]
  simp only [half_v hit, keep00]
  by_cases cm0 : isLen (x.f1 + -x.f1) = true
  rotate_left
  · simp only [mid_b hw hx1 cm0, keep02, keep2, mid2, setV2]
    rw [if_neg (fun h => cm0 (by (try simp only [Bool.and_eq_true] at h); exact h))]
  simp only [mid_v hw hx1 cm0, keep00]
  rw [if_pos (by simp only [cm0, Bool.and_self])]
theorem rlim00_eq (F : S36) (c z : Int) (x : S39) (it : Int) : rlim00V F c z x it = lim00V F c z x it := by
  by_cases he : needI [x.f1, x.f2, x.f3, it] 0 = 0
  · have hc := he
    obtain ⟨hc, lx⟩ := needI_o hc
    simp only [List.all_cons, List.all_nil, Bool.and_true, Bool.and_eq_true] at lx
    exact (rlim00_case lx.1 lx.2.1 lx.2.2.1 lx.2.2.2).trans (lim00_case lx.1 lx.2.1 lx.2.2.1 lx.2.2.2).symm
  · unfold rlim00V lim00V
    dsimp only
    try simp only [needE_I]
    rw [if_pos he, if_pos he]
end Go.Proofs.YtbhljokhcmfgjaaGreat.P
