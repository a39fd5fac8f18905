import Derived.Test.YtjkbblnebpgpfaaBar9
import Derived.Test.YtjkbblnebpgpfaaBar10
import Derived.Test.YtjkbblnebpgpfaaBarH
/- The law BarSigns: the walk. Printed by a program of this work (mkbar12.py). -/
set_option linter.unusedVariables false
set_option linter.unusedSimpArgs false
namespace Go.Proofs.Ytjkbblnebpgpfaa.P
open Go.RowKit Go.Proofs.YtjkbblnebpgpfaaW.PrintWords Go.Proofs.YtjkbblnebpgpfaaW.PrintLast Go.Proofs.YtjkbblnebpgpfaaW.PrintMore

theorem setGo_nil {wd e : Int} {l : List S49} (h : (setV e wd l).2.2.2.2.2.2.2 ≠ 0) : (setV e wd l).2.2.2.2.2.2.1 = [] := by
  unfold setV at h ⊢
  by_cases he : e = 0
  · rw [if_pos he] at h ⊢
    unfold setR at h ⊢
    cases hg : setGo l 0 0 with
    | error e1 => rfl
    | ok p =>
      obtain ⟨hh, d⟩ := p
      rw [hg] at h
      simp only [setEnd] at h ⊢
      by_cases h1 : isLen wd = true
      · rw [if_pos h1] at h ⊢
        by_cases h2 : (isLen hh && isLen d) = true
        · rw [if_pos h2] at h
          exact absurd rfl h
        · rw [if_neg h2]
      · rw [if_neg h1]
  · rw [if_neg he]
theorem Pd.foldC2 {P : Program} {C : Code} {a : Act} {Q : Exit → Act → World → Prop} {w v W : World} {L M : List (Nat × Obj)} (h : Pd w W L) (h2 : Pd v W M) (k : ∀ W', Pd w W' L → Pd v W' M → Code.wp P C Q a W') : Code.wp P C Q a W := k W h h2
theorem Pd.st9 {w W : World} {L : List (Nat × Obj)} {q : Nat} {t : TypeId} {u0 u1 u2 u3 u4 u5 u6 u7 u8 v0 v1 v2 v3 v4 v5 v6 v7 v8 : Value} (h : Pd w W ((q, .cells #[u0, u1, u2, u3, u4, u5, u6, u7, u8] t (0, 0)) :: L)) : Pd w (((((((((W.setCell ⟨q, 0, none⟩ v0).setCell ⟨q, 1, none⟩ v1).setCell ⟨q, 2, none⟩ v2).setCell ⟨q, 3, none⟩ v3).setCell ⟨q, 4, none⟩ v4).setCell ⟨q, 5, none⟩ v5).setCell ⟨q, 6, none⟩ v6).setCell ⟨q, 7, none⟩ v7).setCell ⟨q, 8, none⟩ v8) ((q, .cells #[v0, v1, v2, v3, v4, v5, v6, v7, v8] t (0, 0)) :: L) :=
  h.put (put9 h.hd) (fun k hk => far9 _ hk) (bel9 h.bel (h.loc _ List.mem_cons_self).2)
theorem rad_nil (F : S36) (c z : Int) (b s : S39) (h : (radV F c z b s).2.2.2.2.2.2.2 ≠ 0) : (radV F c z b s).2.2.2.2.2.2.1 = [] := by
  unfold radV at h ⊢
  dsimp only at h ⊢
  split at h
  · next he => rw [if_pos he]; exact setGo_nil h
  · next he => rw [if_neg he]
theorem sign_fin {n g b1 b2 b3 s1 s2 s3 th top q : Int} (hn : isLen n = true) (hg : isLen g = true) (hb1 : isLen b1 = true) (hb2 : isLen b2 = true) (hb3 : isLen b3 = true) (hs1 : isLen s1 = true) (hs2 : isLen s2 = true) (hs3 : isLen s3 = true) (ht : isLen th = true) (hto : isLen top = true) (hq : isLen q = true)
    (h : top = b2 + q + th) (hc : (s2 + s3 ≤ n ∧ q = g) ∨ (n < s2 + s3 ∧ q = g + (s2 + s3 - n) / 2)) :
    wrap64 top = top ∧ wrap64 (s1 + b1) = s1 + b1 ∧ wrap64 (wrap64 (top - th) - b2) = q ∧ wrap64 (top - th - b2) = q ∧ ∃ M, wrap64 (wrap64 (s2 + s3) - n) = M ∧ ((M ≤ 0 ∧ q = g) ∨ (0 < M ∧ wrap64 (q - g) = wrap64 (M.tdiv 2) ∧ g ≤ q)) := by
  obtain ⟨a1, a2⟩ := isLen_iff.1 hn
  obtain ⟨b1', b2'⟩ := isLen_iff.1 hg
  obtain ⟨c1, c2⟩ := isLen_iff.1 hb1
  obtain ⟨d1, d2⟩ := isLen_iff.1 hb2
  obtain ⟨f1, f2⟩ := isLen_iff.1 hs1
  obtain ⟨g1, g2⟩ := isLen_iff.1 hs2
  obtain ⟨h1, h2⟩ := isLen_iff.1 hs3
  obtain ⟨i1, i2⟩ := isLen_iff.1 ht
  obtain ⟨j1, j2⟩ := isLen_iff.1 hto
  obtain ⟨k1, k2⟩ := isLen_iff.1 hq
  have w1 : wrap64 top = top := by unfold wrap64; omega
  have w2 : wrap64 (s1 + b1) = s1 + b1 := by unfold wrap64; omega
  have w3 : wrap64 (top - th) = top - th := by unfold wrap64; omega
  have w4 : wrap64 (top - th - b2) = top - th - b2 := by unfold wrap64; omega
  have w5 : wrap64 (s2 + s3) = s2 + s3 := by unfold wrap64; omega
  have w6 : wrap64 (s2 + s3 - n) = s2 + s3 - n := by unfold wrap64; omega
  have w7 : wrap64 (q - g) = q - g := by unfold wrap64; omega
  rw [w3, w4, w5, w6, w7]
  refine ⟨w1, w2, by omega, by omega, _, rfl, ?_⟩
  rcases hc with ⟨c3, c4⟩ | ⟨c3, c4⟩
  · exact .inl ⟨by omega, c4⟩
  · have w8 : wrap64 ((s2 + s3 - n).tdiv 2) = (s2 + s3 - n) / 2 := by
      rw [Int.tdiv_eq_ediv_of_nonneg (by omega)]
      unfold wrap64
      omega
    rw [w8]
    exact .inr ⟨by omega, by omega, by omega⟩

set_option maxRecDepth 100000 in
set_option maxHeartbeats 3000000 in
theorem law_signs (hrad : RadCalls) (w : World) (F : S36) (c z : Int) (b s : S39) (hOb : Ok39 b) (hOs : Ok39 s) (cs : List Value) (Ab : Option Addr) (nb : Nat) (As : Option Addr) (ns : Nat) (hF : FontIn w F cs) (hlb : b.f6.length ≤ nb) (hCb : Kd.C k49 w Ab b.f6.length b.f6) (hls : s.f6.length ≤ ns) (hCs : Kd.C k49 w As s.f6.length s.f6)
    (hbar : ∀ w : World, Calls Try.prog 28 #[] w fun r w' => r = .returned (.bool true) ∧ Below w.heap.size w w') :
    Calls Try.prog 8 #[.agg cs.toArray, .int .i64 c, .int .i64 z, .agg #[.int .i64 b.f0, .int .i64 b.f1, .int .i64 b.f2, .int .i64 b.f3, .int .i64 b.f4, .int .i64 b.f5, .slice Ab b.f6.length nb], .agg #[.int .i64 s.f0, .int .i64 s.f1, .int .i64 s.f2, .int .i64 s.f3, .int .i64 s.f4, .int .i64 s.f5, .slice As s.f6.length ns]] w fun r w' => r = .returned (.bool true) ∧ Below w.heap.size w w' := by
  have hu39 := Try.underlying39
  have hu49 := Try.underlying49
  have hu36 := Try.underlying36
  have HF := Aside0.mk hF
  have HOb := Aside0.mk hOb
  have HLb := Aside0.mk hlb
  have HCb := Aside0.mk hCb
  have HOs := Aside0.mk hOs
  have HLs := Aside0.mk hls
  have HCs := Aside0.mk hCs
  obtain ⟨A6, c6, A7, c7, A8, c8, A9, c9, A10, c10, A11, c11, A12, c12, A13, c13, A15, c15, A16, c16, hcs, hcr⟩ := id hF
  subst hcs
  clear hcr hF hOb hlb hCb hOs hls hCs
  have HP := Aside0.mk (Pd.start w)
  go_enter Try.func8, Try.ntmps8
  go_wp2_with (first | ((with_reducible refine gate_dst (N := 5) rfl ?_); refine box_event ?hg (N := 5) ?hd (cs := #[.int .i64 F.f0.f0, .int .i64 F.f0.f1, .int .i64 F.f0.f2, .int .i64 F.f0.f3, .int .i64 F.f0.f4, .bool F.f0.f5, .slice A6 F.f1.length c6, .slice A7 F.f2.length c7, .slice A8 F.f3.length c8, .slice A9 F.f4.f0.length c9, .slice A10 F.f4.f1.length c10, .slice A11 F.f4.f2.length c11, .slice A12 F.f4.f3.length c12, .slice A13 F.f4.f4.length c13, .int .i64 F.f4.f5.f0, .slice A15 F.f4.f5.f1.length c15, .slice A16 F.f4.f5.f2.length c16]) (t := 36) ?hr ?_; (case hd => rfl); (case hg => rfl); (case hr => first | (go_simp; done) | (go_simp; rfl)); intro gf hg wk hbox hb; replace HP := Aside0.mk (Pd.box (by with_reducible repeat (first | exact HP.out | apply Pd.drew)) hg hbox hb); clear hg hbox hb) | ((with_reducible refine gate_dst (N := 8) rfl ?_); refine box_event ?hg (N := 8) ?hd (cs := #[.int .i64 b.f0, .int .i64 b.f1, .int .i64 b.f2, .int .i64 b.f3, .int .i64 b.f4, .int .i64 b.f5, .slice Ab b.f6.length nb]) (t := 39) ?hr ?_; (case hd => rfl); (case hg => rfl); (case hr => first | (go_simp; done) | (go_simp; rfl)); intro gb hg wk hbox hb; replace HP := Aside0.mk (Pd.box (by with_reducible repeat (first | exact HP.out | apply Pd.drew)) hg hbox hb); clear hg hbox hb) | ((with_reducible refine gate_dst (N := 9) rfl ?_); refine box_event ?hg (N := 9) ?hd (cs := #[.int .i64 s.f0, .int .i64 s.f1, .int .i64 s.f2, .int .i64 s.f3, .int .i64 s.f4, .int .i64 s.f5, .slice As s.f6.length ns]) (t := 39) ?hr ?_; (case hd => rfl); (case hg => rfl); (case hr => first | (go_simp; done) | (go_simp; rfl)); intro gs hg wk hbox hb; replace HP := Aside0.mk (Pd.box (by with_reducible repeat (first | exact HP.out | apply Pd.drew)) hg hbox hb); clear hg hbox hb; have hsb := cells7 (Pd.hd (Pd.tl HP.out)); have hss := cells7 (Pd.hd HP.out)) | ((with_reducible refine gate_dst (N := 21) rfl ?_); refine wpList_load_row rfl 36 (.tmp 5) rfl gf (by rfl) 36 #[.int .i64 F.f0.f0, .int .i64 F.f0.f1, .int .i64 F.f0.f2, .int .i64 F.f0.f3, .int .i64 F.f0.f4, .bool F.f0.f5, .slice A6 F.f1.length c6, .slice A7 F.f2.length c7, .slice A8 F.f3.length c8, .slice A9 F.f4.f0.length c9, .slice A10 F.f4.f1.length c10, .slice A11 F.f4.f2.length c11, .slice A12 F.f4.f3.length c12, .slice A13 F.f4.f4.length c13, .int .i64 F.f4.f5.f0, .slice A15 F.f4.f5.f1.length c15, .slice A16 F.f4.f5.f2.length c16] (0, 0) _ (Pd.hd (Pd.tl (Pd.tl HP.out))) hu36 rfl info_font ?_))
  clear hsb hss
  refine (few27_calls _ F b s s Ab As As nb ns ns _ (HF.out.heap HP.out.bel) HOb.out HLb.out (Kd.C_below HCb.out HP.out.bel) HOs.out HLs.out (Kd.C_below HCs.out HP.out.bel) HOs.out HLs.out (Kd.C_below HCs.out HP.out.bel)).mono ?_
  rintro _ w1 ⟨q, rfl, hb⟩
  replace HP := Aside0.mk (Pd.below HP.out hb)
  clear hb
  cases q with
  | false =>
    go_wp2
    go_ret
    exact ⟨rfl, HP.out.bel⟩
  | true =>
    have hsb := cells7 (Pd.hd (Pd.tl HP.out))
    have hss := cells7 (Pd.hd HP.out)
    go_wp2_with (first | ((with_reducible refine gate_dst (N := 28) rfl ?_); refine wpList_load_row rfl 36 (.tmp 5) rfl gf (by rfl) 36 #[.int .i64 F.f0.f0, .int .i64 F.f0.f1, .int .i64 F.f0.f2, .int .i64 F.f0.f3, .int .i64 F.f0.f4, .bool F.f0.f5, .slice A6 F.f1.length c6, .slice A7 F.f2.length c7, .slice A8 F.f3.length c8, .slice A9 F.f4.f0.length c9, .slice A10 F.f4.f1.length c10, .slice A11 F.f4.f2.length c11, .slice A12 F.f4.f3.length c12, .slice A13 F.f4.f4.length c13, .int .i64 F.f4.f5.f0, .slice A15 F.f4.f5.f1.length c15, .slice A16 F.f4.f5.f2.length c16] (0, 0) _ (Pd.hd (Pd.tl (Pd.tl HP.out))) hu36 rfl info_font ?_))
    clear hsb hss
    refine (hrad F c z b s Ab As nb ns _ _ (HF.out.heap HP.out.bel) HLb.out (Kd.C_below HCb.out HP.out.bel) HLs.out (Kd.C_below HCs.out HP.out.bel)).mono ?_
    rintro _ w5 ⟨A5, n5, rfl, hl5, hC5, hb⟩
    replace HP := Aside0.mk (Pd.below HP.out hb)
    have HQ := Aside0.mk (Pd.start w5)
    clear hb
    have hS := rad_plain F c z b s
    have hN := rad_nil F c z b s
    obtain ⟨R, hR⟩ : ∃ R, R = radV F c z b s := ⟨_, rfl⟩
    rw [← hR] at hl5 hC5 hS hN ⊢
    clear hR
    by_cases he : R.2.2.2.2.2.2.2 = 0
    · obtain ⟨hn2, hg2, l0, l1, l2, l3, l4, l5, l6, th, top, hi, hh, dd, q, hV, l7, l8, l9, ht, hc⟩ := hS he
      subst hV
      dsimp only at hl5 hC5 ⊢
      clear he hN hS hl5
      have HC5 := Aside0.mk hC5
      obtain ⟨ad, hA⟩ := kid_ad hC5 (by simp)
      subst hA
      clear hC5
      have HY := Aside0.mk (sign_fin l0 (gap_len F c z) l1 l2 l3 l4 l5 l6 l7 l8 l9 ht hc)
      clear l0 l1 l2 l3 l4 l5 l6 l7 l8 l9 ht hc
      obtain ⟨Nv, hNv⟩ : ∃ N, N = needV F c z b := ⟨_, rfl⟩
      obtain ⟨G, hG⟩ : ∃ G, G = gapV F c z := ⟨_, rfl⟩
      rw [← hNv] at hn2 HY
      rw [← hG] at hg2 HY
      have HN := Aside0.mk hNv
      clear hNv
      unfold gapV at hG
      by_cases hcc : c < 2
      · have hd1 : decide (c < 2) = true := decide_eq_true hcc
        rw [if_pos hcc] at hG
        have HG := Aside0.mk hG
        clear hG
        go_wp2_with (first | ((with_reducible refine gate_dst (N := 11) rfl ?_); refine box_event ?hg (N := 11) ?hd (cs := #[.int .i64 0, .int .i64 0, .int .i64 0, .int .i64 0, .int .i64 0, .int .i64 0, .slice none 0 0]) (t := 39) ?hr ?_; (case hd => rfl); (case hg => rfl); (case hr => first | (go_simp; done) | (go_simp; rfl)); intro g11 hg wk9 hbox hb; replace HP := Aside0.mk (Pd.box HP.out hg hbox hb); replace HQ := Aside0.mk (Pd.box HQ.out hg hbox hb); clear hg hbox hb; have hcz := cells7 (Pd.hd HP.out); have hfz := froz7 (Pd.hd HP.out)) | (have hgo := hcz; clear hgo; (with_reducible refine gate_dst (N := 37) rfl ?_); refine Pd.fold2 (Pd.st7 HP.out) (Pd.st7 HQ.out) ?_; intro W' h0 h1; replace HP := Aside0.mk h0; replace HQ := Aside0.mk h1; clear h0 h1 hcz hfz; have hsb := cells7 (Pd.hd (Pd.tl (Pd.tl HP.out))); refine wpList_load_row rfl 36 (.tmp 5) rfl gf (by rfl) 36 #[.int .i64 F.f0.f0, .int .i64 F.f0.f1, .int .i64 F.f0.f2, .int .i64 F.f0.f3, .int .i64 F.f0.f4, .bool F.f0.f5, .slice A6 F.f1.length c6, .slice A7 F.f2.length c7, .slice A8 F.f3.length c8, .slice A9 F.f4.f0.length c9, .slice A10 F.f4.f1.length c10, .slice A11 F.f4.f2.length c11, .slice A12 F.f4.f3.length c12, .slice A13 F.f4.f4.length c13, .int .i64 F.f4.f5.f0, .slice A15 F.f4.f5.f1.length c15, .slice A16 F.f4.f5.f2.length c16] (0, 0) _ (Pd.hd (Pd.tl (Pd.tl (Pd.tl HP.out)))) hu36 rfl info_font ?_))
        clear hsb
        refine (barNeed_calls F c z b Ab nb _ _ (HF.out.heap HP.out.bel) HLb.out (Kd.C_below HCb.out HP.out.bel)).mono ?_
        rintro _ w6 ⟨rfl, hb⟩
        replace HP := Aside0.mk (Pd.below HP.out hb)
        replace HQ := Aside0.mk (Pd.below HQ.out hb)
        clear hb
        rw [← HN.out]
        go_wp2_with (first | ((with_reducible refine gate_dst (N := 56) rfl ?_); refine wpList_load_row rfl 36 (.tmp 5) rfl gf (by rfl) 36 #[.int .i64 F.f0.f0, .int .i64 F.f0.f1, .int .i64 F.f0.f2, .int .i64 F.f0.f3, .int .i64 F.f0.f4, .bool F.f0.f5, .slice A6 F.f1.length c6, .slice A7 F.f2.length c7, .slice A8 F.f3.length c8, .slice A9 F.f4.f0.length c9, .slice A10 F.f4.f1.length c10, .slice A11 F.f4.f2.length c11, .slice A12 F.f4.f3.length c12, .slice A13 F.f4.f4.length c13, .int .i64 F.f4.f5.f0, .slice A15 F.f4.f5.f1.length c15, .slice A16 F.f4.f5.f2.length c16] (0, 0) _ (Pd.hd (Pd.tl (Pd.tl (Pd.tl HP.out)))) hu36 rfl info_font ?_))
        refine (konst_calls _ F _ 50 c z (HF.out.heap HP.out.bel)).mono ?_
        rintro _ w6 ⟨rfl, hb⟩
        rw [← HG.out]
        replace HP := Aside0.mk (Pd.below HP.out hb)
        replace HQ := Aside0.mk (Pd.below HQ.out hb)
        clear hb
        have hs11 := cells7 (Pd.hd HP.out)
        obtain ⟨ad', A8, c8, hA8, _, _, HW1⟩ := kid_keep HC5.out 1 (by simp)
        cases hA8
        obtain ⟨k0, k1, k2, k3, k4, k5, k6, k7, k8⟩ := HW1 _ HQ.out.bel
        simp [Addr.add] at k0 k1 k2 k3 k4 k5 k6 k7 k8
        go_wp2_with (first | ((with_reducible refine gate_dst (N := 18) rfl ?_); refine box_event ?hg (N := 18) ?hd (cs := #[.int .i64 0, .int .i64 0, .int .i64 0, .int .i64 0, .int .i64 0, .int .i64 0, .int .i64 0, .int .i64 0, .slice none 0 0]) (t := 49) ?hr ?_; (case hd => rfl); (case hg => rfl); (case hr => first | (go_simp; done) | (go_simp; rfl)); intro g18 hg wk9 hbox hb; replace HP := Aside0.mk (Pd.box HP.out hg hbox hb); replace HQ := Aside0.mk (Pd.box HQ.out hg hbox hb); clear hg hbox hb k0 k1 k2 k3 k4 k5 k6 k7 k8 hs11; have hcz := cells9 (Pd.hd HP.out); have hfz := froz9 (Pd.hd HP.out)))
        refine Pd.foldC2 (Pd.st9 HP.out) (Pd.st9 HQ.out) ?_
        intro W' h0 h1
        replace HP := Aside0.mk h0
        replace HQ := Aside0.mk h1
        clear h0 h1 hcz hfz HW1
        have hs18 := cells9 (Pd.hd HP.out)
        have hs11 := cells7 (Pd.hd (Pd.tl HP.out))
        have hss := cells7 (Pd.hd (Pd.tl (Pd.tl HP.out)))
        have hsb := cells7 (Pd.hd (Pd.tl (Pd.tl (Pd.tl HP.out))))
        obtain ⟨hx0, hy0⟩ := kid_xy HC5.out HQ.out.bel 0 (by simp)
        obtain ⟨hx2, hy2⟩ := kid_xy HC5.out HQ.out.bel 2 (by simp)
        rw [show ad.add (0 * 9) = ad by simp [Addr.add]] at hx0
        simp [Addr.add] at hy0 hx2 hy2
        obtain ⟨y1, y2, y3, y4, M, y5, y6⟩ := HY.out
        have H6 := Aside0.mk y6
        clear y6
        have hw1 : W'.cell? ⟨g11, 1, none⟩ = some (.int .i64 (IntKind.i64.wrap (s.f1 + b.f1))) := by rw [i64_w, y2]; exact hs11.2.1
        clear y2
        go_region_held3 (fun w' => w'.cell? ⟨g18, 0, none⟩ = some (.int .i64 s.f1) ∧ w'.cell? ⟨g18, 1, none⟩ = some (.int .i64 (top - th)) ∧ w'.cell? ⟨g18, 4, none⟩ = some (.int .i64 th) ∧ w'.cell? ⟨g11, 1, none⟩ = some (.int .i64 (IntKind.i64.wrap (s.f1 + b.f1))) ∧ w'.cell? ⟨g11, 6, none⟩ = some (.slice (some ad) 4 n5) ∧ w'.cell? ⟨gs, 1, none⟩ = some (.int .i64 s.f1) ∧ w'.cell? ⟨gs, 2, none⟩ = some (.int .i64 s.f2) ∧ w'.cell? ⟨gb, 1, none⟩ = some (.int .i64 b.f1) ∧ w'.cell? ad = some (.int .i64 0) ∧ w'.cell? ⟨ad.block, ad.off + 1, none⟩ = some (.int .i64 (top - s.f2)) ∧ w'.cell? ⟨ad.block, ad.off + 18, none⟩ = some (.int .i64 s.f1) ∧ w'.cell? ⟨ad.block, ad.off + 18 + 1, none⟩ = some (.int .i64 0)) (exact ⟨hs18.1, hs18.2.1, hs18.2.2.2.2.1, hw1, hs11.2.2.2.2.2.2, hss.2.1, hss.2.2.1, hsb.2.1, hx0, hy0, hx2, hy2⟩) (fail)
        all_goals (go_wp2_with fail)
        clear hs18 hs11 hss hsb hx0 hy0 hx2 hy2 hw1
        all_goals (refine (hbar _).mono ?_; rintro _ w7 ⟨rfl, hb⟩; replace HP := Aside0.mk (Pd.below (Pd.drew HP.out) hb); clear hb)
        all_goals (rcases H6.out with ⟨f1, f2⟩ | ⟨f1, f2, f3⟩)
        all_goals first | (exfalso; first | exact absurd f1 (Int.not_lt.mpr (by assumption)) | exact absurd (by assumption : 0 < M) (Int.not_lt.mpr f1)) | skip
        all_goals go_wp2
        all_goals go_ret
        all_goals refine ⟨?_, HP.out.bel⟩
        all_goals first | rfl | (simp [f2]; done) | (simp [f2, f3]; done) 
      · have hd1 : decide (c < 2) = false := decide_eq_false hcc
        rw [if_neg hcc] at hG
        have HG := Aside0.mk hG
        clear hG
        go_wp2_with (first | ((with_reducible refine gate_dst (N := 11) rfl ?_); refine box_event ?hg (N := 11) ?hd (cs := #[.int .i64 0, .int .i64 0, .int .i64 0, .int .i64 0, .int .i64 0, .int .i64 0, .slice none 0 0]) (t := 39) ?hr ?_; (case hd => rfl); (case hg => rfl); (case hr => first | (go_simp; done) | (go_simp; rfl)); intro g11 hg wk9 hbox hb; replace HP := Aside0.mk (Pd.box HP.out hg hbox hb); replace HQ := Aside0.mk (Pd.box HQ.out hg hbox hb); clear hg hbox hb; have hcz := cells7 (Pd.hd HP.out); have hfz := froz7 (Pd.hd HP.out)) | (have hgo := hcz; clear hgo; (with_reducible refine gate_dst (N := 37) rfl ?_); refine Pd.fold2 (Pd.st7 HP.out) (Pd.st7 HQ.out) ?_; intro W' h0 h1; replace HP := Aside0.mk h0; replace HQ := Aside0.mk h1; clear h0 h1 hcz hfz; have hsb := cells7 (Pd.hd (Pd.tl (Pd.tl HP.out))); refine wpList_load_row rfl 36 (.tmp 5) rfl gf (by rfl) 36 #[.int .i64 F.f0.f0, .int .i64 F.f0.f1, .int .i64 F.f0.f2, .int .i64 F.f0.f3, .int .i64 F.f0.f4, .bool F.f0.f5, .slice A6 F.f1.length c6, .slice A7 F.f2.length c7, .slice A8 F.f3.length c8, .slice A9 F.f4.f0.length c9, .slice A10 F.f4.f1.length c10, .slice A11 F.f4.f2.length c11, .slice A12 F.f4.f3.length c12, .slice A13 F.f4.f4.length c13, .int .i64 F.f4.f5.f0, .slice A15 F.f4.f5.f1.length c15, .slice A16 F.f4.f5.f2.length c16] (0, 0) _ (Pd.hd (Pd.tl (Pd.tl (Pd.tl HP.out)))) hu36 rfl info_font ?_))
        clear hsb
        refine (barNeed_calls F c z b Ab nb _ _ (HF.out.heap HP.out.bel) HLb.out (Kd.C_below HCb.out HP.out.bel)).mono ?_
        rintro _ w6 ⟨rfl, hb⟩
        replace HP := Aside0.mk (Pd.below HP.out hb)
        replace HQ := Aside0.mk (Pd.below HQ.out hb)
        clear hb
        rw [← HN.out]
        go_wp2_with (first | ((with_reducible refine gate_dst (N := 56) rfl ?_); refine wpList_load_row rfl 36 (.tmp 5) rfl gf (by rfl) 36 #[.int .i64 F.f0.f0, .int .i64 F.f0.f1, .int .i64 F.f0.f2, .int .i64 F.f0.f3, .int .i64 F.f0.f4, .bool F.f0.f5, .slice A6 F.f1.length c6, .slice A7 F.f2.length c7, .slice A8 F.f3.length c8, .slice A9 F.f4.f0.length c9, .slice A10 F.f4.f1.length c10, .slice A11 F.f4.f2.length c11, .slice A12 F.f4.f3.length c12, .slice A13 F.f4.f4.length c13, .int .i64 F.f4.f5.f0, .slice A15 F.f4.f5.f1.length c15, .slice A16 F.f4.f5.f2.length c16] (0, 0) _ (Pd.hd (Pd.tl (Pd.tl (Pd.tl HP.out)))) hu36 rfl info_font ?_))
        refine (konst_calls _ F _ 49 c z (HF.out.heap HP.out.bel)).mono ?_
        rintro _ w6 ⟨rfl, hb⟩
        rw [← HG.out]
        replace HP := Aside0.mk (Pd.below HP.out hb)
        replace HQ := Aside0.mk (Pd.below HQ.out hb)
        clear hb
        have hs11 := cells7 (Pd.hd HP.out)
        obtain ⟨ad', A8, c8, hA8, _, _, HW1⟩ := kid_keep HC5.out 1 (by simp)
        cases hA8
        obtain ⟨k0, k1, k2, k3, k4, k5, k6, k7, k8⟩ := HW1 _ HQ.out.bel
        simp [Addr.add] at k0 k1 k2 k3 k4 k5 k6 k7 k8
        go_wp2_with (first | ((with_reducible refine gate_dst (N := 18) rfl ?_); refine box_event ?hg (N := 18) ?hd (cs := #[.int .i64 0, .int .i64 0, .int .i64 0, .int .i64 0, .int .i64 0, .int .i64 0, .int .i64 0, .int .i64 0, .slice none 0 0]) (t := 49) ?hr ?_; (case hd => rfl); (case hg => rfl); (case hr => first | (go_simp; done) | (go_simp; rfl)); intro g18 hg wk9 hbox hb; replace HP := Aside0.mk (Pd.box HP.out hg hbox hb); replace HQ := Aside0.mk (Pd.box HQ.out hg hbox hb); clear hg hbox hb k0 k1 k2 k3 k4 k5 k6 k7 k8 hs11; have hcz := cells9 (Pd.hd HP.out); have hfz := froz9 (Pd.hd HP.out)))
        refine Pd.foldC2 (Pd.st9 HP.out) (Pd.st9 HQ.out) ?_
        intro W' h0 h1
        replace HP := Aside0.mk h0
        replace HQ := Aside0.mk h1
        clear h0 h1 hcz hfz HW1
        have hs18 := cells9 (Pd.hd HP.out)
        have hs11 := cells7 (Pd.hd (Pd.tl HP.out))
        have hss := cells7 (Pd.hd (Pd.tl (Pd.tl HP.out)))
        have hsb := cells7 (Pd.hd (Pd.tl (Pd.tl (Pd.tl HP.out))))
        obtain ⟨hx0, hy0⟩ := kid_xy HC5.out HQ.out.bel 0 (by simp)
        obtain ⟨hx2, hy2⟩ := kid_xy HC5.out HQ.out.bel 2 (by simp)
        rw [show ad.add (0 * 9) = ad by simp [Addr.add]] at hx0
        simp [Addr.add] at hy0 hx2 hy2
        obtain ⟨y1, y2, y3, y4, M, y5, y6⟩ := HY.out
        have H6 := Aside0.mk y6
        clear y6
        have hw1 : W'.cell? ⟨g11, 1, none⟩ = some (.int .i64 (IntKind.i64.wrap (s.f1 + b.f1))) := by rw [i64_w, y2]; exact hs11.2.1
        clear y2
        go_region_held3 (fun w' => w'.cell? ⟨g18, 0, none⟩ = some (.int .i64 s.f1) ∧ w'.cell? ⟨g18, 1, none⟩ = some (.int .i64 (top - th)) ∧ w'.cell? ⟨g18, 4, none⟩ = some (.int .i64 th) ∧ w'.cell? ⟨g11, 1, none⟩ = some (.int .i64 (IntKind.i64.wrap (s.f1 + b.f1))) ∧ w'.cell? ⟨g11, 6, none⟩ = some (.slice (some ad) 4 n5) ∧ w'.cell? ⟨gs, 1, none⟩ = some (.int .i64 s.f1) ∧ w'.cell? ⟨gs, 2, none⟩ = some (.int .i64 s.f2) ∧ w'.cell? ⟨gb, 1, none⟩ = some (.int .i64 b.f1) ∧ w'.cell? ad = some (.int .i64 0) ∧ w'.cell? ⟨ad.block, ad.off + 1, none⟩ = some (.int .i64 (top - s.f2)) ∧ w'.cell? ⟨ad.block, ad.off + 18, none⟩ = some (.int .i64 s.f1) ∧ w'.cell? ⟨ad.block, ad.off + 18 + 1, none⟩ = some (.int .i64 0)) (exact ⟨hs18.1, hs18.2.1, hs18.2.2.2.2.1, hw1, hs11.2.2.2.2.2.2, hss.2.1, hss.2.2.1, hsb.2.1, hx0, hy0, hx2, hy2⟩) (fail)
        all_goals (go_wp2_with fail)
        clear hs18 hs11 hss hsb hx0 hy0 hx2 hy2 hw1
        all_goals (refine (hbar _).mono ?_; rintro _ w7 ⟨rfl, hb⟩; replace HP := Aside0.mk (Pd.below (Pd.drew HP.out) hb); clear hb)
        all_goals (rcases H6.out with ⟨f1, f2⟩ | ⟨f1, f2, f3⟩)
        all_goals first | (exfalso; first | exact absurd f1 (Int.not_lt.mpr (by assumption)) | exact absurd (by assumption : 0 < M) (Int.not_lt.mpr f1)) | skip
        all_goals go_wp2
        all_goals go_ret
        all_goals refine ⟨?_, HP.out.bel⟩
        all_goals first | rfl | (simp [f2]; done) | (simp [f2, f3]; done) 
    · have hn0 := hN he
      have hlen : R.2.2.2.2.2.2.1.length = 0 := by rw [hn0]; rfl
      have HE := Aside0.mk he
      clear hN hS hl5 hC5 hn0
      go_wp2_with (first | ((with_reducible refine gate_dst (N := 11) rfl ?_); refine box_event ?hg (N := 11) ?hd (cs := #[.int .i64 0, .int .i64 0, .int .i64 0, .int .i64 0, .int .i64 0, .int .i64 0, .slice none 0 0]) (t := 39) ?hr ?_; (case hd => rfl); (case hg => rfl); (case hr => first | (go_simp; done) | (go_simp; rfl)); intro g11 hg wk9 hbox hb; replace HP := Aside0.mk (Pd.box HP.out hg hbox hb); replace HQ := Aside0.mk (Pd.box HQ.out hg hbox hb); clear hg hbox hb; have hcz := cells7 (Pd.hd HP.out); have hfz := froz7 (Pd.hd HP.out)) | (have hgo := hcz; clear hgo; (with_reducible refine gate_dst (N := 37) rfl ?_); refine Pd.fold2 (Pd.st7 HP.out) (Pd.st7 HQ.out) ?_; intro W' h0 h1; replace HP := Aside0.mk h0; replace HQ := Aside0.mk h1; clear h0 h1 hcz hfz; have hsb := cells7 (Pd.hd (Pd.tl (Pd.tl HP.out))); refine wpList_load_row rfl 36 (.tmp 5) rfl gf (by rfl) 36 #[.int .i64 F.f0.f0, .int .i64 F.f0.f1, .int .i64 F.f0.f2, .int .i64 F.f0.f3, .int .i64 F.f0.f4, .bool F.f0.f5, .slice A6 F.f1.length c6, .slice A7 F.f2.length c7, .slice A8 F.f3.length c8, .slice A9 F.f4.f0.length c9, .slice A10 F.f4.f1.length c10, .slice A11 F.f4.f2.length c11, .slice A12 F.f4.f3.length c12, .slice A13 F.f4.f4.length c13, .int .i64 F.f4.f5.f0, .slice A15 F.f4.f5.f1.length c15, .slice A16 F.f4.f5.f2.length c16] (0, 0) _ (Pd.hd (Pd.tl (Pd.tl (Pd.tl HP.out)))) hu36 rfl info_font ?_))
      clear hsb
      refine (barNeed_calls F c z b Ab nb _ _ (HF.out.heap HP.out.bel) HLb.out (Kd.C_below HCb.out HP.out.bel)).mono ?_
      rintro _ w6 ⟨rfl, hb⟩
      replace HP := Aside0.mk (Pd.below HP.out hb)
      replace HQ := Aside0.mk (Pd.below HQ.out hb)
      clear hb
      go_wp2_with fail
      refine (hbar _).mono ?_
      rintro _ w7 ⟨rfl, hb⟩
      replace HP := Aside0.mk (Pd.below HP.out hb)
      clear hb
      have hs11 := cells7 (Pd.hd HP.out)
      go_wp2
      go_ret
      exact ⟨rfl, HP.out.bel⟩
end Go.Proofs.Ytjkbblnebpgpfaa.P
