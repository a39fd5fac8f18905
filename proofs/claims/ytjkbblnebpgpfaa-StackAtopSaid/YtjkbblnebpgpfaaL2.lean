import Derived.Test.YtjkbblnebpgpfaaL1
import Derived.Test.YtjkbblnebpgpfaaK16
import Derived.Test.YtjkbblnebpgpfaaK15
/- The law StackAtop: the walk. Printed by a program of this work (mklaw26d.py). -/
namespace Go.Proofs.Ytjkbblnebpgpfaa.P
open Go.RowKit Go.Proofs.YtjkbblnebpgpfaaW.PrintWords Go.Proofs.YtjkbblnebpgpfaaW.PrintLast Go.Proofs.YtjkbblnebpgpfaaW.PrintMore
set_option linter.unusedVariables false
set_option linter.unusedSimpArgs false

theorem atop_fin {up dn nd dh u d g : Int} (hu : isLen up = true) (hd : isLen dn = true) (hn : isLen nd = true) (hh : isLen dh = true) (h1 : isLen u = true) (h2 : isLen d = true) (h3 : isLen g = true)
    (h : (up = u ∧ dn = d ∧ g ≤ up - nd - dh + dn) ∨ (∃ m, 0 < m ∧ up = u + m / 2 ∧ dn = d + (m - m / 2) ∧ g = up - nd - dh + dn)) :
    wrap64 dn = dn ∧ ∃ B, wrap64 (wrap64 (wrap64 (up - nd) - dh) + dn) = B ∧ g ≤ B ∧ u ≤ up ∧ d ≤ dn ∧ ((up = u ∧ dn = d) ∨ (B = g ∧ wrap64 (wrap64 (dn - d) - wrap64 (up - u)) ≤ 1 ∧ 0 ≤ wrap64 (wrap64 (dn - d) - wrap64 (up - u)))) := by
  obtain ⟨a1, a2⟩ := isLen_iff.1 hu
  obtain ⟨b1, b2⟩ := isLen_iff.1 hd
  obtain ⟨c1, c2⟩ := isLen_iff.1 hn
  obtain ⟨d1, d2⟩ := isLen_iff.1 hh
  obtain ⟨e1, e2⟩ := isLen_iff.1 h1
  obtain ⟨f1, f2⟩ := isLen_iff.1 h2
  obtain ⟨g1, g2⟩ := isLen_iff.1 h3
  have w1 : wrap64 dn = dn := by unfold wrap64; omega
  have w2 : wrap64 (up - nd) = up - nd := by unfold wrap64; omega
  have w3 : wrap64 (up - nd - dh) = up - nd - dh := by unfold wrap64; omega
  have w4 : wrap64 (up - nd - dh + dn) = up - nd - dh + dn := by unfold wrap64; omega
  have w5 : wrap64 (dn - d) = dn - d := by unfold wrap64; omega
  have w6 : wrap64 (up - u) = up - u := by unfold wrap64; omega
  have w7 : wrap64 (dn - d - (up - u)) = dn - d - (up - u) := by unfold wrap64; omega
  rw [w2, w3, w4, w5, w6, w7]
  refine ⟨w1, up - nd - dh + dn, rfl, ?_⟩
  clear w1 w2 w3 w4 w5 w6 w7 a1 a2 b1 b2 c1 c2 d1 d2 e1 e2 f1 f2 g1 g2 hu hd hn hh h1 h2 h3
  rcases h with ⟨h1, h2, h3⟩ | ⟨m, h0, h1, h2, h3⟩
  · exact ⟨by omega, by omega, by omega, .inl ⟨h1, h2⟩⟩
  · exact ⟨by omega, by omega, by omega, .inr ⟨by omega, by omega, by omega⟩⟩
theorem atop_nil (F : S36) (c z : Int) (num den : S39) (h : (atopV F c z num den).2.2.2.2.2.2.2 ≠ 0) : (atopV F c z num den).2.2.2.2.2.2.1 = [] := setGo_nil h

set_option maxRecDepth 100000 in
set_option maxHeartbeats 3000000 in
theorem law_atop (w : World) (F : S36) (c z : Int) (num den : S39) (hOn : Ok39 num) (hOd : Ok39 den) (cs : List Value) (Anum : Option Addr) (nnum : Nat) (Aden : Option Addr) (nden : Nat) (hF : FontIn w F cs) (hln : num.f6.length ≤ nnum) (hCn : Kd.C k49 w Anum num.f6.length num.f6) (hld : den.f6.length ≤ nden) (hCd : Kd.C k49 w Aden den.f6.length den.f6)
    (hpile : ∀ w : World, Calls Try.prog 20 #[] w fun r w' => r = .returned (.bool true) ∧ Below w.heap.size w w') :
    Calls Try.prog 5 #[.agg cs.toArray, .int .i64 c, .int .i64 z, .agg #[.int .i64 num.f0, .int .i64 num.f1, .int .i64 num.f2, .int .i64 num.f3, .int .i64 num.f4, .int .i64 num.f5, .slice Anum num.f6.length nnum], .agg #[.int .i64 den.f0, .int .i64 den.f1, .int .i64 den.f2, .int .i64 den.f3, .int .i64 den.f4, .int .i64 den.f5, .slice Aden den.f6.length nden]] w fun r w' => r = .returned (.bool true) ∧ Below w.heap.size w w' := by
  have hu39 := Try.underlying39
  have hu49 := Try.underlying49
  have hu36 := Try.underlying36
  have HF := Aside0.mk hF
  have HOn := Aside0.mk hOn
  have HOd := Aside0.mk hOd
  have HLn := Aside0.mk hln
  have HCn := Aside0.mk hCn
  have HLd := Aside0.mk hld
  have HCd := Aside0.mk hCd
  obtain ⟨A6, c6, A7, c7, A8, c8, A9, c9, A10, c10, A11, c11, A12, c12, A13, c13, A15, c15, A16, c16, hcs, hcr⟩ := id hF
  subst hcs
  clear hcr hOn hOd hln hCn hld hCd hF
  have HP := Aside0.mk (Pd.start w)
  go_enter Try.func5, Try.ntmps5
  go_wp2_with (first | ((with_reducible refine gate_dst (N := 5) rfl ?_); refine box_event ?hg (N := 5) ?hd (cs := #[.int .i64 F.f0.f0, .int .i64 F.f0.f1, .int .i64 F.f0.f2, .int .i64 F.f0.f3, .int .i64 F.f0.f4, .bool F.f0.f5, .slice A6 F.f1.length c6, .slice A7 F.f2.length c7, .slice A8 F.f3.length c8, .slice A9 F.f4.f0.length c9, .slice A10 F.f4.f1.length c10, .slice A11 F.f4.f2.length c11, .slice A12 F.f4.f3.length c12, .slice A13 F.f4.f4.length c13, .int .i64 F.f4.f5.f0, .slice A15 F.f4.f5.f1.length c15, .slice A16 F.f4.f5.f2.length c16]) (t := 36) ?hr ?_; (case hd => rfl); (case hg => rfl); (case hr => first | (go_simp; done) | (go_simp; rfl)); intro gf hg wk hbox hb; replace HP := Aside0.mk (Pd.box (by with_reducible repeat (first | exact HP.out | apply Pd.drew)) hg hbox hb); clear hg hbox hb) | ((with_reducible refine gate_dst (N := 8) rfl ?_); refine box_event ?hg (N := 8) ?hd (cs := #[.int .i64 num.f0, .int .i64 num.f1, .int .i64 num.f2, .int .i64 num.f3, .int .i64 num.f4, .int .i64 num.f5, .slice Anum num.f6.length nnum]) (t := 39) ?hr ?_; (case hd => rfl); (case hg => rfl); (case hr => first | (go_simp; done) | (go_simp; rfl)); intro gn hg wk hbox hb; replace HP := Aside0.mk (Pd.box (by with_reducible repeat (first | exact HP.out | apply Pd.drew)) hg hbox hb); clear hg hbox hb) | ((with_reducible refine gate_dst (N := 9) rfl ?_); refine box_event ?hg (N := 9) ?hd (cs := #[.int .i64 den.f0, .int .i64 den.f1, .int .i64 den.f2, .int .i64 den.f3, .int .i64 den.f4, .int .i64 den.f5, .slice Aden den.f6.length nden]) (t := 39) ?hr ?_; (case hd => rfl); (case hg => rfl); (case hr => first | (go_simp; done) | (go_simp; rfl)); intro gd hg wk hbox hb; replace HP := Aside0.mk (Pd.box (by with_reducible repeat (first | exact HP.out | apply Pd.drew)) hg hbox hb); clear hg hbox hb; have hsn := cells7 (Pd.hd (Pd.tl HP.out)); have hsd := cells7 (Pd.hd HP.out)) | ((with_reducible refine gate_dst (N := 23) rfl ?_); refine wpList_load_row rfl 36 (.tmp 5) rfl gf (by rfl) 36 #[.int .i64 F.f0.f0, .int .i64 F.f0.f1, .int .i64 F.f0.f2, .int .i64 F.f0.f3, .int .i64 F.f0.f4, .bool F.f0.f5, .slice A6 F.f1.length c6, .slice A7 F.f2.length c7, .slice A8 F.f3.length c8, .slice A9 F.f4.f0.length c9, .slice A10 F.f4.f1.length c10, .slice A11 F.f4.f2.length c11, .slice A12 F.f4.f3.length c12, .slice A13 F.f4.f4.length c13, .int .i64 F.f4.f5.f0, .slice A15 F.f4.f5.f1.length c15, .slice A16 F.f4.f5.f2.length c16] (0, 0) _ (Pd.hd (Pd.tl (Pd.tl HP.out))) hu36 rfl info_font ?_))
  clear hsn hsd
  refine (few_calls _ F num den HOn.out HOd.out _ Anum nnum Aden nden (HF.out.heap HP.out.bel) HLn.out (Kd.C_below HCn.out HP.out.bel) HLd.out (Kd.C_below HCd.out HP.out.bel)).mono ?_
  rintro _ w1 ⟨q, rfl, hb⟩
  replace HP := Aside0.mk (Pd.below HP.out hb)
  clear hb
  cases q with
  | false =>
    go_wp2
    go_ret
    exact ⟨rfl, HP.out.bel⟩
  | true =>
    have hsn := cells7 (Pd.hd (Pd.tl HP.out))
    have hsd := cells7 (Pd.hd HP.out)
    go_wp2_with (first | ((with_reducible refine gate_dst (N := 29) rfl ?_); refine wpList_load_row rfl 36 (.tmp 5) rfl gf (by rfl) 36 #[.int .i64 F.f0.f0, .int .i64 F.f0.f1, .int .i64 F.f0.f2, .int .i64 F.f0.f3, .int .i64 F.f0.f4, .bool F.f0.f5, .slice A6 F.f1.length c6, .slice A7 F.f2.length c7, .slice A8 F.f3.length c8, .slice A9 F.f4.f0.length c9, .slice A10 F.f4.f1.length c10, .slice A11 F.f4.f2.length c11, .slice A12 F.f4.f3.length c12, .slice A13 F.f4.f4.length c13, .int .i64 F.f4.f5.f0, .slice A15 F.f4.f5.f1.length c15, .slice A16 F.f4.f5.f2.length c16] (0, 0) _ (Pd.hd (Pd.tl (Pd.tl HP.out))) hu36 rfl info_font ?_))
    clear hsn hsd
    refine (atop_calls F c z num Anum nnum den Aden nden _ _ (HF.out.heap HP.out.bel) HLn.out (Kd.C_below HCn.out HP.out.bel) HLd.out (Kd.C_below HCd.out HP.out.bel)).mono ?_
    rintro _ w5 ⟨A5, n5, rfl, hl5, hC5, hb⟩
    replace HP := Aside0.mk (Pd.below HP.out hb)
    have HQ := Aside0.mk (Pd.start w5)
    clear hb
    have hS := atop_plain F c z num den
    have hN := atop_nil F c z num den
    obtain ⟨R, hR⟩ : ∃ R, R = atopV F c z num den := ⟨_, rfl⟩
    rw [← hR] at hl5 hC5 hS hN ⊢
    clear hR
    by_cases he : R.2.2.2.2.2.2.2 = 0
    · obtain ⟨hk1, hk2, hk3, ln, ld, lnd, ldh, up, dn, hh, dd, hV, lu, ldn, hcase⟩ := hS he
      have hwn := wneg ldn
      rw [hwn] at hV
      subst hV
      dsimp only at hl5 hC5 ⊢
      clear he hN hS hwn hl5
      have HC5 := Aside0.mk hC5
      obtain ⟨ad, hA⟩ := kid_ad hC5 (by simp)
      subst hA
      clear hC5
      have HY := Aside0.mk (atop_fin lu ldn lnd ldh (either_len F 22 c z) (either_len F 24 c z) (either_len F 26 c z) hcase)
      clear hcase ln ld lnd ldh lu ldn
      obtain ⟨K1, hK1⟩ : ∃ K, K = eitherV F 22 c z := ⟨_, rfl⟩
      rw [← hK1] at hk1 HY
      unfold eitherV at hK1
      obtain ⟨K2, hK2⟩ : ∃ K, K = eitherV F 24 c z := ⟨_, rfl⟩
      rw [← hK2] at hk2 HY
      unfold eitherV at hK2
      obtain ⟨K3, hK3⟩ : ∃ K, K = eitherV F 26 c z := ⟨_, rfl⟩
      rw [← hK3] at hk3 HY
      unfold eitherV at hK3
      by_cases hc : c < 2
      · have hd1 : decide (c < 2) = true := by simp; exact hc
        rw [if_pos hc, show wrap64 (22 + 1) = 23 by unfold wrap64; omega] at hK1
        have HK1 := Aside0.mk hK1
        clear hK1
        rw [if_pos hc, show wrap64 (24 + 1) = 25 by unfold wrap64; omega] at hK2
        have HK2 := Aside0.mk hK2
        clear hK2
        rw [if_pos hc, show wrap64 (26 + 1) = 27 by unfold wrap64; omega] at hK3
        have HK3 := Aside0.mk hK3
        clear hK3
        go_wp2_with (first | ((with_reducible refine gate_dst (N := 11) rfl ?_); refine box_event ?hg (N := 11) ?hd (cs := #[.int .i64 0, .int .i64 0, .int .i64 0, .int .i64 0, .int .i64 0, .int .i64 0, .slice none 0 0]) (t := 39) ?hr ?_; (case hd => rfl); (case hg => rfl); (case hr => first | (go_simp; done) | (go_simp; rfl)); intro g11 hg wk9 hbox hb; replace HP := Aside0.mk (Pd.box HP.out hg hbox hb); replace HQ := Aside0.mk (Pd.box HQ.out hg hbox hb); clear hg hbox hb; have hcz := cells7 (Pd.hd HP.out); have hfz := froz7 (Pd.hd HP.out)) | (have hgo := hcz; clear hgo; (with_reducible refine gate_dst (N := 49) rfl ?_); refine Pd.fold2 (Pd.st7 HP.out) (Pd.st7 HQ.out) ?_; intro W' h0 h1; replace HP := Aside0.mk h0; replace HQ := Aside0.mk h1; clear h0 h1 hcz hfz; refine wpList_load_row rfl 36 (.tmp 5) rfl gf (by rfl) 36 #[.int .i64 F.f0.f0, .int .i64 F.f0.f1, .int .i64 F.f0.f2, .int .i64 F.f0.f3, .int .i64 F.f0.f4, .bool F.f0.f5, .slice A6 F.f1.length c6, .slice A7 F.f2.length c7, .slice A8 F.f3.length c8, .slice A9 F.f4.f0.length c9, .slice A10 F.f4.f1.length c10, .slice A11 F.f4.f2.length c11, .slice A12 F.f4.f3.length c12, .slice A13 F.f4.f4.length c13, .int .i64 F.f4.f5.f0, .slice A15 F.f4.f5.f1.length c15, .slice A16 F.f4.f5.f2.length c16] (0, 0) _ (Pd.hd (Pd.tl (Pd.tl (Pd.tl HP.out)))) hu36 rfl info_font ?_))
        refine (konst_calls _ F _ 23 c z (HF.out.heap HP.out.bel)).mono ?_
        rintro _ w6 ⟨rfl, hb⟩
        rw [← HK1.out]
        replace HP := Aside0.mk (Pd.below HP.out hb)
        replace HQ := Aside0.mk (Pd.below HQ.out hb)
        clear hb
        go_wp2_with (first | ((with_reducible refine gate_dst (N := 58) rfl ?_); refine wpList_load_row rfl 36 (.tmp 5) rfl gf (by rfl) 36 #[.int .i64 F.f0.f0, .int .i64 F.f0.f1, .int .i64 F.f0.f2, .int .i64 F.f0.f3, .int .i64 F.f0.f4, .bool F.f0.f5, .slice A6 F.f1.length c6, .slice A7 F.f2.length c7, .slice A8 F.f3.length c8, .slice A9 F.f4.f0.length c9, .slice A10 F.f4.f1.length c10, .slice A11 F.f4.f2.length c11, .slice A12 F.f4.f3.length c12, .slice A13 F.f4.f4.length c13, .int .i64 F.f4.f5.f0, .slice A15 F.f4.f5.f1.length c15, .slice A16 F.f4.f5.f2.length c16] (0, 0) _ (Pd.hd (Pd.tl (Pd.tl (Pd.tl HP.out)))) hu36 rfl info_font ?_))
        refine (konst_calls _ F _ 25 c z (HF.out.heap HP.out.bel)).mono ?_
        rintro _ w6 ⟨rfl, hb⟩
        rw [← HK2.out]
        replace HP := Aside0.mk (Pd.below HP.out hb)
        replace HQ := Aside0.mk (Pd.below HQ.out hb)
        clear hb
        go_wp2_with (first | ((with_reducible refine gate_dst (N := 67) rfl ?_); refine wpList_load_row rfl 36 (.tmp 5) rfl gf (by rfl) 36 #[.int .i64 F.f0.f0, .int .i64 F.f0.f1, .int .i64 F.f0.f2, .int .i64 F.f0.f3, .int .i64 F.f0.f4, .bool F.f0.f5, .slice A6 F.f1.length c6, .slice A7 F.f2.length c7, .slice A8 F.f3.length c8, .slice A9 F.f4.f0.length c9, .slice A10 F.f4.f1.length c10, .slice A11 F.f4.f2.length c11, .slice A12 F.f4.f3.length c12, .slice A13 F.f4.f4.length c13, .int .i64 F.f4.f5.f0, .slice A15 F.f4.f5.f1.length c15, .slice A16 F.f4.f5.f2.length c16] (0, 0) _ (Pd.hd (Pd.tl (Pd.tl (Pd.tl HP.out)))) hu36 rfl info_font ?_))
        refine (konst_calls _ F _ 27 c z (HF.out.heap HP.out.bel)).mono ?_
        rintro _ w6 ⟨rfl, hb⟩
        rw [← HK3.out]
        replace HP := Aside0.mk (Pd.below HP.out hb)
        replace HQ := Aside0.mk (Pd.below HQ.out hb)
        clear hb
        have hs11 := cells7 (Pd.hd HP.out)
        have hsn := cells7 (Pd.hd (Pd.tl (Pd.tl HP.out)))
        have hsd := cells7 (Pd.hd (Pd.tl HP.out))
        obtain ⟨hx0, hy0⟩ := kid_xy HC5.out HQ.out.bel 0 (by simp)
        obtain ⟨hx1, hy1⟩ := kid_xy HC5.out HQ.out.bel 1 (by simp)
        clear hx0 hx1
        simp [Addr.add] at hy0 hy1
        obtain ⟨e1, B, e2, e3, e4, e5, e6⟩ := HY.out
        have H6 := Aside0.mk e6
        clear e6
        go_wp2_with fail
        clear hs11 hsn hsd hy0 hy1
        all_goals (refine (hpile _).mono ?_; rintro _ w7 ⟨rfl, hb⟩; replace HP := Aside0.mk (Pd.below HP.out hb); clear hb)
        all_goals (rcases H6.out with ⟨f1, f2⟩ | ⟨f1, f2, f3⟩)
        all_goals first | (exfalso; first | exact absurd f1 (by assumption) | (have f4 := ‹(dn == K2.1) = false›; rw [f2] at f4; simp at f4; done)) | skip
        all_goals try (have fu : up = K1.1 := (by assumption); rw [fu, Int.sub_self, show wrap64 0 = 0 by unfold wrap64; omega, Int.sub_zero] at f2 f3)
        all_goals go_wp2
        all_goals go_ret
        all_goals exact ⟨by first | rfl | simp [f1, f2, f3], HP.out.bel⟩
      · have hd1 : decide (c < 2) = false := by simp; omega
        rw [if_neg hc] at hK1
        have HK1 := Aside0.mk hK1
        clear hK1
        rw [if_neg hc] at hK2
        have HK2 := Aside0.mk hK2
        clear hK2
        rw [if_neg hc] at hK3
        have HK3 := Aside0.mk hK3
        clear hK3
        go_wp2_with (first | ((with_reducible refine gate_dst (N := 11) rfl ?_); refine box_event ?hg (N := 11) ?hd (cs := #[.int .i64 0, .int .i64 0, .int .i64 0, .int .i64 0, .int .i64 0, .int .i64 0, .slice none 0 0]) (t := 39) ?hr ?_; (case hd => rfl); (case hg => rfl); (case hr => first | (go_simp; done) | (go_simp; rfl)); intro g11 hg wk9 hbox hb; replace HP := Aside0.mk (Pd.box HP.out hg hbox hb); replace HQ := Aside0.mk (Pd.box HQ.out hg hbox hb); clear hg hbox hb; have hcz := cells7 (Pd.hd HP.out); have hfz := froz7 (Pd.hd HP.out)) | (have hgo := hcz; clear hgo; (with_reducible refine gate_dst (N := 49) rfl ?_); refine Pd.fold2 (Pd.st7 HP.out) (Pd.st7 HQ.out) ?_; intro W' h0 h1; replace HP := Aside0.mk h0; replace HQ := Aside0.mk h1; clear h0 h1 hcz hfz; refine wpList_load_row rfl 36 (.tmp 5) rfl gf (by rfl) 36 #[.int .i64 F.f0.f0, .int .i64 F.f0.f1, .int .i64 F.f0.f2, .int .i64 F.f0.f3, .int .i64 F.f0.f4, .bool F.f0.f5, .slice A6 F.f1.length c6, .slice A7 F.f2.length c7, .slice A8 F.f3.length c8, .slice A9 F.f4.f0.length c9, .slice A10 F.f4.f1.length c10, .slice A11 F.f4.f2.length c11, .slice A12 F.f4.f3.length c12, .slice A13 F.f4.f4.length c13, .int .i64 F.f4.f5.f0, .slice A15 F.f4.f5.f1.length c15, .slice A16 F.f4.f5.f2.length c16] (0, 0) _ (Pd.hd (Pd.tl (Pd.tl (Pd.tl HP.out)))) hu36 rfl info_font ?_))
        refine (konst_calls _ F _ 22 c z (HF.out.heap HP.out.bel)).mono ?_
        rintro _ w6 ⟨rfl, hb⟩
        rw [← HK1.out]
        replace HP := Aside0.mk (Pd.below HP.out hb)
        replace HQ := Aside0.mk (Pd.below HQ.out hb)
        clear hb
        go_wp2_with (first | ((with_reducible refine gate_dst (N := 58) rfl ?_); refine wpList_load_row rfl 36 (.tmp 5) rfl gf (by rfl) 36 #[.int .i64 F.f0.f0, .int .i64 F.f0.f1, .int .i64 F.f0.f2, .int .i64 F.f0.f3, .int .i64 F.f0.f4, .bool F.f0.f5, .slice A6 F.f1.length c6, .slice A7 F.f2.length c7, .slice A8 F.f3.length c8, .slice A9 F.f4.f0.length c9, .slice A10 F.f4.f1.length c10, .slice A11 F.f4.f2.length c11, .slice A12 F.f4.f3.length c12, .slice A13 F.f4.f4.length c13, .int .i64 F.f4.f5.f0, .slice A15 F.f4.f5.f1.length c15, .slice A16 F.f4.f5.f2.length c16] (0, 0) _ (Pd.hd (Pd.tl (Pd.tl (Pd.tl HP.out)))) hu36 rfl info_font ?_))
        refine (konst_calls _ F _ 24 c z (HF.out.heap HP.out.bel)).mono ?_
        rintro _ w6 ⟨rfl, hb⟩
        rw [← HK2.out]
        replace HP := Aside0.mk (Pd.below HP.out hb)
        replace HQ := Aside0.mk (Pd.below HQ.out hb)
        clear hb
        go_wp2_with (first | ((with_reducible refine gate_dst (N := 67) rfl ?_); refine wpList_load_row rfl 36 (.tmp 5) rfl gf (by rfl) 36 #[.int .i64 F.f0.f0, .int .i64 F.f0.f1, .int .i64 F.f0.f2, .int .i64 F.f0.f3, .int .i64 F.f0.f4, .bool F.f0.f5, .slice A6 F.f1.length c6, .slice A7 F.f2.length c7, .slice A8 F.f3.length c8, .slice A9 F.f4.f0.length c9, .slice A10 F.f4.f1.length c10, .slice A11 F.f4.f2.length c11, .slice A12 F.f4.f3.length c12, .slice A13 F.f4.f4.length c13, .int .i64 F.f4.f5.f0, .slice A15 F.f4.f5.f1.length c15, .slice A16 F.f4.f5.f2.length c16] (0, 0) _ (Pd.hd (Pd.tl (Pd.tl (Pd.tl HP.out)))) hu36 rfl info_font ?_))
        refine (konst_calls _ F _ 26 c z (HF.out.heap HP.out.bel)).mono ?_
        rintro _ w6 ⟨rfl, hb⟩
        rw [← HK3.out]
        replace HP := Aside0.mk (Pd.below HP.out hb)
        replace HQ := Aside0.mk (Pd.below HQ.out hb)
        clear hb
        have hs11 := cells7 (Pd.hd HP.out)
        have hsn := cells7 (Pd.hd (Pd.tl (Pd.tl HP.out)))
        have hsd := cells7 (Pd.hd (Pd.tl HP.out))
        obtain ⟨hx0, hy0⟩ := kid_xy HC5.out HQ.out.bel 0 (by simp)
        obtain ⟨hx1, hy1⟩ := kid_xy HC5.out HQ.out.bel 1 (by simp)
        clear hx0 hx1
        simp [Addr.add] at hy0 hy1
        obtain ⟨e1, B, e2, e3, e4, e5, e6⟩ := HY.out
        have H6 := Aside0.mk e6
        clear e6
        go_wp2_with fail
        clear hs11 hsn hsd hy0 hy1
        all_goals (refine (hpile _).mono ?_; rintro _ w7 ⟨rfl, hb⟩; replace HP := Aside0.mk (Pd.below HP.out hb); clear hb)
        all_goals (rcases H6.out with ⟨f1, f2⟩ | ⟨f1, f2, f3⟩)
        all_goals first | (exfalso; first | exact absurd f1 (by assumption) | (have f4 := ‹(dn == K2.1) = false›; rw [f2] at f4; simp at f4; done)) | skip
        all_goals try (have fu : up = K1.1 := (by assumption); rw [fu, Int.sub_self, show wrap64 0 = 0 by unfold wrap64; omega, Int.sub_zero] at f2 f3)
        all_goals go_wp2
        all_goals go_ret
        all_goals exact ⟨by first | rfl | simp [f1, f2, f3], HP.out.bel⟩
    · have hn0 := hN he
      have hlen : R.2.2.2.2.2.2.1.length = 0 := by rw [hn0]; rfl
      have HE := Aside0.mk he
      clear hN hS hl5 hC5 hn0
      go_wp2_with (first | ((with_reducible refine gate_dst (N := 11) rfl ?_); refine box_event ?hg (N := 11) ?hd (cs := #[.int .i64 0, .int .i64 0, .int .i64 0, .int .i64 0, .int .i64 0, .int .i64 0, .slice none 0 0]) (t := 39) ?hr ?_; (case hd => rfl); (case hg => rfl); (case hr => first | (go_simp; done) | (go_simp; rfl)); intro g11 hg wk9 hbox hb; replace HP := Aside0.mk (Pd.box HP.out hg hbox hb); clear hg hbox hb; have hcz := cells7 (Pd.hd HP.out); have hfz := froz7 (Pd.hd HP.out)))
      clear hcz hfz
      refine (hpile _).mono ?_
      rintro _ w7 ⟨rfl, hb⟩
      replace HP := Aside0.mk (Pd.below (Pd.st7 HP.out) hb)
      clear hb
      have hs11 := cells7 (Pd.hd HP.out)
      go_wp2
      go_ret
      exact ⟨rfl, HP.out.bel⟩
end Go.Proofs.Ytjkbblnebpgpfaa.P
