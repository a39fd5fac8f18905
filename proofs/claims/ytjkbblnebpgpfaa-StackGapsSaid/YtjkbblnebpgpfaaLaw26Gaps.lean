import Derived.Test.YtjkbblnebpgpfaaCB
import Derived.Test.YtjkbblnebpgpfaaE13
import Derived.Test.YtjkbblnebpgpfaaE15
import Derived.Test.YtjkbblnebpgpfaaGaps1
/- The law StackGaps: what it asks, and the walk. Printed by a program of this work (mkgaps26.py). -/
namespace Go.Proofs.Ytjkbblnebpgpfaa.P
open Go.RowKit Go.Proofs.YtjkbblnebpgpfaaW.PrintWords Go.Proofs.YtjkbblnebpgpfaaW.PrintLast Go.Proofs.YtjkbblnebpgpfaaW.PrintMore
set_option linter.unusedVariables false
set_option linter.unusedSimpArgs false

theorem Pd.fold2C {P : Program} {C : Code} {a : Act} {Q : Exit → Act → World → Prop} {w v W : World} {L M : List (Nat × Obj)} (h : Pd w W L) (h2 : Pd v W M) (k : ∀ W', Pd w W' L → Pd v W' M → Code.wp P C Q a W') : Code.wp P C Q a W := k W h h2
/-- A fraction's numbers, as the law asks of them. -/
def GapOk (up dn tp bo nd dh K1 K2 K3 : Int) : Prop := ∃ U D, wrap64 (wrap64 (up - nd) - tp) = U ∧ wrap64 (wrap64 bo - wrap64 (-dn + dh)) = D ∧ K1 ≤ U ∧ K2 ≤ D ∧ wrap64 (tp + -bo) = K3
theorem gap_ok {up dn tp bo nd dh K1 K2 K3 : Int} (h1 : isLen up = true) (h2 : isLen dn = true) (h3 : isLen tp = true) (h4 : isLen bo = true) (h5 : isLen nd = true) (h6 : isLen dh = true) (e1 : tp = bo + K3) (e2 : tp + K1 + nd ≤ up) (e3 : dh + K2 - bo ≤ dn) : GapOk up dn tp bo nd dh K1 K2 K3 := by
  obtain ⟨a1, b1⟩ := isLen_iff.1 h1
  obtain ⟨a2, b2⟩ := isLen_iff.1 h2
  obtain ⟨a3, b3⟩ := isLen_iff.1 h3
  obtain ⟨a4, b4⟩ := isLen_iff.1 h4
  obtain ⟨a5, b5⟩ := isLen_iff.1 h5
  obtain ⟨a6, b6⟩ := isLen_iff.1 h6
  have w1 : wrap64 (up - nd) = up - nd := by unfold wrap64; omega
  have w2 : wrap64 (up - nd - tp) = up - nd - tp := by unfold wrap64; omega
  have w3 : wrap64 bo = bo := by unfold wrap64; omega
  have w4 : wrap64 (-dn + dh) = -dn + dh := by unfold wrap64; omega
  have w5 : wrap64 (bo - (-dn + dh)) = bo - (-dn + dh) := by unfold wrap64; omega
  have w6 : wrap64 (tp + -bo) = tp + -bo := by unfold wrap64; omega
  refine ⟨_, _, rfl, rfl, ?_, ?_, ?_⟩
  · rw [w1, w2]; omega
  · rw [w3, w4, w5]; omega
  · rw [w6]; omega
theorem frac_set (F : S36) (c z : Int) (num den : S39) : ∃ e w l, fracV F c z num den = setV e w l := ⟨_, _, _, rfl⟩
theorem frac_nil (F : S36) (c z : Int) (num den : S39) (h : (fracV F c z num den).2.2.2.2.2.2.2 ≠ 0) : (fracV F c z num den).2.2.2.2.2.2.1 = [] ∧ (fracV F c z num den).2.1 = 0 := by
  obtain ⟨e, w, l, hs⟩ := frac_set F c z num den
  rw [hs] at h ⊢
  unfold setV setR at h ⊢
  split at h
  · next he =>
    rw [if_pos he]
    cases hg : setGo l 0 0 with
    | error e' => exact ⟨rfl, rfl⟩
    | ok p =>
      obtain ⟨H, D⟩ := p
      rw [hg] at h
      simp only [setEnd] at h ⊢
      split at h
      · next hw =>
        rw [if_pos hw]
        split at h
        · exact absurd rfl h
        · next hl => rw [if_neg hl]; exact ⟨rfl, rfl⟩
      · next hw => rw [if_neg hw]; exact ⟨rfl, rfl⟩
  · next he => rw [if_neg he]; exact ⟨rfl, rfl⟩
theorem frac_gaps (F : S36) (c z : Int) (num den : S39) (h : (fracV F c z num den).2.2.2.2.2.2.2 = 0) :
    ∃ hh dd up dn tp bo X0 X2, fracV F c z num den = (3, mx num.f1 den.f1, hh, dd, 0, 0, [⟨X0, up, num⟩, ⟨0, 0, ⟨2, mx num.f1 den.f1, tp, -bo, 0, 0, []⟩⟩, ⟨X2, -dn, den⟩], 0) ∧ (eitherV F 36 c z).2 = 0 ∧ (eitherV F 39 c z).2 = 0 ∧ (konstV F 38 c z).2 = 0 ∧
      GapOk up dn tp bo num.f3 den.f2 (eitherV F 36 c z).1 (eitherV F 39 c z).1 (konstV F 38 c z).1 ∧
      (Right num → Right den → Right ⟨3, mx num.f1 den.f1, hh, dd, 0, 0, [⟨X0, up, num⟩, ⟨0, 0, ⟨2, mx num.f1 den.f1, tp, -bo, 0, 0, []⟩⟩, ⟨X2, -dn, den⟩]⟩) := by
  obtain ⟨q1, q2, q3, ln, ld, lnd, ldh, up, dn, tp, bo, hh, dd, hV, lup, ldn, ltp, lbo, e1, e2, e3⟩ := frac_plain F c z num den h
  refine ⟨hh, dd, up, dn, tp, bo, _, _, hV, q2, q3, q1, gap_ok lup ldn ltp lbo lnd ldh e1 e2 e3, fun hn hd => ?_⟩
  obtain ⟨e, w, l, hs⟩ := frac_set F c z num den
  rw [hs] at hV
  refine set_right hV fun k hk => ?_
  simp only [List.mem_cons, List.not_mem_nil, or_false] at hk
  rcases hk with rfl | rfl | rfl
  · exact hn
  · exact right_rule (mx_len ln ld) ltp (isLen_neg lbo)
  · exact hd
theorem kid_nine {w W : World} {ad : Addr} {xs : List S49} (h : Kd.C k49 w (some ad) xs.length xs) (hb : Below w.heap.size w W) (kk : Nat) (hk : kk < xs.length) :
    W.cell? (ad.add (kk * 9)) = some (.int .i64 xs[kk].f0) ∧ W.cell? ⟨(ad.add (kk * 9)).block, (ad.add (kk * 9)).off + 1, none⟩ = some (.int .i64 xs[kk].f1) ∧ W.cell? ⟨(ad.add (kk * 9)).block, (ad.add (kk * 9)).off + 2, none⟩ = some (.int .i64 xs[kk].f2.f0) ∧ W.cell? ⟨(ad.add (kk * 9)).block, (ad.add (kk * 9)).off + 3, none⟩ = some (.int .i64 xs[kk].f2.f1) ∧ W.cell? ⟨(ad.add (kk * 9)).block, (ad.add (kk * 9)).off + 4, none⟩ = some (.int .i64 xs[kk].f2.f2) ∧ W.cell? ⟨(ad.add (kk * 9)).block, (ad.add (kk * 9)).off + 5, none⟩ = some (.int .i64 xs[kk].f2.f3) ∧ W.cell? ⟨(ad.add (kk * 9)).block, (ad.add (kk * 9)).off + 6, none⟩ = some (.int .i64 xs[kk].f2.f4) ∧ W.cell? ⟨(ad.add (kk * 9)).block, (ad.add (kk * 9)).off + 7, none⟩ = some (.int .i64 xs[kk].f2.f5) ∧ ∃ A8 c8, W.cell? ⟨(ad.add (kk * 9)).block, (ad.add (kk * 9)).off + 8, none⟩ = some (.slice A8 xs[kk].f2.f6.length c8) := by
  obtain ⟨ad', A8, c8, hA, _, _, hW⟩ := kid_keep h kk hk
  cases hA
  obtain ⟨h0, h1, h2, h3, h4, h5, h6, h7, h8⟩ := hW W hb
  exact ⟨h0, h1, h2, h3, h4, h5, h6, h7, A8, c8, h8⟩

set_option maxRecDepth 100000 in
set_option maxHeartbeats 3000000 in
theorem law_gaps (w : World) (F : S36) (c z : Int) (num den : S39) (hOn : Ok39 num) (hOd : Ok39 den) (cs : List Value) (Anum : Option Addr) (nnum : Nat) (Aden : Option Addr) (nden : Nat) (hF : FontIn w F cs) (hln : num.f6.length ≤ nnum) (hCn : Kd.C k49 w Anum num.f6.length num.f6) (hld : den.f6.length ≤ nden) (hCd : Kd.C k49 w Aden den.f6.length den.f6)
    (hpile : ∀ w : World, Calls Try.prog 20 #[] w fun r w' => r = .returned (.bool true) ∧ Below w.heap.size w w') :
    Calls Try.prog 11 #[.agg cs.toArray, .int .i64 c, .int .i64 z, .agg #[.int .i64 num.f0, .int .i64 num.f1, .int .i64 num.f2, .int .i64 num.f3, .int .i64 num.f4, .int .i64 num.f5, .slice Anum num.f6.length nnum], .agg #[.int .i64 den.f0, .int .i64 den.f1, .int .i64 den.f2, .int .i64 den.f3, .int .i64 den.f4, .int .i64 den.f5, .slice Aden den.f6.length nden]] w fun r w' => r = .returned (.bool true) ∧ Below w.heap.size w w' := by
  have hu39 := Try.underlying39
  have hu49 := Try.underlying49
  have hu36 := Try.underlying36
  have HF := Aside0.mk hF
  have HOn := Aside0.mk hOn
  have HOd := Aside0.mk hOd
  have HLn := Aside0.mk hln
  have HCn := Aside0.mk hCn
  have HLd := Aside0.mk hld
  have HCd := Aside0.mk hCd
  obtain ⟨A6, c6, A7, c7, A8, c8, A9, c9, A10, c10, A11, c11, A12, c12, A13, c13, A15, c15, A16, c16, hcs, hcr⟩ := id hF
  subst hcs
  clear hcr hOn hOd hln hCn hld hCd hF
  have HP := Aside0.mk (Pd.start w)
  go_enter Try.func11, Try.ntmps11
  go_wp2_with (first | ((with_reducible refine gate_dst (N := 5) rfl ?_); refine box_event ?hg (N := 5) ?hd (cs := #[.int .i64 F.f0.f0, .int .i64 F.f0.f1, .int .i64 F.f0.f2, .int .i64 F.f0.f3, .int .i64 F.f0.f4, .bool F.f0.f5, .slice A6 F.f1.length c6, .slice A7 F.f2.length c7, .slice A8 F.f3.length c8, .slice A9 F.f4.f0.length c9, .slice A10 F.f4.f1.length c10, .slice A11 F.f4.f2.length c11, .slice A12 F.f4.f3.length c12, .slice A13 F.f4.f4.length c13, .int .i64 F.f4.f5.f0, .slice A15 F.f4.f5.f1.length c15, .slice A16 F.f4.f5.f2.length c16]) (t := 36) ?hr ?_; (case hd => rfl); (case hg => rfl); (case hr => first | (go_simp; done) | (go_simp; rfl)); intro gf hg wk hbox hb; replace HP := Aside0.mk (Pd.box (by with_reducible repeat (first | exact HP.out | apply Pd.drew)) hg hbox hb); clear hg hbox hb) | ((with_reducible refine gate_dst (N := 8) rfl ?_); refine box_event ?hg (N := 8) ?hd (cs := #[.int .i64 num.f0, .int .i64 num.f1, .int .i64 num.f2, .int .i64 num.f3, .int .i64 num.f4, .int .i64 num.f5, .slice Anum num.f6.length nnum]) (t := 39) ?hr ?_; (case hd => rfl); (case hg => rfl); (case hr => first | (go_simp; done) | (go_simp; rfl)); intro gn hg wk hbox hb; replace HP := Aside0.mk (Pd.box (by with_reducible repeat (first | exact HP.out | apply Pd.drew)) hg hbox hb); clear hg hbox hb) | ((with_reducible refine gate_dst (N := 9) rfl ?_); refine box_event ?hg (N := 9) ?hd (cs := #[.int .i64 den.f0, .int .i64 den.f1, .int .i64 den.f2, .int .i64 den.f3, .int .i64 den.f4, .int .i64 den.f5, .slice Aden den.f6.length nden]) (t := 39) ?hr ?_; (case hd => rfl); (case hg => rfl); (case hr => first | (go_simp; done) | (go_simp; rfl)); intro gd hg wk hbox hb; replace HP := Aside0.mk (Pd.box (by with_reducible repeat (first | exact HP.out | apply Pd.drew)) hg hbox hb); clear hg hbox hb; have hsn := cells7 (Pd.hd (Pd.tl HP.out)); have hsd := cells7 (Pd.hd HP.out)) | ((with_reducible refine gate_dst (N := 25) rfl ?_); refine wpList_load_row rfl 36 (.tmp 5) rfl gf (by rfl) 36 #[.int .i64 F.f0.f0, .int .i64 F.f0.f1, .int .i64 F.f0.f2, .int .i64 F.f0.f3, .int .i64 F.f0.f4, .bool F.f0.f5, .slice A6 F.f1.length c6, .slice A7 F.f2.length c7, .slice A8 F.f3.length c8, .slice A9 F.f4.f0.length c9, .slice A10 F.f4.f1.length c10, .slice A11 F.f4.f2.length c11, .slice A12 F.f4.f3.length c12, .slice A13 F.f4.f4.length c13, .int .i64 F.f4.f5.f0, .slice A15 F.f4.f5.f1.length c15, .slice A16 F.f4.f5.f2.length c16] (0, 0) _ (Pd.hd (Pd.tl (Pd.tl HP.out))) hu36 rfl info_font ?_))
  clear hsn hsd
  refine (few_calls _ F num den HOn.out HOd.out _ Anum nnum Aden nden (HF.out.heap HP.out.bel) HLn.out (Kd.C_below HCn.out HP.out.bel) HLd.out (Kd.C_below HCd.out HP.out.bel)).mono ?_
  rintro _ w1 ⟨q, rfl, hb⟩
  replace HP := Aside0.mk (Pd.below HP.out hb)
  clear hb
  cases q with
  | false =>
    go_wp2
    go_ret
    exact ⟨rfl, HP.out.bel⟩
  | true =>
    have hsn := cells7 (Pd.hd (Pd.tl HP.out))
    have hsd := cells7 (Pd.hd HP.out)
    go_wp2_with (first | ((with_reducible refine gate_dst (N := 31) rfl ?_); refine wpList_load_row rfl 36 (.tmp 5) rfl gf (by rfl) 36 #[.int .i64 F.f0.f0, .int .i64 F.f0.f1, .int .i64 F.f0.f2, .int .i64 F.f0.f3, .int .i64 F.f0.f4, .bool F.f0.f5, .slice A6 F.f1.length c6, .slice A7 F.f2.length c7, .slice A8 F.f3.length c8, .slice A9 F.f4.f0.length c9, .slice A10 F.f4.f1.length c10, .slice A11 F.f4.f2.length c11, .slice A12 F.f4.f3.length c12, .slice A13 F.f4.f4.length c13, .int .i64 F.f4.f5.f0, .slice A15 F.f4.f5.f1.length c15, .slice A16 F.f4.f5.f2.length c16] (0, 0) _ (Pd.hd (Pd.tl (Pd.tl HP.out))) hu36 rfl info_font ?_))
    clear hsn hsd
    refine (frac_calls F c z num Anum nnum den Aden nden _ _ (HF.out.heap HP.out.bel) HLn.out (Kd.C_below HCn.out HP.out.bel) HLd.out (Kd.C_below HCd.out HP.out.bel)).mono ?_
    rintro _ w5 ⟨A5, n5, rfl, hl5, hC5, hb⟩
    replace HP := Aside0.mk (Pd.below HP.out hb)
    have HQ := Aside0.mk (Pd.start w5)
    clear hb
    have hS := frac_gaps F c z num den
    simp only [mx_max] at hS
    have hN := frac_nil F c z num den
    obtain ⟨R, hR⟩ : ∃ R, R = fracV F c z num den := ⟨_, rfl⟩
    rw [← hR] at hl5 hC5 hS hN ⊢
    clear hR
    by_cases he : R.2.2.2.2.2.2.2 = 0
    · obtain ⟨hh, dd, up, dn, tp, bo, X0, X2, hV, hk1, hk2, hk3, hG, hright⟩ := hS he
      subst hV
      dsimp only at hl5 hC5 ⊢
      clear he hN hS
      have HL5 := Aside0.mk hl5
      have HC5 := Aside0.mk hC5
      obtain ⟨ad, hA⟩ := kid_ad hC5 (by simp)
      subst hA
      clear hC5 hl5
      have HG := Aside0.mk hG
      have HRI := Aside0.mk hright
      clear hG hright
      obtain ⟨K1, hK1⟩ : ∃ K, K = eitherV F 36 c z := ⟨_, rfl⟩
      rw [← hK1] at hk1 HG
      unfold eitherV at hK1
      obtain ⟨K2, hK2⟩ : ∃ K, K = eitherV F 39 c z := ⟨_, rfl⟩
      rw [← hK2] at hk2 HG
      unfold eitherV at hK2
      obtain ⟨K3, hK3⟩ : ∃ K, K = konstV F 38 c z := ⟨_, rfl⟩
      rw [← hK3] at hk3 HG
      have HK3 := Aside0.mk hK3
      clear hK3
      by_cases hc : c < 2
      · have hd1 : decide (c < 2) = true := by simp; exact hc
        rw [if_pos hc, show wrap64 (36 + 1) = 37 by unfold wrap64; omega] at hK1
        have HK1 := Aside0.mk hK1
        clear hK1
        rw [if_pos hc, show wrap64 (39 + 1) = 40 by unfold wrap64; omega] at hK2
        have HK2 := Aside0.mk hK2
        clear hK2
        go_wp2_with (first | ((with_reducible refine gate_dst (N := 11) rfl ?_); refine box_event ?hg (N := 11) ?hd (cs := #[.int .i64 0, .int .i64 0, .int .i64 0, .int .i64 0, .int .i64 0, .int .i64 0, .slice none 0 0]) (t := 39) ?hr ?_; (case hd => rfl); (case hg => rfl); (case hr => first | (go_simp; done) | (go_simp; rfl)); intro g11 hg wk9 hbox hb; replace HP := Aside0.mk (Pd.box HP.out hg hbox hb); replace HQ := Aside0.mk (Pd.box HQ.out hg hbox hb); clear hg hbox hb; have hcz := cells7 (Pd.hd HP.out); have hfz := froz7 (Pd.hd HP.out)) | (have hgo := hcz; clear hgo; (with_reducible refine gate_dst (N := 56) rfl ?_); refine Pd.fold2 (Pd.st7 HP.out) (Pd.st7 HQ.out) ?_; intro W' h0 h1; replace HP := Aside0.mk h0; replace HQ := Aside0.mk h1; clear h0 h1 hcz hfz; refine wpList_load_row rfl 36 (.tmp 5) rfl gf (by rfl) 36 #[.int .i64 F.f0.f0, .int .i64 F.f0.f1, .int .i64 F.f0.f2, .int .i64 F.f0.f3, .int .i64 F.f0.f4, .bool F.f0.f5, .slice A6 F.f1.length c6, .slice A7 F.f2.length c7, .slice A8 F.f3.length c8, .slice A9 F.f4.f0.length c9, .slice A10 F.f4.f1.length c10, .slice A11 F.f4.f2.length c11, .slice A12 F.f4.f3.length c12, .slice A13 F.f4.f4.length c13, .int .i64 F.f4.f5.f0, .slice A15 F.f4.f5.f1.length c15, .slice A16 F.f4.f5.f2.length c16] (0, 0) _ (Pd.hd (Pd.tl (Pd.tl (Pd.tl HP.out)))) hu36 rfl info_font ?_))
        refine (konst_calls _ F _ 37 c z (HF.out.heap HP.out.bel)).mono ?_
        rintro _ w6 ⟨rfl, hb⟩
        rw [← HK1.out]
        replace HP := Aside0.mk (Pd.below HP.out hb)
        replace HQ := Aside0.mk (Pd.below HQ.out hb)
        clear hb
        go_wp2_with (first | ((with_reducible refine gate_dst (N := 64) rfl ?_); refine wpList_load_row rfl 36 (.tmp 5) rfl gf (by rfl) 36 #[.int .i64 F.f0.f0, .int .i64 F.f0.f1, .int .i64 F.f0.f2, .int .i64 F.f0.f3, .int .i64 F.f0.f4, .bool F.f0.f5, .slice A6 F.f1.length c6, .slice A7 F.f2.length c7, .slice A8 F.f3.length c8, .slice A9 F.f4.f0.length c9, .slice A10 F.f4.f1.length c10, .slice A11 F.f4.f2.length c11, .slice A12 F.f4.f3.length c12, .slice A13 F.f4.f4.length c13, .int .i64 F.f4.f5.f0, .slice A15 F.f4.f5.f1.length c15, .slice A16 F.f4.f5.f2.length c16] (0, 0) _ (Pd.hd (Pd.tl (Pd.tl (Pd.tl HP.out)))) hu36 rfl info_font ?_))
        refine (konst_calls _ F _ 40 c z (HF.out.heap HP.out.bel)).mono ?_
        rintro _ w6 ⟨rfl, hb⟩
        rw [← HK2.out]
        replace HP := Aside0.mk (Pd.below HP.out hb)
        replace HQ := Aside0.mk (Pd.below HQ.out hb)
        clear hb
        go_wp2_with (first | ((with_reducible refine gate_dst (N := 72) rfl ?_); refine wpList_load_row rfl 36 (.tmp 5) rfl gf (by rfl) 36 #[.int .i64 F.f0.f0, .int .i64 F.f0.f1, .int .i64 F.f0.f2, .int .i64 F.f0.f3, .int .i64 F.f0.f4, .bool F.f0.f5, .slice A6 F.f1.length c6, .slice A7 F.f2.length c7, .slice A8 F.f3.length c8, .slice A9 F.f4.f0.length c9, .slice A10 F.f4.f1.length c10, .slice A11 F.f4.f2.length c11, .slice A12 F.f4.f3.length c12, .slice A13 F.f4.f4.length c13, .int .i64 F.f4.f5.f0, .slice A15 F.f4.f5.f1.length c15, .slice A16 F.f4.f5.f2.length c16] (0, 0) _ (Pd.hd (Pd.tl (Pd.tl (Pd.tl HP.out)))) hu36 rfl info_font ?_))
        refine (konst_calls _ F _ 38 c z (HF.out.heap HP.out.bel)).mono ?_
        rintro _ w6 ⟨rfl, hb⟩
        rw [← HK3.out]
        replace HP := Aside0.mk (Pd.below HP.out hb)
        replace HQ := Aside0.mk (Pd.below HQ.out hb)
        clear hb
        have hs11 := cells7 (Pd.hd HP.out)
        obtain ⟨u0, u1, u2, u3, u4, u5, u6, u7, A18, n18, u8⟩ := kid_nine HC5.out HQ.out.bel 1 (by simp)
        simp [Addr.add] at u0 u1 u2 u3 u4 u5 u6 u7 u8
        replace u3 : w6.cell? ⟨ad.block, ad.off + 9 + 2 + 1, none⟩ = some (.int .i64 (max num.f1 den.f1)) := u3
        replace u4 : w6.cell? ⟨ad.block, ad.off + 9 + 2 + 2, none⟩ = some (.int .i64 tp) := u4
        replace u5 : w6.cell? ⟨ad.block, ad.off + 9 + 2 + 3, none⟩ = some (.int .i64 (-bo)) := u5
        replace u6 : w6.cell? ⟨ad.block, ad.off + 9 + 2 + 4, none⟩ = some (.int .i64 0) := u6
        replace u7 : w6.cell? ⟨ad.block, ad.off + 9 + 2 + 5, none⟩ = some (.int .i64 0) := u7
        replace u8 : w6.cell? ⟨ad.block, ad.off + 9 + 2 + 6, none⟩ = some (.slice A18 0 n18) := u8
        go_wp2_with (first | ((with_reducible refine gate_dst (N := 21) rfl ?_); refine box_event ?hg (N := 21) ?hd (cs := #[.int .i64 0, .int .i64 0, .int .i64 0, .int .i64 0, .int .i64 0, .int .i64 0, .slice none 0 0]) (t := 39) ?hr ?_; (case hd => rfl); (case hg => rfl); (case hr => first | (go_simp; done) | (go_simp; rfl)); intro g21 hg wk9 hbox hb; replace HP := Aside0.mk (Pd.box HP.out hg hbox hb); replace HQ := Aside0.mk (Pd.box HQ.out hg hbox hb); clear hg hbox hb; have hcz := cells7 (Pd.hd HP.out); have hfz := froz7 (Pd.hd HP.out)))
        refine Pd.fold2C (Pd.st7 HP.out) (Pd.st7 HQ.out) ?_
        intro W' h0 h1
        replace HP := Aside0.mk h0
        replace HQ := Aside0.mk h1
        clear h0 h1 hcz hfz hs11 u0 u1 u2 u3 u4 u5 u6 u7 u8
        have hs21 := cells7 (Pd.hd HP.out)
        have hs11 := cells7 (Pd.hd (Pd.tl HP.out))
        have hsd := cells7 (Pd.hd (Pd.tl (Pd.tl HP.out)))
        have hsn := cells7 (Pd.hd (Pd.tl (Pd.tl (Pd.tl HP.out))))
        obtain ⟨hx0, hy0⟩ := kid_xy HC5.out HQ.out.bel 0 (by simp)
        obtain ⟨hx2, hy2⟩ := kid_xy HC5.out HQ.out.bel 2 (by simp)
        clear hx0 hx2
        simp [Addr.add] at hy0 hy2
        go_region_held3 (fun w' => w'.cell? ⟨g11, 6, none⟩ = some (.slice (some ad) 3 n5) ∧ w'.cell? ⟨ad.block, ad.off + 1, none⟩ = some (.int .i64 up) ∧ w'.cell? ⟨gn, 3, none⟩ = some (.int .i64 num.f3) ∧ w'.cell? ⟨g21, 2, none⟩ = some (.int .i64 tp)) (exact ⟨hs11.2.2.2.2.2.2, hy0, hsn.2.2.2.1, hs21.2.2.1⟩) (fail)
        go_wp2_with fail
        go_region_held3 (fun w' => w'.cell? ⟨g11, 6, none⟩ = some (.slice (some ad) 3 n5) ∧ w'.cell? ⟨ad.block, ad.off + 18 + 1, none⟩ = some (.int .i64 (-dn)) ∧ w'.cell? ⟨gd, 2, none⟩ = some (.int .i64 den.f2) ∧ w'.cell? ⟨g21, 3, none⟩ = some (.int .i64 (-bo))) (exact ⟨hs11.2.2.2.2.2.2, hy2, hsd.2.2.1, hs21.2.2.2.1⟩) (fail)
        go_wp2_with fail
        replace HP := Aside0.mk (Pd.drew (Pd.drew HP.out))
        replace HQ := Aside0.mk (Pd.drew (Pd.drew HQ.out))
        clear hs21 hs11 hsd hsn hy0 hy2
        refine (check_calls _ num (Nat.lt_succ_self _) _ Anum nnum HLn.out (Kd.C_below HCn.out HP.out.bel)).mono ?_
        rintro _ w7 ⟨rfl, hb⟩
        replace HP := Aside0.mk (Pd.below HP.out hb)
        replace HQ := Aside0.mk (Pd.below HQ.out hb)
        clear hb
        obtain ⟨G1, hG1⟩ : ∃ G, G = checkV (SizeOf.sizeOf num).succ num := ⟨_, rfl⟩
        rw [← hG1]
        have HG1 := Aside0.mk hG1
        clear hG1
        by_cases e1 : G1 = 0
        · have k1 : (G1 == 0) = true := by simp [e1]
          have HR1 := Aside0.mk (check_right (Nat.lt_succ_self _) (HG1.out.symm.trans e1))
          clear e1
          have hsd := cells7 (Pd.hd (Pd.tl (Pd.tl HP.out)))
          go_wp2_with fail
          clear hsd
          refine (check_calls _ den (Nat.lt_succ_self _) _ Aden nden HLd.out (Kd.C_below HCd.out HP.out.bel)).mono ?_
          rintro _ w7 ⟨rfl, hb⟩
          replace HP := Aside0.mk (Pd.below HP.out hb)
          replace HQ := Aside0.mk (Pd.below HQ.out hb)
          clear hb
          obtain ⟨G2, hG2⟩ : ∃ G, G = checkV (SizeOf.sizeOf den).succ den := ⟨_, rfl⟩
          rw [← hG2]
          have HG2 := Aside0.mk hG2
          clear hG2
          by_cases e2 : G2 = 0
          · have k2 : (G2 == 0) = true := by simp [e2]
            have HR2 := Aside0.mk (check_right (Nat.lt_succ_self _) (HG2.out.symm.trans e2))
            clear e2
            have hs11 := cells7 (Pd.hd (Pd.tl HP.out))
            go_wp2_with fail
            clear hs11
            refine (check_calls _ (⟨3, max num.f1 den.f1, hh, dd, 0, 0, [⟨X0, up, num⟩, ⟨0, 0, ⟨2, max num.f1 den.f1, tp, -bo, 0, 0, []⟩⟩, ⟨X2, -dn, den⟩]⟩ : S39) (Nat.lt_succ_self _) _ (some ad) n5 HL5.out (Kd.C_below HC5.out HQ.out.bel)).mono ?_
            rintro _ w7 ⟨rfl, hb⟩
            replace HP := Aside0.mk (Pd.below HP.out hb)
            replace HQ := Aside0.mk (Pd.below HQ.out hb)
            clear hb
            obtain ⟨G3, hG3⟩ : ∃ G, G = checkV (SizeOf.sizeOf (⟨3, max num.f1 den.f1, hh, dd, 0, 0, [⟨X0, up, num⟩, ⟨0, 0, ⟨2, max num.f1 den.f1, tp, -bo, 0, 0, []⟩⟩, ⟨X2, -dn, den⟩]⟩ : S39)).succ (⟨3, max num.f1 den.f1, hh, dd, 0, 0, [⟨X0, up, num⟩, ⟨0, 0, ⟨2, max num.f1 den.f1, tp, -bo, 0, 0, []⟩⟩, ⟨X2, -dn, den⟩]⟩ : S39) := ⟨_, rfl⟩
            rw [← hG3]
            have k3 : (G3 == 5) = false := by rw [hG3]; simpa using right_check (Nat.lt_succ_self _) (HRI.out HR1.out HR2.out)
            clear hG3
            obtain ⟨U, D, eU, eD, g1, g2, g3⟩ := HG.out
            have HE := Aside0.mk (show U ≥ K1.1 ∧ D ≥ K2.1 from ⟨g1, g2⟩)
            go_wp2_with fail
            refine (hpile _).mono ?_
            rintro _ w8 ⟨rfl, hb⟩
            replace HP := Aside0.mk (Pd.below HP.out hb)
            clear hb
            have hs21 := cells7 (Pd.hd HP.out)
            have hs11 := cells7 (Pd.hd (Pd.tl HP.out))
            have hsd := cells7 (Pd.hd (Pd.tl (Pd.tl HP.out)))
            have hsn := cells7 (Pd.hd (Pd.tl (Pd.tl (Pd.tl HP.out))))
            try simp only [i64_w]
            try rw [eU]
            try rw [eD]
            have j1 : decide (U ≥ K1.1) = true := decide_eq_true HE.out.1
            have j2 : decide (D ≥ K2.1) = true := decide_eq_true HE.out.2
            have j3 : (wrap64 (tp + -bo) == K3.1) = true := by rw [g3]; simp
            have HPZ := HP
            clear g1 g2 g3
            go_wp2
            go_ret
            exact ⟨rfl, HP.out.bel⟩
          · have k2 : (G2 == 0) = false := by simp [e2]
            obtain ⟨U, D, eU, eD, g1, g2, g3⟩ := HG.out
            have HE := Aside0.mk (show U ≥ K1.1 ∧ D ≥ K2.1 from ⟨g1, g2⟩)
            go_wp2_with fail
            refine (hpile _).mono ?_
            rintro _ w8 ⟨rfl, hb⟩
            replace HP := Aside0.mk (Pd.below HP.out hb)
            clear hb
            have hs21 := cells7 (Pd.hd HP.out)
            have hs11 := cells7 (Pd.hd (Pd.tl HP.out))
            have hsd := cells7 (Pd.hd (Pd.tl (Pd.tl HP.out)))
            have hsn := cells7 (Pd.hd (Pd.tl (Pd.tl (Pd.tl HP.out))))
            try simp only [i64_w]
            try rw [eU]
            try rw [eD]
            have j1 : decide (U ≥ K1.1) = true := decide_eq_true HE.out.1
            have j2 : decide (D ≥ K2.1) = true := decide_eq_true HE.out.2
            have j3 : (wrap64 (tp + -bo) == K3.1) = true := by rw [g3]; simp
            have HPZ := HP
            clear g1 g2 g3
            go_wp2
            go_ret
            exact ⟨rfl, HP.out.bel⟩
        · have k1 : (G1 == 0) = false := by simp [e1]
          obtain ⟨U, D, eU, eD, g1, g2, g3⟩ := HG.out
          have HE := Aside0.mk (show U ≥ K1.1 ∧ D ≥ K2.1 from ⟨g1, g2⟩)
          go_wp2_with fail
          refine (hpile _).mono ?_
          rintro _ w8 ⟨rfl, hb⟩
          replace HP := Aside0.mk (Pd.below HP.out hb)
          clear hb
          have hs21 := cells7 (Pd.hd HP.out)
          have hs11 := cells7 (Pd.hd (Pd.tl HP.out))
          have hsd := cells7 (Pd.hd (Pd.tl (Pd.tl HP.out)))
          have hsn := cells7 (Pd.hd (Pd.tl (Pd.tl (Pd.tl HP.out))))
          try simp only [i64_w]
          try rw [eU]
          try rw [eD]
          have j1 : decide (U ≥ K1.1) = true := decide_eq_true HE.out.1
          have j2 : decide (D ≥ K2.1) = true := decide_eq_true HE.out.2
          have j3 : (wrap64 (tp + -bo) == K3.1) = true := by rw [g3]; simp
          have HPZ := HP
          clear g1 g2 g3
          go_wp2
          go_ret
          exact ⟨rfl, HP.out.bel⟩
      · have hd1 : decide (c < 2) = false := by simp; omega
        rw [if_neg hc] at hK1
        have HK1 := Aside0.mk hK1
        clear hK1
        rw [if_neg hc] at hK2
        have HK2 := Aside0.mk hK2
        clear hK2
        go_wp2_with (first | ((with_reducible refine gate_dst (N := 11) rfl ?_); refine box_event ?hg (N := 11) ?hd (cs := #[.int .i64 0, .int .i64 0, .int .i64 0, .int .i64 0, .int .i64 0, .int .i64 0, .slice none 0 0]) (t := 39) ?hr ?_; (case hd => rfl); (case hg => rfl); (case hr => first | (go_simp; done) | (go_simp; rfl)); intro g11 hg wk9 hbox hb; replace HP := Aside0.mk (Pd.box HP.out hg hbox hb); replace HQ := Aside0.mk (Pd.box HQ.out hg hbox hb); clear hg hbox hb; have hcz := cells7 (Pd.hd HP.out); have hfz := froz7 (Pd.hd HP.out)) | (have hgo := hcz; clear hgo; (with_reducible refine gate_dst (N := 56) rfl ?_); refine Pd.fold2 (Pd.st7 HP.out) (Pd.st7 HQ.out) ?_; intro W' h0 h1; replace HP := Aside0.mk h0; replace HQ := Aside0.mk h1; clear h0 h1 hcz hfz; refine wpList_load_row rfl 36 (.tmp 5) rfl gf (by rfl) 36 #[.int .i64 F.f0.f0, .int .i64 F.f0.f1, .int .i64 F.f0.f2, .int .i64 F.f0.f3, .int .i64 F.f0.f4, .bool F.f0.f5, .slice A6 F.f1.length c6, .slice A7 F.f2.length c7, .slice A8 F.f3.length c8, .slice A9 F.f4.f0.length c9, .slice A10 F.f4.f1.length c10, .slice A11 F.f4.f2.length c11, .slice A12 F.f4.f3.length c12, .slice A13 F.f4.f4.length c13, .int .i64 F.f4.f5.f0, .slice A15 F.f4.f5.f1.length c15, .slice A16 F.f4.f5.f2.length c16] (0, 0) _ (Pd.hd (Pd.tl (Pd.tl (Pd.tl HP.out)))) hu36 rfl info_font ?_))
        refine (konst_calls _ F _ 36 c z (HF.out.heap HP.out.bel)).mono ?_
        rintro _ w6 ⟨rfl, hb⟩
        rw [← HK1.out]
        replace HP := Aside0.mk (Pd.below HP.out hb)
        replace HQ := Aside0.mk (Pd.below HQ.out hb)
        clear hb
        go_wp2_with (first | ((with_reducible refine gate_dst (N := 64) rfl ?_); refine wpList_load_row rfl 36 (.tmp 5) rfl gf (by rfl) 36 #[.int .i64 F.f0.f0, .int .i64 F.f0.f1, .int .i64 F.f0.f2, .int .i64 F.f0.f3, .int .i64 F.f0.f4, .bool F.f0.f5, .slice A6 F.f1.length c6, .slice A7 F.f2.length c7, .slice A8 F.f3.length c8, .slice A9 F.f4.f0.length c9, .slice A10 F.f4.f1.length c10, .slice A11 F.f4.f2.length c11, .slice A12 F.f4.f3.length c12, .slice A13 F.f4.f4.length c13, .int .i64 F.f4.f5.f0, .slice A15 F.f4.f5.f1.length c15, .slice A16 F.f4.f5.f2.length c16] (0, 0) _ (Pd.hd (Pd.tl (Pd.tl (Pd.tl HP.out)))) hu36 rfl info_font ?_))
        refine (konst_calls _ F _ 39 c z (HF.out.heap HP.out.bel)).mono ?_
        rintro _ w6 ⟨rfl, hb⟩
        rw [← HK2.out]
        replace HP := Aside0.mk (Pd.below HP.out hb)
        replace HQ := Aside0.mk (Pd.below HQ.out hb)
        clear hb
        go_wp2_with (first | ((with_reducible refine gate_dst (N := 72) rfl ?_); refine wpList_load_row rfl 36 (.tmp 5) rfl gf (by rfl) 36 #[.int .i64 F.f0.f0, .int .i64 F.f0.f1, .int .i64 F.f0.f2, .int .i64 F.f0.f3, .int .i64 F.f0.f4, .bool F.f0.f5, .slice A6 F.f1.length c6, .slice A7 F.f2.length c7, .slice A8 F.f3.length c8, .slice A9 F.f4.f0.length c9, .slice A10 F.f4.f1.length c10, .slice A11 F.f4.f2.length c11, .slice A12 F.f4.f3.length c12, .slice A13 F.f4.f4.length c13, .int .i64 F.f4.f5.f0, .slice A15 F.f4.f5.f1.length c15, .slice A16 F.f4.f5.f2.length c16] (0, 0) _ (Pd.hd (Pd.tl (Pd.tl (Pd.tl HP.out)))) hu36 rfl info_font ?_))
        refine (konst_calls _ F _ 38 c z (HF.out.heap HP.out.bel)).mono ?_
        rintro _ w6 ⟨rfl, hb⟩
        rw [← HK3.out]
        replace HP := Aside0.mk (Pd.below HP.out hb)
        replace HQ := Aside0.mk (Pd.below HQ.out hb)
        clear hb
        have hs11 := cells7 (Pd.hd HP.out)
        obtain ⟨u0, u1, u2, u3, u4, u5, u6, u7, A18, n18, u8⟩ := kid_nine HC5.out HQ.out.bel 1 (by simp)
        simp [Addr.add] at u0 u1 u2 u3 u4 u5 u6 u7 u8
        replace u3 : w6.cell? ⟨ad.block, ad.off + 9 + 2 + 1, none⟩ = some (.int .i64 (max num.f1 den.f1)) := u3
        replace u4 : w6.cell? ⟨ad.block, ad.off + 9 + 2 + 2, none⟩ = some (.int .i64 tp) := u4
        replace u5 : w6.cell? ⟨ad.block, ad.off + 9 + 2 + 3, none⟩ = some (.int .i64 (-bo)) := u5
        replace u6 : w6.cell? ⟨ad.block, ad.off + 9 + 2 + 4, none⟩ = some (.int .i64 0) := u6
        replace u7 : w6.cell? ⟨ad.block, ad.off + 9 + 2 + 5, none⟩ = some (.int .i64 0) := u7
        replace u8 : w6.cell? ⟨ad.block, ad.off + 9 + 2 + 6, none⟩ = some (.slice A18 0 n18) := u8
        go_wp2_with (first | ((with_reducible refine gate_dst (N := 21) rfl ?_); refine box_event ?hg (N := 21) ?hd (cs := #[.int .i64 0, .int .i64 0, .int .i64 0, .int .i64 0, .int .i64 0, .int .i64 0, .slice none 0 0]) (t := 39) ?hr ?_; (case hd => rfl); (case hg => rfl); (case hr => first | (go_simp; done) | (go_simp; rfl)); intro g21 hg wk9 hbox hb; replace HP := Aside0.mk (Pd.box HP.out hg hbox hb); replace HQ := Aside0.mk (Pd.box HQ.out hg hbox hb); clear hg hbox hb; have hcz := cells7 (Pd.hd HP.out); have hfz := froz7 (Pd.hd HP.out)))
        refine Pd.fold2C (Pd.st7 HP.out) (Pd.st7 HQ.out) ?_
        intro W' h0 h1
        replace HP := Aside0.mk h0
        replace HQ := Aside0.mk h1
        clear h0 h1 hcz hfz hs11 u0 u1 u2 u3 u4 u5 u6 u7 u8
        have hs21 := cells7 (Pd.hd HP.out)
        have hs11 := cells7 (Pd.hd (Pd.tl HP.out))
        have hsd := cells7 (Pd.hd (Pd.tl (Pd.tl HP.out)))
        have hsn := cells7 (Pd.hd (Pd.tl (Pd.tl (Pd.tl HP.out))))
        obtain ⟨hx0, hy0⟩ := kid_xy HC5.out HQ.out.bel 0 (by simp)
        obtain ⟨hx2, hy2⟩ := kid_xy HC5.out HQ.out.bel 2 (by simp)
        clear hx0 hx2
        simp [Addr.add] at hy0 hy2
        go_region_held3 (fun w' => w'.cell? ⟨g11, 6, none⟩ = some (.slice (some ad) 3 n5) ∧ w'.cell? ⟨ad.block, ad.off + 1, none⟩ = some (.int .i64 up) ∧ w'.cell? ⟨gn, 3, none⟩ = some (.int .i64 num.f3) ∧ w'.cell? ⟨g21, 2, none⟩ = some (.int .i64 tp)) (exact ⟨hs11.2.2.2.2.2.2, hy0, hsn.2.2.2.1, hs21.2.2.1⟩) (fail)
        go_wp2_with fail
        go_region_held3 (fun w' => w'.cell? ⟨g11, 6, none⟩ = some (.slice (some ad) 3 n5) ∧ w'.cell? ⟨ad.block, ad.off + 18 + 1, none⟩ = some (.int .i64 (-dn)) ∧ w'.cell? ⟨gd, 2, none⟩ = some (.int .i64 den.f2) ∧ w'.cell? ⟨g21, 3, none⟩ = some (.int .i64 (-bo))) (exact ⟨hs11.2.2.2.2.2.2, hy2, hsd.2.2.1, hs21.2.2.2.1⟩) (fail)
        go_wp2_with fail
        replace HP := Aside0.mk (Pd.drew (Pd.drew HP.out))
        replace HQ := Aside0.mk (Pd.drew (Pd.drew HQ.out))
        clear hs21 hs11 hsd hsn hy0 hy2
        refine (check_calls _ num (Nat.lt_succ_self _) _ Anum nnum HLn.out (Kd.C_below HCn.out HP.out.bel)).mono ?_
        rintro _ w7 ⟨rfl, hb⟩
        replace HP := Aside0.mk (Pd.below HP.out hb)
        replace HQ := Aside0.mk (Pd.below HQ.out hb)
        clear hb
        obtain ⟨G1, hG1⟩ : ∃ G, G = checkV (SizeOf.sizeOf num).succ num := ⟨_, rfl⟩
        rw [← hG1]
        have HG1 := Aside0.mk hG1
        clear hG1
        by_cases e1 : G1 = 0
        · have k1 : (G1 == 0) = true := by simp [e1]
          have HR1 := Aside0.mk (check_right (Nat.lt_succ_self _) (HG1.out.symm.trans e1))
          clear e1
          have hsd := cells7 (Pd.hd (Pd.tl (Pd.tl HP.out)))
          go_wp2_with fail
          clear hsd
          refine (check_calls _ den (Nat.lt_succ_self _) _ Aden nden HLd.out (Kd.C_below HCd.out HP.out.bel)).mono ?_
          rintro _ w7 ⟨rfl, hb⟩
          replace HP := Aside0.mk (Pd.below HP.out hb)
          replace HQ := Aside0.mk (Pd.below HQ.out hb)
          clear hb
          obtain ⟨G2, hG2⟩ : ∃ G, G = checkV (SizeOf.sizeOf den).succ den := ⟨_, rfl⟩
          rw [← hG2]
          have HG2 := Aside0.mk hG2
          clear hG2
          by_cases e2 : G2 = 0
          · have k2 : (G2 == 0) = true := by simp [e2]
            have HR2 := Aside0.mk (check_right (Nat.lt_succ_self _) (HG2.out.symm.trans e2))
            clear e2
            have hs11 := cells7 (Pd.hd (Pd.tl HP.out))
            go_wp2_with fail
            clear hs11
            refine (check_calls _ (⟨3, max num.f1 den.f1, hh, dd, 0, 0, [⟨X0, up, num⟩, ⟨0, 0, ⟨2, max num.f1 den.f1, tp, -bo, 0, 0, []⟩⟩, ⟨X2, -dn, den⟩]⟩ : S39) (Nat.lt_succ_self _) _ (some ad) n5 HL5.out (Kd.C_below HC5.out HQ.out.bel)).mono ?_
            rintro _ w7 ⟨rfl, hb⟩
            replace HP := Aside0.mk (Pd.below HP.out hb)
            replace HQ := Aside0.mk (Pd.below HQ.out hb)
            clear hb
            obtain ⟨G3, hG3⟩ : ∃ G, G = checkV (SizeOf.sizeOf (⟨3, max num.f1 den.f1, hh, dd, 0, 0, [⟨X0, up, num⟩, ⟨0, 0, ⟨2, max num.f1 den.f1, tp, -bo, 0, 0, []⟩⟩, ⟨X2, -dn, den⟩]⟩ : S39)).succ (⟨3, max num.f1 den.f1, hh, dd, 0, 0, [⟨X0, up, num⟩, ⟨0, 0, ⟨2, max num.f1 den.f1, tp, -bo, 0, 0, []⟩⟩, ⟨X2, -dn, den⟩]⟩ : S39) := ⟨_, rfl⟩
            rw [← hG3]
            have k3 : (G3 == 5) = false := by rw [hG3]; simpa using right_check (Nat.lt_succ_self _) (HRI.out HR1.out HR2.out)
            clear hG3
            obtain ⟨U, D, eU, eD, g1, g2, g3⟩ := HG.out
            have HE := Aside0.mk (show U ≥ K1.1 ∧ D ≥ K2.1 from ⟨g1, g2⟩)
            go_wp2_with fail
            refine (hpile _).mono ?_
            rintro _ w8 ⟨rfl, hb⟩
            replace HP := Aside0.mk (Pd.below HP.out hb)
            clear hb
            have hs21 := cells7 (Pd.hd HP.out)
            have hs11 := cells7 (Pd.hd (Pd.tl HP.out))
            have hsd := cells7 (Pd.hd (Pd.tl (Pd.tl HP.out)))
            have hsn := cells7 (Pd.hd (Pd.tl (Pd.tl (Pd.tl HP.out))))
            try simp only [i64_w]
            try rw [eU]
            try rw [eD]
            have j1 : decide (U ≥ K1.1) = true := decide_eq_true HE.out.1
            have j2 : decide (D ≥ K2.1) = true := decide_eq_true HE.out.2
            have j3 : (wrap64 (tp + -bo) == K3.1) = true := by rw [g3]; simp
            have HPZ := HP
            clear g1 g2 g3
            go_wp2
            go_ret
            exact ⟨rfl, HP.out.bel⟩
          · have k2 : (G2 == 0) = false := by simp [e2]
            obtain ⟨U, D, eU, eD, g1, g2, g3⟩ := HG.out
            have HE := Aside0.mk (show U ≥ K1.1 ∧ D ≥ K2.1 from ⟨g1, g2⟩)
            go_wp2_with fail
            refine (hpile _).mono ?_
            rintro _ w8 ⟨rfl, hb⟩
            replace HP := Aside0.mk (Pd.below HP.out hb)
            clear hb
            have hs21 := cells7 (Pd.hd HP.out)
            have hs11 := cells7 (Pd.hd (Pd.tl HP.out))
            have hsd := cells7 (Pd.hd (Pd.tl (Pd.tl HP.out)))
            have hsn := cells7 (Pd.hd (Pd.tl (Pd.tl (Pd.tl HP.out))))
            try simp only [i64_w]
            try rw [eU]
            try rw [eD]
            have j1 : decide (U ≥ K1.1) = true := decide_eq_true HE.out.1
            have j2 : decide (D ≥ K2.1) = true := decide_eq_true HE.out.2
            have j3 : (wrap64 (tp + -bo) == K3.1) = true := by rw [g3]; simp
            have HPZ := HP
            clear g1 g2 g3
            go_wp2
            go_ret
            exact ⟨rfl, HP.out.bel⟩
        · have k1 : (G1 == 0) = false := by simp [e1]
          obtain ⟨U, D, eU, eD, g1, g2, g3⟩ := HG.out
          have HE := Aside0.mk (show U ≥ K1.1 ∧ D ≥ K2.1 from ⟨g1, g2⟩)
          go_wp2_with fail
          refine (hpile _).mono ?_
          rintro _ w8 ⟨rfl, hb⟩
          replace HP := Aside0.mk (Pd.below HP.out hb)
          clear hb
          have hs21 := cells7 (Pd.hd HP.out)
          have hs11 := cells7 (Pd.hd (Pd.tl HP.out))
          have hsd := cells7 (Pd.hd (Pd.tl (Pd.tl HP.out)))
          have hsn := cells7 (Pd.hd (Pd.tl (Pd.tl (Pd.tl HP.out))))
          try simp only [i64_w]
          try rw [eU]
          try rw [eD]
          have j1 : decide (U ≥ K1.1) = true := decide_eq_true HE.out.1
          have j2 : decide (D ≥ K2.1) = true := decide_eq_true HE.out.2
          have j3 : (wrap64 (tp + -bo) == K3.1) = true := by rw [g3]; simp
          have HPZ := HP
          clear g1 g2 g3
          go_wp2
          go_ret
          exact ⟨rfl, HP.out.bel⟩
    · have hn0 := (hN he).1
      have hn1 := (hN he).2
      have hlen : R.2.2.2.2.2.2.1.length = 0 := by rw [hn0]; rfl
      have HE := Aside0.mk he
      clear hN hS hl5 hC5 hn0
      go_wp2_with (first | ((with_reducible refine gate_dst (N := 11) rfl ?_); refine box_event ?hg (N := 11) ?hd (cs := #[.int .i64 0, .int .i64 0, .int .i64 0, .int .i64 0, .int .i64 0, .int .i64 0, .slice none 0 0]) (t := 39) ?hr ?_; (case hd => rfl); (case hg => rfl); (case hr => first | (go_simp; done) | (go_simp; rfl)); intro g11 hg wk9 hbox hb; replace HP := Aside0.mk (Pd.box HP.out hg hbox hb); clear hg hbox hb; have hcz := cells7 (Pd.hd HP.out); have hfz := froz7 (Pd.hd HP.out)))
      clear hcz hfz
      refine (hpile _).mono ?_
      rintro _ w7 ⟨rfl, hb⟩
      replace HP := Aside0.mk (Pd.below (Pd.st7 HP.out) hb)
      clear hb
      have hs11 := cells7 (Pd.hd HP.out)
      go_wp2
      go_ret
      exact ⟨rfl, HP.out.bel⟩
end Go.Proofs.Ytjkbblnebpgpfaa.P
