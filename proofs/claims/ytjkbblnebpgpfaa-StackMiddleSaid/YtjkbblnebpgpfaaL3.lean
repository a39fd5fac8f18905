import Derived.Test.YtjkbblnebpgpfaaL1
import Derived.Test.YtjkbblnebpgpfaaK16
import Derived.Test.YtjkbblnebpgpfaaK15
/- The law StackMiddle: the walk. Printed by a program of this work (mklaw26d.py). -/
namespace Go.Proofs.Ytjkbblnebpgpfaa.P
open Go.RowKit Go.Proofs.YtjkbblnebpgpfaaW.PrintWords Go.Proofs.YtjkbblnebpgpfaaW.PrintLast Go.Proofs.YtjkbblnebpgpfaaW.PrintMore
set_option linter.unusedVariables false
set_option linter.unusedSimpArgs false

def MidOk (W n d x : Int) : Prop := ¬ W < n ∧ ¬ W < d ∧ (wrap64 (wrap64 (W - n) - x) = x ∨ wrap64 (wrap64 (W - n) - x) = wrap64 (x + 1))
theorem mid_ok {W n d : Int} (hW : isLen W = true) (hn : isLen n = true) (h1 : n ≤ W) (h2 : d ≤ W) : MidOk W n d ((W - n) / 2) := by
  obtain ⟨a1, a2⟩ := isLen_iff.1 hW
  obtain ⟨b1, b2⟩ := isLen_iff.1 hn
  have w1 : wrap64 (W - n) = W - n := by unfold wrap64; omega
  have w2 : wrap64 (W - n - (W - n) / 2) = W - n - (W - n) / 2 := by unfold wrap64; omega
  have w3 : wrap64 ((W - n) / 2 + 1) = (W - n) / 2 + 1 := by unfold wrap64; omega
  refine ⟨by omega, by omega, ?_⟩
  rw [w1, w2, w3]
  omega
theorem frac_mid (F : S36) (c z : Int) (num den : S39) (h : (fracV F c z num den).2.2.2.2.2.2.2 = 0) :
    ∃ Wm hh dd X up r1 r2, fracV F c z num den = (3, Wm, hh, dd, 0, 0, [⟨X, up, num⟩, r1, r2], 0) ∧ MidOk Wm num.f1 den.f1 X := by
  obtain ⟨_, _, _, ln, ld, _, _, up, dn, tp, bo, hh, dd, hV, _⟩ := frac_plain F c z num den h
  exact ⟨_, _, _, _, _, _, _, hV, mid_ok (mx_len ln ld) ln (mx_le _ _).1 (mx_le _ _).2⟩
theorem atop_mid (F : S36) (c z : Int) (num den : S39) (h : (atopV F c z num den).2.2.2.2.2.2.2 = 0) :
    ∃ Wm hh dd Y dn r0, atopV F c z num den = (3, Wm, hh, dd, 0, 0, [r0, ⟨Y, dn, den⟩], 0) ∧ MidOk Wm den.f1 num.f1 Y := by
  obtain ⟨_, _, _, ln, ld, _, _, up, dn, hh, dd, hV, _⟩ := atop_plain F c z num den h
  exact ⟨_, _, _, _, _, _, hV, mid_ok (mx_len ln ld) ld (mx_le _ _).2 (mx_le _ _).1⟩

set_option maxRecDepth 100000 in
set_option maxHeartbeats 3000000 in
theorem law_middle (w : World) (F : S36) (c z : Int) (num den : S39) (hOn : Ok39 num) (hOd : Ok39 den) (cs : List Value) (Anum : Option Addr) (nnum : Nat) (Aden : Option Addr) (nden : Nat) (hF : FontIn w F cs) (hln : num.f6.length ≤ nnum) (hCn : Kd.C k49 w Anum num.f6.length num.f6) (hld : den.f6.length ≤ nden) (hCd : Kd.C k49 w Aden den.f6.length den.f6)
    (hpile : ∀ w : World, Calls Try.prog 20 #[] w fun r w' => r = .returned (.bool true) ∧ Below w.heap.size w w') :
    Calls Try.prog 4 #[.agg cs.toArray, .int .i64 c, .int .i64 z, .agg #[.int .i64 num.f0, .int .i64 num.f1, .int .i64 num.f2, .int .i64 num.f3, .int .i64 num.f4, .int .i64 num.f5, .slice Anum num.f6.length nnum], .agg #[.int .i64 den.f0, .int .i64 den.f1, .int .i64 den.f2, .int .i64 den.f3, .int .i64 den.f4, .int .i64 den.f5, .slice Aden den.f6.length nden]] w fun r w' => r = .returned (.bool true) ∧ Below w.heap.size w w' := by
  have hu39 := Try.underlying39
  have hu49 := Try.underlying49
  have hu36 := Try.underlying36
  have HF := Aside0.mk hF
  have HOn := Aside0.mk hOn
  have HOd := Aside0.mk hOd
  have HLn := Aside0.mk hln
  have HCn := Aside0.mk hCn
  have HLd := Aside0.mk hld
  have HCd := Aside0.mk hCd
  obtain ⟨A6, c6, A7, c7, A8, c8, A9, c9, A10, c10, A11, c11, A12, c12, A13, c13, A15, c15, A16, c16, hcs, hcr⟩ := id hF
  subst hcs
  clear hcr hOn hOd hln hCn hld hCd hF
  have HP := Aside0.mk (Pd.start w)
  go_enter Try.func4, Try.ntmps4
  go_wp2_with (first | ((with_reducible refine gate_dst (N := 5) rfl ?_); refine box_event ?hg (N := 5) ?hd (cs := #[.int .i64 F.f0.f0, .int .i64 F.f0.f1, .int .i64 F.f0.f2, .int .i64 F.f0.f3, .int .i64 F.f0.f4, .bool F.f0.f5, .slice A6 F.f1.length c6, .slice A7 F.f2.length c7, .slice A8 F.f3.length c8, .slice A9 F.f4.f0.length c9, .slice A10 F.f4.f1.length c10, .slice A11 F.f4.f2.length c11, .slice A12 F.f4.f3.length c12, .slice A13 F.f4.f4.length c13, .int .i64 F.f4.f5.f0, .slice A15 F.f4.f5.f1.length c15, .slice A16 F.f4.f5.f2.length c16]) (t := 36) ?hr ?_; (case hd => rfl); (case hg => rfl); (case hr => first | (go_simp; done) | (go_simp; rfl)); intro gf hg wk hbox hb; replace HP := Aside0.mk (Pd.box (by with_reducible repeat (first | exact HP.out | apply Pd.drew)) hg hbox hb); clear hg hbox hb) | ((with_reducible refine gate_dst (N := 8) rfl ?_); refine box_event ?hg (N := 8) ?hd (cs := #[.int .i64 num.f0, .int .i64 num.f1, .int .i64 num.f2, .int .i64 num.f3, .int .i64 num.f4, .int .i64 num.f5, .slice Anum num.f6.length nnum]) (t := 39) ?hr ?_; (case hd => rfl); (case hg => rfl); (case hr => first | (go_simp; done) | (go_simp; rfl)); intro gn hg wk hbox hb; replace HP := Aside0.mk (Pd.box (by with_reducible repeat (first | exact HP.out | apply Pd.drew)) hg hbox hb); clear hg hbox hb) | ((with_reducible refine gate_dst (N := 9) rfl ?_); refine box_event ?hg (N := 9) ?hd (cs := #[.int .i64 den.f0, .int .i64 den.f1, .int .i64 den.f2, .int .i64 den.f3, .int .i64 den.f4, .int .i64 den.f5, .slice Aden den.f6.length nden]) (t := 39) ?hr ?_; (case hd => rfl); (case hg => rfl); (case hr => first | (go_simp; done) | (go_simp; rfl)); intro gd hg wk hbox hb; replace HP := Aside0.mk (Pd.box (by with_reducible repeat (first | exact HP.out | apply Pd.drew)) hg hbox hb); clear hg hbox hb; have hsn := cells7 (Pd.hd (Pd.tl HP.out)); have hsd := cells7 (Pd.hd HP.out)) | ((with_reducible refine gate_dst (N := 19) rfl ?_); refine wpList_load_row rfl 36 (.tmp 5) rfl gf (by rfl) 36 #[.int .i64 F.f0.f0, .int .i64 F.f0.f1, .int .i64 F.f0.f2, .int .i64 F.f0.f3, .int .i64 F.f0.f4, .bool F.f0.f5, .slice A6 F.f1.length c6, .slice A7 F.f2.length c7, .slice A8 F.f3.length c8, .slice A9 F.f4.f0.length c9, .slice A10 F.f4.f1.length c10, .slice A11 F.f4.f2.length c11, .slice A12 F.f4.f3.length c12, .slice A13 F.f4.f4.length c13, .int .i64 F.f4.f5.f0, .slice A15 F.f4.f5.f1.length c15, .slice A16 F.f4.f5.f2.length c16] (0, 0) _ (Pd.hd (Pd.tl (Pd.tl HP.out))) hu36 rfl info_font ?_))
  clear hsn hsd
  refine (few_calls _ F num den HOn.out HOd.out _ Anum nnum Aden nden (HF.out.heap HP.out.bel) HLn.out (Kd.C_below HCn.out HP.out.bel) HLd.out (Kd.C_below HCd.out HP.out.bel)).mono ?_
  rintro _ w1 ⟨q, rfl, hb⟩
  replace HP := Aside0.mk (Pd.below HP.out hb)
  clear hb
  cases q with
  | false =>
    go_wp2
    go_ret
    exact ⟨rfl, HP.out.bel⟩
  | true =>
    have hsn := cells7 (Pd.hd (Pd.tl HP.out))
    have hsd := cells7 (Pd.hd HP.out)
    go_wp2_with (first | ((with_reducible refine gate_dst (N := 25) rfl ?_); refine wpList_load_row rfl 36 (.tmp 5) rfl gf (by rfl) 36 #[.int .i64 F.f0.f0, .int .i64 F.f0.f1, .int .i64 F.f0.f2, .int .i64 F.f0.f3, .int .i64 F.f0.f4, .bool F.f0.f5, .slice A6 F.f1.length c6, .slice A7 F.f2.length c7, .slice A8 F.f3.length c8, .slice A9 F.f4.f0.length c9, .slice A10 F.f4.f1.length c10, .slice A11 F.f4.f2.length c11, .slice A12 F.f4.f3.length c12, .slice A13 F.f4.f4.length c13, .int .i64 F.f4.f5.f0, .slice A15 F.f4.f5.f1.length c15, .slice A16 F.f4.f5.f2.length c16] (0, 0) _ (Pd.hd (Pd.tl (Pd.tl HP.out))) hu36 rfl info_font ?_))
    clear hsn hsd
    refine (frac_calls F c z num Anum nnum den Aden nden _ _ (HF.out.heap HP.out.bel) HLn.out (Kd.C_below HCn.out HP.out.bel) HLd.out (Kd.C_below HCd.out HP.out.bel)).mono ?_
    rintro _ w5 ⟨A5, n5, rfl, hl5, hC5, hb⟩
    replace HP := Aside0.mk (Pd.below HP.out hb)
    have HQ := Aside0.mk (Pd.start w5)
    clear hb
    have hS := frac_mid F c z num den
    obtain ⟨R, hR⟩ : ∃ R, R = fracV F c z num den := ⟨_, rfl⟩
    rw [← hR] at hl5 hC5 hS ⊢
    clear hR hl5
    by_cases he : R.2.2.2.2.2.2.2 = 0
    · obtain ⟨Wm, hh, dd, X, up, r1, r2, hV, hM⟩ := hS he
      subst hV
      dsimp only at hC5 ⊢
      clear he
      have HC5 := Aside0.mk hC5
      obtain ⟨ad, hA⟩ := kid_ad hC5 (by simp)
      subst hA
      clear hC5
      have HM := Aside0.mk hM
      clear hM hS
      go_wp2_with (first | ((with_reducible refine gate_dst (N := 11) rfl ?_); refine box_event ?hg (N := 11) ?hd (cs := #[.int .i64 0, .int .i64 0, .int .i64 0, .int .i64 0, .int .i64 0, .int .i64 0, .slice none 0 0]) (t := 39) ?hr ?_; (case hd => rfl); (case hg => rfl); (case hr => first | (go_simp; done) | (go_simp; rfl)); intro g11 hg wk9 hbox hb; replace HP := Aside0.mk (Pd.box HP.out hg hbox hb); replace HQ := Aside0.mk (Pd.box HQ.out hg hbox hb); clear hg hbox hb; have hcz := cells7 (Pd.hd HP.out); have hfz := froz7 (Pd.hd HP.out)) | (have hgo := hcz; clear hgo; (with_reducible refine gate_dst (N := 34) rfl ?_); refine Pd.fold2 (Pd.st7 HP.out) (Pd.st7 HQ.out) ?_; intro W' h0 h1; replace HP := Aside0.mk h0; replace HQ := Aside0.mk h1; clear h0 h1 hcz hfz; have hsn := cells7 (Pd.hd (Pd.tl (Pd.tl HP.out))); have hsd := cells7 (Pd.hd (Pd.tl HP.out)); refine wpList_load_row rfl 36 (.tmp 5) rfl gf (by rfl) 36 #[.int .i64 F.f0.f0, .int .i64 F.f0.f1, .int .i64 F.f0.f2, .int .i64 F.f0.f3, .int .i64 F.f0.f4, .bool F.f0.f5, .slice A6 F.f1.length c6, .slice A7 F.f2.length c7, .slice A8 F.f3.length c8, .slice A9 F.f4.f0.length c9, .slice A10 F.f4.f1.length c10, .slice A11 F.f4.f2.length c11, .slice A12 F.f4.f3.length c12, .slice A13 F.f4.f4.length c13, .int .i64 F.f4.f5.f0, .slice A15 F.f4.f5.f1.length c15, .slice A16 F.f4.f5.f2.length c16] (0, 0) _ (Pd.hd (Pd.tl (Pd.tl (Pd.tl HP.out)))) hu36 rfl info_font ?_))
      clear hsn hsd
      refine (atop_calls F c z num Anum nnum den Aden nden _ _ (HF.out.heap HP.out.bel) HLn.out (Kd.C_below HCn.out HP.out.bel) HLd.out (Kd.C_below HCd.out HP.out.bel)).mono ?_
      rintro _ w8 ⟨A8, n8, rfl, hl8, hC8, hb⟩
      replace HP := Aside0.mk (Pd.below HP.out hb)
      replace HQ := Aside0.mk (Pd.below HQ.out hb)
      have HR := Aside0.mk (Pd.start w8)
      clear hb
      have hT := atop_mid F c z num den
      obtain ⟨S, hSS⟩ : ∃ S, S = atopV F c z num den := ⟨_, rfl⟩
      rw [← hSS] at hl8 hC8 hT ⊢
      clear hSS hl8
      by_cases hg : S.2.2.2.2.2.2.2 = 0
      · obtain ⟨Wn, hh2, dd2, Y, dn, r0, hV, hM⟩ := hT hg
        subst hV
        dsimp only at hC8 ⊢
        clear hg
        have HC8 := Aside0.mk hC8
        obtain ⟨ad8, hA⟩ := kid_ad hC8 (by simp)
        subst hA
        clear hC8
        have HN := Aside0.mk hM
        clear hM hT
        rcases HM.out with ⟨m1, m2, m3 | m3⟩
        all_goals rcases HN.out with ⟨n1, n2, n3 | n3⟩
        all_goals go_wp2_with (first | ((with_reducible refine gate_dst (N := 13) rfl ?_); refine box_event ?hg (N := 13) ?hd (cs := #[.int .i64 0, .int .i64 0, .int .i64 0, .int .i64 0, .int .i64 0, .int .i64 0, .slice none 0 0]) (t := 39) ?hr ?_; (case hd => rfl); (case hg => rfl); (case hr => first | (go_simp; done) | (go_simp; rfl)); intro g13 hg wk9 hbox hb; replace HP := Aside0.mk (Pd.box HP.out hg hbox hb); replace HQ := Aside0.mk (Pd.box HQ.out hg hbox hb); replace HR := Aside0.mk (Pd.box HR.out hg hbox hb); clear hg hbox hb; have hcz := cells7 (Pd.hd HP.out); have hfz := froz7 (Pd.hd HP.out)) | (have hgo := hcz; clear hgo; (with_reducible refine gate_dst (N := 45) rfl ?_); refine Pd.fold3 (Pd.st7 HP.out) (Pd.st7 HQ.out) (Pd.st7 HR.out) ?_; intro W' h0 h1 h2; replace HP := Aside0.mk h0; replace HQ := Aside0.mk h1; replace HR := Aside0.mk h2; clear h0 h1 h2 hcz hfz; have hs13 := cells7 (Pd.hd HP.out); have hs11 := cells7 (Pd.hd (Pd.tl HP.out)); have hsd := cells7 (Pd.hd (Pd.tl (Pd.tl HP.out))); have hsn := cells7 (Pd.hd (Pd.tl (Pd.tl (Pd.tl HP.out)))); obtain ⟨hx0, hy0⟩ := kid_xy HC5.out HQ.out.bel 0 (by simp); clear hy0; rw [show ad.add (0 * 9) = ad by simp [Addr.add]] at hx0; replace hx0 : W'.cell? ad = some (.int .i64 X) := hx0; obtain ⟨hx1, hy1⟩ := kid_xy HC8.out HR.out.bel 1 (by simp); clear hy1; simp [Addr.add] at hx1))
        all_goals (refine (hpile _).mono ?_; rintro _ w7 ⟨rfl, hb⟩; replace HP := Aside0.mk (Pd.below HP.out hb); clear hb)
        all_goals go_wp2
        all_goals go_ret
        all_goals exact ⟨rfl, HP.out.bel⟩
      · clear hC8 hT
        have hd2 : decide (S.2.2.2.2.2.2.2 = 0) = false := by simp; exact hg
        rcases HM.out with ⟨m1, m2, m3 | m3⟩
        all_goals go_wp2_with (first | ((with_reducible refine gate_dst (N := 13) rfl ?_); refine box_event ?hg (N := 13) ?hd (cs := #[.int .i64 0, .int .i64 0, .int .i64 0, .int .i64 0, .int .i64 0, .int .i64 0, .slice none 0 0]) (t := 39) ?hr ?_; (case hd => rfl); (case hg => rfl); (case hr => first | (go_simp; done) | (go_simp; rfl)); intro g13 hg wk9 hbox hb; replace HP := Aside0.mk (Pd.box HP.out hg hbox hb); replace HQ := Aside0.mk (Pd.box HQ.out hg hbox hb); replace HR := Aside0.mk (Pd.box HR.out hg hbox hb); clear hg hbox hb; have hcz := cells7 (Pd.hd HP.out); have hfz := froz7 (Pd.hd HP.out)) | (have hgo := hcz; clear hgo; (with_reducible refine gate_dst (N := 45) rfl ?_); refine Pd.fold3 (Pd.st7 HP.out) (Pd.st7 HQ.out) (Pd.st7 HR.out) ?_; intro W' h0 h1 h2; replace HP := Aside0.mk h0; replace HQ := Aside0.mk h1; replace HR := Aside0.mk h2; clear h0 h1 h2 hcz hfz; have hs13 := cells7 (Pd.hd HP.out); have hs11 := cells7 (Pd.hd (Pd.tl HP.out)); have hsd := cells7 (Pd.hd (Pd.tl (Pd.tl HP.out))); have hsn := cells7 (Pd.hd (Pd.tl (Pd.tl (Pd.tl HP.out)))); obtain ⟨hx0, hy0⟩ := kid_xy HC5.out HQ.out.bel 0 (by simp); clear hy0; rw [show ad.add (0 * 9) = ad by simp [Addr.add]] at hx0; replace hx0 : W'.cell? ad = some (.int .i64 X) := hx0))
        all_goals (refine (hpile _).mono ?_; rintro _ w7 ⟨rfl, hb⟩; replace HP := Aside0.mk (Pd.below HP.out hb); clear hb)
        all_goals go_wp2
        all_goals go_ret
        all_goals exact ⟨rfl, HP.out.bel⟩
    · clear hC5 hS
      have hd1 : decide (R.2.2.2.2.2.2.2 = 0) = false := by simp; exact he
      go_wp2_with (first | ((with_reducible refine gate_dst (N := 11) rfl ?_); refine box_event ?hg (N := 11) ?hd (cs := #[.int .i64 0, .int .i64 0, .int .i64 0, .int .i64 0, .int .i64 0, .int .i64 0, .slice none 0 0]) (t := 39) ?hr ?_; (case hd => rfl); (case hg => rfl); (case hr => first | (go_simp; done) | (go_simp; rfl)); intro g11 hg wk9 hbox hb; replace HP := Aside0.mk (Pd.box HP.out hg hbox hb); replace HQ := Aside0.mk (Pd.box HQ.out hg hbox hb); clear hg hbox hb; have hcz := cells7 (Pd.hd HP.out); have hfz := froz7 (Pd.hd HP.out)) | (have hgo := hcz; clear hgo; (with_reducible refine gate_dst (N := 34) rfl ?_); refine Pd.fold2 (Pd.st7 HP.out) (Pd.st7 HQ.out) ?_; intro W' h0 h1; replace HP := Aside0.mk h0; replace HQ := Aside0.mk h1; clear h0 h1 hcz hfz; have hsn := cells7 (Pd.hd (Pd.tl (Pd.tl HP.out))); have hsd := cells7 (Pd.hd (Pd.tl HP.out)); refine wpList_load_row rfl 36 (.tmp 5) rfl gf (by rfl) 36 #[.int .i64 F.f0.f0, .int .i64 F.f0.f1, .int .i64 F.f0.f2, .int .i64 F.f0.f3, .int .i64 F.f0.f4, .bool F.f0.f5, .slice A6 F.f1.length c6, .slice A7 F.f2.length c7, .slice A8 F.f3.length c8, .slice A9 F.f4.f0.length c9, .slice A10 F.f4.f1.length c10, .slice A11 F.f4.f2.length c11, .slice A12 F.f4.f3.length c12, .slice A13 F.f4.f4.length c13, .int .i64 F.f4.f5.f0, .slice A15 F.f4.f5.f1.length c15, .slice A16 F.f4.f5.f2.length c16] (0, 0) _ (Pd.hd (Pd.tl (Pd.tl (Pd.tl HP.out)))) hu36 rfl info_font ?_))
      clear hsn hsd
      refine (atop_calls F c z num Anum nnum den Aden nden _ _ (HF.out.heap HP.out.bel) HLn.out (Kd.C_below HCn.out HP.out.bel) HLd.out (Kd.C_below HCd.out HP.out.bel)).mono ?_
      rintro _ w8 ⟨A8, n8, rfl, hl8, hC8, hb⟩
      replace HP := Aside0.mk (Pd.below HP.out hb)
      replace HQ := Aside0.mk (Pd.below HQ.out hb)
      have HR := Aside0.mk (Pd.start w8)
      clear hb
      have hT := atop_mid F c z num den
      obtain ⟨S, hSS⟩ : ∃ S, S = atopV F c z num den := ⟨_, rfl⟩
      rw [← hSS] at hl8 hC8 hT ⊢
      clear hSS hl8
      by_cases hg : S.2.2.2.2.2.2.2 = 0
      · obtain ⟨Wn, hh2, dd2, Y, dn, r0, hV, hM⟩ := hT hg
        subst hV
        dsimp only at hC8 ⊢
        clear hg
        have HC8 := Aside0.mk hC8
        obtain ⟨ad8, hA⟩ := kid_ad hC8 (by simp)
        subst hA
        clear hC8
        have HN := Aside0.mk hM
        clear hM hT
        all_goals rcases HN.out with ⟨n1, n2, n3 | n3⟩
        all_goals go_wp2_with (first | ((with_reducible refine gate_dst (N := 13) rfl ?_); refine box_event ?hg (N := 13) ?hd (cs := #[.int .i64 0, .int .i64 0, .int .i64 0, .int .i64 0, .int .i64 0, .int .i64 0, .slice none 0 0]) (t := 39) ?hr ?_; (case hd => rfl); (case hg => rfl); (case hr => first | (go_simp; done) | (go_simp; rfl)); intro g13 hg wk9 hbox hb; replace HP := Aside0.mk (Pd.box HP.out hg hbox hb); replace HQ := Aside0.mk (Pd.box HQ.out hg hbox hb); replace HR := Aside0.mk (Pd.box HR.out hg hbox hb); clear hg hbox hb; have hcz := cells7 (Pd.hd HP.out); have hfz := froz7 (Pd.hd HP.out)) | (have hgo := hcz; clear hgo; (with_reducible refine gate_dst (N := 86) rfl ?_); refine Pd.fold3 (Pd.st7 HP.out) (Pd.st7 HQ.out) (Pd.st7 HR.out) ?_; intro W' h0 h1 h2; replace HP := Aside0.mk h0; replace HQ := Aside0.mk h1; replace HR := Aside0.mk h2; clear h0 h1 h2 hcz hfz; have hs13 := cells7 (Pd.hd HP.out); have hs11 := cells7 (Pd.hd (Pd.tl HP.out)); have hsd := cells7 (Pd.hd (Pd.tl (Pd.tl HP.out))); have hsn := cells7 (Pd.hd (Pd.tl (Pd.tl (Pd.tl HP.out)))); obtain ⟨hx1, hy1⟩ := kid_xy HC8.out HR.out.bel 1 (by simp); clear hy1; simp [Addr.add] at hx1))
        all_goals (refine (hpile _).mono ?_; rintro _ w7 ⟨rfl, hb⟩; replace HP := Aside0.mk (Pd.below HP.out hb); clear hb)
        all_goals go_wp2
        all_goals go_ret
        all_goals exact ⟨rfl, HP.out.bel⟩
      · clear hC8 hT
        have hd2 : decide (S.2.2.2.2.2.2.2 = 0) = false := by simp; exact hg
        all_goals go_wp2_with (first | ((with_reducible refine gate_dst (N := 13) rfl ?_); refine box_event ?hg (N := 13) ?hd (cs := #[.int .i64 0, .int .i64 0, .int .i64 0, .int .i64 0, .int .i64 0, .int .i64 0, .slice none 0 0]) (t := 39) ?hr ?_; (case hd => rfl); (case hg => rfl); (case hr => first | (go_simp; done) | (go_simp; rfl)); intro g13 hg wk9 hbox hb; replace HP := Aside0.mk (Pd.box HP.out hg hbox hb); replace HQ := Aside0.mk (Pd.box HQ.out hg hbox hb); replace HR := Aside0.mk (Pd.box HR.out hg hbox hb); clear hg hbox hb; have hcz := cells7 (Pd.hd HP.out); have hfz := froz7 (Pd.hd HP.out)) | (have hgo := hcz; clear hgo; (with_reducible refine gate_dst (N := 86) rfl ?_); refine Pd.fold3 (Pd.st7 HP.out) (Pd.st7 HQ.out) (Pd.st7 HR.out) ?_; intro W' h0 h1 h2; replace HP := Aside0.mk h0; replace HQ := Aside0.mk h1; replace HR := Aside0.mk h2; clear h0 h1 h2 hcz hfz; have hs13 := cells7 (Pd.hd HP.out); have hs11 := cells7 (Pd.hd (Pd.tl HP.out)); have hsd := cells7 (Pd.hd (Pd.tl (Pd.tl HP.out))); have hsn := cells7 (Pd.hd (Pd.tl (Pd.tl (Pd.tl HP.out))))))
        all_goals (refine (hpile _).mono ?_; rintro _ w7 ⟨rfl, hb⟩; replace HP := Aside0.mk (Pd.below (Pd.st7 HP.out) hb); clear hb)
        all_goals go_wp2
        all_goals go_ret
        all_goals exact ⟨rfl, HP.out.bel⟩
end Go.Proofs.Ytjkbblnebpgpfaa.P
