import Derived.Test.YtjkbblnebpgpfaaK12
import Derived.Test.YtjkbblnebpgpfaaK13
/- Part 14 of the proof of stackCenter_holds: what it needs of this work's texts, joined. -/
set_option linter.unusedVariables false
set_option linter.unusedSimpArgs false
namespace Go.Proofs.Ytjkbblnebpgpfaa.P
open Go.RowKit Go.Proofs.YtjkbblnebpgpfaaW.PrintWords Go.Proofs.YtjkbblnebpgpfaaW.PrintLast Go.Proofs.YtjkbblnebpgpfaaW.PrintMore
set_option linter.unusedVariables false
set_option linter.unusedSimpArgs false
theorem setGo_nil {wd e : Int} {l : List S49} (h : (setV e wd l).2.2.2.2.2.2.2 ≠ 0) : (setV e wd l).2.2.2.2.2.2.1 = [] := by
  unfold setV at h ⊢
  by_cases he : e = 0
  · rw [if_pos he] at h ⊢
    unfold setR at h ⊢
    cases hg : setGo l 0 0 with
    | error e1 => rfl
    | ok p =>
      obtain ⟨hh, d⟩ := p
      rw [hg] at h
      simp only [setEnd] at h ⊢
      by_cases h1 : isLen wd = true
      · rw [if_pos h1] at h ⊢
        by_cases h2 : (isLen hh && isLen d) = true
        · rw [if_pos h2] at h
          exact absurd rfl h
        · rw [if_neg h2]
      · rw [if_neg h1]
  · rw [if_neg he]
theorem center_end {y h d k : Int} (hy : isLen y = true) (hh : isLen h = true) (hd : isLen d = true) (hk : isLen k = true) (e : y = k - (h - d) / 2) :
    (wrap64 (wrap64 (y + h) - k) == wrap64 (k - wrap64 (y - d)) || wrap64 (wrap64 (y + h) - k) == wrap64 (wrap64 (k - wrap64 (y - d)) + 1)) = true := by
  obtain ⟨a1, a2⟩ := isLen_iff.1 hy
  obtain ⟨b1, b2⟩ := isLen_iff.1 hh
  obtain ⟨c1, c2⟩ := isLen_iff.1 hd
  obtain ⟨d1, d2⟩ := isLen_iff.1 hk
  have w1 : wrap64 (y + h) = y + h := by unfold wrap64; omega
  have w2 : wrap64 (y - d) = y - d := by unfold wrap64; omega
  have w3 : wrap64 (y + h - k) = y + h - k := by unfold wrap64; omega
  have w4 : wrap64 (k - (y - d)) = k - (y - d) := by unfold wrap64; omega
  have w5 : wrap64 (k - (y - d) + 1) = k - (y - d) + 1 := by unfold wrap64; omega
  rw [w1, w2, w3, w4, w5]
  simp only [Bool.or_eq_true, beq_iff_eq]
  omega
theorem center_nil (F : S36) (c z : Int) (b : S39) (h : (centerV F c z b).2.2.2.2.2.2.2 ≠ 0) : (centerV F c z b).2.2.2.2.2.2.1 = [] := setGo_nil h
set_option maxRecDepth 100000 in
set_option maxHeartbeats 3000000 in
theorem law_center (w : World) (F : S36) (c z : Int) (b : S39) (hO : Ok39 b) (cs : List Value) (Ab : Option Addr) (nb : Nat) (hF : FontIn w F cs) (hl : b.f6.length ≤ nb) (hC : Kd.C k49 w Ab b.f6.length b.f6)
    (hpile : ∀ w : World, Calls Try.prog 20 #[] w fun r w' => r = .returned (.bool true) ∧ Below w.heap.size w w') :
    Calls Try.prog 6 #[.agg cs.toArray, .int .i64 c, .int .i64 z, .agg #[.int .i64 b.f0, .int .i64 b.f1, .int .i64 b.f2, .int .i64 b.f3, .int .i64 b.f4, .int .i64 b.f5, .slice Ab b.f6.length nb]] w fun r w' => r = .returned (.bool true) ∧ Below w.heap.size w w' := by
  have hu39 := Try.underlying39
  have hu49 := Try.underlying49
  have hu36 := Try.underlying36
  have HF := Aside0.mk hF
  have HO := Aside0.mk hO
  have HL := Aside0.mk hl
  have HC := Aside0.mk hC
  obtain ⟨A6, c6, A7, c7, A8, c8, A9, c9, A10, c10, A11, c11, A12, c12, A13, c13, A15, c15, A16, c16, hcs, hcr⟩ := id hF
  subst hcs
  clear hcr hO hl hC hF
  have HP := Aside0.mk (Pd.start w)
  go_enter Try.func6, Try.ntmps6
  go_wp2_with (first | ((with_reducible refine gate_dst (N := 4) rfl ?_); refine box_event ?hg (N := 4) ?hd (cs := #[.int .i64 F.f0.f0, .int .i64 F.f0.f1, .int .i64 F.f0.f2, .int .i64 F.f0.f3, .int .i64 F.f0.f4, .bool F.f0.f5, .slice A6 F.f1.length c6, .slice A7 F.f2.length c7, .slice A8 F.f3.length c8, .slice A9 F.f4.f0.length c9, .slice A10 F.f4.f1.length c10, .slice A11 F.f4.f2.length c11, .slice A12 F.f4.f3.length c12, .slice A13 F.f4.f4.length c13, .int .i64 F.f4.f5.f0, .slice A15 F.f4.f5.f1.length c15, .slice A16 F.f4.f5.f2.length c16]) (t := 36) ?hr ?_; (case hd => rfl); (case hg => rfl); (case hr => first | (go_simp; done) | (go_simp; rfl)); intro gf hg wk hbox hb; replace HP := Aside0.mk (Pd.box (by with_reducible repeat (first | exact HP.out | apply Pd.drew)) hg hbox hb); clear hg hbox hb) | ((with_reducible refine gate_dst (N := 7) rfl ?_); refine box_event ?hg (N := 7) ?hd (cs := #[.int .i64 b.f0, .int .i64 b.f1, .int .i64 b.f2, .int .i64 b.f3, .int .i64 b.f4, .int .i64 b.f5, .slice Ab b.f6.length nb]) (t := 39) ?hr ?_; (case hd => rfl); (case hg => rfl); (case hr => first | (go_simp; done) | (go_simp; rfl)); intro gb hg wk hbox hb; replace HP := Aside0.mk (Pd.box (by with_reducible repeat (first | exact HP.out | apply Pd.drew)) hg hbox hb); clear hg hbox hb; have hsb := cells7 (Pd.hd HP.out)) | ((with_reducible refine gate_dst (N := 16) rfl ?_); refine wpList_load_row rfl 36 (.tmp 4) rfl gf (by rfl) 36 #[.int .i64 F.f0.f0, .int .i64 F.f0.f1, .int .i64 F.f0.f2, .int .i64 F.f0.f3, .int .i64 F.f0.f4, .bool F.f0.f5, .slice A6 F.f1.length c6, .slice A7 F.f2.length c7, .slice A8 F.f3.length c8, .slice A9 F.f4.f0.length c9, .slice A10 F.f4.f1.length c10, .slice A11 F.f4.f2.length c11, .slice A12 F.f4.f3.length c12, .slice A13 F.f4.f4.length c13, .int .i64 F.f4.f5.f0, .slice A15 F.f4.f5.f1.length c15, .slice A16 F.f4.f5.f2.length c16] (0, 0) _ (Pd.hd (Pd.tl HP.out)) hu36 rfl info_font ?_))
  clear hsb
  refine (few_calls _ F b b HO.out HO.out _ Ab nb Ab nb (HF.out.heap HP.out.bel) HL.out (Kd.C_below HC.out HP.out.bel) HL.out (Kd.C_below HC.out HP.out.bel)).mono ?_
  rintro _ w1 ⟨q, rfl, hb⟩
  replace HP := Aside0.mk (Pd.below HP.out hb)
  clear hb
  cases q with
  | false =>
    go_wp2
    go_ret
    exact ⟨rfl, HP.out.bel⟩
  | true =>
    have hsb := cells7 (Pd.hd HP.out)
    go_wp2_with (first | ((with_reducible refine gate_dst (N := 22) rfl ?_); refine wpList_load_row rfl 36 (.tmp 4) rfl gf (by rfl) 36 #[.int .i64 F.f0.f0, .int .i64 F.f0.f1, .int .i64 F.f0.f2, .int .i64 F.f0.f3, .int .i64 F.f0.f4, .bool F.f0.f5, .slice A6 F.f1.length c6, .slice A7 F.f2.length c7, .slice A8 F.f3.length c8, .slice A9 F.f4.f0.length c9, .slice A10 F.f4.f1.length c10, .slice A11 F.f4.f2.length c11, .slice A12 F.f4.f3.length c12, .slice A13 F.f4.f4.length c13, .int .i64 F.f4.f5.f0, .slice A15 F.f4.f5.f1.length c15, .slice A16 F.f4.f5.f2.length c16] (0, 0) _ (Pd.hd (Pd.tl HP.out)) hu36 rfl info_font ?_))
    clear hsb
    refine (center_calls F c z b Ab nb _ _ (HF.out.heap HP.out.bel) HL.out (Kd.C_below HC.out HP.out.bel)).mono ?_
    rintro _ w5 ⟨A5, n5, rfl, hl5, hC5, hb⟩
    replace HP := Aside0.mk (Pd.below HP.out hb)
    have HQ := Aside0.mk (Pd.start w5)
    clear hb
    have hS := center_plain F c z b
    have hN := center_nil F c z b
    obtain ⟨R, hR⟩ : ∃ R, R = centerV F c z b := ⟨_, rfl⟩
    rw [← hR] at hl5 hC5 hS hN ⊢
    clear hR
    by_cases he : R.2.2.2.2.2.2.2 = 0
    · obtain ⟨hk, hbh, hbd, y, hh, d, hV, hy, hk1, hyv⟩ := hS he
      subst hV
      dsimp only at hl5 hC5 ⊢
      clear he hN hS
      have HC5 := Aside0.mk hC5
      have HL5 := Aside0.mk hl5
      clear hC5 hl5
      obtain ⟨Kv, hKv⟩ : ∃ Kv, Kv = konstV F 5 c z := ⟨_, rfl⟩
      rw [← hKv] at hk hk1 hyv
      have HK := Aside0.mk hKv
      have HY := Aside0.mk (And.intro hyv (And.intro hbh (And.intro hbd (And.intro hy hk1))))
      clear hKv hyv hbh hbd hy hk1
      go_wp2_with (first | ((with_reducible refine gate_dst (N := 9) rfl ?_); refine box_event ?hg (N := 9) ?hd (cs := #[.int .i64 0, .int .i64 0, .int .i64 0, .int .i64 0, .int .i64 0, .int .i64 0, .slice none 0 0]) (t := 39) ?hr ?_; (case hd => rfl); (case hg => rfl); (case hr => first | (go_simp; done) | (go_simp; rfl)); intro g9 hg wk9 hbox hb; replace HP := Aside0.mk (Pd.box HP.out hg hbox hb); replace HQ := Aside0.mk (Pd.box HQ.out hg hbox hb); clear hg hbox hb; have hcz := cells7 (Pd.hd HP.out); have hfz := froz7 (Pd.hd HP.out)) | ((with_reducible refine gate_dst (N := 30) rfl ?_); refine wpList_load_row rfl 36 (.tmp 4) rfl gf (by rfl) 36 #[.int .i64 F.f0.f0, .int .i64 F.f0.f1, .int .i64 F.f0.f2, .int .i64 F.f0.f3, .int .i64 F.f0.f4, .bool F.f0.f5, .slice A6 F.f1.length c6, .slice A7 F.f2.length c7, .slice A8 F.f3.length c8, .slice A9 F.f4.f0.length c9, .slice A10 F.f4.f1.length c10, .slice A11 F.f4.f2.length c11, .slice A12 F.f4.f3.length c12, .slice A13 F.f4.f4.length c13, .int .i64 F.f4.f5.f0, .slice A15 F.f4.f5.f1.length c15, .slice A16 F.f4.f5.f2.length c16] (0, 0) _ (Pd.hd (Pd.tl (Pd.tl (Pd.st7 HP.out)))) hu36 rfl info_font ?_))
      clear hcz hfz
      refine (konst_calls _ F _ 5 c z (HF.out.heap (Pd.st7 HP.out).bel)).mono ?_
      rintro _ w6 ⟨rfl, hb⟩
      rw [← HK.out]
      replace HP := Aside0.mk (Pd.below (Pd.st7 HP.out) hb)
      replace HQ := Aside0.mk (Pd.below (Pd.st7 HQ.out) hb)
      clear hb
      have hs9 := cells7 (Pd.hd HP.out)
      have hsb := cells7 (Pd.hd (Pd.tl HP.out))
      obtain ⟨ad, A8, c8, hA, h0, h1, _, _, _, _, _, _, _, _⟩ := at_T49 (Kd.C_below HC5.out HQ.out.bel) 0 (Int.le_refl 0) (by simp)
      subst hA
      have ea : ad.add ((0 : Int).toNat * 9) = ad := by simp [Addr.add]
      rw [ea] at h0 h1
      have hx : w6.cell? ad = some (.int .i64 0) := h0
      have hy : w6.cell? ⟨ad.block, ad.off + 1, none⟩ = some (.int .i64 y) := h1
      clear h0 h1 ea
      go_wp2_with fail
      clear hs9 hsb hx hy
      refine (hpile _).mono ?_
      rintro _ w7 ⟨rfl, hb⟩
      replace HP := Aside0.mk (Pd.below HP.out hb)
      clear hb
      go_wp2_with fail
      have HIS := fixed_Is_any (some ⟨w7.heap.size, 0, none⟩) 1 [y] (w7.alloc (.cells #[.int .i64 y] 3)) (lit1_C _ _ _ _ rfl) (Nat.le_refl _)
      rw [show ([y].all isLen) = true by simpa using HY.out.2.2.2.1] at HIS
      refine HIS.mono ?_
      rintro _ w8 ⟨rfl, hd⟩
      replace HP := Aside0.mk (Pd.below HP.out (((Below.refl _ _).alloc (Nat.le_refl _) _).trans (hd.below.mono (by simp))))
      clear hd HIS
      go_wp2
      all_goals go_ret
      all_goals refine ⟨?_, HP.out.bel⟩
      all_goals first | rfl | exact congrArg (fun b => Ending.returned (Value.bool b)) (center_end HY.out.2.2.2.1 HY.out.2.1 HY.out.2.2.1 HY.out.2.2.2.2 HY.out.1)
    · have hn0 := hN he
      have hlen : R.2.2.2.2.2.2.1.length = 0 := by rw [hn0]; rfl
      have HE := Aside0.mk he
      clear hN hS hl5 hC5
      obtain ⟨Kv, hKv⟩ : ∃ Kv, Kv = konstV F 5 c z := ⟨_, rfl⟩
      have HK := Aside0.mk hKv
      clear hKv hn0
      go_wp2_with (first | ((with_reducible refine gate_dst (N := 9) rfl ?_); refine box_event ?hg (N := 9) ?hd (cs := #[.int .i64 0, .int .i64 0, .int .i64 0, .int .i64 0, .int .i64 0, .int .i64 0, .slice none 0 0]) (t := 39) ?hr ?_; (case hd => rfl); (case hg => rfl); (case hr => first | (go_simp; done) | (go_simp; rfl)); intro g9 hg wk9 hbox hb; replace HP := Aside0.mk (Pd.box HP.out hg hbox hb); replace HQ := Aside0.mk (Pd.box HQ.out hg hbox hb); clear hg hbox hb; have hcz := cells7 (Pd.hd HP.out); have hfz := froz7 (Pd.hd HP.out)) | ((with_reducible refine gate_dst (N := 30) rfl ?_); refine wpList_load_row rfl 36 (.tmp 4) rfl gf (by rfl) 36 #[.int .i64 F.f0.f0, .int .i64 F.f0.f1, .int .i64 F.f0.f2, .int .i64 F.f0.f3, .int .i64 F.f0.f4, .bool F.f0.f5, .slice A6 F.f1.length c6, .slice A7 F.f2.length c7, .slice A8 F.f3.length c8, .slice A9 F.f4.f0.length c9, .slice A10 F.f4.f1.length c10, .slice A11 F.f4.f2.length c11, .slice A12 F.f4.f3.length c12, .slice A13 F.f4.f4.length c13, .int .i64 F.f4.f5.f0, .slice A15 F.f4.f5.f1.length c15, .slice A16 F.f4.f5.f2.length c16] (0, 0) _ (Pd.hd (Pd.tl (Pd.tl (Pd.st7 HP.out)))) hu36 rfl info_font ?_))
      clear hcz hfz
      refine (konst_calls _ F _ 5 c z (HF.out.heap (Pd.st7 HP.out).bel)).mono ?_
      rintro _ w6 ⟨rfl, hb⟩
      rw [← HK.out]
      replace HP := Aside0.mk (Pd.below (Pd.st7 HP.out) hb)
      clear hb HQ
      go_wp2_with fail
      refine (hpile _).mono ?_
      rintro _ w7 ⟨rfl, hb⟩
      replace HP := Aside0.mk (Pd.below HP.out hb)
      clear hb
      have hs9 := cells7 (Pd.hd HP.out)
      go_wp2
      go_ret
      exact ⟨rfl, HP.out.bel⟩
end Go.Proofs.Ytjkbblnebpgpfaa.P
