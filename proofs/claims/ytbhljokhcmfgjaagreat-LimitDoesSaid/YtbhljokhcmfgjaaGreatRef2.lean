import Derived.Test.YtbhljokhcmfgjaaGreatRef1h
/- The document's product by a quotient (layer 1): a short walk, and that it is the program's. -/
set_option linter.unusedVariables false
set_option linter.unusedSimpArgs false
namespace Go.Proofs.YtbhljokhcmfgjaaGreat.P
open Go.RowKit Go.Proofs.YtbhljokhcmfgjaaGreatW.PrintWords Go.Proofs.YtbhljokhcmfgjaaGreatW.PrintLast Go.Proofs.YtbhljokhcmfgjaaGreatW.PrintMore

def farV (a : Int) : Int := if a < 0 then -a else a
theorem farV_bd {a m : Int} (h1 : -m ≤ a) (h2 : a ≤ m) : 0 ≤ farV a ∧ farV a ≤ m := by unfold farV; split <;> omega
theorem far01 (a : Int) (h1 : -9223372036854775807 ≤ a) (h2 : a ≤ 9223372036854775807) (w : World) : Calls Tryz.prog 82 #[.int .i64 a] w fun e w' => e = .returned (.int .i64 (farV a)) ∧ w = w' := by
  by_cases h : a < 0
  · have hd : decide (a < 0) = true := by simpa using h
    go_enter Tryz.func82, Tryz.ntmps82
    go_wp2
    go_ret
    exact ⟨tm1 (by rw [farV, if_pos (by omega)]), rfl⟩
  · have hd : decide (a < 0) = false := by simpa using h
    go_enter Tryz.func82, Tryz.ntmps82
    go_wp2
    go_ret
    exact ⟨tm1 (by rw [farV, if_neg (by omega)]), rfl⟩
def nearQ (f c : Int) : Int := if c ≤ 2 * (f % c) then f / c + 1 else f / c
def nearV (p c : Int) : Int := if p < 0 then -nearQ (farV p) c else nearQ (farV p) c
theorem near01 (p c : Int) (h1 : -1152921504606846976 ≤ p) (h2 : p ≤ 1152921504606846976) (hc : 0 < c) (hc2 : c ≤ 1073741823) (w : World) : Calls Tryz.prog 81 #[.int .i64 p, .int .i64 c] w fun e w' => e = .returned (.int .i64 (nearV p c)) ∧ w = w' := by
  obtain ⟨f, hf⟩ : ∃ f, f = farV p := ⟨_, rfl⟩
  have hb := farV_bd h1 h2
  rw [← hf] at hb
  obtain ⟨hf1, hf2⟩ := hb
  have hq1 : 0 ≤ f / c := Int.ediv_nonneg hf1 (by omega)
  have hq2 : f / c ≤ 1152921504606846976 := Int.le_trans (Int.ediv_le_self _ hf1) hf2
  have hm1 : 0 ≤ f % c := Int.emod_nonneg _ (by omega)
  have hm2 : f % c < c := Int.emod_lt_of_pos _ hc
  have H := Aside0.mk (show nearV p c = if p < 0 then -nearQ f c else nearQ f c by rw [nearV, ← hf])
  have HF := Aside0.mk hf
  have h0 : ¬ c = 0 := by omega
  have h00 : (c == 0) = false := by simpa using h0
  clear hf
  by_cases hp : p < 0
  · have hpd : decide (p < 0) = true := by simpa using hp
    by_cases hr : c ≤ 2 * (f % c)
    · have hrd : decide (c ≤ 2 * (f % c)) = true := by simpa using hr
      go_enter Tryz.func81, Tryz.ntmps81
      go_wp2_with (refine (far01 p (by omega) (by omega) _).mono ?_; rintro _ w1 ⟨rfl, rfl⟩; rw [← HF.out])
      go_ret
      exact ⟨tm1 (by rw [H.out, if_pos (by omega), nearQ, if_pos (by omega)]), rfl⟩
    · have hrd : decide (c ≤ 2 * (f % c)) = false := by simpa using hr
      go_enter Tryz.func81, Tryz.ntmps81
      go_wp2_with (refine (far01 p (by omega) (by omega) _).mono ?_; rintro _ w1 ⟨rfl, rfl⟩; rw [← HF.out])
      go_ret
      exact ⟨tm1 (by rw [H.out, if_pos (by omega), nearQ, if_neg (by omega)]), rfl⟩
  · have hpd : decide (p < 0) = false := by simpa using hp
    by_cases hr : c ≤ 2 * (f % c)
    · have hrd : decide (c ≤ 2 * (f % c)) = true := by simpa using hr
      go_enter Tryz.func81, Tryz.ntmps81
      go_wp2_with (refine (far01 p (by omega) (by omega) _).mono ?_; rintro _ w1 ⟨rfl, rfl⟩; rw [← HF.out])
      go_ret
      exact ⟨tm1 (by rw [H.out, if_neg (by omega), nearQ, if_pos (by omega)]), rfl⟩
    · have hrd : decide (c ≤ 2 * (f % c)) = false := by simpa using hr
      go_enter Tryz.func81, Tryz.ntmps81
      go_wp2_with (refine (far01 p (by omega) (by omega) _).mono ?_; rintro _ w1 ⟨rfl, rfl⟩; rw [← HF.out])
      go_ret
      exact ⟨tm1 (by rw [H.out, if_neg (by omega), nearQ, if_neg (by omega)]), rfl⟩
theorem wrap_lo {x : Int} (h1 : -1152921504606846976 ≤ x) (h2 : x ≤ 1152921504606846976) : wrap64 x = x := by unfold wrap64; omega
theorem round_pp (P C : Int) (hP : 0 ≤ P) (hC : 0 < C) : roundQ P C (P / C) (P % C) = nearQ P C := by
  have h1 := Int.emod_nonneg P (show C ≠ 0 by omega)
  unfold roundQ nearQ
  rw [if_neg (show ¬ C < -C by omega), if_neg (show ¬ P % C < -(P % C) by omega)]
  split
  · rw [if_pos (by simp; omega)]
  · rfl
theorem round_np (P C : Int) (hP : 0 < P) (hC : 0 < C) : roundQ (-P) C (-(P / C)) (-(P % C)) = -nearQ P C := by
  have h1 := Int.emod_nonneg P (show C ≠ 0 by omega)
  unfold roundQ nearQ
  rw [if_neg (show ¬ C < -C by omega)]
  have : (if -(P % C) < - -(P % C) then - -(P % C) else -(P % C)) = P % C := by split <;> omega
  rw [this]
  split
  · rw [if_neg (by simp; omega)]; omega
  · rfl
theorem round_pn (P C : Int) (hP : 0 < P) (hC : 0 < C) : roundQ P (-C) (-(P / C)) (P % C) = -nearQ P C := by
  have h1 := Int.emod_nonneg P (show C ≠ 0 by omega)
  unfold roundQ nearQ
  rw [if_pos (show -C < - -C by omega), if_neg (show ¬ P % C < -(P % C) by omega), Int.neg_neg]
  split
  · rw [if_neg (by simp; omega)]; omega
  · rfl
theorem round_nn (P C : Int) (hP : 0 < P) (hC : 0 < C) : roundQ (-P) (-C) (P / C) (-(P % C)) = nearQ P C := by
  have h1 := Int.emod_nonneg P (show C ≠ 0 by omega)
  unfold roundQ nearQ
  rw [if_pos (show -C < - -C by omega), Int.neg_neg]
  have : (if -(P % C) < - -(P % C) then - -(P % C) else -(P % C)) = P % C := by split <;> omega
  rw [this]
  split
  · rw [if_pos (by simp; omega)]
  · rfl
theorem nearQ_zero {C : Int} (hC : 0 < C) : nearQ 0 C = 0 := by unfold nearQ; rw [if_neg (by simp; omega)]; simp
theorem near_eq (p c : Int) (hc : c ≠ 0) (h1 : -1152921504606846976 ≤ p) (h2 : p ≤ 1152921504606846976) : roundQ p c (p.tdiv c) (p.tmod c) = nearV (if c < 0 then -p else p) (farV c) := by
  by_cases hz : p = 0
  · subst hz
    have e1 : (0 : Int).tdiv c = 0 := Int.zero_tdiv c
    have e2 : (0 : Int).tmod c = 0 := Int.zero_tmod c
    have hf : 0 < farV c := by unfold farV; split <;> omega
    rw [e1, e2, show (if c < 0 then -(0 : Int) else 0) = 0 by split <;> rfl, nearV, if_neg (by omega), show farV 0 = 0 from rfl, nearQ_zero hf]
    unfold roundQ
    rw [if_neg (by simp; split <;> omega)]
  by_cases hp : p < 0
  · obtain ⟨P, rfl⟩ : ∃ P : Int, p = -P := ⟨-p, by omega⟩
    by_cases hn : c < 0
    · obtain ⟨C, rfl⟩ : ∃ C : Int, c = -C := ⟨-c, by omega⟩
      rw [Int.neg_tdiv, Int.tdiv_neg, Int.neg_neg, Int.neg_tmod, Int.tmod_neg, Int.tdiv_eq_ediv_of_nonneg (by omega), Int.tmod_eq_emod_of_nonneg (by omega), round_nn P C (by omega) (by omega), if_pos hn, Int.neg_neg, nearV, if_neg (by omega), show farV P = P by rw [farV, if_neg (by omega)], show farV (-C) = C by rw [farV, if_pos hn]; omega]
    · rw [Int.neg_tdiv, Int.neg_tmod, Int.tdiv_eq_ediv_of_nonneg (by omega), Int.tmod_eq_emod_of_nonneg (by omega), round_np P c (by omega) (by omega), if_neg hn, nearV, if_pos hp, show farV (-P) = P by rw [farV, if_pos hp]; omega, show farV c = c by rw [farV, if_neg hn]]
  · by_cases hn : c < 0
    · obtain ⟨C, rfl⟩ : ∃ C : Int, c = -C := ⟨-c, by omega⟩
      rw [Int.tdiv_neg, Int.tmod_neg, Int.tdiv_eq_ediv_of_nonneg (by omega), Int.tmod_eq_emod_of_nonneg (by omega), round_pn p C (by omega) (by omega), if_pos hn, nearV, if_pos (by omega), show farV (-p) = p by rw [farV, if_pos (by omega)]; omega, show farV (-C) = C by rw [farV, if_pos hn]; omega]
    · rw [Int.tdiv_eq_ediv_of_nonneg (by omega), Int.tmod_eq_emod_of_nonneg (by omega), round_pp p c (by omega) (by omega), if_neg hn, nearV, if_neg hp, show farV p = p by rw [farV, if_neg hp], show farV c = c by rw [farV, if_neg hn]]
theorem mulDivQ_near {a b c : Int} (ha : isLen a = true) (hb : isLen b = true) (hc : isLen c = true) (h0 : c ≠ 0) : mulDivQ a b c = nearV (if c < 0 then -(a * b) else a * b) (farV c) := by
  obtain ⟨ha1, ha2⟩ := isLen_iff.1 ha
  obtain ⟨hb1, hb2⟩ := isLen_iff.1 hb
  have hp0 := mul_bd ha1 ha2 hb1 hb2
  have hw : wrap64 (a * b) = a * b := by
    have h1 : (a * b).natAbs ≤ 1073741823 * 1073741823 := by
      rw [Int.natAbs_mul]
      exact Nat.mul_le_mul (by omega) (by omega)
    exact wrap_lo (by omega) (by omega)
  rw [hw] at hp0
  have hq := tdiv_bd (c := c) hp0.1 hp0.2
  rw [mulDivQ, hw]
  rw [← near_eq (a * b) c h0 hp0.1 hp0.2]
  congr 1
  have : -1152921504606846976 ≤ (a * b).tdiv c ∧ (a * b).tdiv c ≤ 1152921504606846976 := by
    have h1 : ((a * b).tdiv c).natAbs ≤ (a * b).natAbs := by rw [Int.natAbs_tdiv]; exact Nat.div_le_self _ _
    omega
  exact wrap_lo this.1 this.2
end Go.Proofs.YtbhljokhcmfgjaaGreat.P
