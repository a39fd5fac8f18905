import Derived.Test.YtbhljokhcmfgjaaGreatRef2
/- The document's MulDiv (layer 1), what fits (layer 3), a constant's size (layer 13): short walks. -/
set_option linter.unusedVariables false
set_option linter.unusedSimpArgs false
namespace Go.Proofs.YtbhljokhcmfgjaaGreat.P
open Go.RowKit Go.Proofs.YtbhljokhcmfgjaaGreatW.PrintWords Go.Proofs.YtbhljokhcmfgjaaGreatW.PrintLast Go.Proofs.YtbhljokhcmfgjaaGreatW.PrintMore

theorem mulDiv_bad {a b c : Int} (h : isLen a = false ∨ isLen b = false ∨ isLen c = false ∨ c = 0) : toldOf (mulDivR a b c) = (0, 1) := by
  unfold mulDivR
  split
  · next h2 =>
    simp only [List.all_cons, List.all_nil, Bool.and_eq_true] at h2
    obtain ⟨h3, h4, h5, _⟩ := h2
    rw [h3, h4, h5] at h
    rw [if_pos (by simpa using h)]
    rfl
  · rfl
theorem mulDiv_val {a b c : Int} (ha : isLen a = true) (hb : isLen b = true) (hc : isLen c = true) (h0 : c ≠ 0) : toldOf (mulDivR a b c) = toldOf (.ok (nearV (if c < 0 then -(a * b) else a * b) (farV c))) := by
  rw [mulDivR, if_pos (by simp [ha, hb, hc]), if_neg h0, mulDivQ_near ha hb hc h0]
set_option maxHeartbeats 1000000 in
theorem mulDiv01 (a b c : Int) (w : World) : Calls Tryz.prog 59 #[.int .i64 a, .int .i64 b, .int .i64 c] w fun e w' => e = .returned (.tuple #[.int .i64 (toldOf (mulDivR a b c)).1, .int .i64 (toldOf (mulDivR a b c)).2]) ∧ w = w' := by
  by_cases h : isLen a = true
  · by_cases h2 : isLen b = true
    · by_cases h3 : isLen c = true
      · by_cases h0 : c = 0
        · have HL := Aside0.mk h
          have HL2 := Aside0.mk h2
          have HL3 := Aside0.mk h3
          have HV := Aside0.mk (mulDiv_bad (a := a) (b := b) (.inr (.inr (.inr h0))))
          have h00 : (c == 0) = true := by simpa using h0
          clear h h2 h3 h0
          go_enter Tryz.func59, Tryz.ntmps59
          go_wp2_with fail
          refine (len01_t HL.out _).mono ?_
          rintro _ w1 ⟨rfl, rfl⟩
          go_wp2_with fail
          refine (len01_t HL2.out _).mono ?_
          rintro _ w1 ⟨rfl, rfl⟩
          go_wp2_with fail
          refine (len01_t HL3.out _).mono ?_
          rintro _ w1 ⟨rfl, rfl⟩
          go_wp2
          go_ret2
          exact ⟨tm2 (by rw [HV.out]) (by rw [HV.out]), rfl⟩
        · have HL := Aside0.mk h
          have HL2 := Aside0.mk h2
          have HL3 := Aside0.mk h3
          obtain ⟨ha1, ha2⟩ := isLen_iff.1 h
          obtain ⟨hb1, hb2⟩ := isLen_iff.1 h2
          obtain ⟨hc1, hc2⟩ := isLen_iff.1 h3
          have hp0 : -1152921504606846976 ≤ a * b ∧ a * b ≤ 1152921504606846976 := by
            have h1 : (a * b).natAbs ≤ 1073741823 * 1073741823 := by
              rw [Int.natAbs_mul]
              exact Nat.mul_le_mul (by omega) (by omega)
            omega
          have hw : wrap64 (a * b) = a * b := wrap_lo hp0.1 hp0.2
          have hwr : IntKind.i64.wrap (a * b) = a * b := by rw [i64_w]; exact hw
          have HV := Aside0.mk (mulDiv_val h h2 h3 h0)
          have h00 : (c == 0) = false := by simpa using h0
          obtain ⟨p, hp⟩ : ∃ p, p = a * b := ⟨_, rfl⟩
          rw [← hp] at hp0 hw hwr HV
          have HP := Aside0.mk hp
          have HW := Aside0.mk hw
          obtain ⟨p1, p2⟩ := hp0
          have hf := farV_bd (a := c) (m := 1073741823) (by omega) (by omega)
          have hfp : 0 < farV c := by unfold farV; split <;> omega
          have HFP := Aside0.mk hfp
          have HF2 := Aside0.mk hf.2
          clear h h2 h3 h0 hp hwr hw hf hfp
          by_cases hn : c < 0
          · have hnd : decide (c < 0) = true := by simpa using hn
            have HN := Aside0.mk (show (if c < 0 then -p else p) = -p from if_pos hn)
            rw [HN.out] at HV
            clear HN
            go_enter Tryz.func59, Tryz.ntmps59
            go_wp2_with fail
            refine (len01_t HL.out _).mono ?_
            rintro _ w1 ⟨rfl, rfl⟩
            go_wp2_with fail
            refine (len01_t HL2.out _).mono ?_
            rintro _ w1 ⟨rfl, rfl⟩
            go_wp2_with fail
            refine (len01_t HL3.out _).mono ?_
            rintro _ w1 ⟨rfl, rfl⟩
            go_wp2_with fail
            (try simp only [i64_w])
            rw [← HP.out, HW.out, show wrap64 (-p) = -p from wrap_lo (by omega) (by omega)]
            refine (far01 c (by omega) (by omega) _).mono ?_
            rintro _ w1 ⟨rfl, rfl⟩
            go_wp2_with fail
            refine (near01 (-p) (farV c) (by omega) (by omega) HFP.out HF2.out _).mono ?_
            rintro _ w1 ⟨rfl, rfl⟩
            go_wp2_with fail
            refine (told01 _ _).mono ?_
            rintro _ w1 ⟨rfl, rfl⟩
            go_wp2
            go_ret2
            exact ⟨tm2 (by rw [HV.out]) (by rw [HV.out]), rfl⟩
          · have hnd : decide (c < 0) = false := by simpa using hn
            have HN := Aside0.mk (show (if c < 0 then -p else p) = p from if_neg hn)
            rw [HN.out] at HV
            clear HN
            go_enter Tryz.func59, Tryz.ntmps59
            go_wp2_with fail
            refine (len01_t HL.out _).mono ?_
            rintro _ w1 ⟨rfl, rfl⟩
            go_wp2_with fail
            refine (len01_t HL2.out _).mono ?_
            rintro _ w1 ⟨rfl, rfl⟩
            go_wp2_with fail
            refine (len01_t HL3.out _).mono ?_
            rintro _ w1 ⟨rfl, rfl⟩
            go_wp2_with fail
            (try simp only [i64_w])
            rw [← HP.out, HW.out]
            refine (far01 c (by omega) (by omega) _).mono ?_
            rintro _ w1 ⟨rfl, rfl⟩
            go_wp2_with fail
            refine (near01 p (farV c) (by omega) (by omega) HFP.out HF2.out _).mono ?_
            rintro _ w1 ⟨rfl, rfl⟩
            go_wp2_with fail
            refine (told01 _ _).mono ?_
            rintro _ w1 ⟨rfl, rfl⟩
            go_wp2
            go_ret2
            exact ⟨tm2 (by rw [HV.out]) (by rw [HV.out]), rfl⟩
      · have HL := Aside0.mk h
        have HL2 := Aside0.mk h2
        have HL3 := Aside0.mk (show isLen c = false by simpa using h3)
        clear h h2 h3
        go_enter Tryz.func59, Tryz.ntmps59
        go_wp2_with fail
        refine (len01_t HL.out _).mono ?_
        rintro _ w1 ⟨rfl, rfl⟩
        go_wp2_with fail
        refine (len01_t HL2.out _).mono ?_
        rintro _ w1 ⟨rfl, rfl⟩
        go_wp2_with fail
        refine (len01_f HL3.out _).mono ?_
        rintro _ w1 ⟨rfl, rfl⟩
        go_wp2
        go_ret2
        exact ⟨tm2 (by rw [mulDiv_bad (.inr (.inr (.inl HL3.out)))]) (by rw [mulDiv_bad (.inr (.inr (.inl HL3.out)))]), rfl⟩
    · have HL := Aside0.mk h
      have HL2 := Aside0.mk (show isLen b = false by simpa using h2)
      clear h h2
      go_enter Tryz.func59, Tryz.ntmps59
      go_wp2_with fail
      refine (len01_t HL.out _).mono ?_
      rintro _ w1 ⟨rfl, rfl⟩
      go_wp2_with fail
      refine (len01_f HL2.out _).mono ?_
      rintro _ w1 ⟨rfl, rfl⟩
      go_wp2
      go_ret2
      exact ⟨tm2 (by rw [mulDiv_bad (.inr (.inl HL2.out))]) (by rw [mulDiv_bad (.inr (.inl HL2.out))]), rfl⟩
  · have HL := Aside0.mk (show isLen a = false by simpa using h)
    clear h
    go_enter Tryz.func59, Tryz.ntmps59
    go_wp2_with fail
    refine (len01_f HL.out _).mono ?_
    rintro _ w1 ⟨rfl, rfl⟩
    go_wp2
    go_ret2
    exact ⟨tm2 (by rw [mulDiv_bad (.inl HL.out)]) (by rw [mulDiv_bad (.inl HL.out)]), rfl⟩
theorem power2 (w : World) : Calls Tryz.prog 102 #[.int .i64 2] w fun e w' => e = .returned (.int .i64 65536) ∧ w = w' := by
  go_enter Tryz.func102, Tryz.ntmps102
  go_wp2
  go_loop [3, 4] (fun v i => (v = .int .i64 1 ∧ i = .int .i64 0) ∨ (v = .int .i64 256 ∧ i = .int .i64 1) ∨ (v = .int .i64 65536 ∧ i = .int .i64 2)) (fun _ i => 2 - (intOf i).toNat)
  case atStart => exact .inl ⟨rfl, rfl⟩
  case round =>
    rcases hrel with ⟨rfl, rfl⟩ | ⟨rfl, rfl⟩ | ⟨rfl, rfl⟩
    · go_wp2
      go_round
      case rel => exact .inr (.inl ⟨rfl, rfl⟩)
      case measure => simp [intOf]
    · go_wp2
      go_round
      case rel => exact .inr (.inr ⟨rfl, rfl⟩)
      case measure => simp [intOf]
    · go_wp2
      go_ret
      exact ⟨rfl, rfl⟩
theorem wide2 {n : Int} (h : n = 2 ∨ n = -2) (w : World) : Calls Tryz.prog 103 #[.int .i64 n] w fun e w' => e = .returned (.int .i64 2) ∧ w = w' := by
  rcases h with rfl | rfl
  · go_enter Tryz.func103, Tryz.ntmps103
    go_wp2
    go_ret
    exact ⟨rfl, rfl⟩
  · go_enter Tryz.func103, Tryz.ntmps103
    go_wp2
    go_ret
    exact ⟨rfl, rfl⟩
theorem fits2 (v : Int) {n : Int} (h : n = 2 ∨ n = -2) (w : World) : Calls Tryz.prog 79 #[.int .i64 v, .int .i64 n] w fun e w' => e = .returned (.bool (fitsR v n)) ∧ w = w' := by
  rcases h with rfl | rfl
  · by_cases h1 : 0 ≤ v
    · have e2 : decide (0 ≤ v) = true := by simpa using h1
      go_enter Tryz.func79, Tryz.ntmps79
      go_wp2_with fail
      refine (wide2 (.inl rfl) _).mono ?_
      rintro _ w1 ⟨rfl, rfl⟩
      go_wp2_with fail
      refine (power2 _).mono ?_
      rintro _ w1 ⟨rfl, rfl⟩
      go_wp2
      go_ret
      exact ⟨tmb (by simp [fitsR, e2]), rfl⟩
    · have e2 : decide (0 ≤ v) = false := by simpa using h1
      go_enter Tryz.func79, Tryz.ntmps79
      go_wp2_with fail
      refine (wide2 (.inl rfl) _).mono ?_
      rintro _ w1 ⟨rfl, rfl⟩
      go_wp2_with fail
      refine (power2 _).mono ?_
      rintro _ w1 ⟨rfl, rfl⟩
      go_wp2
      go_ret
      exact ⟨tmb (by simp [fitsR, e2]), rfl⟩
  · by_cases h1 : -32768 ≤ v
    · have e2 : decide (-32768 ≤ v) = true := by simpa using h1
      go_enter Tryz.func79, Tryz.ntmps79
      go_wp2_with fail
      refine (wide2 (.inr rfl) _).mono ?_
      rintro _ w1 ⟨rfl, rfl⟩
      go_wp2_with fail
      refine (power2 _).mono ?_
      rintro _ w1 ⟨rfl, rfl⟩
      go_wp2
      go_ret
      exact ⟨tmb (by simp [fitsR, e2]), rfl⟩
    · have e2 : decide (-32768 ≤ v) = false := by simpa using h1
      go_enter Tryz.func79, Tryz.ntmps79
      go_wp2_with fail
      refine (wide2 (.inr rfl) _).mono ?_
      rintro _ w1 ⟨rfl, rfl⟩
      go_wp2_with fail
      refine (power2 _).mono ?_
      rintro _ w1 ⟨rfl, rfl⟩
      go_wp2
      go_ret
      exact ⟨tmb (by simp [fitsR, e2]), rfl⟩
theorem size13 (k : Nat) (hk : k ≤ 56) (w : World) : Calls Tryz.prog 80 #[.int .i64 (k : Int)] w fun e w' => e = .returned (.int .i64 (kSize k)) ∧ w = w' := by
  by_cases h2 : k = 2
  · subst h2
    go_enter Tryz.func80, Tryz.ntmps80
    go_wp2
    go_ret
    exact ⟨tm1 (by simp [kSize]), rfl⟩
  · by_cases h3 : k = 3
    · subst h3
      go_enter Tryz.func80, Tryz.ntmps80
      go_wp2
      go_ret
      exact ⟨tm1 (by simp [kSize]), rfl⟩
    · have e2 : ((k : Int) == 2) = false := by simp; omega
      have e3 : ((k : Int) == 3) = false := by simp; omega
      have HK := Aside0.mk (show kSize k = -2 by rw [kSize, if_neg (by omega)])
      clear h2 h3
      go_enter Tryz.func80, Tryz.ntmps80
      go_wp2
      go_ret
      exact ⟨tm1 (by rw [HK.out]), rfl⟩
end Go.Proofs.YtbhljokhcmfgjaaGreat.P
