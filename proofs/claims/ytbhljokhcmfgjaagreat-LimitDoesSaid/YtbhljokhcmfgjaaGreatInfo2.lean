import Derived.Test.YtbhljokhcmfgjaaGreatInfo1
/- cover.Find: a goto loop. -/
set_option linter.unusedVariables false
set_option linter.unusedSimpArgs false
namespace Go.Proofs.YtbhljokhcmfgjaaGreat.P
open Go.RowKit Go.Proofs.YtbhljokhcmfgjaaGreatW.PrintWords Go.Proofs.YtbhljokhcmfgjaaGreatW.PrintLast Go.Proofs.YtbhljokhcmfgjaaGreatW.PrintMore
theorem cov_sorted : ∀ (l : List Int) (p : Option Int), covGo p l = true → l.Pairwise (· < ·) ∧ ∀ q, p = some q → ∀ x ∈ l, q < x
  | [], _, _ => ⟨List.Pairwise.nil, fun q _ x hx => by cases hx⟩
  | g :: l, p, h => by
    unfold covGo at h
    simp only [Bool.and_eq_true] at h
    obtain ⟨⟨_, hq⟩, hl⟩ := h
    obtain ⟨h1, h2⟩ := cov_sorted l (some g) hl
    refine ⟨List.pairwise_cons.2 ⟨h2 g rfl, h1⟩, fun q hpq x hx => ?_⟩
    subst hpq
    have hqg : q < g := by simpa using hq
    rcases List.mem_cons.1 hx with rfl | hx
    · exact hqg
    · have := h2 g rfl x hx; omega
theorem rd_getElem {l : List Int} {i : Nat} (h : i < l.length) : rd l (i : Int) = l[i] := by simp [rd, List.getD_eq_getElem?_getD, h]
theorem cov_lt {l : List Int} (h : covIs l = true) {i j : Nat} (hij : i < j) (hj : j < l.length) : rd l (i : Int) < rd l (j : Int) := by
  have h1 := List.pairwise_iff_getElem.1 (cov_sorted l none h).1 i j (by omega) hj hij
  rwa [rd_getElem (by omega), rd_getElem hj]
/-- What cover.Find answers. -/
def FindOk (l : List Int) (g at_ : Int) (is : Bool) : Prop := (is = true → covIs l = true ∧ ∃ k : Nat, at_ = k ∧ k < l.length ∧ rd l (k : Int) = g) ∧ (is = false → at_ = 0 ∧ (covIs l = true → ∀ x ∈ l, x ≠ g))
theorem findOk_no {l : List Int} {g : Int} {lo : Nat} (h1 : ∀ j : Nat, j < lo → rd l (j : Int) < g) (h2 : ∀ j : Nat, lo ≤ j → j < l.length → g < rd l (j : Int)) : FindOk l g 0 false := by
  refine ⟨fun h => (by cases h), fun _ => ⟨rfl, fun _ x hx => ?_⟩⟩
  obtain ⟨i, hi, rfl⟩ := List.getElem_of_mem hx
  by_cases hl : i < lo
  · have := h1 i hl; rw [rd_getElem hi] at this; omega
  · have := h2 i (by omega) hi; rw [rd_getElem hi] at this; omega
set_option maxRecDepth 100000 in
set_option maxHeartbeats 4000000 in
theorem coverFind_calls (A : Option Addr) (c : Nat) (l : List Int) (g : Int) (w : World) (hC : Kd.C (Kd.int .i64) w A l.length l) (hlen : l.length ≤ 1000000) :
    Calls Tryz.prog 61 #[.slice A l.length c, .int .i64 g] w fun r w' => (∃ at_ is, r = .returned (.tuple #[.int .i64 at_, .bool is]) ∧ FindOk l g at_ is) ∧ w = w' := by
  have hmax := Kd.C_max hC
  have HR := Aside0.mk hC
  have HI := Aside0.mk (coverIs_calls A c l w hC)
  clear hC
  go_enter Tryz.func61, Tryz.ntmps61
  go_wp2
  refine wp_scope_jumps 0 (fun a' w' => Aside0 (w' = w ∧ ∃ (lo hi : Nat) (u8 u9 u10 u11 u12 u13 u14 u15 u16 u17 u18 u19 u20 u21 u22 u23 u24 u25 u26 u27 u28 u29 u30 u31 u32 u33 u34 u35 u36 u37 u38 : Value), a' = ({ tmps := #[.slice A l.length c, .int .i64 g, undef, undef, .int .i64 0, .bool false, .int .i64 (lo : Nat), .int .i64 (hi : Nat), u8, u9, u10, u11, u12, u13, u14, u15, u16, u17, u18, u19, u20, u21, u22, u23, u24, u25, u26, u27, u28, u29, u30, u31, u32, u33, u34, u35, u36, u37, u38], defers := [] } : Act) ∧ lo ≤ hi ∧ hi ≤ l.length ∧ Aside0 (covIs l = true) ∧ Aside0 (∀ j : Nat, j < lo → rd l (j : Int) < g) ∧ Aside0 (∀ j : Nat, hi ≤ j → j < l.length → g < rd l (j : Int)))) (fun a' _ => (intOf (a'.tmps.getD 7 undef)).toNat - (intOf (a'.tmps.getD 6 undef)).toNat) (by rfl) ?_ ?_
  · go_wp2_with fail
    refine HI.out.mono ?_
    rintro _ w1 ⟨rfl, rfl⟩
    cases hq : covIs l with
    | false =>
      have HQ := Aside0.mk hq
      clear hq
      go_wp2
      simp only [Exit.jump]
      go_ret2
      exact ⟨⟨_, _, rfl, fun h => (by cases h), fun _ => ⟨rfl, fun h => by rw [HQ.out] at h; cases h⟩⟩, rfl⟩
    | true =>
      have HQ := Aside0.mk hq
      clear hq
      go_wp2
      go_step3
      by_cases heq : l.length = 0
      · have hd0 : ((0 : Int) == (l.length : Int)) = true := by simp; omega
        go_wp2
        simp only [Exit.jump]
        go_ret2
        exact ⟨⟨_, _, rfl, findOk_no (lo := 0) (fun j hj => absurd hj (Nat.not_lt_zero j)) (fun j _ hj => absurd hj (by omega))⟩, rfl⟩
      · have hd0 : ((0 : Int) == (l.length : Int)) = false := by simp; omega
        obtain ⟨m, hm⟩ : ∃ m, m = l.length / 2 := ⟨_, rfl⟩
        have HMID := Aside0.mk (show ((l.length : Int) / 2) = ((m : Nat) : Int) by rw [hm]; rfl)
        have hm1 : m < l.length := by omega
        have hi0 : (0 : Int) ≤ ((l.length : Int) / 2) := by have := HMID.out; omega
        have hi1 : ((l.length : Int) / 2) < (l.length : Int) := by have := HMID.out; omega
        obtain ⟨ad, e, hcl⟩ := Kd.at_int HR.out ((l.length : Int) / 2) hi0 hi1
        cases e
        obtain ⟨x, hx⟩ : ∃ x, x = rd l ((l.length : Int) / 2) := ⟨_, rfl⟩
        rw [← hx, show ((l.length : Int) / 2).toNat = l.length / 2 by omega] at hcl
        have HX := Aside0.mk (show x = rd l (m : Int) by rw [hx, HMID.out])
        have HM := Aside0.mk (show m < l.length by omega)
        clear hx hm
        clear hm1
        by_cases h1 : x = g
        · have e1 : (x == g) = true := by simp [h1]
          have H1 := Aside0.mk h1
          clear h1
          go_wp2
          simp only [Exit.inBlock, Exit.jump]
          go_ret2
          exact ⟨⟨_, _, rfl, fun _ => ⟨HQ.out, m, HMID.out, HM.out, HX.out.symm.trans H1.out⟩, fun h => (by cases h)⟩, rfl⟩
        · have e1 : (x == g) = false := by simp [h1]
          by_cases h2 : x < g
          · have e2 : decide (x < g) = true := decide_eq_true h2
            have HWM := Aside0.mk (show wrap64 (((l.length : Int) / 2) + 1) = ((m + 1 : Nat) : Int) by have := HM.out; rw [HMID.out]; unfold wrap64; omega)
            have HN := Aside0.mk (show ∀ j : Nat, j < m + 1 → rd l (j : Int) < g from fun j hj => by
              rcases Nat.lt_or_ge j m with h | h
              · have := cov_lt HQ.out h HM.out; rw [← HX.out] at this; omega
              · obtain rfl : j = m := by omega
                rw [← HX.out]; exact h2)
            clear h1 h2
            go_wp2
            go_step3
            have hm := HM.out
            have hmi := HMID.out
            rw [HMID.out]
            exact ⟨rfl, Aside0.mk ⟨rfl, m + 1, l.length, _, _, _, _, _, _, _, _, _, _, _, _, _, _, _, _, _, _, _, _, _, _, _, _, _, _, _, _, _, _, _, rfl, by omega, by omega, HQ, HN, ⟨fun j h1 h2 => absurd h2 (by omega)⟩⟩⟩
          · have e2 : decide (x < g) = false := decide_eq_false h2
            have HN := Aside0.mk (show ∀ j : Nat, m ≤ j → j < l.length → g < rd l (j : Int) from fun j hj hj2 => by
              rcases Nat.lt_or_ge m j with h | h
              · have := cov_lt HQ.out h hj2; rw [← HX.out] at this; omega
              · obtain rfl : j = m := by omega
                rw [← HX.out]; omega)
            clear h1 h2
            go_wp2
            go_step3
            have hm := HM.out
            have hmi := HMID.out
            rw [HMID.out]
            exact ⟨rfl, Aside0.mk ⟨rfl, 0, m, _, _, _, _, _, _, _, _, _, _, _, _, _, _, _, _, _, _, _, _, _, _, _, _, _, _, _, _, _, _, _, rfl, by omega, by omega, HQ, ⟨fun j h1 => absurd h1 (Nat.not_lt_zero j)⟩, HN⟩⟩
  · rintro a' w' ⟨⟨rfl, lo, hi, u8, u9, u10, u11, u12, u13, u14, u15, u16, u17, u18, u19, u20, u21, u22, u23, u24, u25, u26, u27, u28, u29, u30, u31, u32, u33, u34, u35, u36, u37, u38, rfl, hlh, hhl, HQ, HLO, HHI⟩⟩
    dsimp only
    by_cases heq : lo = hi
    · subst heq
      have hd0 : (((lo : Nat) : Int) == ((lo : Nat) : Int)) = true := by simp
      go_wp2
      simp only [Exit.jump]
      go_ret2
      exact ⟨⟨_, _, rfl, findOk_no (lo := lo) HLO.out HHI.out⟩, rfl⟩
    · have hd0 : (((lo : Nat) : Int) == ((hi : Nat) : Int)) = false := by simp; omega
      obtain ⟨m, hm⟩ : ∃ m, m = (lo + hi) / 2 := ⟨_, rfl⟩
      have HMID := Aside0.mk (show ((((lo : Nat) : Int) + ((hi : Nat) : Int)) / 2) = ((m : Nat) : Int) by rw [hm]; omega)
      have hm1 : m < hi := by omega
      have hm2 : lo ≤ m := by omega
      have hi0 : (0 : Int) ≤ ((((lo : Nat) : Int) + ((hi : Nat) : Int)) / 2) := by have := HMID.out; omega
      have hi1 : ((((lo : Nat) : Int) + ((hi : Nat) : Int)) / 2) < (l.length : Int) := by have := HMID.out; omega
      obtain ⟨ad, e, hcl⟩ := Kd.at_int HR.out ((((lo : Nat) : Int) + ((hi : Nat) : Int)) / 2) hi0 hi1
      cases e
      obtain ⟨x, hx⟩ : ∃ x, x = rd l ((((lo : Nat) : Int) + ((hi : Nat) : Int)) / 2) := ⟨_, rfl⟩
      rw [← hx, show ((((lo : Nat) : Int) + ((hi : Nat) : Int)) / 2).toNat = (lo + hi) / 2 by omega] at hcl
      have HX := Aside0.mk (show x = rd l (m : Int) by rw [hx, HMID.out])
      have HM := Aside0.mk (show m < l.length by omega)
      clear hx hm
      have HM2 := Aside0.mk (show lo ≤ m ∧ m < hi from ⟨hm2, hm1⟩)
      clear hm1 hm2
      by_cases h1 : x = g
      · have e1 : (x == g) = true := by simp [h1]
        have H1 := Aside0.mk h1
        clear h1
        go_wp2
        simp only [Exit.inBlock, Exit.jump]
        go_ret2
        exact ⟨⟨_, _, rfl, fun _ => ⟨HQ.out, m, HMID.out, HM.out, HX.out.symm.trans H1.out⟩, fun h => (by cases h)⟩, rfl⟩
      · have e1 : (x == g) = false := by simp [h1]
        by_cases h2 : x < g
        · have e2 : decide (x < g) = true := decide_eq_true h2
          have HWM := Aside0.mk (show wrap64 (((((lo : Nat) : Int) + ((hi : Nat) : Int)) / 2) + 1) = ((m + 1 : Nat) : Int) by have := HM.out; rw [HMID.out]; unfold wrap64; omega)
          have HN := Aside0.mk (show ∀ j : Nat, j < m + 1 → rd l (j : Int) < g from fun j hj => by
            rcases Nat.lt_or_ge j m with h | h
            · have := cov_lt HQ.out h HM.out; rw [← HX.out] at this; omega
            · obtain rfl : j = m := by omega
              rw [← HX.out]; exact h2)
          clear h1 h2
          go_wp2
          go_step3
          have hm := HM.out
          have hmi := HMID.out
          rw [HMID.out]
          have hm2 := HM2.out
          refine ⟨rfl, Aside0.mk ⟨rfl, m + 1, hi, _, _, _, _, _, _, _, _, _, _, _, _, _, _, _, _, _, _, _, _, _, _, _, _, _, _, _, _, _, _, _, rfl, by omega, by omega, HQ, HN, HHI⟩, ?_⟩
          simp [intOf]
          omega
        · have e2 : decide (x < g) = false := decide_eq_false h2
          have HN := Aside0.mk (show ∀ j : Nat, m ≤ j → j < l.length → g < rd l (j : Int) from fun j hj hj2 => by
            rcases Nat.lt_or_ge m j with h | h
            · have := cov_lt HQ.out h hj2; rw [← HX.out] at this; omega
            · obtain rfl : j = m := by omega
              rw [← HX.out]; omega)
          clear h1 h2
          go_wp2
          go_step3
          have hm := HM.out
          have hmi := HMID.out
          rw [HMID.out]
          have hm2 := HM2.out
          refine ⟨rfl, Aside0.mk ⟨rfl, lo, m, _, _, _, _, _, _, _, _, _, _, _, _, _, _, _, _, _, _, _, _, _, _, _, _, _, _, _, _, _, _, _, rfl, by omega, by omega, HQ, HLO, HN⟩, ?_⟩
          simp [intOf]
          omega
end Go.Proofs.YtbhljokhcmfgjaaGreat.P
