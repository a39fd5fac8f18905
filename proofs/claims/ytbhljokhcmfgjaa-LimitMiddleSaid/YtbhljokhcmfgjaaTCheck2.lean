import Derived.Test.YtbhljokhcmfgjaaTPB
import Derived.Test.YtbhljokhcmfgjaaTSet2
/- box.own. -/
set_option linter.unusedVariables false
set_option linter.unusedSimpArgs false
namespace Go.Proofs.Ytbhljokhcmfgjaa.P
open Go.RowKit Go.Shelf Go.Proofs.YtbhljokhcmfgjaaW.PrintWords Go.Proofs.YtbhljokhcmfgjaaW.PrintLast Go.Proofs.YtbhljokhcmfgjaaW.PrintMore
attribute [local go_sem] Oper.semAt_some

/-- Is a kid right in the box b, but for its own box? -/
def kidIn (b : S25) (k : S41) : Bool := [k.f0, k.f1, k.f2.f2, k.f2.f3].all isLen && (!decide (wrap64 (k.f1 + k.f2.f2) > b.f2) && !decide (wrap64 (k.f2.f3 - k.f1) > b.f3))
/-- Is a box right, but for the boxes in it? -/
def ownV (b : S25) : Bool := [b.f1, b.f2, b.f3].all isLen && (if b.f0 = 1 then decide (b.f4 ≥ 0) && (decide (b.f5 ≥ 0) && ([b.f5].all isLen && ((b.f6.length : Int) == 0))) else if b.f0 = 0 ∨ b.f0 = 2 then (b.f4 == 0) && ((b.f5 == 0) && ((b.f6.length : Int) == 0)) else if b.f0 = 3 then b.f6.all (kidIn b) && ((b.f4 == 0) && (b.f5 == 0)) else false)
theorem is_lit3 {a1 a2 a3 : Int} {e : TypeId} {W : World} {B : Nat} (hB : B = W.heap.size) {b : Bool} (hb : [a1, a2, a3].all isLen = b) : Calls Try.prog 27 #[.slice (some ⟨B, 0, none⟩) 3 3] (W.alloc (.cells #[.int .i64 a1, .int .i64 a2, .int .i64 a3] e)) fun r w' => r = .returned (.bool b) ∧ Below W.heap.size W w' := by
  subst hB
  exact (fixed_Is_any _ 3 [a1, a2, a3] _ (lit_C W e [a1, a2, a3] (by simp)) (Nat.le_refl _)).mono fun r w' h => ⟨by rw [h.1, hb], ((Below.refl _ _).alloc (Nat.le_refl _) _).trans (h.2.below.mono (by simp))⟩
theorem is_lit4 {a1 a2 a3 a4 : Int} {e : TypeId} {W : World} {B : Nat} (hB : B = W.heap.size) {b : Bool} (hb : [a1, a2, a3, a4].all isLen = b) : Calls Try.prog 27 #[.slice (some ⟨B, 0, none⟩) 4 4] (W.alloc (.cells #[.int .i64 a1, .int .i64 a2, .int .i64 a3, .int .i64 a4] e)) fun r w' => r = .returned (.bool b) ∧ Below W.heap.size W w' := by
  subst hB
  exact (fixed_Is_any _ 4 [a1, a2, a3, a4] _ (lit_C W e [a1, a2, a3, a4] (by simp)) (Nat.le_refl _)).mono fun r w' h => ⟨by rw [h.1, hb], ((Below.refl _ _).alloc (Nat.le_refl _) _).trans (h.2.below.mono (by simp))⟩
set_option maxRecDepth 100000 in
set_option maxHeartbeats 1000000 in
theorem own_calls (x : S25) (w : World) (A : Option Addr) (n : Nat) (hl : x.f6.length ≤ n) (hC : Kd.C k41 w A x.f6.length x.f6) :
    Calls Try.prog 54 #[.agg #[.int .i64 x.f0, .int .i64 x.f1, .int .i64 x.f2, .int .i64 x.f3, .int .i64 x.f4, .int .i64 x.f5, .slice A x.f6.length n]] w fun r w' => r = .returned (.bool (ownV x)) ∧ Below w.heap.size w w' := by
  have hu39 := Try.underlying25
  have hu49 := Try.underlying41
  have HC := Aside0.mk hC
  have hmax := Kd.C_max hC
  clear hC hl
  have H7 := Aside0.mk (show ∀ V : World, Below (w.heap.size + 1) (w.alloc (.cells #[.int .i64 x.f0, .int .i64 x.f1, .int .i64 x.f2, .int .i64 x.f3, .int .i64 x.f4, .int .i64 x.f5, .slice A x.f6.length n] 25)) V → V.cell? ⟨w.heap.size, 0, none⟩ = some (.int .i64 x.f0) ∧ V.cell? ⟨w.heap.size, 1, none⟩ = some (.int .i64 x.f1) ∧ V.cell? ⟨w.heap.size, 2, none⟩ = some (.int .i64 x.f2) ∧ V.cell? ⟨w.heap.size, 3, none⟩ = some (.int .i64 x.f3) ∧ V.cell? ⟨w.heap.size, 4, none⟩ = some (.int .i64 x.f4) ∧ V.cell? ⟨w.heap.size, 5, none⟩ = some (.int .i64 x.f5) ∧ V.cell? ⟨w.heap.size, 6, none⟩ = some (.slice A x.f6.length n) from fun V hb => by
    have h := (hb.block w.heap.size (by omega)).trans (alloc_last w _)
    exact ⟨blk_cell h 0, blk_cell h 1, blk_cell h 2, blk_cell h 3, blk_cell h 4, blk_cell h 5, blk_cell h 6⟩)
  have HW := Aside0.mk ((Below.refl w.heap.size w).alloc (Nat.le_refl _) (.cells #[.int .i64 x.f0, .int .i64 x.f1, .int .i64 x.f2, .int .i64 x.f3, .int .i64 x.f4, .int .i64 x.f5, .slice A x.f6.length n] 25))
  go_enter Try.func54, Try.ntmps54
  obtain ⟨q, hq⟩ : ∃ q, [x.f1, x.f2, x.f3].all isLen = q := ⟨_, rfl⟩
  have HQ := Aside0.mk hq
  go_wp2_with fail
  refine (is_lit3 (by simp) HQ.out).mono ?_
  rintro _ w1 ⟨rfl, hb⟩
  rw [World.size_alloc] at hb
  obtain ⟨c0, c1, c2, c3, c4, c5, c6⟩ := H7.out w1 hb
  have HB := Aside0.mk (HW.out.trans (hb.mono (by omega)))
  cases q with
  | false =>
    go_wp2
    go_ret
    exact ⟨by unfold ownV; rw [HQ.out]; rfl, HB.out⟩
  | true =>
    by_cases h1 : x.f0 = 1
    · have hfin : ownV x = (decide (x.f4 ≥ 0) && (decide (x.f5 ≥ 0) && ([x.f5].all isLen && ((x.f6.length : Int) == 0)))) := by unfold ownV; rw [HQ.out, if_pos h1]; rfl
      have hk1 : decide (x.f0 = 1) = true := by simp [h1]
      by_cases h4 : x.f4 ≥ 0
      · rw [decide_eq_true h4] at hfin
        by_cases h5 : x.f5 ≥ 0
        · rw [decide_eq_true h5] at hfin
          obtain ⟨q5, hq5⟩ : ∃ q, [x.f5].all isLen = q := ⟨_, rfl⟩
          rw [hq5] at hfin
          have HQ5 := Aside0.mk hq5
          have HF := Aside0.mk hfin
          clear hfin
          clear hq5
          go_wp2_with fail
          refine (is_lit1 (by simp) HQ5.out).mono ?_
          rintro _ w2 ⟨rfl, hb2⟩
          have hs1 : w.heap.size + 1 ≤ w1.heap.size := by have := hb.size; simpa using this
          obtain ⟨d0, d1, d2, d3, d4, d5, d6⟩ := H7.out w2 (hb.trans (hb2.mono hs1))
          clear c0 c1 c2 c3 c4 c5 c6
          have HB2 := Aside0.mk (HB.out.trans (hb2.mono HB.out.size))
          cases q5 with
          | false =>
            go_wp2
            go_ret
            exact ⟨by rw [HF.out]; rfl, HB2.out⟩
          | true =>
            go_wp2
            go_ret
            exact ⟨by rw [HF.out]; rfl, HB2.out⟩
        · rw [decide_eq_false h5] at hfin
          have HF := Aside0.mk hfin
          clear hfin
          go_wp2
          go_ret
          exact ⟨by rw [HF.out]; rfl, HB.out⟩
      · rw [decide_eq_false h4] at hfin
        have HF := Aside0.mk hfin
        clear hfin
        go_wp2
        go_ret
        exact ⟨by rw [HF.out]; rfl, HB.out⟩
    · by_cases h02 : x.f0 = 0 ∨ x.f0 = 2
      · have hfin : ownV x = ((x.f4 == 0) && ((x.f5 == 0) && ((x.f6.length : Int) == 0))) := by unfold ownV; rw [HQ.out, if_neg h1, if_pos h02]; rfl
        rcases h02 with h0 | h2
        · skip
          by_cases h4 : x.f4 = 0
          · have hk4 : (x.f4 == 0) = true := by simp [h4]
            by_cases h5 : x.f5 = 0
            · have hk5 : (x.f5 == 0) = true := by simp [h5]
              rw [hk4, hk5] at hfin
              have HF := Aside0.mk hfin
              clear hfin
              go_wp2
              go_ret
              exact ⟨by rw [HF.out]; first | rfl | simp, HB.out⟩
            · have hk5 : (x.f5 == 0) = false := by simp [h5]
              rw [hk4, hk5] at hfin
              have HF := Aside0.mk hfin
              clear hfin
              go_wp2
              go_ret
              exact ⟨by rw [HF.out]; first | rfl | simp, HB.out⟩
          · have hk4 : (x.f4 == 0) = false := by simp [h4]
            rw [hk4] at hfin
            have HF := Aside0.mk hfin
            clear hfin
            go_wp2
            go_ret
            exact ⟨by rw [HF.out]; first | rfl | simp, HB.out⟩
        · skip
          by_cases h4 : x.f4 = 0
          · have hk4 : (x.f4 == 0) = true := by simp [h4]
            by_cases h5 : x.f5 = 0
            · have hk5 : (x.f5 == 0) = true := by simp [h5]
              rw [hk4, hk5] at hfin
              have HF := Aside0.mk hfin
              clear hfin
              go_wp2
              go_ret
              exact ⟨by rw [HF.out]; first | rfl | simp, HB.out⟩
            · have hk5 : (x.f5 == 0) = false := by simp [h5]
              rw [hk4, hk5] at hfin
              have HF := Aside0.mk hfin
              clear hfin
              go_wp2
              go_ret
              exact ⟨by rw [HF.out]; first | rfl | simp, HB.out⟩
          · have hk4 : (x.f4 == 0) = false := by simp [h4]
            rw [hk4] at hfin
            have HF := Aside0.mk hfin
            clear hfin
            go_wp2
            go_ret
            exact ⟨by rw [HF.out]; first | rfl | simp, HB.out⟩
      · have n0 : ¬ x.f0 = 0 := fun h => h02 (.inl h)
        have n2 : ¬ x.f0 = 2 := fun h => h02 (.inr h)
        have hk0 : (x.f0 == 0) = false := by simp [n0]
        have hk2 : (x.f0 == 2) = false := by simp [n2]
        have hk1 : (x.f0 == 1) = false := by simp [h1]
        by_cases h3 : x.f0 = 3
        · have hk3 : (x.f0 == 3) = true := by simp [h3]
          have hfin : ownV x = (x.f6.all (kidIn x) && ((x.f4 == 0) && (x.f5 == 0))) := by unfold ownV; rw [HQ.out, if_neg h1, if_neg h02, if_pos h3]; rfl
          have HF := Aside0.mk hfin
          have HB1 := Aside0.mk hb
          clear hfin HB hb
          go_wp2
          go_loopw [60] (fun i wr => ∃ kk : Nat, kk ≤ x.f6.length ∧ i = .int .i64 kk ∧ Aside0 ((x.f6.take kk).all (kidIn x) = true) ∧ Aside0 (Below (w.heap.size + 1) (w.alloc (.cells #[.int .i64 x.f0, .int .i64 x.f1, .int .i64 x.f2, .int .i64 x.f3, .int .i64 x.f4, .int .i64 x.f5, .slice A x.f6.length n] 25)) wr)) (fun i _ => x.f6.length - (intOf i).toNat)
          case atStart => exact ⟨0, Nat.zero_le _, rfl, ⟨rfl⟩, HB1⟩
          case round =>
            obtain ⟨kk, hk, rfl, HA, HP⟩ := hrel
            clear c0 c1 c2 c3 c4 c5 c6
            by_cases hlt : kk < x.f6.length
            · have hd1 : decide ((kk : Int) < (x.f6.length : Int)) = true := by simp; omega
              have hi0 : (0 : Int) ≤ (kk : Int) := Int.natCast_nonneg _
              have hi1 : (kk : Int) < (x.f6.length : Int) := by omega
              obtain ⟨ad, A8, c8, hA, la, ca, fa⟩ := kid_keep HC.out kk hlt
              subst hA
              obtain ⟨k0, k1, k2, k3, k4, k5, k6, k7, k8⟩ := fa wr (HW.out.trans (HP.out.mono (by omega)))
              obtain ⟨y, hy⟩ : ∃ y, y = x.f6[kk] := ⟨_, rfl⟩
              rw [← hy] at k0 k1 k2 k3 k4 k5 k6 k7 k8
              have HT := Aside0.mk (show (x.f6.take (kk + 1)).all (kidIn x) = kidIn x y by rw [List.take_succ_eq_append_getElem hlt, List.all_append, HA.out, hy]; simp)
              have HM := Aside0.mk (show y ∈ x.f6 by rw [hy]; exact List.getElem_mem hlt)
              obtain ⟨q4, hq4⟩ : ∃ q, [y.f0, y.f1, y.f2.f2, y.f2.f3].all isLen = q := ⟨_, rfl⟩
              have HQ4 := Aside0.mk hq4
              have HKI := Aside0.mk (show kidIn x y = (q4 && (!decide (wrap64 (y.f1 + y.f2.f2) > x.f2) && !decide (wrap64 (y.f2.f3 - y.f1) > x.f3))) by unfold kidIn; rw [hq4])
              have HNO := Aside0.mk (show kidIn x y = false → ownV x = false from fun h => by
                have h2 : x.f6.all (kidIn x) = false := by
                  rw [Bool.eq_false_iff]
                  intro h3
                  rw [List.all_eq_true.1 h3 y HM.out] at h
                  cases h
                rw [HF.out, h2]; rfl)
              clear hq4 hy la ca fa
              go_wp2_with fail
              refine (is_lit4 (by simp) HQ4.out).mono ?_
              rintro _ w2 ⟨rfl, hb2⟩
              have sp := HP.out.size
              rw [World.size_alloc] at sp hb2
              have hk9 : w2.heap[wr.heap.size]? = some (.cells #[.int .i64 y.f0, .int .i64 y.f1, .int .i64 y.f2.f0, .int .i64 y.f2.f1, .int .i64 y.f2.f2, .int .i64 y.f2.f3, .int .i64 y.f2.f4, .int .i64 y.f2.f5, .slice A8 y.f2.f6.length c8] 41 (0, 0)) := (hb2.block _ (by omega)).trans (alloc_last wr _)
              have HP2 := Aside0.mk ((HP.out.alloc sp (.cells #[.int .i64 y.f0, .int .i64 y.f1, .int .i64 y.f2.f0, .int .i64 y.f2.f1, .int .i64 y.f2.f2, .int .i64 y.f2.f3, .int .i64 y.f2.f4, .int .i64 y.f2.f5, .slice A8 y.f2.f6.length c8] 41)).trans (hb2.mono (by omega)))
              obtain ⟨c0, c1, c2, c3, c4, c5, c6⟩ := H7.out w2 HP2.out
              have e0 : w2.cell? ⟨wr.heap.size, 0, none⟩ = some (.int .i64 y.f0) := blk_cell hk9 0
              have e1 : w2.cell? ⟨wr.heap.size, 1, none⟩ = some (.int .i64 y.f1) := blk_cell hk9 1
              have e2 : w2.cell? ⟨wr.heap.size, 2, none⟩ = some (.int .i64 y.f2.f0) := blk_cell hk9 2
              have e3 : w2.cell? ⟨wr.heap.size, 3, none⟩ = some (.int .i64 y.f2.f1) := blk_cell hk9 3
              have e4 : w2.cell? ⟨wr.heap.size, 4, none⟩ = some (.int .i64 y.f2.f2) := blk_cell hk9 4
              have e5 : w2.cell? ⟨wr.heap.size, 5, none⟩ = some (.int .i64 y.f2.f3) := blk_cell hk9 5
              clear k0 k1 k2 k3 k4 k5 k6 k7 k8 hk9 hb2
              cases q4 with
              | false =>
                go_wp2
                go_ret
                exact ⟨by rw [HNO.out HKI.out]; rfl, HW.out.trans (HP2.out.mono (by omega))⟩
              | true =>
                by_cases g1 : wrap64 (y.f1 + y.f2.f2) > x.f2
                · have HN := Aside0.mk (HNO.out (by rw [HKI.out, decide_eq_true g1]; rfl))
                  have hg1 : decide (wrap64 (y.f1 + y.f2.f2) > x.f2) = true := decide_eq_true g1
                  go_wp2
                  go_ret
                  exact ⟨by rw [HN.out]; rfl, HW.out.trans (HP2.out.mono (by omega))⟩
                · have hg1 : decide (wrap64 (y.f1 + y.f2.f2) > x.f2) = false := decide_eq_false g1
                  by_cases g2 : wrap64 (y.f2.f3 - y.f1) > x.f3
                  · have HN := Aside0.mk (HNO.out (by rw [HKI.out, decide_eq_false g1, decide_eq_true g2]; rfl))
                    have hg2 : decide (wrap64 (y.f2.f3 - y.f1) > x.f3) = true := decide_eq_true g2
                    go_wp2
                    go_ret
                    exact ⟨by rw [HN.out]; rfl, HW.out.trans (HP2.out.mono (by omega))⟩
                  · have HY := Aside0.mk (HT.out.trans (by rw [HKI.out, decide_eq_false g1, decide_eq_false g2]; first | done | rfl))
                    have hg2 : decide (wrap64 (y.f2.f3 - y.f1) > x.f3) = false := decide_eq_false g2
                    go_wp2
                    go_roundw
                    case rel => exact ⟨kk + 1, by omega, by go_num, HY, HP2⟩
                    case measure => simp [intOf] <;> omega
            · obtain rfl : kk = x.f6.length := by omega
              have hd1 : decide ((x.f6.length : Int) < (x.f6.length : Int)) = false := by simp
              obtain ⟨c0, c1, c2, c3, c4, c5, c6⟩ := H7.out wr HP.out
              have hall := HA.out
              rw [List.take_length] at hall
              have HF2 := Aside0.mk (show ownV x = ((x.f4 == 0) && (x.f5 == 0)) by rw [HF.out, hall]; rfl)
              clear hall
              by_cases h4 : x.f4 = 0
              · have hk4 : (x.f4 == 0) = true := by simp [h4]
                go_wp2
                go_ret
                exact ⟨by rw [HF2.out]; first | rfl | simp [h4], HW.out.trans (HP.out.mono (by omega))⟩
              · have hk4 : (x.f4 == 0) = false := by simp [h4]
                go_wp2
                go_ret
                exact ⟨by rw [HF2.out]; first | rfl | simp [h4], HW.out.trans (HP.out.mono (by omega))⟩
        · have hk3 : (x.f0 == 3) = false := by simp [h3]
          have hfin : ownV x = false := by unfold ownV; rw [HQ.out, if_neg h1, if_neg h02, if_neg h3]; rfl
          have HF := Aside0.mk hfin
          clear hfin
          go_wp2
          go_ret
          exact ⟨by rw [HF.out]; rfl, HB.out⟩
end Go.Proofs.Ytbhljokhcmfgjaa.P
