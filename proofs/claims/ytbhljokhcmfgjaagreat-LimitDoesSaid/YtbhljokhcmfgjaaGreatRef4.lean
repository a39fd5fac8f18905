import Derived.Test.YtbhljokhcmfgjaaGreatRef3
import Derived.Deep.RegionHeld3
/- The document's constants (layer 13), head (layer 5) and styles (layer 22): short walks, over what the program computes. -/
set_option linter.unusedVariables false
set_option linter.unusedSimpArgs false
namespace Go.Proofs.YtbhljokhcmfgjaaGreat.P
open Go.RowKit Go.Proofs.YtbhljokhcmfgjaaGreatW.PrintWords Go.Proofs.YtbhljokhcmfgjaaGreatW.PrintLast Go.Proofs.YtbhljokhcmfgjaaGreatW.PrintMore

def fitAll : List Int → List Int → Bool
  | n :: s, v :: l => fitsR v n && fitAll s l
  | _, _ => true
theorem putGo_err : ∀ (s l : List Int) (bs : List UInt8), (putGo s l bs).2 = if fitAll s l = true then 0 else 2
  | [], _, _ => by simp [putGo, fitAll]
  | _ :: _, [], _ => by simp [putGo, fitAll]
  | n :: s, v :: l, bs => by
    rw [putGo, fitAll]
    by_cases h : fitsR v n = true
    · rw [if_pos h, putGo_err s l, h, Bool.true_and]
    · rw [if_neg h, show fitsR v n = false by simpa using h, Bool.false_and]
      rfl
theorem fitAll_app : ∀ (s l s2 l2 : List Int), s.length = l.length → fitAll (s ++ s2) (l ++ l2) = (fitAll s l && fitAll s2 l2)
  | [], [], _, _, _ => by simp [fitAll]
  | [], _ :: _, _, _, h => by simp at h
  | _ :: _, [], _, _, h => by simp at h
  | n :: s, v :: l, s2, l2, h => by
    have h2 : s.length = l.length := by simpa using h
    rw [List.cons_append, List.cons_append, fitAll, fitAll, fitAll_app s l s2 l2 h2, Bool.and_assoc]
def kFits (l : List Int) : Nat → Bool
  | 0 => true
  | k + 1 => kFits l k && fitsR (rd l k) (kSize k)
theorem fitAll_konst (l : List Int) : ∀ k, fitAll (sizesTo k) (allTo l k) = kFits l k
  | 0 => rfl
  | k + 1 => by
    rw [sizesTo, allTo, fitAll_app _ _ _ _ (allTo_length l k).symm, fitAll_konst l k, kFits]
    split
    · simp [fitAll, fitsR]
    · simp [fitAll]
theorem sizesTo_ok : ∀ k, (sizesTo k).all sizeOk = true
  | 0 => rfl
  | k + 1 => by
    rw [sizesTo, List.all_append, sizesTo_ok k]
    have : sizeOk (kSize k) = true := by unfold kSize; split <;> rfl
    split <;> simp [this] <;> rfl
theorem konstIs_eq (l : List Int) (h : l.length = 56) : konstIs l = kFits l 56 := by
  have e : (putR (sizesTo 56) (allTo l 56)).2 = if kFits l 56 = true then 0 else 2 := by
    rw [putR, if_pos ⟨sizesTo_ok 56, (allTo_length l 56).symm⟩, putGo_err, fitAll_konst]
  unfold konstIs konstPut
  rw [if_pos h]
  by_cases hk : kFits l 56 = true
  · rw [if_pos (by rw [e, if_pos hk]), e, if_pos hk, hk]; rfl
  · rw [if_neg (by rw [e, if_neg hk]; decide), show kFits l 56 = false by simpa using hk]; rfl
theorem konstIs_short (l : List Int) (h : l.length ≠ 56) : konstIs l = false := by
  unfold konstIs konstPut
  rw [if_neg h]
  rfl
theorem kFits_no (l : List Int) (k : Nat) (h : fitsR (rd l k) (kSize k) = false) : ∀ n, k < n → kFits l n = false
  | 0, hn => by omega
  | n + 1, hn => by
    rw [kFits]
    by_cases he : k = n
    · rw [← he, h, Bool.and_false]
    · rw [kFits_no l k h n (by omega), Bool.false_and]
set_option maxHeartbeats 1000000 in
theorem is13 (A : Option Addr) (c : Nat) (l : List Int) (w : World) (hr : Kd.C (Kd.int .i64) w A l.length l) (hc : l.length ≤ 9223372036854775807) : Calls Tryz.prog 58 #[.slice A l.length c] w fun e w' => e = .returned (.bool (konstIs l)) ∧ Below w.heap.size w w' := by
  by_cases hl : l.length = 56
  · have HC := Aside0.mk hr
    have HL := Aside0.mk hl
    have HV := Aside0.mk (konstIs_eq l hl)
    clear hr
    rw [hl]
    clear hl hc
    go_enter Tryz.func58, Tryz.ntmps58
    go_wp2
    go_loopw [3] (fun i wr => ∃ k : Nat, k ≤ 56 ∧ i = .int .i64 k ∧ Aside0 (kFits l k = true) ∧ Aside0 (Below w.heap.size w wr)) (fun i _ => 56 - (intOf i).toNat)
    case atStart => exact ⟨0, by omega, rfl, ⟨rfl⟩, ⟨Below.refl _ _⟩⟩
    case round =>
      obtain ⟨k, hk, rfl, HK, HB⟩ := hrel
      by_cases hlt : k < 56
      · have hd : decide ((k : Int) < 56) = true := by simp; omega
        have hi0 : (0 : Int) ≤ (k : Int) := Int.natCast_nonneg _
        have hi1 : (k : Int) < 56 := by omega
        obtain ⟨ad, hA, hcell⟩ := Kd.at_int (Kd.C_below HC.out HB.out) (k : Int) hi0 (by rw [HL.out]; omega)
        subst hA
        simp only [Int.toNat_natCast] at hcell
        obtain ⟨v, hv⟩ : ∃ v, v = rd l k := ⟨_, rfl⟩
        rw [← hv] at hcell
        have HVV := Aside0.mk hv
        clear hv
        have hs : kSize k = 2 ∨ kSize k = -2 := by unfold kSize; split <;> simp
        have HS := Aside0.mk hs
        clear hs
        by_cases hf : fitsR v (kSize k) = true
        · have HF := Aside0.mk (fits2 v HS.out)
          rw [hf] at HF
          have HN : Aside0 (kFits l (k + 1) = true) := ⟨by rw [kFits, HK.out, ← HVV.out, hf]; rfl⟩
          clear hf
          go_wp2
          go_region_held3 (fun w' => w'.cell? (ad.add k) = some (.int .i64 v)) (first | assumption | (go_simp; done) | simp [*]) (first | (go_at_call 80; refine (size13 k (by omega) _).mono ?_; rintro _ w1 ⟨rfl, rfl⟩) | (go_at_call 79; refine (HF.out _).mono ?_; rintro _ w1 ⟨rfl, rfl⟩))
          all_goals go_wp2
          all_goals go_roundw
          all_goals try (case rel => exact ⟨k + 1, by omega, by go_num, HN, ⟨HB.out.drew⟩⟩)
          all_goals try (case measure => simp [intOf] <;> omega)
        · replace hf : fitsR v (kSize k) = false := by simpa using hf
          have HF := Aside0.mk (fits2 v HS.out)
          rw [hf] at HF
          have HN : Aside0 (konstIs l = false) := ⟨by rw [HV.out]; exact kFits_no l k (by rw [← HVV.out]; exact hf) 56 hlt⟩
          clear hf
          go_wp2
          go_region_held3 (fun w' => w'.cell? (ad.add k) = some (.int .i64 v)) (first | assumption | (go_simp; done) | simp [*]) (first | (go_at_call 80; refine (size13 k (by omega) _).mono ?_; rintro _ w1 ⟨rfl, rfl⟩) | (go_at_call 79; refine (HF.out _).mono ?_; rintro _ w1 ⟨rfl, rfl⟩))
          all_goals go_wp2
          all_goals go_ret
          all_goals exact ⟨tmb (by rw [HN.out]), HB.out.drew⟩
      · obtain rfl : k = 56 := by omega
        have hd : decide (((56 : Nat) : Int) < 56) = false := by decide
        go_wp2
        go_ret
        exact ⟨tmb (by rw [HV.out, HK.out]), HB.out⟩
  · have HC := Aside0.mk hr
    have hd1 : ((l.length : Int) == 56) = false := by simp; omega
    have HV := Aside0.mk (konstIs_short l hl)
    clear hr hl
    go_enter Tryz.func58, Tryz.ntmps58
    go_wp2
    go_loopw [3] (fun i wr => i = .int .i64 0 ∧ w = wr) (fun i _ => 1)
    case atStart => exact ⟨rfl, rfl⟩
    case round =>
      obtain ⟨rfl, rfl⟩ := hrel
      by_cases hp : 0 < l.length
      · have hd2 : decide ((0 : Int) < (l.length : Int)) = true := by simp; omega
        go_wp2
        go_ret
        exact ⟨tmb (by rw [HV.out]), Below.refl _ _⟩
      · have hd2 : decide ((0 : Int) < (l.length : Int)) = false := by simpa using hp
        go_wp2
        go_ret
        exact ⟨tmb (by rw [HV.out]), Below.refl _ _⟩
end Go.Proofs.YtbhljokhcmfgjaaGreat.P
