import Derived.Test.YtbhljokhcmfgjaaGreatRef5
import Derived.Test.YtbhljokhcmfgjaaGreatTPB
/- The document's styles (layer 22): short walks; a constant is the program's. Printed by a program of this work (mkref6.py). -/
set_option linter.unusedVariables false
set_option linter.unusedSimpArgs false
namespace Go.Proofs.YtbhljokhcmfgjaaGreat.P
open Go.RowKit Go.Proofs.YtbhljokhcmfgjaaGreatW.PrintWords Go.Proofs.YtbhljokhcmfgjaaGreatW.PrintLast Go.Proofs.YtbhljokhcmfgjaaGreatW.PrintMore

theorem is22 (c : Int) (w : World) : Calls Tryz.prog 57 #[.int .i64 c] w fun e w' => e = .returned (.bool (decide (0 ≤ c) && decide (c < 8))) ∧ w = w' := by
  by_cases h1 : 0 ≤ c
  · have e2 : decide (0 ≤ c) = true := by simpa using h1
    go_enter Tryz.func57, Tryz.ntmps57
    go_wp2
    go_ret
    exact ⟨tmb (by rw [e2, Bool.true_and]; congr 1; exact propext ⟨fun _ => by omega, fun _ => by omega⟩), rfl⟩
  · have e2 : decide (0 ≤ c) = false := by simpa using h1
    go_enter Tryz.func57, Tryz.ntmps57
    go_wp2
    go_ret
    exact ⟨tmb (by simp [e2]), rfl⟩
theorem is22_t {c : Int} (h : (decide (0 ≤ c) && decide (c < 8)) = true) (w : World) : Calls Tryz.prog 57 #[.int .i64 c] w fun e w' => e = .returned (.bool true) ∧ w = w' := by
  have := is22 c w
  rwa [h] at this
theorem is22_f {c : Int} (h : (decide (0 ≤ c) && decide (c < 8)) = false) (w : World) : Calls Tryz.prog 57 #[.int .i64 c] w fun e w' => e = .returned (.bool false) ∧ w = w' := by
  have := is22 c w
  rwa [h] at this
def posV (r : Int × Int) : Int × Int := if r.1 < 0 then (0, 1) else r
def sizeC (l : List Int) (c z : Int) : Int × Int :=
  if ((((decide (0 ≤ c) && decide (c < 8)) && isLen z) && decide (0 ≤ z)) && konstIs l) = true then
    if c < 4 then (z, 0) else posV (toldOf (mulDivR z (if 6 ≤ c then rd l 1 else rd l 0) 100))
  else (0, 1)
theorem sizeC_no {l : List Int} {c z : Int} (h : ((((decide (0 ≤ c) && decide (c < 8)) && isLen z) && decide (0 ≤ z)) && konstIs l) = false) : sizeC l c z = (0, 1) := if_neg (by rw [h]; decide)
theorem toldOf_err (x : Except Int Int) : (toldOf x).2 ≠ 0 → (toldOf x).1 = 0 := by
  cases x with
  | ok n => simp only [toldOf]; split <;> simp
  | error e => simp [toldOf]

set_option maxHeartbeats 2000000 in
theorem size22 (A : Option Addr) (n : Nat) (l : List Int) (c z : Int) (w : World) (hr : Kd.C (Kd.int .i64) w A l.length l) (hc : l.length ≤ 9223372036854775807) : Calls Tryz.prog 35 #[.slice A l.length n, .int .i64 c, .int .i64 z] w fun e w' => e = .returned (.tuple #[.int .i64 (sizeC l c z).1, .int .i64 (sizeC l c z).2]) ∧ Below w.heap.size w w' := by
  by_cases h1 : (decide (0 ≤ c) && decide (c < 8)) = true
  case neg =>
    have HL := Aside0.mk (show (decide (0 ≤ c) && decide (c < 8)) = false by simpa using h1)
    have HV := Aside0.mk (sizeC_no (l := l) (z := z) (show _ = false by rw [HL.out]; simp))
    clear h1
    go_enter Tryz.func35, Tryz.ntmps35
    go_wp2_with fail
    refine (is22_f HL.out _).mono ?_
    rintro _ w1 ⟨rfl, rfl⟩
    go_wp2
    go_ret2
    exact ⟨tm2 (by rw [HV.out]) (by rw [HV.out]), Below.refl _ _⟩
  have HL1 := Aside0.mk h1
  by_cases h2 : isLen z = true
  case neg =>
    have HL := Aside0.mk (show isLen z = false by simpa using h2)
    have HV := Aside0.mk (sizeC_no (l := l) (c := c) (show _ = false by rw [HL.out]; simp))
    clear h1 h2
    go_enter Tryz.func35, Tryz.ntmps35
    go_wp2_with fail
    refine (is22_t HL1.out _).mono ?_
    rintro _ w1 ⟨rfl, rfl⟩
    go_wp2_with fail
    refine (len01_f HL.out _).mono ?_
    rintro _ w1 ⟨rfl, rfl⟩
    go_wp2
    go_ret2
    exact ⟨tm2 (by rw [HV.out]) (by rw [HV.out]), Below.refl _ _⟩
  have HL2 := Aside0.mk h2
  by_cases h3 : 0 ≤ z
  case neg =>
    have hz : decide (z < 0) = true := by simp; omega
    have HV := Aside0.mk (sizeC_no (l := l) (c := c) (z := z) (show _ = false by rw [show decide (0 ≤ z) = false by simp; omega]; simp))
    clear h1 h2
    go_enter Tryz.func35, Tryz.ntmps35
    go_wp2_with fail
    refine (is22_t HL1.out _).mono ?_
    rintro _ w1 ⟨rfl, rfl⟩
    go_wp2_with fail
    refine (len01_t HL2.out _).mono ?_
    rintro _ w1 ⟨rfl, rfl⟩
    go_wp2
    go_ret2
    exact ⟨tm2 (by rw [HV.out]) (by rw [HV.out]), Below.refl _ _⟩
  have hz : decide (z < 0) = false := by simp; omega
  have HI := Aside0.mk (fun w h => is13 A n l w h hc)
  have HR := Aside0.mk hr
  by_cases h4 : konstIs l = true
  case neg =>
    have HL := Aside0.mk (show konstIs l = false by simpa using h4)
    have HV := Aside0.mk (sizeC_no (l := l) (c := c) (z := z) (show _ = false by rw [HL.out]; simp))
    rw [HL.out] at HI
    clear h1 h2 h3 h4 hr hc
    go_enter Tryz.func35, Tryz.ntmps35
    go_wp2_with fail
    refine (is22_t HL1.out _).mono ?_
    rintro _ w1 ⟨rfl, rfl⟩
    go_wp2_with fail
    refine (len01_t HL2.out _).mono ?_
    rintro _ w1 ⟨rfl, rfl⟩
    go_wp2_with fail
    refine (HI.out _ HR.out).mono ?_
    rintro _ w1 ⟨rfl, hb⟩
    have HB := Aside0.mk hb
    clear hb
    go_wp2
    go_ret2
    exact ⟨tm2 (by rw [HV.out]) (by rw [HV.out]), HB.out⟩
  have hlen := konstIs_length h4
  have HG := Aside0.mk (show ((((decide (0 ≤ c) && decide (c < 8)) && isLen z) && decide (0 ≤ z)) && konstIs l) = true by rw [h1, h2, h4, show decide (0 ≤ z) = true by simpa using h3]; rfl)
  rw [h4] at HI
  have HN := Aside0.mk hlen
  by_cases h5 : c < 4
  case pos =>
    have hc4 : decide (c < 4) = true := by simpa using h5
    have HV := Aside0.mk (show sizeC l c z = (z, 0) by rw [sizeC, if_pos HG.out, if_pos h5])
    clear h1 h2 h3 h4 hr hc hlen
    go_enter Tryz.func35, Tryz.ntmps35
    go_wp2_with fail
    refine (is22_t HL1.out _).mono ?_
    rintro _ w1 ⟨rfl, rfl⟩
    go_wp2_with fail
    refine (len01_t HL2.out _).mono ?_
    rintro _ w1 ⟨rfl, rfl⟩
    go_wp2_with fail
    refine (HI.out _ HR.out).mono ?_
    rintro _ w1 ⟨rfl, hb⟩
    have HB := Aside0.mk hb
    clear hb
    go_wp2
    go_ret2
    exact ⟨tm2 (by rw [HV.out]) (by rw [HV.out]), HB.out⟩
  have hc4 : decide (c < 4) = false := by simpa using h5
  by_cases h6 : 6 ≤ c
  case pos =>
    have hc6 : decide (6 ≤ c) = true := by simpa using h6
    obtain ⟨p, hp⟩ : ∃ p, p = toldOf (mulDivR z (rd l 1) 100) := ⟨_, rfl⟩
    have HE := Aside0.mk (show p.2 ≠ 0 → p.1 = 0 by rw [hp]; exact toldOf_err _)
    have HM := Aside0.mk (fun w => mulDiv01 z (rd l 1) 100 w)
    rw [← hp] at HM
    have HV := Aside0.mk (show sizeC l c z = posV p by rw [sizeC, if_pos HG.out, if_neg h5, if_pos h6, hp])
    by_cases h7 : p.1 < 0
    case pos =>
      have h70 : p.2 = 0 := Classical.byContradiction fun h => by have := HE.out h; omega
      have h8 : decide (p.1 < 0) = true := by simpa using h7
      have h9 : (p.2 == 0) = true := by simpa using h70
      have HP := Aside0.mk (show posV p = (0, 1) from if_pos h7)
      clear h70
      clear h1 h2 h3 h4 hr hc hlen hp
      go_enter Tryz.func35, Tryz.ntmps35
      go_wp2_with fail
      refine (is22_t HL1.out _).mono ?_
      rintro _ w1 ⟨rfl, rfl⟩
      go_wp2_with fail
      refine (len01_t HL2.out _).mono ?_
      rintro _ w1 ⟨rfl, rfl⟩
      go_wp2_with fail
      refine (HI.out _ HR.out).mono ?_
      rintro _ w1 ⟨rfl, hb⟩
      obtain ⟨ad, hA, hcell⟩ := Kd.at_int (Kd.C_below HR.out hb) 0 (by omega) (by rw [HN.out]; omega)
      obtain ⟨ad', hA', hcell'⟩ := Kd.at_int (Kd.C_below HR.out hb) 1 (by omega) (by rw [HN.out]; omega)
      obtain rfl : ad = ad' := by rw [hA] at hA'; injection hA'
      have HB := Aside0.mk hb
      subst hA
      clear hb hA'
      simp only [show (0 : Int).toNat = 0 from rfl, show (1 : Int).toNat = 1 from rfl] at hcell hcell'
      rw [show ad.add 0 = ad by simp [Addr.add]] at hcell
      simp only [Addr.add, Nat.one_ne_zero, if_false] at hcell'
      have HLN : Aside0 (l.length = 56) := HN
      have hl56 := HN.out
      rw [hl56]
      clear hl56
      go_wp2_with fail
      refine (HM.out _).mono ?_
      rintro _ w1 ⟨rfl, rfl⟩
      go_wp2
      go_ret2
      exact ⟨tm2 (by rw [HV.out, HP.out]) (by rw [HV.out, HP.out]), HB.out⟩
    have h8 : decide (p.1 < 0) = false := by simpa using h7
    have HP := Aside0.mk (show posV p = p from if_neg h7)
    by_cases h9' : p.2 = 0
    case pos =>
      have h9 : (p.2 == 0) = true := by simpa using h9'
      have H9 := Aside0.mk h9'
      clear h9'
      clear h1 h2 h3 h4 hr hc hlen hp
      go_enter Tryz.func35, Tryz.ntmps35
      go_wp2_with fail
      refine (is22_t HL1.out _).mono ?_
      rintro _ w1 ⟨rfl, rfl⟩
      go_wp2_with fail
      refine (len01_t HL2.out _).mono ?_
      rintro _ w1 ⟨rfl, rfl⟩
      go_wp2_with fail
      refine (HI.out _ HR.out).mono ?_
      rintro _ w1 ⟨rfl, hb⟩
      obtain ⟨ad, hA, hcell⟩ := Kd.at_int (Kd.C_below HR.out hb) 0 (by omega) (by rw [HN.out]; omega)
      obtain ⟨ad', hA', hcell'⟩ := Kd.at_int (Kd.C_below HR.out hb) 1 (by omega) (by rw [HN.out]; omega)
      obtain rfl : ad = ad' := by rw [hA] at hA'; injection hA'
      have HB := Aside0.mk hb
      subst hA
      clear hb hA'
      simp only [show (0 : Int).toNat = 0 from rfl, show (1 : Int).toNat = 1 from rfl] at hcell hcell'
      rw [show ad.add 0 = ad by simp [Addr.add]] at hcell
      simp only [Addr.add, Nat.one_ne_zero, if_false] at hcell'
      have HLN : Aside0 (l.length = 56) := HN
      have hl56 := HN.out
      rw [hl56]
      clear hl56
      go_wp2_with fail
      refine (HM.out _).mono ?_
      rintro _ w1 ⟨rfl, rfl⟩
      go_wp2
      go_ret2
      exact ⟨tm2 (by rw [HV.out, HP.out]) (by rw [HV.out, HP.out]), HB.out⟩
    have h9 : (p.2 == 0) = false := by simpa using h9'
    clear h9'
    clear h1 h2 h3 h4 hr hc hlen hp
    go_enter Tryz.func35, Tryz.ntmps35
    go_wp2_with fail
    refine (is22_t HL1.out _).mono ?_
    rintro _ w1 ⟨rfl, rfl⟩
    go_wp2_with fail
    refine (len01_t HL2.out _).mono ?_
    rintro _ w1 ⟨rfl, rfl⟩
    go_wp2_with fail
    refine (HI.out _ HR.out).mono ?_
    rintro _ w1 ⟨rfl, hb⟩
    obtain ⟨ad, hA, hcell⟩ := Kd.at_int (Kd.C_below HR.out hb) 0 (by omega) (by rw [HN.out]; omega)
    obtain ⟨ad', hA', hcell'⟩ := Kd.at_int (Kd.C_below HR.out hb) 1 (by omega) (by rw [HN.out]; omega)
    obtain rfl : ad = ad' := by rw [hA] at hA'; injection hA'
    have HB := Aside0.mk hb
    subst hA
    clear hb hA'
    simp only [show (0 : Int).toNat = 0 from rfl, show (1 : Int).toNat = 1 from rfl] at hcell hcell'
    rw [show ad.add 0 = ad by simp [Addr.add]] at hcell
    simp only [Addr.add, Nat.one_ne_zero, if_false] at hcell'
    have HLN : Aside0 (l.length = 56) := HN
    have hl56 := HN.out
    rw [hl56]
    clear hl56
    go_wp2_with fail
    refine (HM.out _).mono ?_
    rintro _ w1 ⟨rfl, rfl⟩
    go_wp2
    go_ret2
    exact ⟨tm2 (by rw [HV.out, HP.out]) (by rw [HV.out, HP.out]), HB.out⟩
  have hc6 : decide (6 ≤ c) = false := by simpa using h6
  obtain ⟨p, hp⟩ : ∃ p, p = toldOf (mulDivR z (rd l 0) 100) := ⟨_, rfl⟩
  have HE := Aside0.mk (show p.2 ≠ 0 → p.1 = 0 by rw [hp]; exact toldOf_err _)
  have HM := Aside0.mk (fun w => mulDiv01 z (rd l 0) 100 w)
  rw [← hp] at HM
  have HV := Aside0.mk (show sizeC l c z = posV p by rw [sizeC, if_pos HG.out, if_neg h5, if_neg h6, hp])
  by_cases h7 : p.1 < 0
  case pos =>
    have h70 : p.2 = 0 := Classical.byContradiction fun h => by have := HE.out h; omega
    have h8 : decide (p.1 < 0) = true := by simpa using h7
    have h9 : (p.2 == 0) = true := by simpa using h70
    have HP := Aside0.mk (show posV p = (0, 1) from if_pos h7)
    clear h70
    clear h1 h2 h3 h4 hr hc hlen hp
    go_enter Tryz.func35, Tryz.ntmps35
    go_wp2_with fail
    refine (is22_t HL1.out _).mono ?_
    rintro _ w1 ⟨rfl, rfl⟩
    go_wp2_with fail
    refine (len01_t HL2.out _).mono ?_
    rintro _ w1 ⟨rfl, rfl⟩
    go_wp2_with fail
    refine (HI.out _ HR.out).mono ?_
    rintro _ w1 ⟨rfl, hb⟩
    obtain ⟨ad, hA, hcell⟩ := Kd.at_int (Kd.C_below HR.out hb) 0 (by omega) (by rw [HN.out]; omega)
    have HB := Aside0.mk hb
    subst hA
    clear hb
    simp only [show (0 : Int).toNat = 0 from rfl] at hcell
    rw [show ad.add 0 = ad by simp [Addr.add]] at hcell
    have HLN : Aside0 (l.length = 56) := HN
    have hl56 := HN.out
    rw [hl56]
    clear hl56
    go_wp2_with fail
    refine (HM.out _).mono ?_
    rintro _ w1 ⟨rfl, rfl⟩
    go_wp2
    go_ret2
    exact ⟨tm2 (by rw [HV.out, HP.out]) (by rw [HV.out, HP.out]), HB.out⟩
  have h8 : decide (p.1 < 0) = false := by simpa using h7
  have HP := Aside0.mk (show posV p = p from if_neg h7)
  by_cases h9' : p.2 = 0
  case pos =>
    have h9 : (p.2 == 0) = true := by simpa using h9'
    have H9 := Aside0.mk h9'
    clear h9'
    clear h1 h2 h3 h4 hr hc hlen hp
    go_enter Tryz.func35, Tryz.ntmps35
    go_wp2_with fail
    refine (is22_t HL1.out _).mono ?_
    rintro _ w1 ⟨rfl, rfl⟩
    go_wp2_with fail
    refine (len01_t HL2.out _).mono ?_
    rintro _ w1 ⟨rfl, rfl⟩
    go_wp2_with fail
    refine (HI.out _ HR.out).mono ?_
    rintro _ w1 ⟨rfl, hb⟩
    obtain ⟨ad, hA, hcell⟩ := Kd.at_int (Kd.C_below HR.out hb) 0 (by omega) (by rw [HN.out]; omega)
    have HB := Aside0.mk hb
    subst hA
    clear hb
    simp only [show (0 : Int).toNat = 0 from rfl] at hcell
    rw [show ad.add 0 = ad by simp [Addr.add]] at hcell
    have HLN : Aside0 (l.length = 56) := HN
    have hl56 := HN.out
    rw [hl56]
    clear hl56
    go_wp2_with fail
    refine (HM.out _).mono ?_
    rintro _ w1 ⟨rfl, rfl⟩
    go_wp2
    go_ret2
    exact ⟨tm2 (by rw [HV.out, HP.out]) (by rw [HV.out, HP.out]), HB.out⟩
  have h9 : (p.2 == 0) = false := by simpa using h9'
  clear h9'
  clear h1 h2 h3 h4 hr hc hlen hp
  go_enter Tryz.func35, Tryz.ntmps35
  go_wp2_with fail
  refine (is22_t HL1.out _).mono ?_
  rintro _ w1 ⟨rfl, rfl⟩
  go_wp2_with fail
  refine (len01_t HL2.out _).mono ?_
  rintro _ w1 ⟨rfl, rfl⟩
  go_wp2_with fail
  refine (HI.out _ HR.out).mono ?_
  rintro _ w1 ⟨rfl, hb⟩
  obtain ⟨ad, hA, hcell⟩ := Kd.at_int (Kd.C_below HR.out hb) 0 (by omega) (by rw [HN.out]; omega)
  have HB := Aside0.mk hb
  subst hA
  clear hb
  simp only [show (0 : Int).toNat = 0 from rfl] at hcell
  rw [show ad.add 0 = ad by simp [Addr.add]] at hcell
  have HLN : Aside0 (l.length = 56) := HN
  have hl56 := HN.out
  rw [hl56]
  clear hl56
  go_wp2_with fail
  refine (HM.out _).mono ?_
  rintro _ w1 ⟨rfl, rfl⟩
  go_wp2
  go_ret2
  exact ⟨tm2 (by rw [HV.out, HP.out]) (by rw [HV.out, HP.out]), HB.out⟩
end Go.Proofs.YtbhljokhcmfgjaaGreat.P

