import Derived.Test.YtbhljokhcmfgjaaGreatTRef6
/- A constant in closed form, and the document's constant (layer 22): a short walk. Printed by a program of this work (mkref7.py). -/
set_option linter.unusedVariables false
set_option linter.unusedSimpArgs false
namespace Go.Proofs.YtbhljokhcmfgjaaGreat.P
open Go.RowKit Go.Proofs.YtbhljokhcmfgjaaGreatW.PrintWords Go.Proofs.YtbhljokhcmfgjaaGreatW.PrintLast Go.Proofs.YtbhljokhcmfgjaaGreatW.PrintMore

theorem size_closed (l : List Int) (c z : Int) (k : Nat) (hk : 2 ≤ k) : style_Size.f k l c z = some (sizeC l c z) := by
  have hs : style_Is.f c = some (decide (0 ≤ c) && decide (c < 8)) := by
    unfold style_Is.f
    by_cases h1 : 0 ≤ c <;> by_cases h2 : c < 8 <;> simp [h1, h2] <;> omega
  unfold style_Size.f
  rw [hs, Option.bind_some, fixedIs_ge [z] k (by simpa using hk) (by simp)]
  have hz : ([z].all isLen) = isLen z := by simp
  obtain ⟨q, rfl⟩ : ∃ q, k = q + 1 := ⟨k - 1, by omega⟩
  have hbad : style_Size.j0 (q + 1) l c z true = some (0, 1) := by simp [style_Size.j0]
  by_cases h1 : (decide (0 ≤ c) && decide (c < 8)) = true
  · rw [if_pos h1, Option.bind_some, hz]
    by_cases h2 : isLen z = true
    · rw [if_pos h2]
      by_cases h3 : z < 0
      · rw [if_pos h3, hbad, sizeC_no]
        rw [show decide (0 ≤ z) = false by simp; omega]
        simp
      · rw [if_neg h3]
        simp only [konst_Is.f, Option.bind_some]
        by_cases h4 : konstIs l = true
        · have hl := konstIs_length h4
          have hG : ((((decide (0 ≤ c) && decide (c < 8)) && isLen z) && decide (0 ≤ z)) && konstIs l) = true := by rw [h1, h2, h4, show decide (0 ≤ z) = true by simp; omega]; rfl
          rw [h4, sizeC, if_pos hG]
          simp only [style_Size.j0, Bool.not_true]
          rw [if_neg (by simp), if_pos (by omega)]
          by_cases h5 : c < 4
          · rw [if_pos h5, if_pos h5]
          · rw [if_neg h5, if_neg h5]
            by_cases h6 : 6 ≤ c
            · rw [if_pos h6, if_pos (show c ≥ 6 from h6), if_pos (by omega)]
              simp only [fixed_MulDiv.f, Option.bind_some, posV]
              split <;> rfl
            · rw [if_neg h6, if_neg (show ¬ c ≥ 6 from h6)]
              simp only [fixed_MulDiv.f, Option.bind_some, posV]
              split <;> rfl
        · have h4' : konstIs l = false := by simpa using h4
          rw [h4', Bool.not_false, hbad, sizeC_no]
          rw [h4']
          simp
    · have h2' : isLen z = false := by simpa using h2
      rw [if_neg h2, hbad, sizeC_no]
      rw [h2']
      simp
  · have h1' : (decide (0 ≤ c) && decide (c < 8)) = false := by simpa using h1
    rw [if_neg h1, hbad, sizeC_no]
    rw [h1']
    simp
def konstC (F : S36) (k c z : Int) : Int × Int :=
  if 0 ≤ k ∧ k < 56 then (if (sizeC F.f4.f0 c z).2 = 0 then unitsC F.f0 (rd F.f4.f0 k) (sizeC F.f4.f0 c z).1 else (0, (sizeC F.f4.f0 c z).2)) else (0, 1)
theorem sizeC_len {l : List Int} {c z : Int} (h : (sizeC l c z).2 = 0) : l.length = 56 := by
  by_cases hk : konstIs l = true
  · exact konstIs_length hk
  · rw [sizeC_no (by rw [show konstIs l = false by simpa using hk]; simp)] at h
    simp at h
theorem konst_closed (F : S36) (k c z : Int) : konstV F k c z = konstC F k c z := by
  have hj : ∀ b : Bool, style_Konst.j0 3 k c z b F.f0.f0 F.f0.f1 F.f0.f2 F.f0.f3 F.f0.f4 F.f0.f5 F.f1 F.f2 F.f3 F.f4.f0 F.f4.f1 F.f4.f2 F.f4.f3 F.f4.f4 F.f4.f5.f0 F.f4.f5.f1 F.f4.f5.f2 = if b = true then some (0, 1) else if (sizeC F.f4.f0 c z).2 = 0 then (if 0 ≤ k then (if k < (F.f4.f0.length : Int) then some (unitsC F.f0 (rd F.f4.f0 k) (sizeC F.f4.f0 c z).1) else none) else none) else some (0, (sizeC F.f4.f0 c z).2) := by
    intro b
    simp only [style_Konst.j0]
    cases b with
    | true => rfl
    | false =>
      rw [if_neg (by simp), if_neg (by simp), size_closed _ _ _ 2 (Nat.le_refl _), Option.bind_some]
      simp only [head_Units.f, head_Is.f, fixed_MulDiv.f, Option.bind_some, unitsC]
      split
      · split
        · split
          · split <;> rfl
          · rfl
        · rfl
      · rfl
  have : style_Konst.f 3 F.f0.f0 F.f0.f1 F.f0.f2 F.f0.f3 F.f0.f4 F.f0.f5 F.f1 F.f2 F.f3 F.f4.f0 F.f4.f1 F.f4.f2 F.f4.f3 F.f4.f4 F.f4.f5.f0 F.f4.f5.f1 F.f4.f5.f2 k c z = some (konstC F k c z) := by
    unfold style_Konst.f konstC
    by_cases h1 : k < 0
    · rw [if_pos h1, hj, if_pos rfl, if_neg (by omega)]
    · rw [if_neg h1, hj]
      by_cases h2 : k < 56
      · rw [if_neg (show ¬ decide (k ≥ 56) = true by simp; omega), if_pos (show 0 ≤ k ∧ k < 56 by omega)]
        by_cases h3 : (sizeC F.f4.f0 c z).2 = 0
        · have := sizeC_len h3
          rw [if_pos h3, if_pos h3, if_pos (by omega), if_pos (by omega)]
        · rw [if_neg h3, if_neg h3]
      · rw [if_pos (show decide (k ≥ 56) = true by simp; omega), if_neg (by omega)]
  rw [konstV, this]
  rfl

theorem key22 {w W : World} {gf : Nat} {F : S36} {ad : Addr} {kn : Nat} {v : Int} {A6 : Option Addr} {c6 : Nat} {A7 : Option Addr} {c7 : Nat} {A8 : Option Addr} {c8 : Nat} {c9 : Nat} {A10 : Option Addr} {c10 : Nat} {A11 : Option Addr} {c11 : Nat} {A12 : Option Addr} {c12 : Nat} {A13 : Option Addr} {c13 : Nat} {A15 : Option Addr} {c15 : Nat} {A16 : Option Addr} {c16 : Nat} {t : TypeId} (hC : w.cell? (ad.add kn) = some (.int .i64 v)) (h : Pd w W [(gf, .cells #[.int .i64 F.f0.f0, .int .i64 F.f0.f1, .int .i64 F.f0.f2, .int .i64 F.f0.f3, .int .i64 F.f0.f4, .bool F.f0.f5, .slice A6 F.f1.length c6, .slice A7 F.f2.length c7, .slice A8 F.f3.length c8, .slice (some ad) F.f4.f0.length c9, .slice A10 F.f4.f1.length c10, .slice A11 F.f4.f2.length c11, .slice A12 F.f4.f3.length c12, .slice A13 F.f4.f4.length c13, .int .i64 F.f4.f5.f0, .slice A15 F.f4.f5.f1.length c15, .slice A16 F.f4.f5.f2.length c16] t (0, 0))]) : W.cell? ⟨gf, 0, none⟩ = some (.int .i64 F.f0.f0) ∧ W.cell? ⟨gf, 1, none⟩ = some (.int .i64 F.f0.f1) ∧ W.cell? ⟨gf, 2, none⟩ = some (.int .i64 F.f0.f2) ∧ W.cell? ⟨gf, 3, none⟩ = some (.int .i64 F.f0.f3) ∧ W.cell? ⟨gf, 4, none⟩ = some (.int .i64 F.f0.f4) ∧ W.cell? ⟨gf, 5, none⟩ = some (.bool F.f0.f5) ∧ W.cell? ⟨gf, 9, none⟩ = some (.slice (some ad) F.f4.f0.length c9) ∧ W.cell? (ad.add kn) = some (.int .i64 v) := by
  have h17 := cells17 h.hd
  obtain ⟨h0, h1, h2, h3, h4, h5, _, _, _, h9, _⟩ := h17
  refine ⟨h0, h1, h2, h3, h4, h5, h9, ?_⟩
  rw [h.bel.cell (World.block_lt_of_cell? w _ hC)]
  exact hC
set_option maxRecDepth 100000 in
set_option maxHeartbeats 2000000 in
theorem konst22 (F : S36) (k c z : Int) (cs : List Value) (w : World) (hF : FontIn w F cs) : Calls Tryz.prog 48 #[.agg cs.toArray, .int .i64 k, .int .i64 c, .int .i64 z] w fun r w' => r = .returned (.tuple #[.int .i64 (konstV F k c z).1, .int .i64 (konstV F k c z).2]) ∧ Below w.heap.size w w' := by
  rw [konst_closed]
  have hu36 := Tryz.underlying36
  have hu34 := Tryz.underlying34
  have hu23 := Tryz.underlying23
  obtain ⟨A6, c6, A7, c7, A8, c8, A9, c9, A10, c10, A11, c11, A12, c12, A13, c13, A15, c15, A16, c16, hcs, l6, g6, l7, g7, l8, g8, l9, g9, l10, g10, l11, g11, l12, g12, l13, g13, l15, g15, l16, g16⟩ := id hF
  subst hcs
  have H9 := Aside0.mk g9
  clear hF l6 g6 l7 g7 l8 g8 l9 g9 l10 g10 l11 g11 l12 g12 l13 g13 l15 g15 l16 g16
  by_cases h0 : 0 ≤ k ∧ k < 56
  case neg =>
    have HV := Aside0.mk (show konstC F k c z = (0, 1) from if_neg h0)
    by_cases h1 : k < 0
    · have hk1 : decide (k < 0) = true := by simpa using h1
      go_enter Tryz.func48, Tryz.ntmps48
      have HP := Aside0.mk (Pd.start w)
      go_wp2_with (first | ((with_reducible refine gate_dst (N := 4) rfl ?_); refine box_event ?hg (N := 4) ?hd (cs := #[.int .i64 F.f0.f0, .int .i64 F.f0.f1, .int .i64 F.f0.f2, .int .i64 F.f0.f3, .int .i64 F.f0.f4, .bool F.f0.f5, .slice A6 F.f1.length c6, .slice A7 F.f2.length c7, .slice A8 F.f3.length c8, .slice A9 F.f4.f0.length c9, .slice A10 F.f4.f1.length c10, .slice A11 F.f4.f2.length c11, .slice A12 F.f4.f3.length c12, .slice A13 F.f4.f4.length c13, .int .i64 F.f4.f5.f0, .slice A15 F.f4.f5.f1.length c15, .slice A16 F.f4.f5.f2.length c16]) (t := 36) ?hr ?_; (case hd => rfl); (case hg => rfl); (case hr => first | (go_simp; done) | (go_simp; rfl)); intro gf hg wk hbox hb; replace HP := Aside0.mk (Pd.box (by with_reducible repeat (first | exact HP.out | apply Pd.drew)) hg hbox hb); clear hg hbox hb; have hcf := cells17 (Pd.hd HP.out)))
      go_ret2
      exact ⟨tm2 (by rw [HV.out]) (by rw [HV.out]), HP.out.bel⟩
    · have hk1 : decide (k < 0) = false := by simpa using h1
      have hk2 : decide (55 < k) = true := by simp; omega
      go_enter Tryz.func48, Tryz.ntmps48
      have HP := Aside0.mk (Pd.start w)
      go_wp2_with (first | ((with_reducible refine gate_dst (N := 4) rfl ?_); refine box_event ?hg (N := 4) ?hd (cs := #[.int .i64 F.f0.f0, .int .i64 F.f0.f1, .int .i64 F.f0.f2, .int .i64 F.f0.f3, .int .i64 F.f0.f4, .bool F.f0.f5, .slice A6 F.f1.length c6, .slice A7 F.f2.length c7, .slice A8 F.f3.length c8, .slice A9 F.f4.f0.length c9, .slice A10 F.f4.f1.length c10, .slice A11 F.f4.f2.length c11, .slice A12 F.f4.f3.length c12, .slice A13 F.f4.f4.length c13, .int .i64 F.f4.f5.f0, .slice A15 F.f4.f5.f1.length c15, .slice A16 F.f4.f5.f2.length c16]) (t := 36) ?hr ?_; (case hd => rfl); (case hg => rfl); (case hr => first | (go_simp; done) | (go_simp; rfl)); intro gf hg wk hbox hb; replace HP := Aside0.mk (Pd.box (by with_reducible repeat (first | exact HP.out | apply Pd.drew)) hg hbox hb); clear hg hbox hb; have hcf := cells17 (Pd.hd HP.out)))
      go_ret2
      exact ⟨tm2 (by rw [HV.out]) (by rw [HV.out]), HP.out.bel⟩
  have hk1 : decide (k < 0) = false := by simp; omega
  have hk2 : decide (55 < k) = false := by simp; omega
  obtain ⟨s, hs⟩ : ∃ s, s = sizeC F.f4.f0 c z := ⟨_, rfl⟩
  have HS := Aside0.mk (fun w' (h : Below w.heap.size w w') => size22 A9 c9 F.f4.f0 c z w' (Kd.C_below H9.out h) (Kd.C_max H9.out))
  rw [← hs] at HS
  have HV := Aside0.mk (show konstC F k c z = if s.2 = 0 then unitsC F.f0 (rd F.f4.f0 k) s.1 else (0, s.2) by rw [konstC, if_pos h0, hs])
  have HL := Aside0.mk (show s.2 = 0 → F.f4.f0.length = 56 by rw [hs]; exact sizeC_len)
  clear hs
  by_cases h3 : s.2 = 0
  case neg =>
    have he : (s.2 != 0) = true := by simpa using h3
    have HE := Aside0.mk (show (if s.2 = 0 then unitsC F.f0 (rd F.f4.f0 k) s.1 else (0, s.2)) = (0, s.2) from if_neg h3)
    clear h3
    go_enter Tryz.func48, Tryz.ntmps48
    have HP := Aside0.mk (Pd.start w)
    go_wp2_with (first | ((with_reducible refine gate_dst (N := 4) rfl ?_); refine box_event ?hg (N := 4) ?hd (cs := #[.int .i64 F.f0.f0, .int .i64 F.f0.f1, .int .i64 F.f0.f2, .int .i64 F.f0.f3, .int .i64 F.f0.f4, .bool F.f0.f5, .slice A6 F.f1.length c6, .slice A7 F.f2.length c7, .slice A8 F.f3.length c8, .slice A9 F.f4.f0.length c9, .slice A10 F.f4.f1.length c10, .slice A11 F.f4.f2.length c11, .slice A12 F.f4.f3.length c12, .slice A13 F.f4.f4.length c13, .int .i64 F.f4.f5.f0, .slice A15 F.f4.f5.f1.length c15, .slice A16 F.f4.f5.f2.length c16]) (t := 36) ?hr ?_; (case hd => rfl); (case hg => rfl); (case hr => first | (go_simp; done) | (go_simp; rfl)); intro gf hg wk hbox hb; replace HP := Aside0.mk (Pd.box (by with_reducible repeat (first | exact HP.out | apply Pd.drew)) hg hbox hb); clear hg hbox hb; have hcf := cells17 (Pd.hd HP.out)))
    refine (HS.out _ HP.out.bel).mono ?_
    rintro _ w1 ⟨rfl, hb⟩
    replace HP := Aside0.mk (HP.out.below hb)
    clear hb hcf
    go_wp2
    go_ret2
    exact ⟨tm2 (by rw [HV.out, HE.out]) (by rw [HV.out, HE.out]), HP.out.bel⟩
  have he : (s.2 != 0) = false := by simpa using h3
  have HE := Aside0.mk (show (if s.2 = 0 then unitsC F.f0 (rd F.f4.f0 k) s.1 else (0, s.2)) = unitsC F.f0 (rd F.f4.f0 k) s.1 from if_pos h3)
  have h56 := HL.out h3
  obtain ⟨ad, hA, hcell⟩ := Kd.at_int H9.out k h0.1 (by rw [h56]; omega)
  obtain ⟨kn, rfl⟩ : ∃ n : Nat, k = n := ⟨k.toNat, by omega⟩
  simp only [Int.toNat_natCast] at hcell
  subst hA
  obtain ⟨v, hv⟩ : ∃ v, v = rd F.f4.f0 kn := ⟨_, rfl⟩
  rw [← hv] at hcell HE HV
  have HC := Aside0.mk hcell
  have H56 := Aside0.mk h56
  have hi0 : (0 : Int) ≤ (kn : Int) := by omega
  have hi1 : (kn : Int) < 56 := h0.2
  clear h3 h0 hcell h56 hv
  go_enter Tryz.func48, Tryz.ntmps48
  have HP := Aside0.mk (Pd.start w)
  go_wp2_with (first | ((with_reducible refine gate_dst (N := 4) rfl ?_); refine box_event ?hg (N := 4) ?hd (cs := #[.int .i64 F.f0.f0, .int .i64 F.f0.f1, .int .i64 F.f0.f2, .int .i64 F.f0.f3, .int .i64 F.f0.f4, .bool F.f0.f5, .slice A6 F.f1.length c6, .slice A7 F.f2.length c7, .slice A8 F.f3.length c8, .slice (some ad) F.f4.f0.length c9, .slice A10 F.f4.f1.length c10, .slice A11 F.f4.f2.length c11, .slice A12 F.f4.f3.length c12, .slice A13 F.f4.f4.length c13, .int .i64 F.f4.f5.f0, .slice A15 F.f4.f5.f1.length c15, .slice A16 F.f4.f5.f2.length c16]) (t := 36) ?hr ?_; (case hd => rfl); (case hg => rfl); (case hr => first | (go_simp; done) | (go_simp; rfl)); intro gf hg wk hbox hb; replace HP := Aside0.mk (Pd.box (by with_reducible repeat (first | exact HP.out | apply Pd.drew)) hg hbox hb); clear hg hbox hb; have hcf := cells17 (Pd.hd HP.out)))
  refine (HS.out _ HP.out.bel).mono ?_
  rintro _ w1 ⟨rfl, hb⟩
  replace HP := Aside0.mk (HP.out.below hb)
  clear hb hcf
  have hcf := cells17 (Pd.hd HP.out)
  go_wp2_with fail
  have hl56 := H56.out
  go_region_held3 (fun w' => w'.cell? ⟨gf, 0, none⟩ = some (.int .i64 F.f0.f0) ∧ w'.cell? ⟨gf, 1, none⟩ = some (.int .i64 F.f0.f1) ∧ w'.cell? ⟨gf, 2, none⟩ = some (.int .i64 F.f0.f2) ∧ w'.cell? ⟨gf, 3, none⟩ = some (.int .i64 F.f0.f3) ∧ w'.cell? ⟨gf, 4, none⟩ = some (.int .i64 F.f0.f4) ∧ w'.cell? ⟨gf, 5, none⟩ = some (.bool F.f0.f5) ∧ w'.cell? ⟨gf, 9, none⟩ = some (.slice (some ad) F.f4.f0.length c9) ∧ w'.cell? (ad.add kn) = some (.int .i64 v)) (first | with_reducible exact key22 HC.out HP.out | with_reducible exact key22 HC.out HP.out.drew) (first | (go_at_call 40; refine (units05 F.f0 v s.1 _).mono ?_; rintro _ w2 ⟨rfl, hb⟩; replace HP := Aside0.mk (Pd.below (by with_reducible repeat (first | exact HP.out | apply Pd.drew)) hb); clear hb))
  all_goals go_wp2
  all_goals go_ret2
  all_goals exact ⟨tm2 (by rw [HV.out, HE.out]) (by rw [HV.out, HE.out]), HP.out.bel⟩
end Go.Proofs.YtbhljokhcmfgjaaGreat.P
