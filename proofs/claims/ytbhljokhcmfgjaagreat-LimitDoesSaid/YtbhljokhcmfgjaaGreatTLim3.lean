import Derived.Test.YtbhljokhcmfgjaaGreatTLim2
import Derived.Test.YtbhljokhcmfgjaaGreatTInfo3
/- limit.Attach. Printed by a program of this work (mklim3.py). -/
set_option linter.unusedVariables false
set_option linter.unusedSimpArgs false
namespace Go.Proofs.YtbhljokhcmfgjaaGreat.P
open Go.RowKit Go.Proofs.YtbhljokhcmfgjaaGreatW.PrintWords Go.Proofs.YtbhljokhcmfgjaaGreatW.PrintLast Go.Proofs.YtbhljokhcmfgjaaGreatW.PrintMore

/-- head.Units. -/
def unitsV (F : S36) (v size : Int) : Int × Int := (head_Units.f F.f0.f0 F.f0.f1 F.f0.f2 F.f0.f3 F.f0.f4 F.f0.f5 v size).getD (0, 0)
theorem units_some (F : S36) (v size : Int) : head_Units.f F.f0.f0 F.f0.f1 F.f0.f2 F.f0.f3 F.f0.f4 F.f0.f5 v size = some ((unitsV F v size).1, (unitsV F v size).2) := by
  have h : ∃ r, head_Units.f F.f0.f0 F.f0.f1 F.f0.f2 F.f0.f3 F.f0.f4 F.f0.f5 v size = some r := by
    unfold head_Units.f head_Is.f fixed_MulDiv.f
    simp only [Option.bind_some]
    split
    all_goals exact ⟨_, rfl⟩
  obtain ⟨r, hr⟩ := h
  unfold unitsV
  rw [hr]
  rfl
/-- Where an accent stands. -/
def attachV (F : S36) (size : Int) (x : S39) (gl it : Int) : Int × Int :=
  if needI [x.f1, x.f2, x.f3, it] 0 = 0 then
    (if (findV F.f4.f2 gl).2 = true ∧ gl ≥ 0 then unitsV F (findV F.f4.f2 gl).1 size
     else keepV (keepV 0 (toldOf (sumR [x.f1, it]))).2 (toldOf (halfR (keepV 0 (toldOf (sumR [x.f1, it]))).1)))
  else (0, needI [x.f1, x.f2, x.f3, it] 0)
set_option maxRecDepth 100000 in
set_option maxHeartbeats 3000000 in
theorem attach_calls (F : S36) (size : Int) (x : S39) (gl it : Int) (A : Option Addr) (n : Nat) (cs : List Value) (w : World) (hF : FontIn w F cs) (hA : F.f4.f2.length ≤ 100) : Calls Tryz.prog 13 #[.agg cs.toArray, .int .i64 size, .agg #[.int .i64 x.f0, .int .i64 x.f1, .int .i64 x.f2, .int .i64 x.f3, .int .i64 x.f4, .int .i64 x.f5, .slice A x.f6.length n, .int .i64 gl, .int .i64 it]] w fun r w' => r = .returned (.tuple #[.int .i64 (attachV F size x gl it).1, .int .i64 (attachV F size x gl it).2]) ∧ Below w.heap.size w w' := by
  have hu36 := Tryz.underlying36
  have hu73 := Tryz.underlying41
  have hu50 := Tryz.underlying23
  obtain ⟨R, hR⟩ : ∃ R, R = attachV F size x gl it := ⟨_, rfl⟩
  rw [← hR]
  have HR := Aside0.mk hR
  clear hR
  have HF := Aside0.mk hF
  have HA := Aside0.mk hA
  obtain ⟨A6, c6, A7, c7, A8, c8, A9, c9, A10, c10, A11, c11, A12, c12, A13, c13, A15, c15, A16, c16, hcs, hcr⟩ := id hF
  subst hcs
  obtain ⟨l6, g6, l7, g7, l8, g8, l9, g9, l10, g10, l11, g11, l12, g12, l13, g13, l15, g15, l16, g16⟩ := hcr
  have HG11 := Aside0.mk g11
  have HL11 := Aside0.mk l11
  clear l6 g6 l7 g7 l8 g8 l9 g9 l10 g10 l11 g11 l12 g12 l13 g13 l15 g15 l16 g16
  clear hF hA
  obtain ⟨pre, hpre⟩ : ∃ r : List Value, r = [.int .i64 F.f0.f0, .int .i64 F.f0.f1, .int .i64 F.f0.f2, .int .i64 F.f0.f3, .int .i64 F.f0.f4, .bool F.f0.f5, .slice A6 F.f1.length c6, .slice A7 F.f2.length c7, .slice A8 F.f3.length c8, .slice A9 F.f4.f0.length c9, .slice A10 F.f4.f1.length c10, .slice A11 F.f4.f2.length c11, .slice A12 F.f4.f3.length c12, .slice A13 F.f4.f4.length c13, .int .i64 F.f4.f5.f0, .slice A15 F.f4.f5.f1.length c15, .slice A16 F.f4.f5.f2.length c16, .int .i64 0, .int .i64 0] := ⟨_, rfl⟩
  have HPRE := Aside0.mk hpre
  have HL := Aside0.mk (show pre.length = 19 by rw [hpre]; rfl)
  clear hpre
  go_enter Tryz.func13, Tryz.ntmps13
  have HP := Aside0.mk (Pd.start w)
  go_wp2_with (first | ((with_reducible refine gate_dst (N := 3) rfl ?_); refine box_event ?hg (N := 3) ?hd (cs := #[.int .i64 F.f0.f0, .int .i64 F.f0.f1, .int .i64 F.f0.f2, .int .i64 F.f0.f3, .int .i64 F.f0.f4, .bool F.f0.f5, .slice A6 F.f1.length c6, .slice A7 F.f2.length c7, .slice A8 F.f3.length c8, .slice A9 F.f4.f0.length c9, .slice A10 F.f4.f1.length c10, .slice A11 F.f4.f2.length c11, .slice A12 F.f4.f3.length c12, .slice A13 F.f4.f4.length c13, .int .i64 F.f4.f5.f0, .slice A15 F.f4.f5.f1.length c15, .slice A16 F.f4.f5.f2.length c16]) (t := 36) ?hr ?_; (case hd => rfl); (case hg => rfl); (case hr => first | (go_simp; done) | (go_simp; rfl)); intro gf hg wk hbox hb; replace HP := Aside0.mk (Pd.box (by with_reducible repeat (first | exact HP.out | apply Pd.drew)) hg hbox hb); clear hg hbox hb) | ((with_reducible refine gate_dst (N := 5) rfl ?_); refine box_event ?hg (N := 5) ?hd (cs := #[.int .i64 x.f0, .int .i64 x.f1, .int .i64 x.f2, .int .i64 x.f3, .int .i64 x.f4, .int .i64 x.f5, .slice A x.f6.length n, .int .i64 gl, .int .i64 it]) (t := 41) ?hr ?_; (case hd => rfl); (case hg => rfl); (case hr => first | (go_simp; done) | (go_simp; rfl)); intro gn hg wk hbox hb; replace HP := Aside0.mk (Pd.box (by with_reducible repeat (first | exact HP.out | apply Pd.drew)) hg hbox hb); clear hg hbox hb) | ((with_reducible refine gate_dst (N := 12) rfl ?_); refine wpList_load_row rfl 36 (.tmp 3) rfl gf (by rfl) 36 #[.int .i64 F.f0.f0, .int .i64 F.f0.f1, .int .i64 F.f0.f2, .int .i64 F.f0.f3, .int .i64 F.f0.f4, .bool F.f0.f5, .slice A6 F.f1.length c6, .slice A7 F.f2.length c7, .slice A8 F.f3.length c8, .slice A9 F.f4.f0.length c9, .slice A10 F.f4.f1.length c10, .slice A11 F.f4.f2.length c11, .slice A12 F.f4.f3.length c12, .slice A13 F.f4.f4.length c13, .int .i64 F.f4.f5.f0, .slice A15 F.f4.f5.f1.length c15, .slice A16 F.f4.f5.f2.length c16] (0, 0) _ (Pd.hd (Pd.tl (by with_reducible repeat (first | exact HP.out | apply Pd.drew)))) hu36 rfl info_font ?_) | ((with_reducible refine gate_dst (N := 14) rfl ?_); refine box_event ?hg (N := 14) ?hd (cs := #[.int .i64 F.f0.f0, .int .i64 F.f0.f1, .int .i64 F.f0.f2, .int .i64 F.f0.f3, .int .i64 F.f0.f4, .bool F.f0.f5, .slice A6 F.f1.length c6, .slice A7 F.f2.length c7, .slice A8 F.f3.length c8, .slice A9 F.f4.f0.length c9, .slice A10 F.f4.f1.length c10, .slice A11 F.f4.f2.length c11, .slice A12 F.f4.f3.length c12, .slice A13 F.f4.f4.length c13, .int .i64 F.f4.f5.f0, .slice A15 F.f4.f5.f1.length c15, .slice A16 F.f4.f5.f2.length c16, .int .i64 0, .int .i64 0, .int .i64 0]) (t := 60) ?hr ?_; (case hd => rfl); (case hg => rfl); (case hr => first | (go_simp; done) | (go_simp; rfl)); intro g hg wkg hbox hb; replace HP : Aside0 (Pd w wkg [(g, .cells (pre ++ [Value.int .i64 0]).toArray 60 (0, 0)), (gn, .cells #[.int .i64 x.f0, .int .i64 x.f1, .int .i64 x.f2, .int .i64 x.f3, .int .i64 x.f4, .int .i64 x.f5, .slice A x.f6.length n, .int .i64 gl, .int .i64 it] 41 (0, 0)), (gf, .cells #[.int .i64 F.f0.f0, .int .i64 F.f0.f1, .int .i64 F.f0.f2, .int .i64 F.f0.f3, .int .i64 F.f0.f4, .bool F.f0.f5, .slice A6 F.f1.length c6, .slice A7 F.f2.length c7, .slice A8 F.f3.length c8, .slice A9 F.f4.f0.length c9, .slice A10 F.f4.f1.length c10, .slice A11 F.f4.f2.length c11, .slice A12 F.f4.f3.length c12, .slice A13 F.f4.f4.length c13, .int .i64 F.f4.f5.f0, .slice A15 F.f4.f5.f1.length c15, .slice A16 F.f4.f5.f2.length c16] 36 (0, 0))]) := ⟨by rw [HPRE.out]; exact Pd.box HP.out hg hbox hb⟩; clear hg hbox hb; have hn := nuc_c9 (Pd.hd (Pd.tl HP.out))))
  refine (nuc_ld HL.out HP.out x A n gl it).mono ?_
  rintro _ w1 ⟨rfl, hp⟩
  replace HP := Aside0.mk hp
  clear hp hn
  obtain ⟨e1, h_e1⟩ : ∃ e, e = needI [x.f1, x.f2, x.f3, it] 0 := ⟨_, rfl⟩
  rw [← h_e1] at HP
  have H_e1 := Aside0.mk h_e1
  clear h_e1
  have hc0 := last_cell HL.out (Pd.hd HP.out)
  by_cases he : e1 = 0
  · subst he
    have hf11 := blk_cell (Pd.hd (Pd.tl (Pd.tl HP.out))) 11
    have hn := nuc_c9 (Pd.hd (Pd.tl HP.out))
    go_wp2_with fail
    refine (infoFind_calls A11 c11 F.f4.f2 gl _ (Kd.C_below HG11.out HP.out.bel) (by have := HA.out; omega)).mono ?_
    rintro _ w2 ⟨rfl, hb⟩
    replace HP := Aside0.mk (Pd.below HP.out hb)
    clear hb hf11 hn hc0
    obtain ⟨q, hq⟩ : ∃ q, q = findV F.f4.f2 gl := ⟨_, rfl⟩
    have HQ := Aside0.mk hq
    rw [← hq]
    clear hq
    obtain ⟨v, is⟩ := q
    have hn := nuc_c9 (Pd.hd (Pd.tl HP.out))
    have HW : Aside0 (R = if is = true ∧ gl ≥ 0 then unitsV F v size else keepV (keepV 0 (toldOf (sumR [x.f1, it]))).2 (toldOf (halfR (keepV 0 (toldOf (sumR [x.f1, it]))).1))) := ⟨by rw [HR.out, attachV, ← H_e1.out, if_pos rfl, ← HQ.out]⟩
    cases is with
    | false =>
      have HN := Aside0.mk (show ¬ (false = true ∧ gl ≥ 0) from fun h => (by cases h.1))
      go_wp2_with fail
      refine (sum2_ld HL.out (Pd.alc HP.out _) (by exact alloc_last _ _)).mono ?_
      rintro _ w3 ⟨rfl, hp⟩
      replace HP := Aside0.mk hp
      clear hp hn
      obtain ⟨s, h_s⟩ : ∃ s, s = keepV 0 (toldOf (sumR [x.f1, it])) := ⟨_, rfl⟩
      rw [← h_s] at HP ⊢
      have HW2 : Aside0 (R = keepV s.2 (toldOf (halfR s.1))) := ⟨by rw [HW.out, if_neg (fun h => HN.out h), h_s]⟩
      clear h_s
      go_wp2_with fail
      refine (half_ld HL.out HP.out s.1).mono ?_
      rintro _ w4 ⟨rfl, hp⟩
      rw [← HW2.out] at hp ⊢
      replace HP := Aside0.mk hp
      clear hp
      have hc1 := last_cell HL.out (Pd.hd HP.out)
      go_wp2_with fail
      go_region_held3 (fun w' => w'.cell? ⟨g, 19, none⟩ = some (.int .i64 R.2)) (with_reducible exact last_cell HL.out (Pd.hd (by with_reducible repeat (first | exact HP.out | apply Pd.drew)))) (fail)
      all_goals go_wp2
      all_goals go_ret2
      all_goals exact ⟨rfl, by with_reducible repeat (first | exact HP.out.bel | apply below_drew1)⟩
    | true =>
      by_cases hg : gl ≥ 0
      · have hd1 : decide (gl ≥ 0) = true := decide_eq_true hg
        have hW : R = unitsV F v size := by rw [HW.out, if_pos ⟨rfl, hg⟩]
        have HU := Aside0.mk (units_some F v size)
        rw [← hW] at HU
        clear hg hW
        have hh0 := blk_cell (Pd.hd (Pd.tl (Pd.tl HP.out))) 0
        have hh1 := blk_cell (Pd.hd (Pd.tl (Pd.tl HP.out))) 1
        have hh2 := blk_cell (Pd.hd (Pd.tl (Pd.tl HP.out))) 2
        have hh3 := blk_cell (Pd.hd (Pd.tl (Pd.tl HP.out))) 3
        have hh4 := blk_cell (Pd.hd (Pd.tl (Pd.tl HP.out))) 4
        have hh5 := blk_cell (Pd.hd (Pd.tl (Pd.tl HP.out))) 5
        go_wp2_with fail
        refine (head_Units.calls F.f0.f0 F.f0.f1 F.f0.f2 F.f0.f3 F.f0.f4 F.f0.f5 v size R.1 R.2 _ HU.out).mono ?_
        rintro _ w5 ⟨rfl, hb⟩
        replace HP := Aside0.mk (Pd.below HP.out hb)
        clear hb hh0 hh1 hh2 hh3 hh4 hh5
        try dsimp only
        go_wp2
        go_ret2
        exact ⟨rfl, HP.out.bel⟩
      · have hd1 : decide (gl ≥ 0) = false := decide_eq_false hg
        have HN := Aside0.mk (show ¬ (true = true ∧ gl ≥ 0) from fun h => hg h.2)
        clear hg
        go_wp2_with fail
        refine (sum2_ld HL.out (Pd.alc HP.out _) (by exact alloc_last _ _)).mono ?_
        rintro _ w3 ⟨rfl, hp⟩
        replace HP := Aside0.mk hp
        clear hp hn
        obtain ⟨s, h_s⟩ : ∃ s, s = keepV 0 (toldOf (sumR [x.f1, it])) := ⟨_, rfl⟩
        rw [← h_s] at HP ⊢
        have HW2 : Aside0 (R = keepV s.2 (toldOf (halfR s.1))) := ⟨by rw [HW.out, if_neg (fun h => HN.out h), h_s]⟩
        clear h_s
        go_wp2_with fail
        refine (half_ld HL.out HP.out s.1).mono ?_
        rintro _ w4 ⟨rfl, hp⟩
        rw [← HW2.out] at hp ⊢
        replace HP := Aside0.mk hp
        clear hp
        have hc1 := last_cell HL.out (Pd.hd HP.out)
        go_wp2_with fail
        go_region_held3 (fun w' => w'.cell? ⟨g, 19, none⟩ = some (.int .i64 R.2)) (with_reducible exact last_cell HL.out (Pd.hd (by with_reducible repeat (first | exact HP.out | apply Pd.drew)))) (fail)
        all_goals go_wp2
        all_goals go_ret2
        all_goals exact ⟨rfl, by with_reducible repeat (first | exact HP.out.bel | apply below_drew1)⟩
  · have hd1 : (e1 == 0) = false := by simpa using he
    have HW : Aside0 (R = (0, e1)) := ⟨by rw [HR.out, attachV, ← H_e1.out, if_neg he]⟩
    have HE := Aside0.mk he
    clear he
    go_wp2_with fail
    go_region_held3 (fun w' => w'.cell? ⟨g, 19, none⟩ = some (.int .i64 e1)) (with_reducible exact last_cell HL.out (Pd.hd (by with_reducible repeat (first | exact HP.out | apply Pd.drew)))) (fail)
    all_goals go_wp2
    all_goals go_ret2
    all_goals exact ⟨by rw [HW.out]; rfl, by with_reducible repeat (first | exact HP.out.bel | apply below_drew1)⟩
end Go.Proofs.YtbhljokhcmfgjaaGreat.P
