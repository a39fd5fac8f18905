import Derived.Test.YtbhljokhcmfgjaaGreatTRef14
import Derived.Test.YtbhljokhcmfgjaaGreatTCalc3
import Derived.Test.YtbhljokhcmfgjaaGreatTLim8
/- The document's accents (layer 29): nuc, Attach, Accent. Printed by a program of this work (mkref29.py). -/
set_option linter.unusedVariables false
set_option linter.unusedSimpArgs false
namespace Go.Proofs.YtbhljokhcmfgjaaGreat.P
open Go.RowKit Go.Proofs.YtbhljokhcmfgjaaGreatW.PrintWords Go.Proofs.YtbhljokhcmfgjaaGreatW.PrintLast Go.Proofs.YtbhljokhcmfgjaaGreatW.PrintMore

theorem nuc_need (x : S39) (it e : Int) : (if isLen it = true then needE [x] e else (keepV (needE [x] e) (0, 1)).2) = needI [x.f1, x.f2, x.f3, it] e := by
  simp only [needE, needI, lens, List.all_cons, List.all_nil, Bool.and_true]
  by_cases h1 : isLen x.f1 = true <;> by_cases h2 : isLen x.f2 = true <;> by_cases h3 : isLen x.f3 = true <;> by_cases h4 : isLen it = true <;> by_cases he : e = 0 <;> simp [keepV, h1, h2, h3, h4, he]
theorem units_C (F : S36) (v z : Int) : unitsC F.f0 v z = unitsV F v z := by
  unfold unitsV unitsC head_Units.f head_Is.f fixed_MulDiv.f
  simp only [Option.bind_some]
  split <;> rfl
theorem size_C (F : S36) (c z : Int) : sizeC F.f4.f0 c z = sizeV F c z := by
  unfold sizeV
  rw [size_closed _ _ _ 2 (Nat.le_refl _)]
  rfl
set_option maxRecDepth 100000 in
set_option maxHeartbeats 1000000 in
theorem nuc29 {w W : World} {L : List (Nat × Obj)} {g : Nat} {e : Int} {rest : List Value} {t : TypeId} (h : Pd w W ((g, .cells (Value.int .i64 e :: rest).toArray t (0, 0)) :: L)) (x : S39) (A : Option Addr) (n : Nat) (gl it : Int) : Calls Tryz.prog 26 #[.pointer (some ⟨g, 0, none⟩), .agg #[.int .i64 x.f0, .int .i64 x.f1, .int .i64 x.f2, .int .i64 x.f3, .int .i64 x.f4, .int .i64 x.f5, .slice A x.f6.length n, .int .i64 gl, .int .i64 it]] W fun r w' => r = .returned (.tuple #[]) ∧ Pd w w' ((g, .cells (Value.int .i64 (needI [x.f1, x.f2, x.f3, it] e) :: rest).toArray t (0, 0)) :: L) := by
  have hu39 := Tryz.underlying39
  have hu73 := Tryz.underlying41
  have HP := Aside0.mk h
  obtain ⟨E, hE⟩ : ∃ E, E = needI [x.f1, x.f2, x.f3, it] e := ⟨_, rfl⟩
  rw [← hE]
  have HE := Aside0.mk hE
  clear h hE
  go_enter Tryz.func26, Tryz.ntmps26
  go_wp2_with (first | ((with_reducible refine gate_dst (N := 3) rfl ?_); refine box_event ?hg (N := 3) ?hd (cs := #[.int .i64 x.f0, .int .i64 x.f1, .int .i64 x.f2, .int .i64 x.f3, .int .i64 x.f4, .int .i64 x.f5, .slice A x.f6.length n, .int .i64 gl, .int .i64 it]) (t := 41) ?hr ?_; (case hd => rfl); (case hg => rfl); (case hr => first | (go_simp; done) | (go_simp; rfl)); intro gx hg wk hbox hb; replace HP := Aside0.mk (Pd.box (by with_reducible repeat (first | exact HP.out | apply Pd.drew)) hg hbox hb); clear hg hbox hb; have hn := nuc_c9 (Pd.hd HP.out)))
  refine (need_cd (Pd.swp HP.out) x A n).mono ?_
  rintro _ w1 ⟨rfl, hp⟩
  replace HP := Aside0.mk hp
  clear hp hn
  have hn := nuc_c9 (Pd.hd (Pd.tl HP.out))
  go_wp2_with fail
  clear hn
  refine (len01 it _).mono ?_
  rintro _ w2 ⟨rfl, rfl⟩
  cases hq : isLen it with
  | true =>
    have hz : E = needE [x] e := by rw [HE.out, ← nuc_need, if_pos hq]
    clear hq
    subst hz
    go_wp2
    go_end0
    exact ⟨rfl, HP.out.skip⟩
  | false =>
    have hz : E = (keepV (needE [x] e) (0, 1)).2 := by rw [HE.out, ← nuc_need, if_neg (by rw [hq]; decide)]
    clear hq
    subst hz
    go_wp2_with fail
    refine (got_cd HP.out 0 1).mono ?_
    rintro _ w3 ⟨rfl, hp⟩
    go_wp2
    go_end0
    exact ⟨rfl, hp.skip⟩
set_option maxRecDepth 100000 in
set_option maxHeartbeats 3000000 in
theorem attach29 (F : S36) (size : Int) (x : S39) (gl it : Int) (A : Option Addr) (n : Nat) (cs : List Value) (w : World) (hF : FontIn w F cs) (hA : F.f4.f2.length ≤ 100) : Calls Tryz.prog 14 #[.agg cs.toArray, .int .i64 size, .agg #[.int .i64 x.f0, .int .i64 x.f1, .int .i64 x.f2, .int .i64 x.f3, .int .i64 x.f4, .int .i64 x.f5, .slice A x.f6.length n, .int .i64 gl, .int .i64 it]] w fun r w' => r = .returned (.tuple #[.int .i64 (attachV F size x gl it).1, .int .i64 (attachV F size x gl it).2]) ∧ Below w.heap.size w w' := by
  have hu39 := Tryz.underlying39
  have hu36 := Tryz.underlying36
  have hu73 := Tryz.underlying41
  have hu50 := Tryz.underlying23
  have hu74 := Tryz.underlying71
  obtain ⟨R, hR⟩ : ∃ R, R = attachV F size x gl it := ⟨_, rfl⟩
  rw [← hR]
  have HR := Aside0.mk hR
  clear hR
  have HF := Aside0.mk hF
  have HA := Aside0.mk hA
  obtain ⟨A6, c6, A7, c7, A8, c8, A9, c9, A10, c10, A11, c11, A12, c12, A13, c13, A15, c15, A16, c16, hcs, hcr⟩ := id hF
  subst hcs
  obtain ⟨l6, g6, l7, g7, l8, g8, l9, g9, l10, g10, l11, g11, l12, g12, l13, g13, l15, g15, l16, g16⟩ := hcr
  have HG11 := Aside0.mk g11
  clear l6 g6 l7 g7 l8 g8 l9 g9 l10 g10 l11 g11 l12 g12 l13 g13 l15 g15 l16 g16
  clear hF hA
  go_enter Tryz.func14, Tryz.ntmps14
  have HP := Aside0.mk (Pd.start w)
  go_wp2_with (first | ((with_reducible refine gate_dst (N := 3) rfl ?_); refine box_event ?hg (N := 3) ?hd (cs := #[.int .i64 F.f0.f0, .int .i64 F.f0.f1, .int .i64 F.f0.f2, .int .i64 F.f0.f3, .int .i64 F.f0.f4, .bool F.f0.f5, .slice A6 F.f1.length c6, .slice A7 F.f2.length c7, .slice A8 F.f3.length c8, .slice A9 F.f4.f0.length c9, .slice A10 F.f4.f1.length c10, .slice A11 F.f4.f2.length c11, .slice A12 F.f4.f3.length c12, .slice A13 F.f4.f4.length c13, .int .i64 F.f4.f5.f0, .slice A15 F.f4.f5.f1.length c15, .slice A16 F.f4.f5.f2.length c16]) (t := 36) ?hr ?_; (case hd => rfl); (case hg => rfl); (case hr => first | (go_simp; done) | (go_simp; rfl)); intro gf hg wk hbox hb; replace HP := Aside0.mk (Pd.box (by with_reducible repeat (first | exact HP.out | apply Pd.drew)) hg hbox hb); clear hg hbox hb) | ((with_reducible refine gate_dst (N := 5) rfl ?_); refine box_event ?hg (N := 5) ?hd (cs := #[.int .i64 x.f0, .int .i64 x.f1, .int .i64 x.f2, .int .i64 x.f3, .int .i64 x.f4, .int .i64 x.f5, .slice A x.f6.length n, .int .i64 gl, .int .i64 it]) (t := 41) ?hr ?_; (case hd => rfl); (case hg => rfl); (case hr => first | (go_simp; done) | (go_simp; rfl)); intro gn hg wk hbox hb; replace HP := Aside0.mk (Pd.box (by with_reducible repeat (first | exact HP.out | apply Pd.drew)) hg hbox hb); clear hg hbox hb) | ((with_reducible refine gate_dst (N := 15) rfl ?_); refine box_event ?hg (N := 15) ?hd (cs := #[.int .i64 0]) (t := 71) ?hr ?_; (case hd => rfl); (case hg => rfl); (case hr => first | (go_simp; done) | (go_simp; rfl)); intro gk hg wk hbox hb; replace HP := Aside0.mk (Pd.box (by with_reducible repeat (first | exact HP.out | apply Pd.drew)) hg hbox hb); clear hg hbox hb; have hn := nuc_c9 (Pd.hd (Pd.tl HP.out))))
  refine (nuc29 HP.out x A n gl it).mono ?_
  rintro _ w1 ⟨rfl, hp⟩
  replace HP := Aside0.mk hp
  clear hp hn
  obtain ⟨e1, h_e1⟩ : ∃ e, e = needI [x.f1, x.f2, x.f3, it] 0 := ⟨_, rfl⟩
  rw [← h_e1] at HP
  have H_e1 := Aside0.mk h_e1
  clear h_e1
  have hk := hd_cell (Pd.hd HP.out)
  by_cases he : e1 = 0
  rotate_left
  · have hd1 : (e1 == 0) = false := by simpa using he
    have hz : R = (0, e1) := by rw [HR.out, attachV, ← H_e1.out, if_neg he]
    clear he
    subst hz
    go_wp2_with fail
    have c0 : ∀ n : On w1, n.W.cell? ⟨gk, 0, none⟩ = some (.int .i64 e1) := fun n => On.cell hk n
    have HB := Aside0.mk HP.out.bel
    clear hk
    have H0 := Aside0.mk (Below.refl w1.heap.size w1)
    refine wp_region_on w1 H0.out (by kernel_rfl) (by kernel_rfl) ?_
    repeat (go_big_quiet_step (fail))
    refine wpQuiet_nil ?_
    intro _ hw'
    obtain ⟨nq, hw''⟩ := hw'
    subst hw''
    go_wp2
    go_ret2
    exact ⟨rfl, below_step HB.out nq.bel⟩
  · subst he
    have hf11 := blk_cell (Pd.hd (Pd.tl (Pd.tl HP.out))) 11
    have hn := nuc_c9 (Pd.hd (Pd.tl HP.out))
    go_wp2_with fail
    refine (find14 A11 c11 F.f4.f2 gl _ (Kd.C_below HG11.out HP.out.bel) (by have := HA.out; omega)).mono ?_
    rintro _ w2 ⟨rfl, hb⟩
    replace HP := Aside0.mk (Pd.below HP.out hb)
    clear hb hf11 hn hk
    obtain ⟨q, hq⟩ : ∃ q, q = findV F.f4.f2 gl := ⟨_, rfl⟩
    have HQ := Aside0.mk hq
    rw [← hq]
    clear hq
    obtain ⟨v, is⟩ := q
    have hn := nuc_c9 (Pd.hd (Pd.tl HP.out))
    have HW : Aside0 (R = if is = true ∧ gl ≥ 0 then unitsV F v size else keepV (keepV 0 (toldOf (sumR [x.f1, it]))).2 (toldOf (halfR (keepV 0 (toldOf (sumR [x.f1, it]))).1))) := ⟨by rw [HR.out, attachV, ← H_e1.out, if_pos rfl, ← HQ.out]⟩
    by_cases hg : gl ≥ 0
    rotate_left
    · have hd1 : decide (gl ≥ 0) = false := decide_eq_false hg
      have HN := Aside0.mk (show ¬ (is = true ∧ gl ≥ 0) from fun h => hg h.2)
      clear hg
      have HW1 : Aside0 (R = _) := ⟨HW.out.trans (if_neg HN.out)⟩
      go_wp2_with fail
      clear hn
      refine (add_cd HP.out x.f1 it).mono ?_
      rintro _ w3 ⟨rfl, hp⟩
      replace HP := Aside0.mk hp
      clear hp
      obtain ⟨s, h_s⟩ : ∃ s, s = keepV 0 (toldOf (sumR [x.f1, it])) := ⟨_, rfl⟩
      rw [← h_s] at HP ⊢
      have HW2 : Aside0 (R = keepV s.2 (toldOf (halfR s.1))) := ⟨by rw [HW1.out, h_s]⟩
      clear h_s
      go_wp2_with fail
      refine (half_cd HP.out s.1).mono ?_
      rintro _ w4 ⟨rfl, hp⟩
      rw [← HW2.out] at hp ⊢
      replace HP := Aside0.mk hp
      clear hp
      have hk := hd_cell (Pd.hd HP.out)
      go_wp2_with fail
      have c0 : ∀ n : On w4, n.W.cell? ⟨gk, 0, none⟩ = some (.int .i64 R.2) := fun n => On.cell hk n
      have HB := Aside0.mk HP.out.bel
      clear hk
      have H0 := Aside0.mk (Below.refl w4.heap.size w4)
      refine wp_region_on w4 H0.out (by kernel_rfl) (by kernel_rfl) ?_
      repeat (go_big_quiet_step (fail))
      refine wpQuiet_nil ?_
      intro _ hw'
      obtain ⟨nq, hw''⟩ := hw'
      subst hw''
      go_wp2
      go_ret2
      exact ⟨rfl, below_step HB.out nq.bel⟩
    · have hd1 : decide (gl ≥ 0) = true := decide_eq_true hg
      cases is with
      | false =>
        have HN := Aside0.mk (show ¬ (false = true ∧ gl ≥ 0) from fun h => (by cases h.1))
        clear hg
        have HW1 : Aside0 (R = _) := ⟨HW.out.trans (if_neg HN.out)⟩
        go_wp2_with fail
        clear hn
        refine (add_cd HP.out x.f1 it).mono ?_
        rintro _ w3 ⟨rfl, hp⟩
        replace HP := Aside0.mk hp
        clear hp
        obtain ⟨s, h_s⟩ : ∃ s, s = keepV 0 (toldOf (sumR [x.f1, it])) := ⟨_, rfl⟩
        rw [← h_s] at HP ⊢
        have HW2 : Aside0 (R = keepV s.2 (toldOf (halfR s.1))) := ⟨by rw [HW1.out, h_s]⟩
        clear h_s
        go_wp2_with fail
        refine (half_cd HP.out s.1).mono ?_
        rintro _ w4 ⟨rfl, hp⟩
        rw [← HW2.out] at hp ⊢
        replace HP := Aside0.mk hp
        clear hp
        have hk := hd_cell (Pd.hd HP.out)
        go_wp2_with fail
        have c0 : ∀ n : On w4, n.W.cell? ⟨gk, 0, none⟩ = some (.int .i64 R.2) := fun n => On.cell hk n
        have HB := Aside0.mk HP.out.bel
        clear hk
        have H0 := Aside0.mk (Below.refl w4.heap.size w4)
        refine wp_region_on w4 H0.out (by kernel_rfl) (by kernel_rfl) ?_
        repeat (go_big_quiet_step (fail))
        refine wpQuiet_nil ?_
        intro _ hw'
        obtain ⟨nq, hw''⟩ := hw'
        subst hw''
        go_wp2
        go_ret2
        exact ⟨rfl, below_step HB.out nq.bel⟩
      | true =>
        have hW : R = unitsC F.f0 v size := by rw [HW.out, if_pos ⟨rfl, hg⟩, units_C]
        have HW1 := Aside0.mk hW
        clear hg hW
        have hh0 := blk_cell (Pd.hd (Pd.tl (Pd.tl HP.out))) 0
        have hh1 := blk_cell (Pd.hd (Pd.tl (Pd.tl HP.out))) 1
        have hh2 := blk_cell (Pd.hd (Pd.tl (Pd.tl HP.out))) 2
        have hh3 := blk_cell (Pd.hd (Pd.tl (Pd.tl HP.out))) 3
        have hh4 := blk_cell (Pd.hd (Pd.tl (Pd.tl HP.out))) 4
        have hh5 := blk_cell (Pd.hd (Pd.tl (Pd.tl HP.out))) 5
        go_wp2_with fail
        refine (units05 F.f0 v size _).mono ?_
        rintro _ w3 ⟨rfl, hb⟩
        rw [← HW1.out]
        replace HP := Aside0.mk (Pd.below HP.out hb)
        clear hb hn hh0 hh1 hh2 hh3 hh4 hh5
        go_wp2
        go_ret2
        exact ⟨rfl, HP.out.bel⟩
set_option maxRecDepth 100000 in
set_option maxHeartbeats 4000000 in
theorem accent29 (F : S36) (c z : Int) (x : S39) (gx ix : Int) (y : S39) (gy iy : Int) (Ax : Option Addr) (nx : Nat) (Ay : Option Addr) (ny : Nat) (cs : List Value) (w : World) (hF : FontIn w F cs) (hA : F.f4.f2.length ≤ 100) (hlx : x.f6.length ≤ nx) (hCx : Kd.C k67 w Ax x.f6.length x.f6) (hly : y.f6.length ≤ ny) (hCy : Kd.C k67 w Ay y.f6.length y.f6) : Calls Tryz.prog 12 #[.agg cs.toArray, .int .i64 c, .int .i64 z, .agg #[.int .i64 x.f0, .int .i64 x.f1, .int .i64 x.f2, .int .i64 x.f3, .int .i64 x.f4, .int .i64 x.f5, .slice Ax x.f6.length nx, .int .i64 gx, .int .i64 ix], .agg #[.int .i64 y.f0, .int .i64 y.f1, .int .i64 y.f2, .int .i64 y.f3, .int .i64 y.f4, .int .i64 y.f5, .slice Ay y.f6.length ny, .int .i64 gy, .int .i64 iy]] w fun r w' => ∃ A1 n1, r = .returned (.tuple #[.agg #[.int .i64 (accentV F c z x gx ix y gy iy).1, .int .i64 (accentV F c z x gx ix y gy iy).2.1, .int .i64 (accentV F c z x gx ix y gy iy).2.2.1, .int .i64 (accentV F c z x gx ix y gy iy).2.2.2.1, .int .i64 (accentV F c z x gx ix y gy iy).2.2.2.2.1, .int .i64 (accentV F c z x gx ix y gy iy).2.2.2.2.2.1, .slice A1 (accentV F c z x gx ix y gy iy).2.2.2.2.2.2.1.length n1], .int .i64 (accentV F c z x gx ix y gy iy).2.2.2.2.2.2.2]) ∧ (accentV F c z x gx ix y gy iy).2.2.2.2.2.2.1.length ≤ n1 ∧ Kd.C k67 w' A1 (accentV F c z x gx ix y gy iy).2.2.2.2.2.2.1.length (accentV F c z x gx ix y gy iy).2.2.2.2.2.2.1 ∧ Below w.heap.size w w' := by
  have hu39 := Tryz.underlying39
  have hu36 := Tryz.underlying36
  have hu73 := Tryz.underlying41
  have hu49 := Tryz.underlying67
  have hu74 := Tryz.underlying71
  obtain ⟨R, hR⟩ : ∃ R, R = accentV F c z x gx ix y gy iy := ⟨_, rfl⟩
  rw [← hR]
  have HR := Aside0.mk hR
  clear hR
  have HF := Aside0.mk hF
  have HA := Aside0.mk hA
  have Hlx := Aside0.mk hlx
  have HCx := Aside0.mk hCx
  have Hly := Aside0.mk hly
  have HCy := Aside0.mk hCy
  obtain ⟨A6, c6, A7, c7, A8, c8, A9, c9, A10, c10, A11, c11, A12, c12, A13, c13, A15, c15, A16, c16, hcs, hcr⟩ := id hF
  subst hcs
  obtain ⟨l6, g6, l7, g7, l8, g8, l9, g9, l10, g10, l11, g11, l12, g12, l13, g13, l15, g15, l16, g16⟩ := hcr
  have HG9 := Aside0.mk g9
  have HM9 := Aside0.mk (Kd.C_max g9)
  clear l6 g6 l7 g7 l8 g8 l9 g9 l10 g10 l11 g11 l12 g12 l13 g13 l15 g15 l16 g16
  clear hF hA hlx hCx hly hCy
  go_enter Tryz.func12, Tryz.ntmps12
  have HP := Aside0.mk (Pd.start w)
  go_wp2_with (first | ((with_reducible refine gate_dst (N := 5) rfl ?_); refine box_event ?hg (N := 5) ?hd (cs := #[.int .i64 F.f0.f0, .int .i64 F.f0.f1, .int .i64 F.f0.f2, .int .i64 F.f0.f3, .int .i64 F.f0.f4, .bool F.f0.f5, .slice A6 F.f1.length c6, .slice A7 F.f2.length c7, .slice A8 F.f3.length c8, .slice A9 F.f4.f0.length c9, .slice A10 F.f4.f1.length c10, .slice A11 F.f4.f2.length c11, .slice A12 F.f4.f3.length c12, .slice A13 F.f4.f4.length c13, .int .i64 F.f4.f5.f0, .slice A15 F.f4.f5.f1.length c15, .slice A16 F.f4.f5.f2.length c16]) (t := 36) ?hr ?_; (case hd => rfl); (case hg => rfl); (case hr => first | (go_simp; done) | (go_simp; rfl)); intro gf hg wk hbox hb; replace HP := Aside0.mk (Pd.box (by with_reducible repeat (first | exact HP.out | apply Pd.drew)) hg hbox hb); clear hg hbox hb) | ((with_reducible refine gate_dst (N := 8) rfl ?_); refine box_event ?hg (N := 8) ?hd (cs := #[.int .i64 x.f0, .int .i64 x.f1, .int .i64 x.f2, .int .i64 x.f3, .int .i64 x.f4, .int .i64 x.f5, .slice Ax x.f6.length nx, .int .i64 gx, .int .i64 ix]) (t := 41) ?hr ?_; (case hd => rfl); (case hg => rfl); (case hr => first | (go_simp; done) | (go_simp; rfl)); intro gn hg wk hbox hb; replace HP := Aside0.mk (Pd.box (by with_reducible repeat (first | exact HP.out | apply Pd.drew)) hg hbox hb); clear hg hbox hb) | ((with_reducible refine gate_dst (N := 9) rfl ?_); refine box_event ?hg (N := 9) ?hd (cs := #[.int .i64 y.f0, .int .i64 y.f1, .int .i64 y.f2, .int .i64 y.f3, .int .i64 y.f4, .int .i64 y.f5, .slice Ay y.f6.length ny, .int .i64 gy, .int .i64 iy]) (t := 41) ?hr ?_; (case hd => rfl); (case hg => rfl); (case hr => first | (go_simp; done) | (go_simp; rfl)); intro gm hg wk hbox hb; replace HP := Aside0.mk (Pd.box (by with_reducible repeat (first | exact HP.out | apply Pd.drew)) hg hbox hb); clear hg hbox hb) | ((with_reducible refine gate_dst (N := 10) rfl ?_); refine box_event ?hg (N := 10) ?hd (cs := #[.int .i64 0, .int .i64 0, .int .i64 0, .int .i64 0, .int .i64 0, .int .i64 0, .slice none 0 0]) (t := 39) ?hr ?_; (case hd => rfl); (case hg => rfl); (case hr => first | (go_simp; done) | (go_simp; rfl)); intro gr hg wk hbox hb; replace HP := Aside0.mk (Pd.box (by with_reducible repeat (first | exact HP.out | apply Pd.drew)) hg hbox hb); clear hg hbox hb) | ((with_reducible refine gate_dst (N := 28) rfl ?_); refine box_event ?hg (N := 28) ?hd (cs := #[.int .i64 0]) (t := 71) ?hr ?_; (case hd => rfl); (case hg => rfl); (case hr => first | (go_simp; done) | (go_simp; rfl)); intro gk hg wk hbox hb; replace HP := Aside0.mk (Pd.box (by with_reducible repeat (first | exact HP.out | apply Pd.drew)) hg hbox hb); clear hg hbox hb) | ((with_reducible refine gate_dst (N := 30) rfl ?_); refine wpList_load_row rfl 36 (.tmp 5) rfl gf (by rfl) 36 #[.int .i64 F.f0.f0, .int .i64 F.f0.f1, .int .i64 F.f0.f2, .int .i64 F.f0.f3, .int .i64 F.f0.f4, .bool F.f0.f5, .slice A6 F.f1.length c6, .slice A7 F.f2.length c7, .slice A8 F.f3.length c8, .slice A9 F.f4.f0.length c9, .slice A10 F.f4.f1.length c10, .slice A11 F.f4.f2.length c11, .slice A12 F.f4.f3.length c12, .slice A13 F.f4.f4.length c13, .int .i64 F.f4.f5.f0, .slice A15 F.f4.f5.f1.length c15, .slice A16 F.f4.f5.f2.length c16] (0, 0) _ (Pd.getb (by with_reducible repeat (first | exact HP.out | apply Pd.drew)) (b := gf) (o := .cells #[.int .i64 F.f0.f0, .int .i64 F.f0.f1, .int .i64 F.f0.f2, .int .i64 F.f0.f3, .int .i64 F.f0.f4, .bool F.f0.f5, .slice A6 F.f1.length c6, .slice A7 F.f2.length c7, .slice A8 F.f3.length c8, .slice A9 F.f4.f0.length c9, .slice A10 F.f4.f1.length c10, .slice A11 F.f4.f2.length c11, .slice A12 F.f4.f3.length c12, .slice A13 F.f4.f4.length c13, .int .i64 F.f4.f5.f0, .slice A15 F.f4.f5.f1.length c15, .slice A16 F.f4.f5.f2.length c16] 36 (0, 0)) (by with_reducible repeat (first | exact List.mem_cons_self | apply List.mem_cons_of_mem))) hu36 rfl info_font ?_))
  refine (konst_cd HP.out HF.out (by rfl) 6 c z).mono ?_
  rintro _ w1 ⟨rfl, hp⟩
  obtain ⟨k, h_k⟩ : ∃ k, k = keepV 0 (konstV F 6 c z) := ⟨_, rfl⟩
  rw [← h_k] at hp ⊢
  have H_k := Aside0.mk h_k
  clear h_k
  replace HP := Aside0.mk hp
  clear hp
  have h9 := blk_cell (Pd.getb HP.out (b := gf) (by with_reducible repeat (first | exact List.mem_cons_self | apply List.mem_cons_of_mem))) 9
  go_wp2_with fail
  refine (size22 A9 c9 F.f4.f0 c z _ (Kd.C_below HG9.out HP.out.bel) HM9.out).mono ?_
  rintro _ w2 ⟨rfl, hb⟩
  rw [size_C]
  replace HP := Aside0.mk (Pd.below HP.out hb)
  clear hb h9
  obtain ⟨sv, h_sv⟩ : ∃ sv, sv = sizeV F c z := ⟨_, rfl⟩
  have H_sv := Aside0.mk h_sv
  clear h_sv
  rw [← H_sv.out]
  go_wp2_with fail
  refine (got_cd HP.out sv.1 sv.2).mono ?_
  rintro _ w1 ⟨rfl, hp⟩
  obtain ⟨s, h_s⟩ : ∃ s, s = keepV k.2 (sv.1, sv.2) := ⟨_, rfl⟩
  rw [← h_s] at hp ⊢
  have H_s := Aside0.mk h_s
  clear h_s
  replace HP := Aside0.mk hp
  clear hp
  have hn := nuc_c9 (Pd.getb HP.out (b := gn) (by with_reducible repeat (first | exact List.mem_cons_self | apply List.mem_cons_of_mem)))
  go_wp2_with fail
  clear hn
  refine (nuc29 HP.out x Ax nx gx ix).mono ?_
  rintro _ w1 ⟨rfl, hp⟩
  obtain ⟨e1, h_e1⟩ : ∃ e1, e1 = needI [x.f1, x.f2, x.f3, ix] s.2 := ⟨_, rfl⟩
  rw [← h_e1] at hp
  have H_e1 := Aside0.mk h_e1
  clear h_e1
  replace HP := Aside0.mk hp
  clear hp
  have hn := nuc_c9 (Pd.getb HP.out (b := gm) (by with_reducible repeat (first | exact List.mem_cons_self | apply List.mem_cons_of_mem)))
  go_wp2_with fail
  clear hn
  refine (nuc29 HP.out y Ay ny gy iy).mono ?_
  rintro _ w1 ⟨rfl, hp⟩
  obtain ⟨e2, h_e2⟩ : ∃ e2, e2 = needI [y.f1, y.f2, y.f3, iy] e1 := ⟨_, rfl⟩
  rw [← h_e2] at hp
  have H_e2 := Aside0.mk h_e2
  clear h_e2
  replace HP := Aside0.mk hp
  clear hp
  have hk := hd_cell (Pd.hd HP.out)
  by_cases hee : e2 = 0
  rotate_left
  · have hd1 : (e2 == 0) = false := by simpa using hee
    have HRE : Aside0 (R = (0, 0, 0, 0, 0, 0, [], e2)) := ⟨by (rw [HR.out]; have hq := hee; have h_k := H_k.out; have h_sv := H_sv.out; have h_s := H_s.out; have h_e1 := H_e1.out; have h_e2 := H_e2.out; subst h_k h_sv h_s h_e1 h_e2; unfold accentV; exact if_pos hq)⟩
    clear hee
    have HPG := Aside0.mk (Pd.swp HP.out)
    have n1 : gr ≠ gk := Pd.ne_hd HPG.out (b := (gk, .cells #[.int .i64 e2] 71 (0, 0))) (by with_reducible repeat (first | exact List.mem_cons_self | apply List.mem_cons_of_mem))
    have n2 := n1.symm
    have hcz := cells7 (Pd.hd HPG.out)
    have hfz := froz7 (Pd.hd HPG.out)
    go_wp2_with fail
    go_region
    all_goals go_wp2
    all_goals refine bodyPost_ret (results_ct rfl _ _ gr 39 #[.int .i64 0, .int .i64 0, .int .i64 0, .int .i64 0, .int .i64 0, .int .i64 0, .slice none 0 0] (0, 0) _ rfl (blk_drew (put7 (Pd.hd HPG.out))) hu39 rfl (by kernel_rfl)) rfl ?_
    all_goals exact ⟨none, 0, by rw [HRE.out]; rfl, by rw [HRE.out]; exact Nat.le_refl _, by rw [HRE.out]; exact Kd.C_nil _ _, (Pd.drew (Pd.st7 HPG.out)).bel⟩
  · have HEE := Aside0.mk hee
    rw [hee] at HP hk
    clear hee
    have hn := nuc_c9 (Pd.getb HP.out (b := gn) (by with_reducible repeat (first | exact List.mem_cons_self | apply List.mem_cons_of_mem)))
    go_wp2_with (first | ((with_reducible refine gate_dst (N := 64) rfl ?_); refine wpList_load_row rfl 36 (.tmp 5) rfl gf (by rfl) 36 #[.int .i64 F.f0.f0, .int .i64 F.f0.f1, .int .i64 F.f0.f2, .int .i64 F.f0.f3, .int .i64 F.f0.f4, .bool F.f0.f5, .slice A6 F.f1.length c6, .slice A7 F.f2.length c7, .slice A8 F.f3.length c8, .slice A9 F.f4.f0.length c9, .slice A10 F.f4.f1.length c10, .slice A11 F.f4.f2.length c11, .slice A12 F.f4.f3.length c12, .slice A13 F.f4.f4.length c13, .int .i64 F.f4.f5.f0, .slice A15 F.f4.f5.f1.length c15, .slice A16 F.f4.f5.f2.length c16] (0, 0) _ (Pd.getb (by with_reducible repeat (first | exact HP.out | apply Pd.drew)) (b := gf) (o := .cells #[.int .i64 F.f0.f0, .int .i64 F.f0.f1, .int .i64 F.f0.f2, .int .i64 F.f0.f3, .int .i64 F.f0.f4, .bool F.f0.f5, .slice A6 F.f1.length c6, .slice A7 F.f2.length c7, .slice A8 F.f3.length c8, .slice A9 F.f4.f0.length c9, .slice A10 F.f4.f1.length c10, .slice A11 F.f4.f2.length c11, .slice A12 F.f4.f3.length c12, .slice A13 F.f4.f4.length c13, .int .i64 F.f4.f5.f0, .slice A15 F.f4.f5.f1.length c15, .slice A16 F.f4.f5.f2.length c16] 36 (0, 0)) (by with_reducible repeat (first | exact List.mem_cons_self | apply List.mem_cons_of_mem))) hu36 rfl info_font ?_))
    refine (attach29 F s.1 x gx ix Ax nx _ _ (HF.out.heap HP.out.bel) HA.out).mono ?_
    rintro _ w3 ⟨rfl, hb⟩
    obtain ⟨av, h_av⟩ : ∃ av, av = attachV F s.1 x gx ix := ⟨_, rfl⟩
    have H_av := Aside0.mk h_av
    clear h_av
    rw [← H_av.out]
    replace HP := Aside0.mk (Pd.below HP.out hb)
    clear hb hn
    clear hk
    go_wp2_with fail
    refine (got_cd HP.out av.1 av.2).mono ?_
    rintro _ w1 ⟨rfl, hp⟩
    obtain ⟨a, h_a⟩ : ∃ a, a = keepV 0 (av.1, av.2) := ⟨_, rfl⟩
    rw [← h_a] at hp ⊢
    have H_a := Aside0.mk h_a
    clear h_a
    replace HP := Aside0.mk hp
    clear hp
    have hn := nuc_c9 (Pd.getb HP.out (b := gm) (by with_reducible repeat (first | exact List.mem_cons_self | apply List.mem_cons_of_mem)))
    go_wp2_with (first | ((with_reducible refine gate_dst (N := 75) rfl ?_); refine wpList_load_row rfl 36 (.tmp 5) rfl gf (by rfl) 36 #[.int .i64 F.f0.f0, .int .i64 F.f0.f1, .int .i64 F.f0.f2, .int .i64 F.f0.f3, .int .i64 F.f0.f4, .bool F.f0.f5, .slice A6 F.f1.length c6, .slice A7 F.f2.length c7, .slice A8 F.f3.length c8, .slice A9 F.f4.f0.length c9, .slice A10 F.f4.f1.length c10, .slice A11 F.f4.f2.length c11, .slice A12 F.f4.f3.length c12, .slice A13 F.f4.f4.length c13, .int .i64 F.f4.f5.f0, .slice A15 F.f4.f5.f1.length c15, .slice A16 F.f4.f5.f2.length c16] (0, 0) _ (Pd.getb (by with_reducible repeat (first | exact HP.out | apply Pd.drew)) (b := gf) (o := .cells #[.int .i64 F.f0.f0, .int .i64 F.f0.f1, .int .i64 F.f0.f2, .int .i64 F.f0.f3, .int .i64 F.f0.f4, .bool F.f0.f5, .slice A6 F.f1.length c6, .slice A7 F.f2.length c7, .slice A8 F.f3.length c8, .slice A9 F.f4.f0.length c9, .slice A10 F.f4.f1.length c10, .slice A11 F.f4.f2.length c11, .slice A12 F.f4.f3.length c12, .slice A13 F.f4.f4.length c13, .int .i64 F.f4.f5.f0, .slice A15 F.f4.f5.f1.length c15, .slice A16 F.f4.f5.f2.length c16] 36 (0, 0)) (by with_reducible repeat (first | exact List.mem_cons_self | apply List.mem_cons_of_mem))) hu36 rfl info_font ?_))
    refine (attach29 F s.1 y gy iy Ay ny _ _ (HF.out.heap HP.out.bel) HA.out).mono ?_
    rintro _ w3 ⟨rfl, hb⟩
    obtain ⟨bv, h_bv⟩ : ∃ bv, bv = attachV F s.1 y gy iy := ⟨_, rfl⟩
    have H_bv := Aside0.mk h_bv
    clear h_bv
    rw [← H_bv.out]
    replace HP := Aside0.mk (Pd.below HP.out hb)
    clear hb hn
    go_wp2_with fail
    refine (got_cd HP.out bv.1 bv.2).mono ?_
    rintro _ w1 ⟨rfl, hp⟩
    obtain ⟨b, h_b⟩ : ∃ b, b = keepV a.2 (bv.1, bv.2) := ⟨_, rfl⟩
    rw [← h_b] at hp ⊢
    have H_b := Aside0.mk h_b
    clear h_b
    replace HP := Aside0.mk hp
    clear hp
    go_wp2_with fail
    (try simp only [i64_w])
    refine (sub_cd HP.out a.1 b.1).mono ?_
    rintro _ w1 ⟨rfl, hp⟩
    obtain ⟨u, h_u⟩ : ∃ u, u = keepV b.2 (toldOf (sumR [a.1, wrap64 (-b.1)])) := ⟨_, rfl⟩
    rw [← h_u] at hp ⊢
    have H_u := Aside0.mk h_u
    clear h_u
    replace HP := Aside0.mk hp
    clear hp
    have hn := nuc_c9 (Pd.getb HP.out (b := gn) (by with_reducible repeat (first | exact List.mem_cons_self | apply List.mem_cons_of_mem)))
    go_wp2_with fail
    clear hn
    (try simp only [i64_w])
    refine (sub_cd HP.out x.f2 (min x.f2 k.1)).mono ?_
    rintro _ w1 ⟨rfl, hp⟩
    obtain ⟨v, h_v⟩ : ∃ v, v = keepV u.2 (toldOf (sumR [x.f2, wrap64 (-(min x.f2 k.1))])) := ⟨_, rfl⟩
    rw [← h_v] at hp ⊢
    have H_v := Aside0.mk h_v
    clear h_v
    replace HP := Aside0.mk hp
    clear hp
    have hn := nuc_c9 (Pd.getb HP.out (b := gn) (by with_reducible repeat (first | exact List.mem_cons_self | apply List.mem_cons_of_mem)))
    have hm := nuc_c9 (Pd.getb HP.out (b := gm) (by with_reducible repeat (first | exact List.mem_cons_self | apply List.mem_cons_of_mem)))
    go_wp2_with fail
    clear hn hm
    refine (setlit_cd x.f1 [⟨0, 0, x⟩, ⟨u.1, v.1, y⟩] [[.int .i64 0, .int .i64 0, .int .i64 x.f0, .int .i64 x.f1, .int .i64 x.f2, .int .i64 x.f3, .int .i64 x.f4, .int .i64 x.f5, .slice Ax x.f6.length nx], [.int .i64 u.1, .int .i64 v.1, .int .i64 y.f0, .int .i64 y.f1, .int .i64 y.f2, .int .i64 y.f3, .int .i64 y.f4, .int .i64 y.f5, .slice Ay y.f6.length ny]] (by simp) HP.out ?hb ⟨k67_mk w ⟨0, 0, x⟩ Hlx.out HCx.out, k67_mk w ⟨u.1, v.1, y⟩ Hly.out HCy.out, trivial⟩).mono ?_
    case hb => rfl
    rintro _ w7 ⟨A1, n1, rfl, hl, hf, hp⟩
    replace HP := Aside0.mk hp
    have HLL := Aside0.mk hl
    have HFF := Aside0.mk hf
    clear hp hl hf
    have HRV : Aside0 (R = setV v.2 x.f1 ([⟨0, 0, x⟩, ⟨u.1, v.1, y⟩] : List S67)) := ⟨by (rw [HR.out]; have hq := HEE.out; have h_k := H_k.out; have h_sv := H_sv.out; have h_s := H_s.out; have h_e1 := H_e1.out; have h_e2 := H_e2.out; have h_av := H_av.out; have h_a := H_a.out; have h_bv := H_bv.out; have h_b := H_b.out; have h_u := H_u.out; have h_v := H_v.out; subst h_k h_sv h_s h_e1 h_e2 h_av h_a h_bv h_b h_u h_v; unfold accentV; dsimp only; rw [if_neg (fun h => h hq)]; try rfl)⟩
    rw [← HRV.out] at HLL HFF ⊢
    have hcz := fun ob : Obj => cells7 (Pd.hd (Pd.tl (Pd.alc HP.out ob)))
    have hfz := fun ob : Obj => froz7 (Pd.hd (Pd.tl (Pd.alc HP.out ob)))
    go_wp2
    refine bodyPost_ret (results_ct rfl _ _ gr 39 #[.int .i64 R.1, .int .i64 R.2.1, .int .i64 R.2.2.1, .int .i64 R.2.2.2.1, .int .i64 R.2.2.2.2.1, .int .i64 R.2.2.2.2.2.1, .slice A1 R.2.2.2.2.2.2.1.length n1] (0, 0) _ rfl (put7 (Pd.hd (Pd.tl (Pd.alc HP.out _)))) hu39 rfl (by kernel_rfl)) rfl ?_
    exact ⟨A1, n1, rfl, HLL.out, HFF.out _ (fun k hk hlt => (far7 _ (hk (gr, _) (List.mem_cons_of_mem _ List.mem_cons_self))).trans (alloc_heap_lt hlt)), Pre.bel (Pd.toPre (Pd.st7 (Pd.tl (Pd.alc HP.out _))))⟩
end Go.Proofs.YtbhljokhcmfgjaaGreat.P
