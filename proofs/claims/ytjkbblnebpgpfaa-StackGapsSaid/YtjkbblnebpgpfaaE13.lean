import Derived.Test.YtjkbblnebpgpfaaSetIn
import Derived.Test.YtjkbblnebpgpfaaE8
/- Part 13 of the proof of stackCenter_holds: what it needs of this work's texts, joined. -/
set_option linter.unusedVariables false
set_option linter.unusedSimpArgs false
namespace Go.Proofs.Ytjkbblnebpgpfaa.P
open Go.RowKit Go.Proofs.YtjkbblnebpgpfaaW.PrintWords Go.Proofs.YtjkbblnebpgpfaaW.PrintLast Go.Proofs.YtjkbblnebpgpfaaW.PrintMore
attribute [local go_sem] max2_int min2_int max_two min_two
set_option linter.unusedVariables false
set_option linter.unusedSimpArgs false
set_option maxRecDepth 100000 in
set_option maxHeartbeats 3000000 in
theorem center_calls (F : S36) (c z : Int) (b : S39) (Ab : Option Addr) (nb : Nat) (cs : List Value) (w : World) (hF : FontIn w F cs) (lb : b.f6.length ≤ nb) (hb : Kd.C k49 w Ab b.f6.length b.f6) :
    Calls Try.prog 18 #[.agg cs.toArray, .int .i64 c, .int .i64 z, .agg #[.int .i64 b.f0, .int .i64 b.f1, .int .i64 b.f2, .int .i64 b.f3, .int .i64 b.f4, .int .i64 b.f5, .slice Ab b.f6.length nb]] w fun r w' => ∃ A n, r = .returned (.tuple #[.agg #[.int .i64 (centerV F c z b).1, .int .i64 (centerV F c z b).2.1, .int .i64 (centerV F c z b).2.2.1, .int .i64 (centerV F c z b).2.2.2.1, .int .i64 (centerV F c z b).2.2.2.2.1, .int .i64 (centerV F c z b).2.2.2.2.2.1, .slice A (centerV F c z b).2.2.2.2.2.2.1.length n], .int .i64 (centerV F c z b).2.2.2.2.2.2.2]) ∧ (centerV F c z b).2.2.2.2.2.2.1.length ≤ n ∧ Kd.C k49 w' A (centerV F c z b).2.2.2.2.2.2.1.length (centerV F c z b).2.2.2.2.2.2.1 ∧ Below w.heap.size w w' := by
  have hu39 := Try.underlying39
  have hu49 := Try.underlying49
  have hu36 := Try.underlying36
  have hu66 := Try.underlying66
  obtain ⟨R, hR⟩ : ∃ R, R = centerV F c z b := ⟨_, rfl⟩
  rw [← hR]
  have HR := Aside0.mk hR
  clear hR
  obtain ⟨A6, c6, A7, c7, A8, c8, A9, c9, A10, c10, A11, c11, A12, c12, A13, c13, A15, c15, A16, c16, hcs, hcr⟩ := id hF
  subst hcs
  clear hcr
  have HKb := Aside0.mk (k39_mk w b lb hb)
  have HCb := Aside0.mk hb
  have HLb := Aside0.mk lb
  clear hb lb
  have HF := Aside0.mk hF
  clear hF
  go_enter Try.func18, Try.ntmps18
  have HP := Aside0.mk (Pre.start w)
  go_wp2_with (first | ((with_reducible refine gate_dst (N := 4) rfl ?_); refine box_event ?hg (N := 4) ?hd (cs := #[.int .i64 F.f0.f0, .int .i64 F.f0.f1, .int .i64 F.f0.f2, .int .i64 F.f0.f3, .int .i64 F.f0.f4, .bool F.f0.f5, .slice A6 F.f1.length c6, .slice A7 F.f2.length c7, .slice A8 F.f3.length c8, .slice A9 F.f4.f0.length c9, .slice A10 F.f4.f1.length c10, .slice A11 F.f4.f2.length c11, .slice A12 F.f4.f3.length c12, .slice A13 F.f4.f4.length c13, .int .i64 F.f4.f5.f0, .slice A15 F.f4.f5.f1.length c15, .slice A16 F.f4.f5.f2.length c16]) (t := 36) ?hr ?_; (case hd => rfl); (case hg => rfl); (case hr => first | (go_simp; done) | (go_simp; rfl)); intro gf hg wk hbox hb; replace HP := Aside0.mk (Pre.box (by with_reducible repeat (first | exact HP.out | apply Pre.drew)) hg hbox hb); clear hg hbox hb) | ((with_reducible refine gate_dst (N := 7) rfl ?_); refine box_event ?hg (N := 7) ?hd (cs := #[.int .i64 b.f0, .int .i64 b.f1, .int .i64 b.f2, .int .i64 b.f3, .int .i64 b.f4, .int .i64 b.f5, .slice Ab b.f6.length nb]) (t := 39) ?hr ?_; (case hd => rfl); (case hg => rfl); (case hr => first | (go_simp; done) | (go_simp; rfl)); intro gb hg wk hbox hb; have hn_gf_gb := Pre.ne (by with_reducible repeat (first | exact HP.out | apply Pre.drew)) hg; replace HP := Aside0.mk (Pre.box (by with_reducible repeat (first | exact HP.out | apply Pre.drew)) hg hbox hb); clear hg hbox hb) | ((with_reducible refine gate_dst (N := 8) rfl ?_); refine box_event ?hg (N := 8) ?hd (cs := #[.int .i64 0, .int .i64 0, .int .i64 0, .int .i64 0, .int .i64 0, .int .i64 0, .slice none 0 0]) (t := 39) ?hr ?_; (case hd => rfl); (case hg => rfl); (case hr => first | (go_simp; done) | (go_simp; rfl)); intro gr hg wk hbox hb; have hn_gf_gr := Pre.ne (Pre.tl (by with_reducible repeat (first | exact HP.out | apply Pre.drew))) hg; have hn_gb_gr := Pre.ne (by with_reducible repeat (first | exact HP.out | apply Pre.drew)) hg; replace HP := Aside0.mk (Pre.box (by with_reducible repeat (first | exact HP.out | apply Pre.drew)) hg hbox hb); clear hg hbox hb) | ((with_reducible refine gate_dst (N := 13) rfl ?_); refine wpList_load_row rfl 36 (.tmp 4) rfl gf (by rfl) 36 #[.int .i64 F.f0.f0, .int .i64 F.f0.f1, .int .i64 F.f0.f2, .int .i64 F.f0.f3, .int .i64 F.f0.f4, .bool F.f0.f5, .slice A6 F.f1.length c6, .slice A7 F.f2.length c7, .slice A8 F.f3.length c8, .slice A9 F.f4.f0.length c9, .slice A10 F.f4.f1.length c10, .slice A11 F.f4.f2.length c11, .slice A12 F.f4.f3.length c12, .slice A13 F.f4.f4.length c13, .int .i64 F.f4.f5.f0, .slice A15 F.f4.f5.f1.length c15, .slice A16 F.f4.f5.f2.length c16] (0, 0) _ (Pre.hd (Pre.tl (Pre.tl HP.out))) hu36 rfl info_font ?_) | ((with_reducible refine gate_dst (N := 17) rfl ?_); refine box_event ?hg (N := 17) ?hd (cs := #[.int .i64 F.f0.f0, .int .i64 F.f0.f1, .int .i64 F.f0.f2, .int .i64 F.f0.f3, .int .i64 F.f0.f4, .bool F.f0.f5, .slice A6 F.f1.length c6, .slice A7 F.f2.length c7, .slice A8 F.f3.length c8, .slice A9 F.f4.f0.length c9, .slice A10 F.f4.f1.length c10, .slice A11 F.f4.f2.length c11, .slice A12 F.f4.f3.length c12, .slice A13 F.f4.f4.length c13, .int .i64 F.f4.f5.f0, .slice A15 F.f4.f5.f1.length c15, .slice A16 F.f4.f5.f2.length c16, .int .i64 c, .int .i64 z, .int .i64 0]) (t := 66) ?hr ?_; (case hd => rfl); (case hg => rfl); (case hr => first | (go_simp; done) | (go_simp; rfl)); intro g hg wk hbox hb; have HI := Aside0.mk (Pre.toIn (by with_reducible repeat (first | exact HP.out | apply Pre.drew)) HF.out hg hbox hb); clear hg hbox hb HP))
  refine (konst_in (by with_reducible repeat (first | exact HI.out | apply In.alloc | apply In.drew)) 5).mono ?_
  rintro _ w1 ⟨rfl, hi⟩
  replace HI := Aside0.mk hi
  clear hi
  obtain ⟨p1, h_p1⟩ : ∃ p1, p1 = keepV 0 (konstV F 5 c z) := ⟨_, rfl⟩
  rw [← h_p1] at HI ⊢
  have H_p1 := Aside0.mk h_p1
  clear h_p1
  have hS := box_cells (In.hd (In.tl HI.out))
  go_wp2_with fail
  clear hS
  refine (need_in [b] [[.int .i64 b.f0, .int .i64 b.f1, .int .i64 b.f2, .int .i64 b.f3, .int .i64 b.f4, .int .i64 b.f5, .slice Ab b.f6.length nb]] (by simp) (by first | exact Lit.refl _ _ | exact Lit.drew _ _) (by with_reducible repeat (first | exact HI.out | apply In.alloc | apply In.drew)) (by simp) ⟨HKb.out, trivial⟩).mono ?_
  rintro _ w1 ⟨rfl, hi⟩
  replace HI := Aside0.mk hi
  clear hi
  obtain ⟨e2, h_e2⟩ : ∃ e2, e2 = needE [b] p1.2 := ⟨_, rfl⟩
  rw [← h_e2] at HI
  have H_e2 := Aside0.mk h_e2
  clear h_e2
  have hS := box_cells (In.hd (In.tl HI.out))
  go_wp2_with fail
  clear hS
  refine (sum_in [b.f2, wrap64 (-b.f3)] (by simp) (by first | exact Lit.refl _ _ | exact Lit.drew _ _) (by with_reducible repeat (first | exact HI.out | apply In.alloc | apply In.drew)) (by simp)).mono ?_
  rintro _ w1 ⟨rfl, hi⟩
  replace HI := Aside0.mk hi
  clear hi
  obtain ⟨p3, h_p3⟩ : ∃ p3, p3 = keepV e2 (toldOf (sumR [b.f2, wrap64 (-b.f3)])) := ⟨_, rfl⟩
  rw [← h_p3] at HI ⊢
  have H_p3 := Aside0.mk h_p3
  clear h_p3
  go_wp2_with fail
  refine (half_in (by with_reducible repeat (first | exact HI.out | apply In.alloc | apply In.drew)) p3.1).mono ?_
  rintro _ w1 ⟨rfl, hi⟩
  replace HI := Aside0.mk hi
  clear hi
  obtain ⟨p4, h_p4⟩ : ∃ p4, p4 = keepV p3.2 (toldOf (halfR p3.1)) := ⟨_, rfl⟩
  rw [← h_p4] at HI ⊢
  have H_p4 := Aside0.mk h_p4
  clear h_p4
  go_wp2_with fail
  refine (sum_in [p1.1, wrap64 (-p4.1)] (by simp) (by first | exact Lit.refl _ _ | exact Lit.drew _ _) (by with_reducible repeat (first | exact HI.out | apply In.alloc | apply In.drew)) (by simp)).mono ?_
  rintro _ w1 ⟨rfl, hi⟩
  replace HI := Aside0.mk hi
  clear hi
  obtain ⟨p5, h_p5⟩ : ∃ p5, p5 = keepV p4.2 (toldOf (sumR [p1.1, wrap64 (-p4.1)])) := ⟨_, rfl⟩
  rw [← h_p5] at HI ⊢
  have H_p5 := Aside0.mk h_p5
  clear h_p5
  have hS := box_cells (In.hd (In.tl HI.out))
  go_wp2_with fail
  clear hS
  refine (set_in b.f1 [⟨0, p5.1, b⟩] [[.int .i64 0, .int .i64 p5.1, .int .i64 b.f0, .int .i64 b.f1, .int .i64 b.f2, .int .i64 b.f3, .int .i64 b.f4, .int .i64 b.f5, .slice Ab b.f6.length nb]] (by simp) (by first | exact Lit.refl _ _ | exact Lit.drew _ _) (by with_reducible repeat (first | exact HI.out | apply In.alloc | apply In.drew)) (by simp) ⟨k49_mk w ⟨0, p5.1, b⟩ HLb.out HCb.out, trivial⟩).mono ?_
  rintro _ w1 ⟨A, n, rfl, hl, hf, hi⟩
  replace HI := Aside0.mk hi
  have HLL := Aside0.mk hl
  have HFF := Aside0.mk hf
  clear hi hl hf
  obtain ⟨V, h_V⟩ : ∃ V, V = setV p5.2 b.f1 [⟨0, p5.1, b⟩] := ⟨_, rfl⟩
  rw [← h_V] at HLL HFF ⊢
  have H_V := Aside0.mk h_V
  clear h_V
  have hS := cells7 (In.hd HI.out)
  have hT := froz7 (In.hd HI.out)
  go_wp2
  refine bodyPost_ret (results_ct rfl _ _ (gr) 39 #[.int .i64 V.1, .int .i64 V.2.1, .int .i64 V.2.2.1, .int .i64 V.2.2.2.1, .int .i64 V.2.2.2.2.1, .int .i64 V.2.2.2.2.2.1, .slice A V.2.2.2.2.2.2.1.length n] (0, 0) _ rfl (put7 (In.hd HI.out)) hu39 rfl (by kernel_rfl)) rfl ?_
  obtain rfl : V = R := by
    rw [HR.out]
    have h_p1 := H_p1.out
    have h_e2 := H_e2.out
    have h_p3 := H_p3.out
    have h_p4 := H_p4.out
    have h_p5 := H_p5.out
    have h_V := H_V.out
    subst h_p1 h_e2 h_p3 h_p4 h_p5 h_V
    unfold centerV
    exact rfl
  exact ⟨A, n, rfl, HLL.out, HFF.out _ (fun k hk _ => far7 _ (hk (gr, _) List.mem_cons_self)), bel7 HI.out.bel (HI.out.loc (gr, _) List.mem_cons_self).2.2⟩
end Go.Proofs.Ytjkbblnebpgpfaa.P
