import Derived.Test.YtjkbblnebpgpfaaSetIn
import Derived.Test.YtjkbblnebpgpfaaE8
/- Part 15 of the proof of stackCenter_holds: what it needs of this work's texts, joined. -/
set_option linter.unusedVariables false
set_option linter.unusedSimpArgs false
namespace Go.Proofs.Ytjkbblnebpgpfaa.P
open Go.RowKit Go.Proofs.YtjkbblnebpgpfaaW.PrintWords Go.Proofs.YtjkbblnebpgpfaaW.PrintLast Go.Proofs.YtjkbblnebpgpfaaW.PrintMore
attribute [local go_sem] max2_int min2_int max_two min_two
set_option linter.unusedVariables false
set_option linter.unusedSimpArgs false
set_option maxRecDepth 100000 in
set_option maxHeartbeats 3000000 in
theorem frac_calls (F : S36) (c z : Int) (num : S39) (Anum : Option Addr) (nnum : Nat) (den : S39) (Aden : Option Addr) (nden : Nat) (cs : List Value) (w : World) (hF : FontIn w F cs) (lnum : num.f6.length ≤ nnum) (hnum : Kd.C k49 w Anum num.f6.length num.f6)  (lden : den.f6.length ≤ nden) (hden : Kd.C k49 w Aden den.f6.length den.f6) :
    Calls Try.prog 14 #[.agg cs.toArray, .int .i64 c, .int .i64 z, .agg #[.int .i64 num.f0, .int .i64 num.f1, .int .i64 num.f2, .int .i64 num.f3, .int .i64 num.f4, .int .i64 num.f5, .slice Anum num.f6.length nnum], .agg #[.int .i64 den.f0, .int .i64 den.f1, .int .i64 den.f2, .int .i64 den.f3, .int .i64 den.f4, .int .i64 den.f5, .slice Aden den.f6.length nden]] w fun r w' => ∃ A n, r = .returned (.tuple #[.agg #[.int .i64 (fracV F c z num den).1, .int .i64 (fracV F c z num den).2.1, .int .i64 (fracV F c z num den).2.2.1, .int .i64 (fracV F c z num den).2.2.2.1, .int .i64 (fracV F c z num den).2.2.2.2.1, .int .i64 (fracV F c z num den).2.2.2.2.2.1, .slice A (fracV F c z num den).2.2.2.2.2.2.1.length n], .int .i64 (fracV F c z num den).2.2.2.2.2.2.2]) ∧ (fracV F c z num den).2.2.2.2.2.2.1.length ≤ n ∧ Kd.C k49 w' A (fracV F c z num den).2.2.2.2.2.2.1.length (fracV F c z num den).2.2.2.2.2.2.1 ∧ Below w.heap.size w w' := by
  have hu39 := Try.underlying39
  have hu49 := Try.underlying49
  have hu36 := Try.underlying36
  have hu66 := Try.underlying66
  obtain ⟨R, hR⟩ : ∃ R, R = fracV F c z num den := ⟨_, rfl⟩
  rw [← hR]
  have HR := Aside0.mk hR
  clear hR
  obtain ⟨A6, c6, A7, c7, A8, c8, A9, c9, A10, c10, A11, c11, A12, c12, A13, c13, A15, c15, A16, c16, hcs, hcr⟩ := id hF
  subst hcs
  clear hcr
  have HKnum := Aside0.mk (k39_mk w num lnum hnum)
  have HCnum := Aside0.mk hnum
  have HLnum := Aside0.mk lnum
  clear hnum lnum
  have HKden := Aside0.mk (k39_mk w den lden hden)
  have HCden := Aside0.mk hden
  have HLden := Aside0.mk lden
  clear hden lden
  have HF := Aside0.mk hF
  clear hF
  go_enter Try.func14, Try.ntmps14
  have HP := Aside0.mk (Pre.start w)
  go_wp2_with (first | ((with_reducible refine gate_dst (N := 5) rfl ?_); refine box_event ?hg (N := 5) ?hd (cs := #[.int .i64 F.f0.f0, .int .i64 F.f0.f1, .int .i64 F.f0.f2, .int .i64 F.f0.f3, .int .i64 F.f0.f4, .bool F.f0.f5, .slice A6 F.f1.length c6, .slice A7 F.f2.length c7, .slice A8 F.f3.length c8, .slice A9 F.f4.f0.length c9, .slice A10 F.f4.f1.length c10, .slice A11 F.f4.f2.length c11, .slice A12 F.f4.f3.length c12, .slice A13 F.f4.f4.length c13, .int .i64 F.f4.f5.f0, .slice A15 F.f4.f5.f1.length c15, .slice A16 F.f4.f5.f2.length c16]) (t := 36) ?hr ?_; (case hd => rfl); (case hg => rfl); (case hr => first | (go_simp; done) | (go_simp; rfl)); intro gf hg wk hbox hb; replace HP := Aside0.mk (Pre.box (by with_reducible repeat (first | exact HP.out | apply Pre.drew)) hg hbox hb); clear hg hbox hb) | ((with_reducible refine gate_dst (N := 8) rfl ?_); refine box_event ?hg (N := 8) ?hd (cs := #[.int .i64 num.f0, .int .i64 num.f1, .int .i64 num.f2, .int .i64 num.f3, .int .i64 num.f4, .int .i64 num.f5, .slice Anum num.f6.length nnum]) (t := 39) ?hr ?_; (case hd => rfl); (case hg => rfl); (case hr => first | (go_simp; done) | (go_simp; rfl)); intro gnum hg wk hbox hb; have hn_gf_gnum := Pre.ne (by with_reducible repeat (first | exact HP.out | apply Pre.drew)) hg; replace HP := Aside0.mk (Pre.box (by with_reducible repeat (first | exact HP.out | apply Pre.drew)) hg hbox hb); clear hg hbox hb) | ((with_reducible refine gate_dst (N := 9) rfl ?_); refine box_event ?hg (N := 9) ?hd (cs := #[.int .i64 den.f0, .int .i64 den.f1, .int .i64 den.f2, .int .i64 den.f3, .int .i64 den.f4, .int .i64 den.f5, .slice Aden den.f6.length nden]) (t := 39) ?hr ?_; (case hd => rfl); (case hg => rfl); (case hr => first | (go_simp; done) | (go_simp; rfl)); intro gden hg wk hbox hb; have hn_gf_gden := Pre.ne (Pre.tl (by with_reducible repeat (first | exact HP.out | apply Pre.drew))) hg; have hn_gnum_gden := Pre.ne (by with_reducible repeat (first | exact HP.out | apply Pre.drew)) hg; replace HP := Aside0.mk (Pre.box (by with_reducible repeat (first | exact HP.out | apply Pre.drew)) hg hbox hb); clear hg hbox hb) | ((with_reducible refine gate_dst (N := 10) rfl ?_); refine box_event ?hg (N := 10) ?hd (cs := #[.int .i64 0, .int .i64 0, .int .i64 0, .int .i64 0, .int .i64 0, .int .i64 0, .slice none 0 0]) (t := 39) ?hr ?_; (case hd => rfl); (case hg => rfl); (case hr => first | (go_simp; done) | (go_simp; rfl)); intro gr hg wk hbox hb; have hn_gf_gr := Pre.ne (Pre.tl (Pre.tl (by with_reducible repeat (first | exact HP.out | apply Pre.drew)))) hg; have hn_gnum_gr := Pre.ne (Pre.tl (by with_reducible repeat (first | exact HP.out | apply Pre.drew))) hg; have hn_gden_gr := Pre.ne (by with_reducible repeat (first | exact HP.out | apply Pre.drew)) hg; replace HP := Aside0.mk (Pre.box (by with_reducible repeat (first | exact HP.out | apply Pre.drew)) hg hbox hb); clear hg hbox hb) | ((with_reducible refine gate_dst (N := 23) rfl ?_); refine wpList_load_row rfl 36 (.tmp 5) rfl gf (by rfl) 36 #[.int .i64 F.f0.f0, .int .i64 F.f0.f1, .int .i64 F.f0.f2, .int .i64 F.f0.f3, .int .i64 F.f0.f4, .bool F.f0.f5, .slice A6 F.f1.length c6, .slice A7 F.f2.length c7, .slice A8 F.f3.length c8, .slice A9 F.f4.f0.length c9, .slice A10 F.f4.f1.length c10, .slice A11 F.f4.f2.length c11, .slice A12 F.f4.f3.length c12, .slice A13 F.f4.f4.length c13, .int .i64 F.f4.f5.f0, .slice A15 F.f4.f5.f1.length c15, .slice A16 F.f4.f5.f2.length c16] (0, 0) _ (Pre.hd (Pre.tl (Pre.tl (Pre.tl HP.out)))) hu36 rfl info_font ?_) | ((with_reducible refine gate_dst (N := 27) rfl ?_); refine box_event ?hg (N := 27) ?hd (cs := #[.int .i64 F.f0.f0, .int .i64 F.f0.f1, .int .i64 F.f0.f2, .int .i64 F.f0.f3, .int .i64 F.f0.f4, .bool F.f0.f5, .slice A6 F.f1.length c6, .slice A7 F.f2.length c7, .slice A8 F.f3.length c8, .slice A9 F.f4.f0.length c9, .slice A10 F.f4.f1.length c10, .slice A11 F.f4.f2.length c11, .slice A12 F.f4.f3.length c12, .slice A13 F.f4.f4.length c13, .int .i64 F.f4.f5.f0, .slice A15 F.f4.f5.f1.length c15, .slice A16 F.f4.f5.f2.length c16, .int .i64 c, .int .i64 z, .int .i64 0]) (t := 66) ?hr ?_; (case hd => rfl); (case hg => rfl); (case hr => first | (go_simp; done) | (go_simp; rfl)); intro g hg wk hbox hb; have HI := Aside0.mk (Pre.toIn (by with_reducible repeat (first | exact HP.out | apply Pre.drew)) HF.out hg hbox hb); clear hg hbox hb HP))
  refine (konst_in (by with_reducible repeat (first | exact HI.out | apply In.alloc | apply In.drew)) 5).mono ?_
  rintro _ w1 ⟨rfl, hi⟩
  replace HI := Aside0.mk hi
  clear hi
  obtain ⟨a, h_a⟩ : ∃ a, a = keepV 0 (konstV F 5 c z) := ⟨_, rfl⟩
  rw [← h_a] at HI ⊢
  have H_a := Aside0.mk h_a
  clear h_a
  go_wp2_with fail
  refine (konst_in (by with_reducible repeat (first | exact HI.out | apply In.alloc | apply In.drew)) 38).mono ?_
  rintro _ w1 ⟨rfl, hi⟩
  replace HI := Aside0.mk hi
  clear hi
  obtain ⟨t, h_t⟩ : ∃ t, t = keepV a.2 (konstV F 38 c z) := ⟨_, rfl⟩
  rw [← h_t] at HI ⊢
  have H_t := Aside0.mk h_t
  clear h_t
  go_wp2_with fail
  refine (either_in (by with_reducible repeat (first | exact HI.out | apply In.alloc | apply In.drew)) 32).mono ?_
  rintro _ w1 ⟨rfl, hi⟩
  replace HI := Aside0.mk hi
  clear hi
  obtain ⟨u, h_u⟩ : ∃ u, u = keepV t.2 (eitherV F 32 c z) := ⟨_, rfl⟩
  rw [← h_u] at HI ⊢
  have H_u := Aside0.mk h_u
  clear h_u
  go_wp2_with fail
  refine (either_in (by with_reducible repeat (first | exact HI.out | apply In.alloc | apply In.drew)) 34).mono ?_
  rintro _ w1 ⟨rfl, hi⟩
  replace HI := Aside0.mk hi
  clear hi
  obtain ⟨d, h_d⟩ : ∃ d, d = keepV u.2 (eitherV F 34 c z) := ⟨_, rfl⟩
  rw [← h_d] at HI ⊢
  have H_d := Aside0.mk h_d
  clear h_d
  go_wp2_with fail
  refine (either_in (by with_reducible repeat (first | exact HI.out | apply In.alloc | apply In.drew)) 36).mono ?_
  rintro _ w1 ⟨rfl, hi⟩
  replace HI := Aside0.mk hi
  clear hi
  obtain ⟨ab, h_ab⟩ : ∃ ab, ab = keepV d.2 (eitherV F 36 c z) := ⟨_, rfl⟩
  rw [← h_ab] at HI ⊢
  have H_ab := Aside0.mk h_ab
  clear h_ab
  go_wp2_with fail
  refine (either_in (by with_reducible repeat (first | exact HI.out | apply In.alloc | apply In.drew)) 39).mono ?_
  rintro _ w1 ⟨rfl, hi⟩
  replace HI := Aside0.mk hi
  clear hi
  obtain ⟨be, h_be⟩ : ∃ be, be = keepV ab.2 (eitherV F 39 c z) := ⟨_, rfl⟩
  rw [← h_be] at HI ⊢
  have H_be := Aside0.mk h_be
  clear h_be
  have hS := And.intro (box_cells (In.hd (In.tl (In.tl HI.out)))) (box_cells (In.hd (In.tl HI.out)))
  go_wp2_with fail
  clear hS
  refine (need_in [num, den] [[.int .i64 num.f0, .int .i64 num.f1, .int .i64 num.f2, .int .i64 num.f3, .int .i64 num.f4, .int .i64 num.f5, .slice Anum num.f6.length nnum], [.int .i64 den.f0, .int .i64 den.f1, .int .i64 den.f2, .int .i64 den.f3, .int .i64 den.f4, .int .i64 den.f5, .slice Aden den.f6.length nden]] (by simp) (by first | exact Lit.refl _ _ | exact Lit.drew _ _) (by with_reducible repeat (first | exact HI.out | apply In.alloc | apply In.drew)) (by simp) ⟨HKnum.out, HKden.out, trivial⟩).mono ?_
  rintro _ w1 ⟨rfl, hi⟩
  replace HI := Aside0.mk hi
  clear hi
  obtain ⟨e2, h_e2⟩ : ∃ e2, e2 = needE [num, den] be.2 := ⟨_, rfl⟩
  rw [← h_e2] at HI
  have H_e2 := Aside0.mk h_e2
  clear h_e2
  go_wp2_with fail
  refine (half_in (by with_reducible repeat (first | exact HI.out | apply In.alloc | apply In.drew)) t.1).mono ?_
  rintro _ w1 ⟨rfl, hi⟩
  replace HI := Aside0.mk hi
  clear hi
  obtain ⟨hf, h_hf⟩ : ∃ hf, hf = keepV e2 (toldOf (halfR t.1)) := ⟨_, rfl⟩
  rw [← h_hf] at HI ⊢
  have H_hf := Aside0.mk h_hf
  clear h_hf
  go_wp2_with fail
  refine (sum_in [a.1, wrap64 (-hf.1)] (by simp) (by first | exact Lit.refl _ _ | exact Lit.drew _ _) (by with_reducible repeat (first | exact HI.out | apply In.alloc | apply In.drew)) (by simp)).mono ?_
  rintro _ w1 ⟨rfl, hi⟩
  replace HI := Aside0.mk hi
  clear hi
  obtain ⟨bo, h_bo⟩ : ∃ bo, bo = keepV hf.2 (toldOf (sumR [a.1, wrap64 (-hf.1)])) := ⟨_, rfl⟩
  rw [← h_bo] at HI ⊢
  have H_bo := Aside0.mk h_bo
  clear h_bo
  go_wp2_with fail
  refine (sum_in [bo.1, t.1] (by simp) (by first | exact Lit.refl _ _ | exact Lit.drew _ _) (by with_reducible repeat (first | exact HI.out | apply In.alloc | apply In.drew)) (by simp)).mono ?_
  rintro _ w1 ⟨rfl, hi⟩
  replace HI := Aside0.mk hi
  clear hi
  obtain ⟨tp, h_tp⟩ : ∃ tp, tp = keepV bo.2 (toldOf (sumR [bo.1, t.1])) := ⟨_, rfl⟩
  rw [← h_tp] at HI ⊢
  have H_tp := Aside0.mk h_tp
  clear h_tp
  have hS := And.intro (box_cells (In.hd (In.tl (In.tl HI.out)))) (box_cells (In.hd (In.tl HI.out)))
  go_wp2_with fail
  clear hS
  refine (sum_in [tp.1, ab.1, num.f3] (by simp) (by first | exact Lit.refl _ _ | exact Lit.drew _ _) (by with_reducible repeat (first | exact HI.out | apply In.alloc | apply In.drew)) (by simp)).mono ?_
  rintro _ w1 ⟨rfl, hi⟩
  replace HI := Aside0.mk hi
  clear hi
  obtain ⟨s1, h_s1⟩ : ∃ s1, s1 = keepV tp.2 (toldOf (sumR [tp.1, ab.1, num.f3])) := ⟨_, rfl⟩
  rw [← h_s1] at HI ⊢
  have H_s1 := Aside0.mk h_s1
  clear h_s1
  have hS := And.intro (box_cells (In.hd (In.tl (In.tl HI.out)))) (box_cells (In.hd (In.tl HI.out)))
  obtain ⟨m1, hj_m1⟩ : ∃ m, (if u.1 < s1.1 then s1.1 else u.1) = m := ⟨_, rfl⟩
  have H_m1 := Aside0.mk (show m1 = mx u.1 s1.1 from hj_m1.symm)
  go_wp2_with fail
  clear hS hj_m1
  refine (sum_in [den.f2, be.1, wrap64 (-bo.1)] (by simp) (by first | exact Lit.refl _ _ | exact Lit.drew _ _) (by with_reducible repeat (first | exact HI.out | apply In.alloc | apply In.drew)) (by simp)).mono ?_
  rintro _ w1 ⟨rfl, hi⟩
  replace HI := Aside0.mk hi
  clear hi
  obtain ⟨s2, h_s2⟩ : ∃ s2, s2 = keepV s1.2 (toldOf (sumR [den.f2, be.1, wrap64 (-bo.1)])) := ⟨_, rfl⟩
  rw [← h_s2] at HI ⊢
  have H_s2 := Aside0.mk h_s2
  clear h_s2
  have hS := And.intro (box_cells (In.hd (In.tl (In.tl HI.out)))) (box_cells (In.hd (In.tl HI.out)))
  obtain ⟨m2, hj_m2⟩ : ∃ m, (if d.1 < s2.1 then s2.1 else d.1) = m := ⟨_, rfl⟩
  have H_m2 := Aside0.mk (show m2 = mx d.1 s2.1 from hj_m2.symm)
  obtain ⟨wd, hj_wd⟩ : ∃ m, (if num.f1 < den.f1 then den.f1 else num.f1) = m := ⟨_, rfl⟩
  have H_wd := Aside0.mk (show wd = mx num.f1 den.f1 from hj_wd.symm)
  go_wp2_with (first | ((with_reducible refine gate_dst (N := 22) rfl ?_); refine box_event ?hg (N := 22) ?hd (cs := #[.int .i64 0, .int .i64 0, .int .i64 0, .int .i64 0, .int .i64 0, .int .i64 0, .slice none 0 0]) (t := 39) ?hr ?_; (case hd => rfl); (case hg => rfl); (case hr => first | (go_simp; done) | (go_simp; rfl)); intro gk hg wk hbox hb; have hn_gr_gk : gr ≠ gk := Nat.ne_of_lt (hg ▸ blk_lt (In.hd HI.out)); have hn_g_gk : gk ≠ g := Nat.ne_of_gt (hg ▸ HI.out.lt); have hn_w_gk : w.heap.size ≤ gk := (hg ▸ HI.out.bel.size); have HG := Aside0.mk (fun p hp => (show p.1 ≠ gk from Nat.ne_of_lt (hg ▸ blk_lt ((In.tl HI.out).loc p hp).1))); have HI2 := Aside0.mk (In.more (In.below (by with_reducible repeat (first | exact HI.out | apply In.alloc | apply In.drew)) hb) hbox hn_g_gk hn_w_gk); clear hg hbox hb HI hS; have hS := cells7 (In.hd HI2.out); have hT := froz7 (In.hd HI2.out)))
  clear hS hT hj_m2 hj_wd
  have hfar : ∀ k, k ≠ gk → _ = _ := fun k hk => far7 wk (b := k) (q := gk) (v0 := .int .i64 2) (v1 := .int .i64 wd) (v2 := .int .i64 tp.1) (v3 := .int .i64 (wrap64 (-bo.1))) (v4 := .int .i64 0) (v5 := .int .i64 0) (v6 := .slice none 0 0) hk
  have HI := Aside0.mk (In.more (In.set HI2.out hfar (bel7 HI2.out.bel hn_w_gk) (by intro p hp; rcases List.mem_cons.1 hp with rfl | hp; exact hn_gr_gk; exact HG.out p hp)) (put7 (In.hd HI2.out)) hn_g_gk hn_w_gk)
  clear HI2 hfar
  go_region_held3 (fun w' => (w'.cell? ⟨gnum, 0, none⟩ = some (.int .i64 num.f0) ∧ w'.cell? ⟨gnum, 1, none⟩ = some (.int .i64 num.f1) ∧ w'.cell? ⟨gnum, 2, none⟩ = some (.int .i64 num.f2) ∧ w'.cell? ⟨gnum, 3, none⟩ = some (.int .i64 num.f3) ∧ w'.cell? ⟨gnum, 4, none⟩ = some (.int .i64 num.f4) ∧ w'.cell? ⟨gnum, 5, none⟩ = some (.int .i64 num.f5) ∧ w'.cell? ⟨gnum, 6, none⟩ = some (.slice Anum num.f6.length nnum)) ∧ (w'.cell? ⟨gden, 0, none⟩ = some (.int .i64 den.f0) ∧ w'.cell? ⟨gden, 1, none⟩ = some (.int .i64 den.f1) ∧ w'.cell? ⟨gden, 2, none⟩ = some (.int .i64 den.f2) ∧ w'.cell? ⟨gden, 3, none⟩ = some (.int .i64 den.f3) ∧ w'.cell? ⟨gden, 4, none⟩ = some (.int .i64 den.f4) ∧ w'.cell? ⟨gden, 5, none⟩ = some (.int .i64 den.f5) ∧ w'.cell? ⟨gden, 6, none⟩ = some (.slice Aden den.f6.length nden)) ∧ (w'.cell? ⟨gk, 0, none⟩ = some (.int .i64 2) ∧ w'.cell? ⟨gk, 1, none⟩ = some (.int .i64 wd) ∧ w'.cell? ⟨gk, 2, none⟩ = some (.int .i64 tp.1) ∧ w'.cell? ⟨gk, 3, none⟩ = some (.int .i64 (wrap64 (-bo.1))) ∧ w'.cell? ⟨gk, 4, none⟩ = some (.int .i64 0) ∧ w'.cell? ⟨gk, 5, none⟩ = some (.int .i64 0) ∧ w'.cell? ⟨gk, 6, none⟩ = some (.slice none 0 0))) (first | with_reducible exact ⟨box_cells (In.hd (In.tl (In.tl (In.tl (by with_reducible repeat (first | exact HI.out | apply In.alloc | apply In.drew)))))), box_cells (In.hd (In.tl (In.tl (by with_reducible repeat (first | exact HI.out | apply In.alloc | apply In.drew))))), cells7 (In.hd (by with_reducible repeat (first | exact HI.out | apply In.alloc | apply In.drew)))⟩ | exact ⟨box_cells ((far7 _ hn_gnum_gr).trans (In.hd (In.tl (In.tl (In.tl HI.out))))), box_cells ((far7 _ hn_gden_gr).trans (In.hd (In.tl (In.tl HI.out)))), cells7 ((far7 _ (Ne.symm hn_gr_gk)).trans (In.hd HI.out))⟩) (first | (go_at_call 43; (try simp only [i64_w]); refine (set_in wd [⟨(kidV s2.2 wd num).1, m1, num⟩, ⟨0, 0, ⟨2, wd, tp.1, wrap64 (-bo.1), 0, 0, []⟩⟩, ⟨(kidV (kidV s2.2 wd num).2 wd den).1, (wrap64 (-m2)), den⟩] [[.int .i64 (kidV s2.2 wd num).1, .int .i64 m1, .int .i64 num.f0, .int .i64 num.f1, .int .i64 num.f2, .int .i64 num.f3, .int .i64 num.f4, .int .i64 num.f5, .slice Anum num.f6.length nnum], [.int .i64 0, .int .i64 0, .int .i64 2, .int .i64 wd, .int .i64 tp.1, .int .i64 (wrap64 (-bo.1)), .int .i64 0, .int .i64 0, .slice none 0 0], [.int .i64 (kidV (kidV s2.2 wd num).2 wd den).1, .int .i64 (wrap64 (-m2)), .int .i64 den.f0, .int .i64 den.f1, .int .i64 den.f2, .int .i64 den.f3, .int .i64 den.f4, .int .i64 den.f5, .slice Aden den.f6.length nden]] (by simp) (by first | exact Lit.refl _ _ | exact Lit.drew _ _) (by with_reducible repeat (first | exact HI.out | apply In.alloc | apply In.drew)) (by simp) ⟨k49_mk w ⟨(kidV s2.2 wd num).1, m1, num⟩ HLnum.out HCnum.out, k49_mk w ⟨0, 0, ⟨2, wd, tp.1, wrap64 (-bo.1), 0, 0, []⟩⟩ (A8 := none) (c8 := 0) (Nat.le_refl _) ⟨rfl, Nat.zero_le _, fun h => absurd h (Nat.lt_irrefl 0)⟩, k49_mk w ⟨(kidV (kidV s2.2 wd num).2 wd den).1, (wrap64 (-m2)), den⟩ HLden.out HCden.out, trivial⟩).mono ?_; rintro _ w1 ⟨A, n, rfl, hl, hf, hi⟩; replace HI := Aside0.mk hi; have HLL := Aside0.mk hl; have HFF := Aside0.mk hf; clear hi hl hf; obtain ⟨V, h_V⟩ : ∃ V, V = setV (kidV (kidV s2.2 wd num).2 wd den).2 wd [⟨(kidV s2.2 wd num).1, m1, num⟩, ⟨0, 0, ⟨2, wd, tp.1, wrap64 (-bo.1), 0, 0, []⟩⟩, ⟨(kidV (kidV s2.2 wd num).2 wd den).1, (wrap64 (-m2)), den⟩] := ⟨_, rfl⟩; rw [← h_V] at HLL HFF ⊢; have H_V := Aside0.mk h_V; clear h_V; have hS := cells7 (In.hd (In.tl HI.out)); have hT := froz7 (In.hd (In.tl HI.out))) | (go_at_call 44; (try simp only [i64_w]); refine (kid_in (by with_reducible repeat (first | exact HI.out | apply In.alloc | apply In.drew)) _ _ _ _ _).mono ?_; rintro _ w1 ⟨rfl, hi⟩; replace HI := Aside0.mk hi; clear hi))
  go_wp2
  refine bodyPost_ret (results_ct rfl _ _ (gr) 39 #[.int .i64 V.1, .int .i64 V.2.1, .int .i64 V.2.2.1, .int .i64 V.2.2.2.1, .int .i64 V.2.2.2.2.1, .int .i64 V.2.2.2.2.2.1, .slice A V.2.2.2.2.2.2.1.length n] (0, 0) _ rfl (put7 (In.hd (In.tl HI.out))) hu39 rfl (by kernel_rfl)) rfl ?_
  obtain rfl : V = R := by
    rw [HR.out]
    have h_a := H_a.out
    have h_t := H_t.out
    have h_u := H_u.out
    have h_d := H_d.out
    have h_ab := H_ab.out
    have h_be := H_be.out
    have h_e2 := H_e2.out
    have h_hf := H_hf.out
    have h_bo := H_bo.out
    have h_tp := H_tp.out
    have h_s1 := H_s1.out
    have h_m1 := H_m1.out
    have h_s2 := H_s2.out
    have h_m2 := H_m2.out
    have h_wd := H_wd.out
    have h_V := H_V.out
    subst h_a h_t h_u h_d h_ab h_be h_e2 h_hf h_bo h_tp h_s1 h_m1 h_s2 h_m2 h_wd h_V
    unfold fracV fracEnd
    exact rfl
  exact ⟨A, n, rfl, HLL.out, HFF.out _ (fun k hk _ => far7 _ (hk (gr, _) (List.mem_cons_of_mem _ List.mem_cons_self))), bel7 HI.out.bel (HI.out.loc (gr, _) (List.mem_cons_of_mem _ List.mem_cons_self)).2.2⟩
end Go.Proofs.Ytjkbblnebpgpfaa.P
