import Derived.Test.YtjkbblnebpgpfaaSetIn
import Derived.Test.YtjkbblnebpgpfaaE8
/- Part 16 of the proof of stackCenter_holds: what it needs of this work's texts, joined. -/
set_option linter.unusedVariables false
set_option linter.unusedSimpArgs false
namespace Go.Proofs.Ytjkbblnebpgpfaa.P
open Go.RowKit Go.Proofs.YtjkbblnebpgpfaaW.PrintWords Go.Proofs.YtjkbblnebpgpfaaW.PrintLast Go.Proofs.YtjkbblnebpgpfaaW.PrintMore
attribute [local go_sem] max2_int min2_int max_two min_two
set_option linter.unusedVariables false
set_option linter.unusedSimpArgs false
theorem sum2_in {w W W1 : World} {g : Nat} {F : S36} {c z e : Int} {L : List (Nat × Obj)} {t : TypeId} {b : Nat} {x y : Int} (hB : Lit W (.cells #[.int .i64 x, .int .i64 y] t) W1) (h : In w W g F c z e L) (hb : b = W.heap.size) : Calls Try.prog 41 #[.pointer (some ⟨g, 0, none⟩), .slice (some ⟨b, 0, none⟩) 2 2] W1 fun r w' => r = .returned (.int .i64 (keepV e (toldOf (sumR [x, y]))).1) ∧ In w w' g F c z (keepV e (toldOf (sumR [x, y]))).2 L :=
  sum_in [x, y] (by simp) hB h hb
theorem sum_row {w W1 : World} {g : Nat} {F : S36} {c z e : Int} {L : List (Nat × Obj)} {t : TypeId} {b : Nat} {x y : Int} (h : In w W1 g F c z e ((b, .cells #[.int .i64 x, .int .i64 y] t) :: L)) : Calls Try.prog 41 #[.pointer (some ⟨g, 0, none⟩), .slice (some ⟨b, 0, none⟩) 2 2] W1 fun r w' => r = .returned (.int .i64 (keepV e (toldOf (sumR [x, y]))).1) ∧ In w w' g F c z (keepV e (toldOf (sumR [x, y]))).2 L :=
  sum_at h.tl [x, y] (by simp) h.hd (h.loc _ List.mem_cons_self).2.1
theorem sum_two {o : Obj} {w W W1 : World} {g : Nat} {F : S36} {c z e : Int} {L : List (Nat × Obj)} {t : TypeId} {b : Nat} {x y : Int} (hB : Lit (W.alloc (.cells #[.int .i64 x, .int .i64 y] t)) o W1) (h : In w W g F c z e L) (hb : b = W.heap.size) : Calls Try.prog 41 #[.pointer (some ⟨g, 0, none⟩), .slice (some ⟨b, 0, none⟩) 2 2] W1 fun r w' => r = .returned (.int .i64 (keepV e (toldOf (sumR [x, y]))).1) ∧ In w w' g F c z (keepV e (toldOf (sumR [x, y]))).2 ((b + 1, o) :: L) := by
  subst hb
  have h1 := (h.alloc (.cells #[.int .i64 x, .int .i64 y] t)).lit hB
  have hblk := hB.blk
  rw [alloc_size] at hblk
  have hlt := h.lt
  have hsz := h.bel.size
  exact sum_at (h1.more hblk (by omega) (by omega)) [x, y] (by simp) (blk_below (alloc_old _ _ (alloc_last _ _)) hB) (by omega)
theorem sum_two' {o : Obj} {w W W1 : World} {g : Nat} {F : S36} {c z e : Int} {L : List (Nat × Obj)} {t : TypeId} {b : Nat} {x y : Int} (hB : Lit (W.alloc o) (.cells #[.int .i64 x, .int .i64 y] t) W1) (h : In w W g F c z e L) (hb : b = W.heap.size + 1) : Calls Try.prog 41 #[.pointer (some ⟨g, 0, none⟩), .slice (some ⟨b, 0, none⟩) 2 2] W1 fun r w' => r = .returned (.int .i64 (keepV e (toldOf (sumR [x, y]))).1) ∧ In w w' g F c z (keepV e (toldOf (sumR [x, y]))).2 ((W.heap.size, o) :: L) := by
  subst hb
  have h1 := (h.alloc o).lit hB
  have hblk := hB.blk
  rw [alloc_size] at hblk
  have hlt := h.lt
  have hsz := h.bel.size
  exact sum_at (h1.more (blk_below (alloc_old _ _ (alloc_last W o)) hB) (by omega) (by omega)) [x, y] (by simp) hblk (by omega)
set_option maxRecDepth 100000 in
set_option maxHeartbeats 3000000 in
theorem atop_calls (F : S36) (c z : Int) (num : S39) (Anum : Option Addr) (nnum : Nat) (den : S39) (Aden : Option Addr) (nden : Nat) (cs : List Value) (w : World) (hF : FontIn w F cs) (lnum : num.f6.length ≤ nnum) (hnum : Kd.C k49 w Anum num.f6.length num.f6)  (lden : den.f6.length ≤ nden) (hden : Kd.C k49 w Aden den.f6.length den.f6) :
    Calls Try.prog 16 #[.agg cs.toArray, .int .i64 c, .int .i64 z, .agg #[.int .i64 num.f0, .int .i64 num.f1, .int .i64 num.f2, .int .i64 num.f3, .int .i64 num.f4, .int .i64 num.f5, .slice Anum num.f6.length nnum], .agg #[.int .i64 den.f0, .int .i64 den.f1, .int .i64 den.f2, .int .i64 den.f3, .int .i64 den.f4, .int .i64 den.f5, .slice Aden den.f6.length nden]] w fun r w' => ∃ A n, r = .returned (.tuple #[.agg #[.int .i64 (atopV F c z num den).1, .int .i64 (atopV F c z num den).2.1, .int .i64 (atopV F c z num den).2.2.1, .int .i64 (atopV F c z num den).2.2.2.1, .int .i64 (atopV F c z num den).2.2.2.2.1, .int .i64 (atopV F c z num den).2.2.2.2.2.1, .slice A (atopV F c z num den).2.2.2.2.2.2.1.length n], .int .i64 (atopV F c z num den).2.2.2.2.2.2.2]) ∧ (atopV F c z num den).2.2.2.2.2.2.1.length ≤ n ∧ Kd.C k49 w' A (atopV F c z num den).2.2.2.2.2.2.1.length (atopV F c z num den).2.2.2.2.2.2.1 ∧ Below w.heap.size w w' := by
  have hu39 := Try.underlying39
  have hu49 := Try.underlying49
  have hu36 := Try.underlying36
  have hu66 := Try.underlying66
  obtain ⟨R, hR⟩ : ∃ R, R = atopV F c z num den := ⟨_, rfl⟩
  rw [← hR]
  have HR := Aside0.mk hR
  clear hR
  obtain ⟨A6, c6, A7, c7, A8, c8, A9, c9, A10, c10, A11, c11, A12, c12, A13, c13, A15, c15, A16, c16, hcs, hcr⟩ := id hF
  subst hcs
  clear hcr
  have HKnum := Aside0.mk (k39_mk w num lnum hnum)
  have HCnum := Aside0.mk hnum
  have HLnum := Aside0.mk lnum
  clear hnum lnum
  have HKden := Aside0.mk (k39_mk w den lden hden)
  have HCden := Aside0.mk hden
  have HLden := Aside0.mk lden
  clear hden lden
  have HF := Aside0.mk hF
  clear hF
  go_enter Try.func16, Try.ntmps16
  have HP := Aside0.mk (Pre.start w)
  go_wp2_with (first | ((with_reducible refine gate_dst (N := 5) rfl ?_); refine box_event ?hg (N := 5) ?hd (cs := #[.int .i64 F.f0.f0, .int .i64 F.f0.f1, .int .i64 F.f0.f2, .int .i64 F.f0.f3, .int .i64 F.f0.f4, .bool F.f0.f5, .slice A6 F.f1.length c6, .slice A7 F.f2.length c7, .slice A8 F.f3.length c8, .slice A9 F.f4.f0.length c9, .slice A10 F.f4.f1.length c10, .slice A11 F.f4.f2.length c11, .slice A12 F.f4.f3.length c12, .slice A13 F.f4.f4.length c13, .int .i64 F.f4.f5.f0, .slice A15 F.f4.f5.f1.length c15, .slice A16 F.f4.f5.f2.length c16]) (t := 36) ?hr ?_; (case hd => rfl); (case hg => rfl); (case hr => first | (go_simp; done) | (go_simp; rfl)); intro gf hg wk hbox hb; replace HP := Aside0.mk (Pre.box (by with_reducible repeat (first | exact HP.out | apply Pre.drew)) hg hbox hb); clear hg hbox hb) | ((with_reducible refine gate_dst (N := 8) rfl ?_); refine box_event ?hg (N := 8) ?hd (cs := #[.int .i64 num.f0, .int .i64 num.f1, .int .i64 num.f2, .int .i64 num.f3, .int .i64 num.f4, .int .i64 num.f5, .slice Anum num.f6.length nnum]) (t := 39) ?hr ?_; (case hd => rfl); (case hg => rfl); (case hr => first | (go_simp; done) | (go_simp; rfl)); intro gnum hg wk hbox hb; have hn_gf_gnum := Pre.ne (by with_reducible repeat (first | exact HP.out | apply Pre.drew)) hg; replace HP := Aside0.mk (Pre.box (by with_reducible repeat (first | exact HP.out | apply Pre.drew)) hg hbox hb); clear hg hbox hb) | ((with_reducible refine gate_dst (N := 9) rfl ?_); refine box_event ?hg (N := 9) ?hd (cs := #[.int .i64 den.f0, .int .i64 den.f1, .int .i64 den.f2, .int .i64 den.f3, .int .i64 den.f4, .int .i64 den.f5, .slice Aden den.f6.length nden]) (t := 39) ?hr ?_; (case hd => rfl); (case hg => rfl); (case hr => first | (go_simp; done) | (go_simp; rfl)); intro gden hg wk hbox hb; have hn_gf_gden := Pre.ne (Pre.tl (by with_reducible repeat (first | exact HP.out | apply Pre.drew))) hg; have hn_gnum_gden := Pre.ne (by with_reducible repeat (first | exact HP.out | apply Pre.drew)) hg; replace HP := Aside0.mk (Pre.box (by with_reducible repeat (first | exact HP.out | apply Pre.drew)) hg hbox hb); clear hg hbox hb) | ((with_reducible refine gate_dst (N := 10) rfl ?_); refine box_event ?hg (N := 10) ?hd (cs := #[.int .i64 0, .int .i64 0, .int .i64 0, .int .i64 0, .int .i64 0, .int .i64 0, .slice none 0 0]) (t := 39) ?hr ?_; (case hd => rfl); (case hg => rfl); (case hr => first | (go_simp; done) | (go_simp; rfl)); intro gr hg wk hbox hb; have hn_gf_gr := Pre.ne (Pre.tl (Pre.tl (by with_reducible repeat (first | exact HP.out | apply Pre.drew)))) hg; have hn_gnum_gr := Pre.ne (Pre.tl (by with_reducible repeat (first | exact HP.out | apply Pre.drew))) hg; have hn_gden_gr := Pre.ne (by with_reducible repeat (first | exact HP.out | apply Pre.drew)) hg; replace HP := Aside0.mk (Pre.box (by with_reducible repeat (first | exact HP.out | apply Pre.drew)) hg hbox hb); clear hg hbox hb) | ((with_reducible refine gate_dst (N := 20) rfl ?_); refine wpList_load_row rfl 36 (.tmp 5) rfl gf (by rfl) 36 #[.int .i64 F.f0.f0, .int .i64 F.f0.f1, .int .i64 F.f0.f2, .int .i64 F.f0.f3, .int .i64 F.f0.f4, .bool F.f0.f5, .slice A6 F.f1.length c6, .slice A7 F.f2.length c7, .slice A8 F.f3.length c8, .slice A9 F.f4.f0.length c9, .slice A10 F.f4.f1.length c10, .slice A11 F.f4.f2.length c11, .slice A12 F.f4.f3.length c12, .slice A13 F.f4.f4.length c13, .int .i64 F.f4.f5.f0, .slice A15 F.f4.f5.f1.length c15, .slice A16 F.f4.f5.f2.length c16] (0, 0) _ (Pre.hd (Pre.tl (Pre.tl (Pre.tl HP.out)))) hu36 rfl info_font ?_) | ((with_reducible refine gate_dst (N := 24) rfl ?_); refine box_event ?hg (N := 24) ?hd (cs := #[.int .i64 F.f0.f0, .int .i64 F.f0.f1, .int .i64 F.f0.f2, .int .i64 F.f0.f3, .int .i64 F.f0.f4, .bool F.f0.f5, .slice A6 F.f1.length c6, .slice A7 F.f2.length c7, .slice A8 F.f3.length c8, .slice A9 F.f4.f0.length c9, .slice A10 F.f4.f1.length c10, .slice A11 F.f4.f2.length c11, .slice A12 F.f4.f3.length c12, .slice A13 F.f4.f4.length c13, .int .i64 F.f4.f5.f0, .slice A15 F.f4.f5.f1.length c15, .slice A16 F.f4.f5.f2.length c16, .int .i64 c, .int .i64 z, .int .i64 0]) (t := 66) ?hr ?_; (case hd => rfl); (case hg => rfl); (case hr => first | (go_simp; done) | (go_simp; rfl)); intro g hg wk hbox hb; have HI := Aside0.mk (Pre.toIn (by with_reducible repeat (first | exact HP.out | apply Pre.drew)) HF.out hg hbox hb); clear hg hbox hb HP))
  refine (either_in (by with_reducible repeat (first | exact HI.out | apply In.alloc | apply In.drew)) 22).mono ?_
  rintro _ w1 ⟨rfl, hi⟩
  replace HI := Aside0.mk hi
  clear hi
  obtain ⟨p1, h_p1⟩ : ∃ p1, p1 = keepV 0 (eitherV F 22 c z) := ⟨_, rfl⟩
  rw [← h_p1] at HI ⊢
  have H_p1 := Aside0.mk h_p1
  clear h_p1
  go_wp2_with fail
  refine (either_in (by with_reducible repeat (first | exact HI.out | apply In.alloc | apply In.drew)) 24).mono ?_
  rintro _ w1 ⟨rfl, hi⟩
  replace HI := Aside0.mk hi
  clear hi
  obtain ⟨p2, h_p2⟩ : ∃ p2, p2 = keepV p1.2 (eitherV F 24 c z) := ⟨_, rfl⟩
  rw [← h_p2] at HI ⊢
  have H_p2 := Aside0.mk h_p2
  clear h_p2
  go_wp2_with fail
  refine (either_in (by with_reducible repeat (first | exact HI.out | apply In.alloc | apply In.drew)) 26).mono ?_
  rintro _ w1 ⟨rfl, hi⟩
  replace HI := Aside0.mk hi
  clear hi
  obtain ⟨p3, h_p3⟩ : ∃ p3, p3 = keepV p2.2 (eitherV F 26 c z) := ⟨_, rfl⟩
  rw [← h_p3] at HI ⊢
  have H_p3 := Aside0.mk h_p3
  clear h_p3
  have hS := And.intro (box_cells (In.hd (In.tl (In.tl HI.out)))) (box_cells (In.hd (In.tl HI.out)))
  go_wp2_with fail
  clear hS
  refine (need_in [num, den] [[.int .i64 num.f0, .int .i64 num.f1, .int .i64 num.f2, .int .i64 num.f3, .int .i64 num.f4, .int .i64 num.f5, .slice Anum num.f6.length nnum], [.int .i64 den.f0, .int .i64 den.f1, .int .i64 den.f2, .int .i64 den.f3, .int .i64 den.f4, .int .i64 den.f5, .slice Aden den.f6.length nden]] (by simp) (by first | exact Lit.refl _ _ | exact Lit.drew _ _) (by with_reducible repeat (first | exact HI.out | apply In.alloc | apply In.drew)) (by simp) ⟨HKnum.out, HKden.out, trivial⟩).mono ?_
  rintro _ w1 ⟨rfl, hi⟩
  replace HI := Aside0.mk hi
  clear hi
  obtain ⟨e4, h_e4⟩ : ∃ e4, e4 = needE [num, den] p3.2 := ⟨_, rfl⟩
  rw [← h_e4] at HI
  have H_e4 := Aside0.mk h_e4
  clear h_e4
  go_wp2_with fail
  go_region_held3 (fun w' => (w'.cell? ⟨gnum, 0, none⟩ = some (.int .i64 num.f0) ∧ w'.cell? ⟨gnum, 1, none⟩ = some (.int .i64 num.f1) ∧ w'.cell? ⟨gnum, 2, none⟩ = some (.int .i64 num.f2) ∧ w'.cell? ⟨gnum, 3, none⟩ = some (.int .i64 num.f3) ∧ w'.cell? ⟨gnum, 4, none⟩ = some (.int .i64 num.f4) ∧ w'.cell? ⟨gnum, 5, none⟩ = some (.int .i64 num.f5) ∧ w'.cell? ⟨gnum, 6, none⟩ = some (.slice Anum num.f6.length nnum)) ∧ (w'.cell? ⟨gden, 0, none⟩ = some (.int .i64 den.f0) ∧ w'.cell? ⟨gden, 1, none⟩ = some (.int .i64 den.f1) ∧ w'.cell? ⟨gden, 2, none⟩ = some (.int .i64 den.f2) ∧ w'.cell? ⟨gden, 3, none⟩ = some (.int .i64 den.f3) ∧ w'.cell? ⟨gden, 4, none⟩ = some (.int .i64 den.f4) ∧ w'.cell? ⟨gden, 5, none⟩ = some (.int .i64 den.f5) ∧ w'.cell? ⟨gden, 6, none⟩ = some (.slice Aden den.f6.length nden))) (first | with_reducible exact ⟨box_cells (In.hd (In.tl (In.tl (by with_reducible repeat (first | exact HI.out | apply In.alloc | apply In.drew))))), box_cells (In.hd (In.tl (by with_reducible repeat (first | exact HI.out | apply In.alloc | apply In.drew))))⟩ | with_reducible exact ⟨box_cells (In.hd (In.tl (In.tl (In.tl (by with_reducible repeat (first | exact HI.out | apply In.alloc | apply In.drew)))))), box_cells (In.hd (In.tl (In.tl (by with_reducible repeat (first | exact HI.out | apply In.alloc | apply In.drew)))))⟩) (first | (go_at_call 41; (try simp only [i64_w]); (with_reducible refine (sum_row HI.out).mono ?_); rintro _ w1 ⟨rfl, hi⟩; replace HI := Aside0.mk hi; clear hi) | (go_at_call 41; (try simp only [i64_w]); refine (sum_two' (by with_reducible first | exact Lit.refl _ _ | exact Lit.drew _ _) (by with_reducible repeat (first | exact HI.out | apply In.alloc | apply In.drew)) (by omega)).mono ?_; rintro _ w1 ⟨rfl, hi⟩; replace HI := Aside0.mk hi; clear hi) | (go_at_call 41; (try simp only [i64_w]); refine (sum_two (by with_reducible first | exact Lit.refl _ _ | exact Lit.drew _ _) (by with_reducible repeat (first | exact HI.out | apply In.alloc | apply In.drew)) (by omega)).mono ?_; rintro _ w1 ⟨rfl, hi⟩; replace HI := Aside0.mk hi; clear hi) | (go_at_call 41; (try simp only [i64_w]); refine (sum2_in (by with_reducible first | exact Lit.refl _ _ | exact Lit.drew _ _) (by with_reducible repeat (first | exact HI.out | apply In.alloc | apply In.drew)) (by omega)).mono ?_; rintro _ w1 ⟨rfl, hi⟩; replace HI := Aside0.mk hi; clear hi))
  all_goals (
    go_wp2_with fail
    obtain ⟨p5, h_p5⟩ : ∃ p5, p5 = keepV e4 (toldOf (sumR [p1.1, wrap64 (-num.f3)])) := ⟨_, rfl⟩
    rw [← h_p5] at HI ⊢
    have H_p5 := Aside0.mk h_p5
    clear h_p5
    obtain ⟨p6, h_p6⟩ : ∃ p6, p6 = keepV p5.2 (toldOf (sumR [den.f2, wrap64 (-p2.1)])) := ⟨_, rfl⟩
    rw [← h_p6] at HI ⊢
    have H_p6 := Aside0.mk h_p6
    clear h_p6
    obtain ⟨p7, h_p7⟩ : ∃ p7, p7 = keepV p6.2 (toldOf (sumR [p5.1, wrap64 (-p6.1)])) := ⟨_, rfl⟩
    rw [← h_p7] at HI ⊢
    have H_p7 := Aside0.mk h_p7
    clear h_p7
    refine (sum_in [p3.1, wrap64 (-p7.1)] (by simp) (by first | exact Lit.refl _ _ | exact Lit.drew _ _) (by with_reducible repeat (first | exact HI.out | apply In.alloc | apply In.drew)) (by simp)).mono ?_
    rintro _ w1 ⟨rfl, hi⟩
    replace HI := Aside0.mk hi
    clear hi
    obtain ⟨p8, h_p8⟩ : ∃ p8, p8 = keepV p7.2 (toldOf (sumR [p3.1, wrap64 (-p7.1)])) := ⟨_, rfl⟩
    rw [← h_p8] at HI ⊢
    have H_p8 := Aside0.mk h_p8
    clear h_p8
    have hS := And.intro (box_cells (In.hd (In.tl (In.tl HI.out)))) (box_cells (In.hd (In.tl HI.out)))
    obtain ⟨wd, hj_wd⟩ : ∃ m, (if num.f1 < den.f1 then den.f1 else num.f1) = m := ⟨_, rfl⟩
    have H_wd := Aside0.mk (show wd = mx num.f1 den.f1 from hj_wd.symm)
    by_cases hm : 0 < p8.1
    · have hd1 : decide (p8.1 > 0) = true := by simpa using hm
      have HM := Aside0.mk (show (0 < p8.1) = True from eq_true hm)
      clear hm
      go_wp2_with fail
      clear hd1 hS
      refine (half_in (by with_reducible repeat (first | exact HI.out | apply In.alloc | apply In.drew)) p8.1).mono ?_
      rintro _ w1 ⟨rfl, hi⟩
      replace HI := Aside0.mk hi
      clear hi
      obtain ⟨p9, h_p9⟩ : ∃ p9, p9 = keepV p8.2 (toldOf (halfR p8.1)) := ⟨_, rfl⟩
      rw [← h_p9] at HI ⊢
      have H_p9 := Aside0.mk h_p9
      clear h_p9
      go_wp2_with fail
      refine (sum_in [p1.1, p9.1] (by simp) (by first | exact Lit.refl _ _ | exact Lit.drew _ _) (by with_reducible repeat (first | exact HI.out | apply In.alloc | apply In.drew)) (by simp)).mono ?_
      rintro _ w1 ⟨rfl, hi⟩
      replace HI := Aside0.mk hi
      clear hi
      obtain ⟨p10, h_p10⟩ : ∃ p10, p10 = keepV p9.2 (toldOf (sumR [p1.1, p9.1])) := ⟨_, rfl⟩
      rw [← h_p10] at HI ⊢
      have H_p10 := Aside0.mk h_p10
      clear h_p10
      go_wp2_with fail
      refine (sum_in [p2.1, wrap64 (p8.1 - p9.1)] (by simp) (by first | exact Lit.refl _ _ | exact Lit.drew _ _) (by with_reducible repeat (first | exact HI.out | apply In.alloc | apply In.drew)) (by simp)).mono ?_
      rintro _ w1 ⟨rfl, hi⟩
      replace HI := Aside0.mk hi
      clear hi
      obtain ⟨p11, h_p11⟩ : ∃ p11, p11 = keepV p10.2 (toldOf (sumR [p2.1, wrap64 (p8.1 - p9.1)])) := ⟨_, rfl⟩
      rw [← h_p11] at HI ⊢
      have H_p11 := Aside0.mk h_p11
      clear h_p11
      have hS := And.intro (box_cells (In.hd (In.tl (In.tl HI.out)))) (box_cells (In.hd (In.tl HI.out)))
      go_wp2_with fail
      clear hS hj_wd
      go_region_held3 (fun w' => (w'.cell? ⟨gnum, 0, none⟩ = some (.int .i64 num.f0) ∧ w'.cell? ⟨gnum, 1, none⟩ = some (.int .i64 num.f1) ∧ w'.cell? ⟨gnum, 2, none⟩ = some (.int .i64 num.f2) ∧ w'.cell? ⟨gnum, 3, none⟩ = some (.int .i64 num.f3) ∧ w'.cell? ⟨gnum, 4, none⟩ = some (.int .i64 num.f4) ∧ w'.cell? ⟨gnum, 5, none⟩ = some (.int .i64 num.f5) ∧ w'.cell? ⟨gnum, 6, none⟩ = some (.slice Anum num.f6.length nnum)) ∧ (w'.cell? ⟨gden, 0, none⟩ = some (.int .i64 den.f0) ∧ w'.cell? ⟨gden, 1, none⟩ = some (.int .i64 den.f1) ∧ w'.cell? ⟨gden, 2, none⟩ = some (.int .i64 den.f2) ∧ w'.cell? ⟨gden, 3, none⟩ = some (.int .i64 den.f3) ∧ w'.cell? ⟨gden, 4, none⟩ = some (.int .i64 den.f4) ∧ w'.cell? ⟨gden, 5, none⟩ = some (.int .i64 den.f5) ∧ w'.cell? ⟨gden, 6, none⟩ = some (.slice Aden den.f6.length nden))) (first | with_reducible exact ⟨box_cells (In.hd (In.tl (In.tl (by with_reducible repeat (first | exact HI.out | apply In.alloc | apply In.drew))))), box_cells (In.hd (In.tl (by with_reducible repeat (first | exact HI.out | apply In.alloc | apply In.drew))))⟩ | exact ⟨box_cells ((far7 _ hn_gnum_gr).trans (In.hd (In.tl (In.tl HI.out)))), box_cells ((far7 _ hn_gden_gr).trans (In.hd (In.tl HI.out)))⟩) (first | (go_at_call 43; (try simp only [i64_w]); refine (set_in wd [⟨(kidV p11.2 wd num).1, p10.1, num⟩, ⟨(kidV (kidV p11.2 wd num).2 wd den).1, wrap64 (-p11.1), den⟩] [[.int .i64 (kidV p11.2 wd num).1, .int .i64 p10.1, .int .i64 num.f0, .int .i64 num.f1, .int .i64 num.f2, .int .i64 num.f3, .int .i64 num.f4, .int .i64 num.f5, .slice Anum num.f6.length nnum], [.int .i64 (kidV (kidV p11.2 wd num).2 wd den).1, .int .i64 (wrap64 (-p11.1)), .int .i64 den.f0, .int .i64 den.f1, .int .i64 den.f2, .int .i64 den.f3, .int .i64 den.f4, .int .i64 den.f5, .slice Aden den.f6.length nden]] (by simp) (by first | exact Lit.refl _ _ | exact Lit.drew _ _) (by with_reducible repeat (first | exact HI.out | apply In.alloc | apply In.drew)) (by simp) ⟨k49_mk w ⟨(kidV p11.2 wd num).1, p10.1, num⟩ HLnum.out HCnum.out, k49_mk w ⟨(kidV (kidV p11.2 wd num).2 wd den).1, wrap64 (-p11.1), den⟩ HLden.out HCden.out, trivial⟩).mono ?_; rintro _ w1 ⟨A, n, rfl, hl, hf, hi⟩; replace HI := Aside0.mk hi; have HLL := Aside0.mk hl; have HFF := Aside0.mk hf; clear hi hl hf; obtain ⟨V, h_V⟩ : ∃ V, V = setV (kidV (kidV p11.2 wd num).2 wd den).2 wd [⟨(kidV p11.2 wd num).1, p10.1, num⟩, ⟨(kidV (kidV p11.2 wd num).2 wd den).1, wrap64 (-p11.1), den⟩] := ⟨_, rfl⟩; rw [← h_V] at HLL HFF ⊢; have H_V := Aside0.mk h_V; clear h_V; have hS := cells7 (In.hd HI.out); have hT := froz7 (In.hd HI.out)) | (go_at_call 44; (try simp only [i64_w]); refine (kid_in (by with_reducible repeat (first | exact HI.out | apply In.alloc | apply In.drew)) _ _ _ _ _).mono ?_; rintro _ w1 ⟨rfl, hi⟩; replace HI := Aside0.mk hi; clear hi))
      go_wp2
      refine bodyPost_ret (results_ct rfl _ _ (gr) 39 #[.int .i64 V.1, .int .i64 V.2.1, .int .i64 V.2.2.1, .int .i64 V.2.2.2.1, .int .i64 V.2.2.2.2.1, .int .i64 V.2.2.2.2.2.1, .slice A V.2.2.2.2.2.2.1.length n] (0, 0) _ rfl (put7 (In.hd HI.out)) hu39 rfl (by kernel_rfl)) rfl ?_
      obtain rfl : V = R := by
        rw [HR.out]
        have h_p1 := H_p1.out
        have h_p2 := H_p2.out
        have h_p3 := H_p3.out
        have h_e4 := H_e4.out
        have h_p5 := H_p5.out
        have h_p6 := H_p6.out
        have h_p7 := H_p7.out
        have h_p8 := H_p8.out
        have h_wd := H_wd.out
        have h_p9 := H_p9.out
        have h_p10 := H_p10.out
        have h_p11 := H_p11.out
        have h_V := H_V.out
        subst h_p1 h_p2 h_p3 h_e4 h_p5 h_p6 h_p7 h_p8 h_wd h_p9 h_p10 h_p11 h_V
        unfold atopV
        dsimp only
        unfold atopMove
        simp only [HM.out, if_true, if_false]
        unfold atopEnd
        exact rfl
      exact ⟨A, n, rfl, HLL.out, HFF.out _ (fun k hk _ => far7 _ (hk (gr, _) List.mem_cons_self)), bel7 HI.out.bel (HI.out.loc (gr, _) List.mem_cons_self).2.2⟩
    · have hd1 : decide (p8.1 > 0) = false := by simpa using hm
      have HM := Aside0.mk (show (0 < p8.1) = False from eq_false hm)
      clear hm
      go_wp2_with fail
      clear hS hd1 hj_wd
      go_region_held3 (fun w' => (w'.cell? ⟨gnum, 0, none⟩ = some (.int .i64 num.f0) ∧ w'.cell? ⟨gnum, 1, none⟩ = some (.int .i64 num.f1) ∧ w'.cell? ⟨gnum, 2, none⟩ = some (.int .i64 num.f2) ∧ w'.cell? ⟨gnum, 3, none⟩ = some (.int .i64 num.f3) ∧ w'.cell? ⟨gnum, 4, none⟩ = some (.int .i64 num.f4) ∧ w'.cell? ⟨gnum, 5, none⟩ = some (.int .i64 num.f5) ∧ w'.cell? ⟨gnum, 6, none⟩ = some (.slice Anum num.f6.length nnum)) ∧ (w'.cell? ⟨gden, 0, none⟩ = some (.int .i64 den.f0) ∧ w'.cell? ⟨gden, 1, none⟩ = some (.int .i64 den.f1) ∧ w'.cell? ⟨gden, 2, none⟩ = some (.int .i64 den.f2) ∧ w'.cell? ⟨gden, 3, none⟩ = some (.int .i64 den.f3) ∧ w'.cell? ⟨gden, 4, none⟩ = some (.int .i64 den.f4) ∧ w'.cell? ⟨gden, 5, none⟩ = some (.int .i64 den.f5) ∧ w'.cell? ⟨gden, 6, none⟩ = some (.slice Aden den.f6.length nden))) (first | with_reducible exact ⟨box_cells (In.hd (In.tl (In.tl (by with_reducible repeat (first | exact HI.out | apply In.alloc | apply In.drew))))), box_cells (In.hd (In.tl (by with_reducible repeat (first | exact HI.out | apply In.alloc | apply In.drew))))⟩ | exact ⟨box_cells ((far7 _ hn_gnum_gr).trans (In.hd (In.tl (In.tl HI.out)))), box_cells ((far7 _ hn_gden_gr).trans (In.hd (In.tl HI.out)))⟩) (first | (go_at_call 43; (try simp only [i64_w]); refine (set_in wd [⟨(kidV p8.2 wd num).1, p1.1, num⟩, ⟨(kidV (kidV p8.2 wd num).2 wd den).1, wrap64 (-p2.1), den⟩] [[.int .i64 (kidV p8.2 wd num).1, .int .i64 p1.1, .int .i64 num.f0, .int .i64 num.f1, .int .i64 num.f2, .int .i64 num.f3, .int .i64 num.f4, .int .i64 num.f5, .slice Anum num.f6.length nnum], [.int .i64 (kidV (kidV p8.2 wd num).2 wd den).1, .int .i64 (wrap64 (-p2.1)), .int .i64 den.f0, .int .i64 den.f1, .int .i64 den.f2, .int .i64 den.f3, .int .i64 den.f4, .int .i64 den.f5, .slice Aden den.f6.length nden]] (by simp) (by first | exact Lit.refl _ _ | exact Lit.drew _ _) (by with_reducible repeat (first | exact HI.out | apply In.alloc | apply In.drew)) (by simp) ⟨k49_mk w ⟨(kidV p8.2 wd num).1, p1.1, num⟩ HLnum.out HCnum.out, k49_mk w ⟨(kidV (kidV p8.2 wd num).2 wd den).1, wrap64 (-p2.1), den⟩ HLden.out HCden.out, trivial⟩).mono ?_; rintro _ w1 ⟨A, n, rfl, hl, hf, hi⟩; replace HI := Aside0.mk hi; have HLL := Aside0.mk hl; have HFF := Aside0.mk hf; clear hi hl hf; obtain ⟨V, h_V⟩ : ∃ V, V = setV (kidV (kidV p8.2 wd num).2 wd den).2 wd [⟨(kidV p8.2 wd num).1, p1.1, num⟩, ⟨(kidV (kidV p8.2 wd num).2 wd den).1, wrap64 (-p2.1), den⟩] := ⟨_, rfl⟩; rw [← h_V] at HLL HFF ⊢; have H_V := Aside0.mk h_V; clear h_V; have hS := cells7 (In.hd HI.out); have hT := froz7 (In.hd HI.out)) | (go_at_call 44; (try simp only [i64_w]); refine (kid_in (by with_reducible repeat (first | exact HI.out | apply In.alloc | apply In.drew)) _ _ _ _ _).mono ?_; rintro _ w1 ⟨rfl, hi⟩; replace HI := Aside0.mk hi; clear hi))
      go_wp2
      refine bodyPost_ret (results_ct rfl _ _ (gr) 39 #[.int .i64 V.1, .int .i64 V.2.1, .int .i64 V.2.2.1, .int .i64 V.2.2.2.1, .int .i64 V.2.2.2.2.1, .int .i64 V.2.2.2.2.2.1, .slice A V.2.2.2.2.2.2.1.length n] (0, 0) _ rfl (put7 (In.hd HI.out)) hu39 rfl (by kernel_rfl)) rfl ?_
      obtain rfl : V = R := by
        rw [HR.out]
        have h_p1 := H_p1.out
        have h_p2 := H_p2.out
        have h_p3 := H_p3.out
        have h_e4 := H_e4.out
        have h_p5 := H_p5.out
        have h_p6 := H_p6.out
        have h_p7 := H_p7.out
        have h_p8 := H_p8.out
        have h_wd := H_wd.out
        have h_V := H_V.out
        subst h_p1 h_p2 h_p3 h_e4 h_p5 h_p6 h_p7 h_p8 h_wd h_V
        unfold atopV
        dsimp only
        unfold atopMove
        simp only [HM.out, if_true, if_false]
        unfold atopEnd
        exact rfl
      exact ⟨A, n, rfl, HLL.out, HFF.out _ (fun k hk _ => far7 _ (hk (gr, _) List.mem_cons_self)), bel7 HI.out.bel (HI.out.loc (gr, _) List.mem_cons_self).2.2⟩)
end Go.Proofs.Ytjkbblnebpgpfaa.P
