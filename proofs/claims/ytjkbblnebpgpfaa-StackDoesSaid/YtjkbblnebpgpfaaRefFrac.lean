import Derived.Test.YtjkbblnebpgpfaaRefStack
import Derived.Deep.Cut
/- The document's fraction (layer 26): a short walk. Printed by a program of this work (mkref26.py). -/
set_option linter.unusedVariables false
set_option linter.unusedSimpArgs false
namespace Go.Proofs.Ytjkbblnebpgpfaa.P
open Go.RowKit Go.Proofs.YtjkbblnebpgpfaaW.PrintWords Go.Proofs.YtjkbblnebpgpfaaW.PrintLast Go.Proofs.YtjkbblnebpgpfaaW.PrintMore
set_option maxRecDepth 100000 in
set_option maxHeartbeats 4000000 in
theorem rfrac_calls (F : S36) (c z : Int) (num : S39) (Anum : Option Addr) (nnum : Nat) (den : S39) (Aden : Option Addr) (nden : Nat) (cs : List Value) (w : World) (hF : FontIn w F cs) (lnum : num.f6.length ≤ nnum) (hnum : Kd.C k49 w Anum num.f6.length num.f6) (lden : den.f6.length ≤ nden) (hden : Kd.C k49 w Aden den.f6.length den.f6) : Calls Try.prog 15 #[.agg cs.toArray, .int .i64 c, .int .i64 z, .agg #[.int .i64 num.f0, .int .i64 num.f1, .int .i64 num.f2, .int .i64 num.f3, .int .i64 num.f4, .int .i64 num.f5, .slice Anum num.f6.length nnum], .agg #[.int .i64 den.f0, .int .i64 den.f1, .int .i64 den.f2, .int .i64 den.f3, .int .i64 den.f4, .int .i64 den.f5, .slice Aden den.f6.length nden]] w fun r w' => ∃ A1 n1, r = .returned (.tuple #[.agg #[.int .i64 (rFracV F c z num den).1, .int .i64 (rFracV F c z num den).2.1, .int .i64 (rFracV F c z num den).2.2.1, .int .i64 (rFracV F c z num den).2.2.2.1, .int .i64 (rFracV F c z num den).2.2.2.2.1, .int .i64 (rFracV F c z num den).2.2.2.2.2.1, .slice A1 (rFracV F c z num den).2.2.2.2.2.2.1.length n1], .int .i64 (rFracV F c z num den).2.2.2.2.2.2.2]) ∧ (rFracV F c z num den).2.2.2.2.2.2.1.length ≤ n1 ∧ Kd.C k49 w' A1 (rFracV F c z num den).2.2.2.2.2.2.1.length (rFracV F c z num den).2.2.2.2.2.2.1 ∧ Below w.heap.size w w' := by
  have hu39 := Try.underlying39
  have hu36 := Try.underlying36
  have hu49 := Try.underlying49
  have hu74 := Try.underlying74
  obtain ⟨A6, c6, A7, c7, A8, c8, A9, c9, A10, c10, A11, c11, A12, c12, A13, c13, A15, c15, A16, c16, hcs, hcr⟩ := id hF
  subst hcs
  clear hcr
  have HF := Aside0.mk hF
  have HLnum := Aside0.mk lnum
  have HCnum := Aside0.mk hnum
  have HLden := Aside0.mk lden
  have HCden := Aside0.mk hden
  clear hF lnum hnum lden hden
  go_enter Try.func15, Try.ntmps15
  have HP := Aside0.mk (Pd.start w)
  go_wp2_with (first | ((with_reducible refine gate_dst (N := 5) rfl ?_); refine box_event ?hg (N := 5) ?hd (cs := #[.int .i64 F.f0.f0, .int .i64 F.f0.f1, .int .i64 F.f0.f2, .int .i64 F.f0.f3, .int .i64 F.f0.f4, .bool F.f0.f5, .slice A6 F.f1.length c6, .slice A7 F.f2.length c7, .slice A8 F.f3.length c8, .slice A9 F.f4.f0.length c9, .slice A10 F.f4.f1.length c10, .slice A11 F.f4.f2.length c11, .slice A12 F.f4.f3.length c12, .slice A13 F.f4.f4.length c13, .int .i64 F.f4.f5.f0, .slice A15 F.f4.f5.f1.length c15, .slice A16 F.f4.f5.f2.length c16]) (t := 36) ?hr ?_; (case hd => rfl); (case hg => rfl); (case hr => first | (go_simp; done) | (go_simp; rfl)); intro gf hg wk hbox hb; replace HP := Aside0.mk (Pd.box (by with_reducible repeat (first | exact HP.out | apply Pd.drew)) hg hbox hb); clear hg hbox hb) | ((with_reducible refine gate_dst (N := 8) rfl ?_); refine box_event ?hg (N := 8) ?hd (cs := #[.int .i64 num.f0, .int .i64 num.f1, .int .i64 num.f2, .int .i64 num.f3, .int .i64 num.f4, .int .i64 num.f5, .slice Anum num.f6.length nnum]) (t := 39) ?hr ?_; (case hd => rfl); (case hg => rfl); (case hr => first | (go_simp; done) | (go_simp; rfl)); intro gnum hg wk hbox hb; replace HP := Aside0.mk (Pd.box (by with_reducible repeat (first | exact HP.out | apply Pd.drew)) hg hbox hb); clear hg hbox hb) | ((with_reducible refine gate_dst (N := 9) rfl ?_); refine box_event ?hg (N := 9) ?hd (cs := #[.int .i64 den.f0, .int .i64 den.f1, .int .i64 den.f2, .int .i64 den.f3, .int .i64 den.f4, .int .i64 den.f5, .slice Aden den.f6.length nden]) (t := 39) ?hr ?_; (case hd => rfl); (case hg => rfl); (case hr => first | (go_simp; done) | (go_simp; rfl)); intro gden hg wk hbox hb; replace HP := Aside0.mk (Pd.box (by with_reducible repeat (first | exact HP.out | apply Pd.drew)) hg hbox hb); clear hg hbox hb) | ((with_reducible refine gate_dst (N := 10) rfl ?_); refine box_event ?hg (N := 10) ?hd (cs := #[.int .i64 0, .int .i64 0, .int .i64 0, .int .i64 0, .int .i64 0, .int .i64 0, .slice none 0 0]) (t := 39) ?hr ?_; (case hd => rfl); (case hg => rfl); (case hr => first | (go_simp; done) | (go_simp; rfl)); intro gr hg wk hbox hb; replace HP := Aside0.mk (Pd.box (by with_reducible repeat (first | exact HP.out | apply Pd.drew)) hg hbox hb); clear hg hbox hb) | ((with_reducible refine gate_dst (N := 26) rfl ?_); refine box_event ?hg (N := 26) ?hd (cs := #[.int .i64 0]) (t := 74) ?hr ?_; (case hd => rfl); (case hg => rfl); (case hr => first | (go_simp; done) | (go_simp; rfl)); intro gk hg wk hbox hb; replace HP := Aside0.mk (Pd.box (by with_reducible repeat (first | exact HP.out | apply Pd.drew)) hg hbox hb); clear hg hbox hb) | ((with_reducible refine gate_dst (N := 28) rfl ?_); refine wpList_load_row rfl 36 (.tmp 5) rfl gf (by rfl) 36 #[.int .i64 F.f0.f0, .int .i64 F.f0.f1, .int .i64 F.f0.f2, .int .i64 F.f0.f3, .int .i64 F.f0.f4, .bool F.f0.f5, .slice A6 F.f1.length c6, .slice A7 F.f2.length c7, .slice A8 F.f3.length c8, .slice A9 F.f4.f0.length c9, .slice A10 F.f4.f1.length c10, .slice A11 F.f4.f2.length c11, .slice A12 F.f4.f3.length c12, .slice A13 F.f4.f4.length c13, .int .i64 F.f4.f5.f0, .slice A15 F.f4.f5.f1.length c15, .slice A16 F.f4.f5.f2.length c16] (0, 0) _ (Pd.hd (Pd.tl (Pd.tl (Pd.tl (Pd.tl (by with_reducible repeat (first | exact HP.out | apply Pd.drew))))))) hu36 rfl info_font ?_))
  refine (konst_cd HP.out HF.out (by rfl) 5 c z).mono ?_
  rintro _ w1 ⟨rfl, hp⟩
  replace HP := Aside0.mk hp
  clear hp
  obtain ⟨ax, h_ax⟩ : ∃ ax, ax = keepV 0 (konstV F 5 c z) := ⟨_, rfl⟩
  rw [← h_ax] at HP ⊢
  have H_ax := Aside0.mk h_ax
  clear h_ax
  go_wp2_with (first | ((with_reducible refine gate_dst (N := 33) rfl ?_); refine wpList_load_row rfl 36 (.tmp 5) rfl gf (by rfl) 36 #[.int .i64 F.f0.f0, .int .i64 F.f0.f1, .int .i64 F.f0.f2, .int .i64 F.f0.f3, .int .i64 F.f0.f4, .bool F.f0.f5, .slice A6 F.f1.length c6, .slice A7 F.f2.length c7, .slice A8 F.f3.length c8, .slice A9 F.f4.f0.length c9, .slice A10 F.f4.f1.length c10, .slice A11 F.f4.f2.length c11, .slice A12 F.f4.f3.length c12, .slice A13 F.f4.f4.length c13, .int .i64 F.f4.f5.f0, .slice A15 F.f4.f5.f1.length c15, .slice A16 F.f4.f5.f2.length c16] (0, 0) _ (Pd.hd (Pd.tl (Pd.tl (Pd.tl (Pd.tl (by with_reducible repeat (first | exact HP.out | apply Pd.drew))))))) hu36 rfl info_font ?_))
  refine (konst_cd HP.out HF.out (by rfl) 38 c z).mono ?_
  rintro _ w1 ⟨rfl, hp⟩
  replace HP := Aside0.mk hp
  clear hp
  obtain ⟨th, h_th⟩ : ∃ th, th = keepV ax.2 (konstV F 38 c z) := ⟨_, rfl⟩
  rw [← h_th] at HP ⊢
  have H_th := Aside0.mk h_th
  clear h_th
  go_wp2_with (first | ((with_reducible refine gate_dst (N := 38) rfl ?_); refine wpList_load_row rfl 36 (.tmp 5) rfl gf (by rfl) 36 #[.int .i64 F.f0.f0, .int .i64 F.f0.f1, .int .i64 F.f0.f2, .int .i64 F.f0.f3, .int .i64 F.f0.f4, .bool F.f0.f5, .slice A6 F.f1.length c6, .slice A7 F.f2.length c7, .slice A8 F.f3.length c8, .slice A9 F.f4.f0.length c9, .slice A10 F.f4.f1.length c10, .slice A11 F.f4.f2.length c11, .slice A12 F.f4.f3.length c12, .slice A13 F.f4.f4.length c13, .int .i64 F.f4.f5.f0, .slice A15 F.f4.f5.f1.length c15, .slice A16 F.f4.f5.f2.length c16] (0, 0) _ (Pd.hd (Pd.tl (Pd.tl (Pd.tl (Pd.tl (by with_reducible repeat (first | exact HP.out | apply Pd.drew))))))) hu36 rfl info_font ?_))
  refine (either_cd HP.out HF.out (by rfl) 32 33 c z).mono ?_
  rintro _ w1 ⟨rfl, hp⟩
  replace HP := Aside0.mk hp
  clear hp
  obtain ⟨up, h_up⟩ : ∃ up, up = keepV th.2 (konstV F (if c < 2 then 33 else 32) c z) := ⟨_, rfl⟩
  rw [← h_up] at HP ⊢
  have H_up := Aside0.mk h_up
  clear h_up
  go_wp2_with (first | ((with_reducible refine gate_dst (N := 43) rfl ?_); refine wpList_load_row rfl 36 (.tmp 5) rfl gf (by rfl) 36 #[.int .i64 F.f0.f0, .int .i64 F.f0.f1, .int .i64 F.f0.f2, .int .i64 F.f0.f3, .int .i64 F.f0.f4, .bool F.f0.f5, .slice A6 F.f1.length c6, .slice A7 F.f2.length c7, .slice A8 F.f3.length c8, .slice A9 F.f4.f0.length c9, .slice A10 F.f4.f1.length c10, .slice A11 F.f4.f2.length c11, .slice A12 F.f4.f3.length c12, .slice A13 F.f4.f4.length c13, .int .i64 F.f4.f5.f0, .slice A15 F.f4.f5.f1.length c15, .slice A16 F.f4.f5.f2.length c16] (0, 0) _ (Pd.hd (Pd.tl (Pd.tl (Pd.tl (Pd.tl (by with_reducible repeat (first | exact HP.out | apply Pd.drew))))))) hu36 rfl info_font ?_))
  refine (either_cd HP.out HF.out (by rfl) 34 35 c z).mono ?_
  rintro _ w1 ⟨rfl, hp⟩
  replace HP := Aside0.mk hp
  clear hp
  obtain ⟨dn, h_dn⟩ : ∃ dn, dn = keepV up.2 (konstV F (if c < 2 then 35 else 34) c z) := ⟨_, rfl⟩
  rw [← h_dn] at HP ⊢
  have H_dn := Aside0.mk h_dn
  clear h_dn
  go_wp2_with (first | ((with_reducible refine gate_dst (N := 48) rfl ?_); refine wpList_load_row rfl 36 (.tmp 5) rfl gf (by rfl) 36 #[.int .i64 F.f0.f0, .int .i64 F.f0.f1, .int .i64 F.f0.f2, .int .i64 F.f0.f3, .int .i64 F.f0.f4, .bool F.f0.f5, .slice A6 F.f1.length c6, .slice A7 F.f2.length c7, .slice A8 F.f3.length c8, .slice A9 F.f4.f0.length c9, .slice A10 F.f4.f1.length c10, .slice A11 F.f4.f2.length c11, .slice A12 F.f4.f3.length c12, .slice A13 F.f4.f4.length c13, .int .i64 F.f4.f5.f0, .slice A15 F.f4.f5.f1.length c15, .slice A16 F.f4.f5.f2.length c16] (0, 0) _ (Pd.hd (Pd.tl (Pd.tl (Pd.tl (Pd.tl (by with_reducible repeat (first | exact HP.out | apply Pd.drew))))))) hu36 rfl info_font ?_))
  refine (either_cd HP.out HF.out (by rfl) 36 37 c z).mono ?_
  rintro _ w1 ⟨rfl, hp⟩
  replace HP := Aside0.mk hp
  clear hp
  obtain ⟨ab, h_ab⟩ : ∃ ab, ab = keepV dn.2 (konstV F (if c < 2 then 37 else 36) c z) := ⟨_, rfl⟩
  rw [← h_ab] at HP ⊢
  have H_ab := Aside0.mk h_ab
  clear h_ab
  go_wp2_with (first | ((with_reducible refine gate_dst (N := 53) rfl ?_); refine wpList_load_row rfl 36 (.tmp 5) rfl gf (by rfl) 36 #[.int .i64 F.f0.f0, .int .i64 F.f0.f1, .int .i64 F.f0.f2, .int .i64 F.f0.f3, .int .i64 F.f0.f4, .bool F.f0.f5, .slice A6 F.f1.length c6, .slice A7 F.f2.length c7, .slice A8 F.f3.length c8, .slice A9 F.f4.f0.length c9, .slice A10 F.f4.f1.length c10, .slice A11 F.f4.f2.length c11, .slice A12 F.f4.f3.length c12, .slice A13 F.f4.f4.length c13, .int .i64 F.f4.f5.f0, .slice A15 F.f4.f5.f1.length c15, .slice A16 F.f4.f5.f2.length c16] (0, 0) _ (Pd.hd (Pd.tl (Pd.tl (Pd.tl (Pd.tl (by with_reducible repeat (first | exact HP.out | apply Pd.drew))))))) hu36 rfl info_font ?_))
  refine (either_cd HP.out HF.out (by rfl) 39 40 c z).mono ?_
  rintro _ w1 ⟨rfl, hp⟩
  replace HP := Aside0.mk hp
  clear hp
  obtain ⟨be, h_be⟩ : ∃ be, be = keepV ab.2 (konstV F (if c < 2 then 40 else 39) c z) := ⟨_, rfl⟩
  rw [← h_be] at HP ⊢
  have H_be := Aside0.mk h_be
  clear h_be
  have hc_num := box_cells (Pd.hd (Pd.tl (Pd.tl (Pd.tl HP.out))))
  go_wp2_with fail
  clear hc_num
  refine (need_cd HP.out num Anum nnum).mono ?_
  rintro _ w1 ⟨rfl, hp⟩
  replace HP := Aside0.mk hp
  clear hp
  obtain ⟨e_num, h_e_num⟩ : ∃ e_num, e_num = needE [num] be.2 := ⟨_, rfl⟩
  rw [← h_e_num] at HP
  have H_e_num := Aside0.mk h_e_num
  clear h_e_num
  have hc_den := box_cells (Pd.hd (Pd.tl (Pd.tl HP.out)))
  go_wp2_with fail
  clear hc_den
  refine (need_cd HP.out den Aden nden).mono ?_
  rintro _ w1 ⟨rfl, hp⟩
  replace HP := Aside0.mk hp
  clear hp
  obtain ⟨e_den, h_e_den⟩ : ∃ e_den, e_den = needE [den] e_num := ⟨_, rfl⟩
  rw [← h_e_den] at HP
  have H_e_den := Aside0.mk h_e_den
  clear h_e_den
  go_wp2_with fail
  refine (half_cd HP.out th.1).mono ?_
  rintro _ w1 ⟨rfl, hp⟩
  replace HP := Aside0.mk hp
  clear hp
  obtain ⟨hf, h_hf⟩ : ∃ hf, hf = keepV e_den (toldOf (halfR th.1)) := ⟨_, rfl⟩
  rw [← h_hf] at HP ⊢
  have H_hf := Aside0.mk h_hf
  clear h_hf
  go_wp2_with fail
  (try simp only [i64_w])
  refine (sub_cd HP.out ax.1 hf.1).mono ?_
  rintro _ w1 ⟨rfl, hp⟩
  replace HP := Aside0.mk hp
  clear hp
  obtain ⟨bo, h_bo⟩ : ∃ bo, bo = keepV hf.2 (toldOf (sumR [ax.1, wrap64 (-hf.1)])) := ⟨_, rfl⟩
  rw [← h_bo] at HP ⊢
  have H_bo := Aside0.mk h_bo
  clear h_bo
  go_wp2_with fail
  (try simp only [i64_w])
  refine (add_cd HP.out bo.1 th.1).mono ?_
  rintro _ w1 ⟨rfl, hp⟩
  replace HP := Aside0.mk hp
  clear hp
  obtain ⟨tp, h_tp⟩ : ∃ tp, tp = keepV bo.2 (toldOf (sumR [bo.1, th.1])) := ⟨_, rfl⟩
  rw [← h_tp] at HP ⊢
  have H_tp := Aside0.mk h_tp
  clear h_tp
  go_wp2_with fail
  go_region_held3 (fun w' => w'.cell? ⟨gnum, 3, none⟩ = some (.int .i64 num.f3)) (first | with_reducible exact bx_c3 (Pd.hd (Pd.tl (Pd.tl (Pd.tl (by with_reducible repeat (first | exact HP.out | apply Pd.alc | apply Pd.drew))))))) (first | (go_at_call 50; (try simp only [i64_w]); refine (add_cd (by with_reducible repeat (first | exact HP.out | apply Pd.alc | apply Pd.drew)) _ _).mono ?_; rintro _ w1 ⟨rfl, hp⟩; replace HP := Aside0.mk hp; clear hp))
  obtain ⟨u1, h_u1⟩ : ∃ u1, u1 = keepV tp.2 (toldOf (sumR [tp.1, ab.1])) := ⟨_, rfl⟩
  rw [← h_u1] at HP ⊢
  have H_u1 := Aside0.mk h_u1
  clear h_u1
  obtain ⟨u2, h_u2⟩ : ∃ u2, u2 = keepV u1.2 (toldOf (sumR [u1.1, num.f3])) := ⟨_, rfl⟩
  rw [← h_u2] at HP ⊢
  have H_u2 := Aside0.mk h_u2
  clear h_u2
  have hc_den := box_cells (Pd.hd (Pd.tl (Pd.tl HP.out)))
  go_wp2_with fail
  clear hc_den
  (try simp only [i64_w])
  refine (add_cd HP.out den.f2 be.1).mono ?_
  rintro _ w1 ⟨rfl, hp⟩
  replace HP := Aside0.mk hp
  clear hp
  obtain ⟨d1, h_d1⟩ : ∃ d1, d1 = keepV u2.2 (toldOf (sumR [den.f2, be.1])) := ⟨_, rfl⟩
  rw [← h_d1] at HP ⊢
  have H_d1 := Aside0.mk h_d1
  clear h_d1
  go_wp2_with fail
  (try simp only [i64_w])
  refine (sub_cd HP.out d1.1 bo.1).mono ?_
  rintro _ w1 ⟨rfl, hp⟩
  replace HP := Aside0.mk hp
  clear hp
  obtain ⟨d2, h_d2⟩ : ∃ d2, d2 = keepV d1.2 (toldOf (sumR [d1.1, wrap64 (-bo.1)])) := ⟨_, rfl⟩
  rw [← h_d2] at HP ⊢
  have H_d2 := Aside0.mk h_d2
  clear h_d2
  have hc_num := box_cells (Pd.hd (Pd.tl (Pd.tl (Pd.tl HP.out))))
  have hc_den := box_cells (Pd.hd (Pd.tl (Pd.tl HP.out)))
  go_wp2_with fail
  clear hc_num hc_den
  refine Pd.foldC ((HP.out.box (b := w1.heap.size) rfl (alloc_last _ _) ((Below.refl _ _).alloc (Nat.le_refl _) _)).swp) ?_
  intro w2 hp
  replace HP := Aside0.mk hp
  clear hp
  generalize w1.heap.size = gq at HP ⊢
  obtain ⟨V, h_V⟩ : ∃ V, V = (setV (midV (midV d2.2 (max num.f1 den.f1) num.f1).2 (max num.f1 den.f1) den.f1).2 (max num.f1 den.f1) [⟨(midV d2.2 (max num.f1 den.f1) num.f1).1, max up.1 u2.1, num⟩, ⟨0, 0, ⟨2, max num.f1 den.f1, tp.1, wrap64 (-bo.1), 0, 0, []⟩⟩, ⟨(midV (midV d2.2 (max num.f1 den.f1) num.f1).2 (max num.f1 den.f1) den.f1).1, wrap64 (-(max dn.1 d2.1)), den⟩]) := ⟨_, rfl⟩
  have H_V := Aside0.mk h_V
  clear h_V
  obtain ⟨E, h_E⟩ : ∃ E, E = (midV (midV d2.2 (max num.f1 den.f1) num.f1).2 (max num.f1 den.f1) den.f1).2 := ⟨_, rfl⟩
  have H_E := Aside0.mk h_E
  clear h_E
  go_cut [23, 24] from 25 (fun s23 s24 w' => ∃ (q23 : Nat) (A1 : Option Addr) (n1 : Nat), s23 = .pointer (some ⟨q23, 0, none⟩) ∧ s24 = .int .i64 V.2.2.2.2.2.2.2 ∧ Aside0 (V.2.2.2.2.2.2.1.length ≤ n1) ∧ Aside0 (Kd.F k49 w' (fun k => ∀ p ∈ ((gk, .cells #[.int .i64 E] 74 (0, 0)) :: (q23, .cells #[.int .i64 V.1, .int .i64 V.2.1, .int .i64 V.2.2.1, .int .i64 V.2.2.2.1, .int .i64 V.2.2.2.2.1, .int .i64 V.2.2.2.2.2.1, .slice A1 V.2.2.2.2.2.2.1.length n1] 39 (0, 0)) :: (gq, .cells #[.int .i64 2, .int .i64 (max num.f1 den.f1), .int .i64 tp.1, .int .i64 (wrap64 (-bo.1)), .int .i64 0, .int .i64 0, .slice none 0 0] 39 (0, 0)) :: (gr, .cells #[.int .i64 0, .int .i64 0, .int .i64 0, .int .i64 0, .int .i64 0, .int .i64 0, .slice none 0 0] 39 (0, 0)) :: (gden, .cells #[.int .i64 den.f0, .int .i64 den.f1, .int .i64 den.f2, .int .i64 den.f3, .int .i64 den.f4, .int .i64 den.f5, .slice Aden den.f6.length nden] 39 (0, 0)) :: (gnum, .cells #[.int .i64 num.f0, .int .i64 num.f1, .int .i64 num.f2, .int .i64 num.f3, .int .i64 num.f4, .int .i64 num.f5, .slice Anum num.f6.length nnum] 39 (0, 0)) :: [(gf, .cells #[.int .i64 F.f0.f0, .int .i64 F.f0.f1, .int .i64 F.f0.f2, .int .i64 F.f0.f3, .int .i64 F.f0.f4, .bool F.f0.f5, .slice A6 F.f1.length c6, .slice A7 F.f2.length c7, .slice A8 F.f3.length c8, .slice A9 F.f4.f0.length c9, .slice A10 F.f4.f1.length c10, .slice A11 F.f4.f2.length c11, .slice A12 F.f4.f3.length c12, .slice A13 F.f4.f4.length c13, .int .i64 F.f4.f5.f0, .slice A15 F.f4.f5.f1.length c15, .slice A16 F.f4.f5.f2.length c16] 36 (0, 0))] : List (Nat × Obj)), k ≠ p.1) A1 V.2.2.2.2.2.2.1.length V.2.2.2.2.2.2.1) ∧ Aside0 (Pd w w' ((gk, .cells #[.int .i64 E] 74 (0, 0)) :: (q23, .cells #[.int .i64 V.1, .int .i64 V.2.1, .int .i64 V.2.2.1, .int .i64 V.2.2.2.1, .int .i64 V.2.2.2.2.1, .int .i64 V.2.2.2.2.2.1, .slice A1 V.2.2.2.2.2.2.1.length n1] 39 (0, 0)) :: (gq, .cells #[.int .i64 2, .int .i64 (max num.f1 den.f1), .int .i64 tp.1, .int .i64 (wrap64 (-bo.1)), .int .i64 0, .int .i64 0, .slice none 0 0] 39 (0, 0)) :: (gr, .cells #[.int .i64 0, .int .i64 0, .int .i64 0, .int .i64 0, .int .i64 0, .int .i64 0, .slice none 0 0] 39 (0, 0)) :: (gden, .cells #[.int .i64 den.f0, .int .i64 den.f1, .int .i64 den.f2, .int .i64 den.f3, .int .i64 den.f4, .int .i64 den.f5, .slice Aden den.f6.length nden] 39 (0, 0)) :: (gnum, .cells #[.int .i64 num.f0, .int .i64 num.f1, .int .i64 num.f2, .int .i64 num.f3, .int .i64 num.f4, .int .i64 num.f5, .slice Anum num.f6.length nnum] 39 (0, 0)) :: [(gf, .cells #[.int .i64 F.f0.f0, .int .i64 F.f0.f1, .int .i64 F.f0.f2, .int .i64 F.f0.f3, .int .i64 F.f0.f4, .bool F.f0.f5, .slice A6 F.f1.length c6, .slice A7 F.f2.length c7, .slice A8 F.f3.length c8, .slice A9 F.f4.f0.length c9, .slice A10 F.f4.f1.length c10, .slice A11 F.f4.f2.length c11, .slice A12 F.f4.f3.length c12, .slice A13 F.f4.f4.length c13, .int .i64 F.f4.f5.f0, .slice A15 F.f4.f5.f1.length c15, .slice A16 F.f4.f5.f2.length c16] 36 (0, 0))])))
  case first =>
    go_region_held3 (fun w' => w'.cell? ⟨gnum, 0, none⟩ = some (.int .i64 num.f0) ∧ w'.cell? ⟨gnum, 1, none⟩ = some (.int .i64 num.f1) ∧ w'.cell? ⟨gnum, 2, none⟩ = some (.int .i64 num.f2) ∧ w'.cell? ⟨gnum, 3, none⟩ = some (.int .i64 num.f3) ∧ w'.cell? ⟨gnum, 4, none⟩ = some (.int .i64 num.f4) ∧ w'.cell? ⟨gnum, 5, none⟩ = some (.int .i64 num.f5) ∧ w'.cell? ⟨gnum, 6, none⟩ = some (.slice Anum num.f6.length nnum) ∧ w'.cell? ⟨gq, 0, none⟩ = some (.int .i64 2) ∧ w'.cell? ⟨gq, 1, none⟩ = some (.int .i64 (max num.f1 den.f1)) ∧ w'.cell? ⟨gq, 2, none⟩ = some (.int .i64 tp.1) ∧ w'.cell? ⟨gq, 3, none⟩ = some (.int .i64 (wrap64 (-bo.1))) ∧ w'.cell? ⟨gq, 4, none⟩ = some (.int .i64 0) ∧ w'.cell? ⟨gq, 5, none⟩ = some (.int .i64 0) ∧ w'.cell? ⟨gq, 6, none⟩ = some (.slice none 0 0) ∧ w'.cell? ⟨gden, 0, none⟩ = some (.int .i64 den.f0) ∧ w'.cell? ⟨gden, 1, none⟩ = some (.int .i64 den.f1) ∧ w'.cell? ⟨gden, 2, none⟩ = some (.int .i64 den.f2) ∧ w'.cell? ⟨gden, 3, none⟩ = some (.int .i64 den.f3) ∧ w'.cell? ⟨gden, 4, none⟩ = some (.int .i64 den.f4) ∧ w'.cell? ⟨gden, 5, none⟩ = some (.int .i64 den.f5) ∧ w'.cell? ⟨gden, 6, none⟩ = some (.slice Aden den.f6.length nden)) (with_reducible exact (and_assoc14 (box_cells (Pd.get (by with_reducible repeat (first | exact HP.out | apply Pd.drew | apply Pd.alc | exact Pd.swp (Pd.st7 (Pd.swp HP.out)))) (by with_reducible repeat (first | exact List.mem_cons_self | apply List.mem_cons_of_mem)))) (cells7 (Pd.get (by with_reducible repeat (first | exact HP.out | apply Pd.drew | apply Pd.alc | exact Pd.swp (Pd.st7 (Pd.swp HP.out)))) (by with_reducible repeat (first | exact List.mem_cons_self | apply List.mem_cons_of_mem)))) (box_cells (Pd.get (by with_reducible repeat (first | exact HP.out | apply Pd.drew | apply Pd.alc | exact Pd.swp (Pd.st7 (Pd.swp HP.out)))) (by with_reducible repeat (first | exact List.mem_cons_self | apply List.mem_cons_of_mem)))))) (first | (go_at_call 52; refine (mid_cd (by with_reducible repeat (first | exact HP.out | apply Pd.drew | exact Pd.swp (Pd.row HP.out _))) _ _).mono ?_; rintro _ w1 ⟨rfl, hp⟩; replace HP := Aside0.mk hp; clear hp; have hcq := cells7 (Pd.hd (Pd.tl HP.out)); have hfq := froz7 (Pd.hd (Pd.tl HP.out))) | (go_at_call 51; (with_reducible refine g2s ?_); (try simp only [i64_w]); refine (setlit2_cd (max num.f1 den.f1) [⟨(midV d2.2 (max num.f1 den.f1) num.f1).1, max up.1 u2.1, num⟩, ⟨0, 0, ⟨2, max num.f1 den.f1, tp.1, wrap64 (-bo.1), 0, 0, []⟩⟩, ⟨(midV (midV d2.2 (max num.f1 den.f1) num.f1).2 (max num.f1 den.f1) den.f1).1, wrap64 (-(max dn.1 d2.1)), den⟩] [[.int .i64 (midV d2.2 (max num.f1 den.f1) num.f1).1, .int .i64 (max up.1 u2.1), .int .i64 num.f0, .int .i64 num.f1, .int .i64 num.f2, .int .i64 num.f3, .int .i64 num.f4, .int .i64 num.f5, .slice Anum num.f6.length nnum], [.int .i64 0, .int .i64 0, .int .i64 2, .int .i64 (max num.f1 den.f1), .int .i64 tp.1, .int .i64 (wrap64 (-bo.1)), .int .i64 0, .int .i64 0, .slice none 0 0], [.int .i64 (midV (midV d2.2 (max num.f1 den.f1) num.f1).2 (max num.f1 den.f1) den.f1).1, .int .i64 (wrap64 (-(max dn.1 d2.1))), .int .i64 den.f0, .int .i64 den.f1, .int .i64 den.f2, .int .i64 den.f3, .int .i64 den.f4, .int .i64 den.f5, .slice Aden den.f6.length nden]] (by simp) (by with_reducible repeat (first | exact HP.out | apply Pd.drew)) ?hb ⟨k49_mk w ⟨(midV d2.2 (max num.f1 den.f1) num.f1).1, max up.1 u2.1, num⟩ HLnum.out HCnum.out, k49_mk w ⟨0, 0, ⟨2, max num.f1 den.f1, tp.1, wrap64 (-bo.1), 0, 0, []⟩⟩ (A8 := none) (c8 := 0) (Nat.le_refl _) ⟨rfl, Nat.zero_le _, fun h => absurd h (Nat.lt_irrefl 0)⟩, k49_mk w ⟨(midV (midV d2.2 (max num.f1 den.f1) num.f1).2 (max num.f1 den.f1) den.f1).1, wrap64 (-(max dn.1 d2.1)), den⟩ HLden.out HCden.out, trivial⟩).mono ?_; (case hb => rfl); rintro _ w1 ⟨A1, n1, rfl, hl, hf, hp⟩; rw [← H_V.out] at hl hf ⊢; rw [← H_E.out] at hp hf; replace HP := Aside0.mk hp; have HLL := Aside0.mk hl; have HFF := Aside0.mk hf; clear hp hl hf; have hcq := cells7 (Pd.hd (Pd.tl HP.out)); have hfq := froz7 (Pd.hd (Pd.tl HP.out))) | (go_at_call 51; (try simp only [i64_w]); refine (setlit_cd (max num.f1 den.f1) [⟨(midV d2.2 (max num.f1 den.f1) num.f1).1, max up.1 u2.1, num⟩, ⟨0, 0, ⟨2, max num.f1 den.f1, tp.1, wrap64 (-bo.1), 0, 0, []⟩⟩, ⟨(midV (midV d2.2 (max num.f1 den.f1) num.f1).2 (max num.f1 den.f1) den.f1).1, wrap64 (-(max dn.1 d2.1)), den⟩] [[.int .i64 (midV d2.2 (max num.f1 den.f1) num.f1).1, .int .i64 (max up.1 u2.1), .int .i64 num.f0, .int .i64 num.f1, .int .i64 num.f2, .int .i64 num.f3, .int .i64 num.f4, .int .i64 num.f5, .slice Anum num.f6.length nnum], [.int .i64 0, .int .i64 0, .int .i64 2, .int .i64 (max num.f1 den.f1), .int .i64 tp.1, .int .i64 (wrap64 (-bo.1)), .int .i64 0, .int .i64 0, .slice none 0 0], [.int .i64 (midV (midV d2.2 (max num.f1 den.f1) num.f1).2 (max num.f1 den.f1) den.f1).1, .int .i64 (wrap64 (-(max dn.1 d2.1))), .int .i64 den.f0, .int .i64 den.f1, .int .i64 den.f2, .int .i64 den.f3, .int .i64 den.f4, .int .i64 den.f5, .slice Aden den.f6.length nden]] (by simp) (by with_reducible repeat (first | exact HP.out | apply Pd.drew | exact Pd.swp (Pd.row HP.out _))) ?hb ⟨k49_mk w ⟨(midV d2.2 (max num.f1 den.f1) num.f1).1, max up.1 u2.1, num⟩ HLnum.out HCnum.out, k49_mk w ⟨0, 0, ⟨2, max num.f1 den.f1, tp.1, wrap64 (-bo.1), 0, 0, []⟩⟩ (A8 := none) (c8 := 0) (Nat.le_refl _) ⟨rfl, Nat.zero_le _, fun h => absurd h (Nat.lt_irrefl 0)⟩, k49_mk w ⟨(midV (midV d2.2 (max num.f1 den.f1) num.f1).2 (max num.f1 den.f1) den.f1).1, wrap64 (-(max dn.1 d2.1)), den⟩ HLden.out HCden.out, trivial⟩).mono ?_; (case hb => first | rfl | simp); rintro _ w1 ⟨A1, n1, rfl, hl, hf, hp⟩; rw [← H_V.out] at hl hf ⊢; rw [← H_E.out] at hp hf; replace HP := Aside0.mk hp; have HLL := Aside0.mk hl; have HFF := Aside0.mk hf; clear hp hl hf; have hcq := cells7 (Pd.hd (Pd.tl HP.out)); have hfq := froz7 (Pd.hd (Pd.tl HP.out))))
    · (go_wp2_with fail; go_meet; exact ⟨w1.heap.size, A1, n1, rfl, rfl, HLL, ⟨Kd.F_mono (Kd.F_step (Kd.F_bound HFF.out) (fun k hk hlt => alloc_heap_lt hlt)) (fun k hk p hp => (by rcases List.mem_cons.1 hp with rfl | hp; exact hk.1 _ List.mem_cons_self; rcases List.mem_cons.1 hp with rfl | hp; exact Nat.ne_of_lt hk.2; exact hk.1 _ (List.mem_cons_of_mem _ hp)))⟩, ⟨(Pd.row HP.out _).swp⟩⟩)
    all_goals (go_wp2_with fail; go_meet; exact ⟨_, A1, n1, rfl, rfl, HLL, ⟨Kd.F_mono (Kd.F_step HFF.out (fun k hk hlt => far7 _ (hk _ (List.mem_cons_of_mem _ List.mem_cons_self)))) (fun k hk p hp => (by rcases List.mem_cons.1 hp with rfl | hp; exact hk _ List.mem_cons_self; rcases List.mem_cons.1 hp with rfl | hp; exact hk (_, Obj.cells #[.int .i64 0, .int .i64 0, .int .i64 0, .int .i64 0, .int .i64 0, .int .i64 0, .slice none 0 0] 39 (0, 0)) (List.mem_cons_of_mem _ List.mem_cons_self); exact hk _ (List.mem_cons_of_mem _ (List.mem_cons_of_mem _ hp))))⟩, ⟨Pd.swp (Pd.st7 (Pd.swp HP.out))⟩⟩)
  case rest =>
    obtain ⟨q23, A1, n1, rfl, rfl, HLL, HFF, HP⟩ := hcut
    have HVR : Aside0 (V = rFracV F c z num den) := ⟨by (have h_ax := H_ax.out; have h_th := H_th.out; have h_up := H_up.out; have h_dn := H_dn.out; have h_ab := H_ab.out; have h_be := H_be.out; have h_e_num := H_e_num.out; have h_e_den := H_e_den.out; have h_hf := H_hf.out; have h_bo := H_bo.out; have h_tp := H_tp.out; have h_u1 := H_u1.out; have h_u2 := H_u2.out; have h_d1 := H_d1.out; have h_d2 := H_d2.out; have h_V := H_V.out; subst h_ax h_th h_up h_dn h_ab h_be h_e_num h_e_den h_hf h_bo h_tp h_u1 h_u2 h_d1 h_d2 h_V; rfl)⟩
    have HZ : Aside0 (∀ (h : E ≠ 0), V = (0, 0, 0, 0, 0, 0, [], E)) := ⟨fun h => by rw [H_V.out]; rw [H_E.out] at h ⊢; exact if_neg h⟩
    have hc0 := hd_cell HP.out.hd
    have hcq := cells7 (Pd.hd (Pd.tl HP.out))
    have hcz := cells7 (Pd.hd (Pd.tl (Pd.tl (Pd.tl HP.out))))
    have hfz := froz7 (Pd.hd (Pd.tl (Pd.tl (Pd.tl HP.out))))
    by_cases he : E = 0
    · have hd1 : (E != 0) = false := by simp; exact he
      clear he
      go_wp2
      refine bodyPost_ret (results_ct rfl _ _ gr 39 #[.int .i64 V.1, .int .i64 V.2.1, .int .i64 V.2.2.1, .int .i64 V.2.2.2.1, .int .i64 V.2.2.2.2.1, .int .i64 V.2.2.2.2.2.1, .slice A1 V.2.2.2.2.2.2.1.length n1] (0, 0) _ rfl (put7 (Pd.hd (Pd.tl (Pd.tl (Pd.tl HP.out))))) hu39 rfl (by kernel_rfl)) rfl ?_
      rw [← HVR.out]
      exact ⟨A1, n1, rfl, HLL.out, HFF.out _ (fun k hk hlt => far7 _ (hk (gr, _) (List.mem_cons_of_mem _ (List.mem_cons_of_mem _ (List.mem_cons_of_mem _ List.mem_cons_self))))), Pre.bel (Pd.toPre (Pd.st7 (Pd.tl (Pd.tl (Pd.tl HP.out)))))⟩
    · have hd1 : (E != 0) = true := by simp; exact he
      have HE := Aside0.mk he
      clear he
      go_wp2
      have hgr : gr ≠ gk := (List.pairwise_cons.1 HP.out.dis).1 (gr, .cells #[.int .i64 0, .int .i64 0, .int .i64 0, .int .i64 0, .int .i64 0, .int .i64 0, .slice none 0 0] 39 (0, 0)) (List.mem_cons_of_mem _ (List.mem_cons_of_mem _ List.mem_cons_self))
      have hgr2 := hgr.symm
      go_region
      all_goals go_wp2
      all_goals refine bodyPost_ret (results_ct rfl _ _ gr 39 #[.int .i64 0, .int .i64 0, .int .i64 0, .int .i64 0, .int .i64 0, .int .i64 0, .slice none 0 0] (0, 0) _ rfl (blk_drew (put7 (Pd.hd (Pd.tl (Pd.tl (Pd.tl HP.out)))))) hu39 rfl (by kernel_rfl)) rfl ?_
      all_goals (rw [← HVR.out, HZ.out HE.out])
      all_goals exact ⟨none, 0, rfl, Nat.le_refl _, Kd.C_nil _ _, Pre.bel (Pd.toPre (Pd.st7 (Pd.tl (Pd.tl (Pd.tl HP.out)))).drew)⟩
end Go.Proofs.Ytjkbblnebpgpfaa.P
