import Derived.Test.YtbhljokhcmfgjaaTBar3
/- bar.Over: a short walk. Printed by a program of this work (mkbar4.py). -/
set_option linter.unusedVariables false
set_option linter.unusedSimpArgs false
namespace Go.Proofs.Ytbhljokhcmfgjaa.P
open Go.RowKit Go.Proofs.YtbhljokhcmfgjaaW.PrintWords Go.Proofs.YtbhljokhcmfgjaaW.PrintLast Go.Proofs.YtbhljokhcmfgjaaW.PrintMore

section
variable {w W W1 : World} {L : List (Nat × Obj)} {g : Nat} {e : Int} {rest : List Value} {t : TypeId}
/-- A box of boxes at their places that are written out. -/
theorem set_row {b : Nat} {t1 : TypeId} (wd : Int) (xs : List S41) (css : List (List Value)) (hx : xs.length < 1599289640401) (hB : Lit W (.cells css.flatten.toArray t1) W1) (h : Pd w W ((g, .cells (Value.int .i64 e :: rest).toArray t (0, 0)) :: L)) (hb : b = W.heap.size) (hK : Each (k41.K w) xs css) : Calls Try.prog 70 #[.pointer (some ⟨g, 0, none⟩), .int .i64 wd, .slice (some ⟨b, 0, none⟩) xs.length xs.length] W1 fun r w' => ∃ A1 n1, r = .returned (.tuple #[.agg #[.int .i64 (setV e wd xs).1, .int .i64 (setV e wd xs).2.1, .int .i64 (setV e wd xs).2.2.1, .int .i64 (setV e wd xs).2.2.2.1, .int .i64 (setV e wd xs).2.2.2.2.1, .int .i64 (setV e wd xs).2.2.2.2.2.1, .slice A1 (setV e wd xs).2.2.2.2.2.2.1.length n1], .int .i64 (setV e wd xs).2.2.2.2.2.2.2]) ∧ (setV e wd xs).2.2.2.2.2.2.1.length ≤ n1 ∧ Kd.F k41 w' (fun k => ∀ p ∈ (g, Obj.cells (Value.int .i64 e :: rest).toArray t (0, 0)) :: L, k ≠ p.1) A1 (setV e wd xs).2.2.2.2.2.2.1.length (setV e wd xs).2.2.2.2.2.2.1 ∧ Pd w w' ((g, .cells (Value.int .i64 e :: rest).toArray t (0, 0)) :: L) := by
  subst hb
  have h1 := (h.lit hB).swp
  refine (set_pd wd xs hx h1 ((Src.block hK).mono fun _ h => h.swp)).mono ?_
  rintro r w' ⟨A1, n1, h2, h3, h4, h5⟩
  exact ⟨A1, n1, h2, h3, Kd.F_mono h4 (fun k hk p hp => hk p (by
    rcases List.mem_cons.1 hp with rfl | hp
    · exact List.mem_cons_self
    · exact List.mem_cons_of_mem _ (List.mem_cons_of_mem _ hp))), h5.skip⟩
end
def overV (F : S63) (c z : Int) (b : S25) : BoxV :=
  let g := keepV 0 (konstV F 43 c z)
  let t := keepV g.2 (konstV F 44 c z)
  let f := keepV t.2 (konstV F 45 c z)
  let y := keepV (needE [b] f.2) (toldOf (sumR [b.f2, g.1]))
  let h := keepV y.2 (toldOf (sumR [y.1, t.1, f.1]))
  setV h.2 b.f1 [⟨0, 0, b⟩, ⟨0, y.1, ⟨2, b.f1, t.1, 0, 0, 0, []⟩⟩, ⟨0, 0, ⟨0, 0, h.1, 0, 0, 0, []⟩⟩]

set_option maxRecDepth 100000 in
set_option maxHeartbeats 2000000 in
theorem over_calls (F : S63) (c z : Int) (b : S25) (Ab : Option Addr) (nb : Nat) (cs : List Value) (w : World) (hF : FontIn w F cs) (lb : b.f6.length ≤ nb) (hb : Kd.C k41 w Ab b.f6.length b.f6) :
    Calls Try.prog 33 #[.agg cs.toArray, .int .i64 c, .int .i64 z, .agg #[.int .i64 b.f0, .int .i64 b.f1, .int .i64 b.f2, .int .i64 b.f3, .int .i64 b.f4, .int .i64 b.f5, .slice Ab b.f6.length nb]] w fun r w' => ∃ A1 n1, r = .returned (.tuple #[.agg #[.int .i64 (overV F c z b).1, .int .i64 (overV F c z b).2.1, .int .i64 (overV F c z b).2.2.1, .int .i64 (overV F c z b).2.2.2.1, .int .i64 (overV F c z b).2.2.2.2.1, .int .i64 (overV F c z b).2.2.2.2.2.1, .slice A1 (overV F c z b).2.2.2.2.2.2.1.length n1], .int .i64 (overV F c z b).2.2.2.2.2.2.2]) ∧ (overV F c z b).2.2.2.2.2.2.1.length ≤ n1 ∧ Kd.C k41 w' A1 (overV F c z b).2.2.2.2.2.2.1.length (overV F c z b).2.2.2.2.2.2.1 ∧ Below w.heap.size w w' := by
  have hu39 := Try.underlying25
  have hu49 := Try.underlying41
  have hu36 := Try.underlying63
  have hu86 := Try.underlying110
  obtain ⟨R, hR⟩ : ∃ R, R = overV F c z b := ⟨_, rfl⟩
  rw [← hR]
  have HR := Aside0.mk hR
  clear hR
  obtain ⟨A6, c6, A7, c7, A8, c8, A9, c9, A10, c10, A11, c11, A12, c12, A13, c13, A15, c15, A16, c16, hcs, hcr⟩ := id hF
  subst hcs
  clear hcr
  have HF := Aside0.mk hF
  have HKb := Aside0.mk (k25_mk w b lb hb)
  have HLb := Aside0.mk lb
  have HCb := Aside0.mk hb
  clear hF hb lb
  go_enter Try.func33, Try.ntmps33
  have HP := Aside0.mk (Pd.start w)
  go_wp2_with (first | ((with_reducible refine gate_dst (N := 4) rfl ?_); refine box_event ?hg (N := 4) ?hd (cs := #[.int .i64 F.f0.f0, .int .i64 F.f0.f1, .int .i64 F.f0.f2, .int .i64 F.f0.f3, .int .i64 F.f0.f4, .bool F.f0.f5, .slice A6 F.f1.length c6, .slice A7 F.f2.length c7, .slice A8 F.f3.length c8, .slice A9 F.f4.f0.length c9, .slice A10 F.f4.f1.length c10, .slice A11 F.f4.f2.length c11, .slice A12 F.f4.f3.length c12, .slice A13 F.f4.f4.length c13, .int .i64 F.f4.f5.f0, .slice A15 F.f4.f5.f1.length c15, .slice A16 F.f4.f5.f2.length c16]) (t := 63) ?hr ?_; (case hd => rfl); (case hg => rfl); (case hr => first | (go_simp; done) | (go_simp; rfl)); intro gf hg wk hbox hb; replace HP := Aside0.mk (Pd.box (by with_reducible repeat (first | exact HP.out | apply Pd.drew)) hg hbox hb); clear hg hbox hb) | ((with_reducible refine gate_dst (N := 7) rfl ?_); refine box_event ?hg (N := 7) ?hd (cs := #[.int .i64 b.f0, .int .i64 b.f1, .int .i64 b.f2, .int .i64 b.f3, .int .i64 b.f4, .int .i64 b.f5, .slice Ab b.f6.length nb]) (t := 25) ?hr ?_; (case hd => rfl); (case hg => rfl); (case hr => first | (go_simp; done) | (go_simp; rfl)); intro gb hg wk hbox hb; replace HP := Aside0.mk (Pd.box (by with_reducible repeat (first | exact HP.out | apply Pd.drew)) hg hbox hb); clear hg hbox hb) | ((with_reducible refine gate_dst (N := 8) rfl ?_); refine box_event ?hg (N := 8) ?hd (cs := #[.int .i64 0, .int .i64 0, .int .i64 0, .int .i64 0, .int .i64 0, .int .i64 0, .slice none 0 0]) (t := 25) ?hr ?_; (case hd => rfl); (case hg => rfl); (case hr => first | (go_simp; done) | (go_simp; rfl)); intro gr hg wk hbox hb; replace HP := Aside0.mk (Pd.box (by with_reducible repeat (first | exact HP.out | apply Pd.drew)) hg hbox hb); clear hg hbox hb) | ((with_reducible refine gate_dst (N := 15) rfl ?_); refine wpList_load_row rfl 63 (.tmp 4) rfl gf (by rfl) 63 #[.int .i64 F.f0.f0, .int .i64 F.f0.f1, .int .i64 F.f0.f2, .int .i64 F.f0.f3, .int .i64 F.f0.f4, .bool F.f0.f5, .slice A6 F.f1.length c6, .slice A7 F.f2.length c7, .slice A8 F.f3.length c8, .slice A9 F.f4.f0.length c9, .slice A10 F.f4.f1.length c10, .slice A11 F.f4.f2.length c11, .slice A12 F.f4.f3.length c12, .slice A13 F.f4.f4.length c13, .int .i64 F.f4.f5.f0, .slice A15 F.f4.f5.f1.length c15, .slice A16 F.f4.f5.f2.length c16] (0, 0) _ (Pd.hd (Pd.tl (Pd.tl HP.out))) hu36 rfl info_font ?_) | ((with_reducible refine gate_dst (N := 19) rfl ?_); refine box_event ?hg (N := 19) ?hd (cs := #[.int .i64 0, .int .i64 F.f0.f0, .int .i64 F.f0.f1, .int .i64 F.f0.f2, .int .i64 F.f0.f3, .int .i64 F.f0.f4, .bool F.f0.f5, .slice A6 F.f1.length c6, .slice A7 F.f2.length c7, .slice A8 F.f3.length c8, .slice A9 F.f4.f0.length c9, .slice A10 F.f4.f1.length c10, .slice A11 F.f4.f2.length c11, .slice A12 F.f4.f3.length c12, .slice A13 F.f4.f4.length c13, .int .i64 F.f4.f5.f0, .slice A15 F.f4.f5.f1.length c15, .slice A16 F.f4.f5.f2.length c16, .int .i64 c, .int .i64 z]) (t := 110) ?hr ?_; (case hd => rfl); (case hg => rfl); (case hr => first | (go_simp; done) | (go_simp; rfl)); intro g hg wk hbox hb; replace HP := Aside0.mk (Pd.box (by with_reducible repeat (first | exact HP.out | apply Pd.drew)) hg hbox hb); clear hg hbox hb))
  refine (konst_pd (by with_reducible repeat (first | exact HP.out | apply Pd.drew)) HF.out (by rfl) 43).mono ?_
  rintro _ w1 ⟨rfl, hp⟩
  replace HP := Aside0.mk hp
  clear hp
  obtain ⟨gp, h_gp⟩ : ∃ gp, gp = keepV 0 (konstV F 43 c z) := ⟨_, rfl⟩
  rw [← h_gp] at HP ⊢
  have H_gp := Aside0.mk h_gp
  clear h_gp
  go_wp2_with fail
  refine (konst_pd (by with_reducible repeat (first | exact HP.out | apply Pd.drew)) HF.out (by rfl) 44).mono ?_
  rintro _ w1 ⟨rfl, hp⟩
  replace HP := Aside0.mk hp
  clear hp
  obtain ⟨th, h_th⟩ : ∃ th, th = keepV gp.2 (konstV F 44 c z) := ⟨_, rfl⟩
  rw [← h_th] at HP ⊢
  have H_th := Aside0.mk h_th
  clear h_th
  go_wp2_with fail
  refine (konst_pd (by with_reducible repeat (first | exact HP.out | apply Pd.drew)) HF.out (by rfl) 45).mono ?_
  rintro _ w1 ⟨rfl, hp⟩
  replace HP := Aside0.mk hp
  clear hp
  obtain ⟨fr, h_fr⟩ : ∃ fr, fr = keepV th.2 (konstV F 45 c z) := ⟨_, rfl⟩
  rw [← h_fr] at HP ⊢
  have H_fr := Aside0.mk h_fr
  clear h_fr
  go_wp2_with fail
  go_region_held3 (fun w' => w'.cell? ⟨gb, 0, none⟩ = some (.int .i64 b.f0) ∧ w'.cell? ⟨gb, 1, none⟩ = some (.int .i64 b.f1) ∧ w'.cell? ⟨gb, 2, none⟩ = some (.int .i64 b.f2) ∧ w'.cell? ⟨gb, 3, none⟩ = some (.int .i64 b.f3) ∧ w'.cell? ⟨gb, 4, none⟩ = some (.int .i64 b.f4) ∧ w'.cell? ⟨gb, 5, none⟩ = some (.int .i64 b.f5) ∧ w'.cell? ⟨gb, 6, none⟩ = some (.slice Ab b.f6.length nb)) (first | with_reducible exact box_cells (Pd.hd (Pd.tl (Pd.tl (by with_reducible repeat (first | exact HP.out | apply Pd.alloc | apply Pd.drew)))))) (first | (go_at_call 68; refine (need1_pd (by with_reducible first | exact Lit.refl _ _ | exact Lit.drew _ _) (by with_reducible repeat (first | exact HP.out | apply Pd.alloc | apply Pd.drew)) (by simp) HKb.out).mono ?_; rintro _ w1 ⟨rfl, hp⟩; replace HP := Aside0.mk hp; clear hp))
  obtain ⟨e2, h_e2⟩ : ∃ e2, e2 = needE [b] fr.2 := ⟨_, rfl⟩
  rw [← h_e2] at HP
  have H_e2 := Aside0.mk h_e2
  clear h_e2
  go_wp2_with fail
  go_region_held3 (fun w' => w'.cell? ⟨gb, 0, none⟩ = some (.int .i64 b.f0) ∧ w'.cell? ⟨gb, 1, none⟩ = some (.int .i64 b.f1) ∧ w'.cell? ⟨gb, 2, none⟩ = some (.int .i64 b.f2) ∧ w'.cell? ⟨gb, 3, none⟩ = some (.int .i64 b.f3) ∧ w'.cell? ⟨gb, 4, none⟩ = some (.int .i64 b.f4) ∧ w'.cell? ⟨gb, 5, none⟩ = some (.int .i64 b.f5) ∧ w'.cell? ⟨gb, 6, none⟩ = some (.slice Ab b.f6.length nb)) (first | with_reducible exact box_cells (Pd.hd (Pd.tl (Pd.tl (by with_reducible repeat (first | exact HP.out | apply Pd.alloc | apply Pd.drew)))))) (first | (go_at_call 69; (try simp only [i64_w]); refine (sum2_pd (by with_reducible first | exact Lit.refl _ _ | exact Lit.drew _ _) (by with_reducible repeat (first | exact HP.out | apply Pd.alloc | apply Pd.drew)) (by simp)).mono ?_; rintro _ w1 ⟨rfl, hp⟩; replace HP := Aside0.mk hp; clear hp))
  obtain ⟨y, h_y⟩ : ∃ y, y = keepV e2 (toldOf (sumR [b.f2, gp.1])) := ⟨_, rfl⟩
  rw [← h_y] at HP ⊢
  have H_y := Aside0.mk h_y
  clear h_y
  go_wp2_with fail
  go_region_held3 (fun w' => w'.cell? ⟨gb, 0, none⟩ = some (.int .i64 b.f0) ∧ w'.cell? ⟨gb, 1, none⟩ = some (.int .i64 b.f1) ∧ w'.cell? ⟨gb, 2, none⟩ = some (.int .i64 b.f2) ∧ w'.cell? ⟨gb, 3, none⟩ = some (.int .i64 b.f3) ∧ w'.cell? ⟨gb, 4, none⟩ = some (.int .i64 b.f4) ∧ w'.cell? ⟨gb, 5, none⟩ = some (.int .i64 b.f5) ∧ w'.cell? ⟨gb, 6, none⟩ = some (.slice Ab b.f6.length nb)) (first | with_reducible exact box_cells (Pd.hd (Pd.tl (Pd.tl (by with_reducible repeat (first | exact HP.out | apply Pd.alloc | apply Pd.drew))))) | with_reducible exact box_cells (Pd.hd (Pd.tl (Pd.tl (Pd.tl (by with_reducible repeat (first | exact HP.out | apply Pd.alloc | apply Pd.drew)))))) | with_reducible exact box_cells (Pd.hd (Pd.tl (Pd.st7 (Pd.tl (by with_reducible repeat (first | exact HP.out | apply Pd.alloc | apply Pd.drew))))))) (first | (go_at_call 71; refine (line_calls _ _ _ _ _).mono ?_; rintro _ w1 ⟨rfl, hb⟩; replace HP := Aside0.mk (Pd.below (by with_reducible repeat (first | exact HP.out | apply Pd.drew)) hb); clear hb) | (go_at_call 71; refine (line_calls _ _ _ _ _).mono ?_; rintro _ w1 ⟨rfl, hb⟩; replace HP := Aside0.mk (Pd.below (by with_reducible repeat (first | exact Pd.row HP.out _ | apply Pd.drew)) hb); clear hb) | (go_at_call 69; (try simp only [i64_w]); refine (sum3_at (by with_reducible repeat (first | exact HP.out | apply Pd.drew))).mono ?_; rintro _ w1 ⟨rfl, hp⟩; replace HP := Aside0.mk hp; clear hp) | (go_at_call 69; (try simp only [i64_w]); refine (sum3_pd (by with_reducible first | exact Lit.refl _ _ | exact Lit.drew _ _) (by with_reducible repeat (first | exact HP.out | apply Pd.alloc | apply Pd.drew)) (by simp)).mono ?_; rintro _ w1 ⟨rfl, hp⟩; replace HP := Aside0.mk hp; clear hp) | (go_at_call 72; refine (strut_calls _ _ _).mono ?_; rintro _ w1 ⟨rfl, hb⟩; replace HP := Aside0.mk (Pd.below (by with_reducible repeat (first | exact HP.out | apply Pd.alloc | apply Pd.drew)) hb); clear hb) | (go_at_call 70; refine (set_row b.f1 [⟨0, 0, b⟩, ⟨0, y.1, ⟨2, b.f1, th.1, 0, 0, 0, []⟩⟩, ⟨0, 0, ⟨0, 0, (keepV y.2 (toldOf (sumR [y.1, th.1, fr.1]))).1, 0, 0, 0, []⟩⟩] [[.int .i64 0, .int .i64 0, .int .i64 b.f0, .int .i64 b.f1, .int .i64 b.f2, .int .i64 b.f3, .int .i64 b.f4, .int .i64 b.f5, .slice Ab b.f6.length nb], [.int .i64 0, .int .i64 y.1, .int .i64 2, .int .i64 b.f1, .int .i64 th.1, .int .i64 0, .int .i64 0, .int .i64 0, .slice none 0 0], [.int .i64 0, .int .i64 0, .int .i64 0, .int .i64 0, .int .i64 (keepV y.2 (toldOf (sumR [y.1, th.1, fr.1]))).1, .int .i64 0, .int .i64 0, .int .i64 0, .slice none 0 0]] (by simp) (by first | exact Lit.refl _ _ | exact Lit.drew _ _) (by with_reducible repeat (first | exact HP.out | apply Pd.alloc | apply Pd.drew)) (by simp) ⟨k41_mk w ⟨0, 0, b⟩ HLb.out HCb.out, k41_mk w ⟨0, y.1, ⟨2, b.f1, th.1, 0, 0, 0, []⟩⟩ (A8 := none) (c8 := 0) (Nat.le_refl _) ⟨rfl, Nat.zero_le _, fun h => absurd h (Nat.lt_irrefl 0)⟩, k41_mk w ⟨0, 0, ⟨0, 0, (keepV y.2 (toldOf (sumR [y.1, th.1, fr.1]))).1, 0, 0, 0, []⟩⟩ (A8 := none) (c8 := 0) (Nat.le_refl _) ⟨rfl, Nat.zero_le _, fun h => absurd h (Nat.lt_irrefl 0)⟩, trivial⟩).mono ?_; rintro _ w1 ⟨A1, n1, rfl, hl, hf, hp⟩; replace HP := Aside0.mk hp; have HLL := Aside0.mk hl; have HFF := Aside0.mk hf; clear hp hl hf; obtain ⟨V, h_V⟩ : ∃ V, V = setV (keepV y.2 (toldOf (sumR [y.1, th.1, fr.1]))).2 b.f1 [⟨0, 0, b⟩, ⟨0, y.1, ⟨2, b.f1, th.1, 0, 0, 0, []⟩⟩, ⟨0, 0, ⟨0, 0, (keepV y.2 (toldOf (sumR [y.1, th.1, fr.1]))).1, 0, 0, 0, []⟩⟩] := ⟨_, rfl⟩; rw [← h_V] at HLL HFF ⊢; have H_V := Aside0.mk h_V; clear h_V; have hcz := cells7 (Pd.hd (Pd.tl HP.out)); have hfz := froz7 (Pd.hd (Pd.tl HP.out))))
  all_goals go_wp2
  all_goals refine bodyPost_ret (results_ct rfl _ _ gr 25 #[.int .i64 V.1, .int .i64 V.2.1, .int .i64 V.2.2.1, .int .i64 V.2.2.2.1, .int .i64 V.2.2.2.2.1, .int .i64 V.2.2.2.2.2.1, .slice A1 V.2.2.2.2.2.2.1.length n1] (0, 0) _ rfl (put7 (Pd.hd (Pd.tl HP.out))) hu39 rfl (by kernel_rfl)) rfl ?_
  all_goals (obtain rfl : V = R := by (rw [HR.out]; have h_gp := H_gp.out; have h_th := H_th.out; have h_fr := H_fr.out; have h_e2 := H_e2.out; have h_y := H_y.out; have h_V := H_V.out; subst h_gp h_th h_fr h_e2 h_y h_V; unfold overV; exact rfl))
  all_goals exact ⟨A1, n1, rfl, HLL.out, HFF.out _ (fun k hk _ => far7 _ (hk (gr, _) (List.mem_cons_of_mem _ List.mem_cons_self))), Pre.bel (Pd.toPre (Pd.st7 HP.out.tl))⟩
end Go.Proofs.Ytbhljokhcmfgjaa.P
