import Derived.Test.YtjkbblnebpgpfaaTCalc2
/- The document's lines (layer 27): short walks. Printed by a program of this work (mkref27.py). -/
set_option linter.unusedVariables false
set_option linter.unusedSimpArgs false
namespace Go.Proofs.Ytjkbblnebpgpfaa.P
open Go.RowKit Go.Proofs.YtjkbblnebpgpfaaW.PrintWords Go.Proofs.YtjkbblnebpgpfaaW.PrintLast Go.Proofs.YtjkbblnebpgpfaaW.PrintMore

section
variable {w W : World} {L : List (Nat × Obj)} {g : Nat} {e : Int} {rest : List Value} {t : TypeId}
/-- Set of a row of kids that is written out. -/
theorem setlit_cd {b : Nat} {t1 : TypeId} (wd : Int) (xs : List S49) (css : List (List Value)) (hx : xs.length < 1599289640401) (h : Pd w W ((g, .cells (Value.int .i64 e :: rest).toArray t (0, 0)) :: L)) (hb : b = W.heap.size) (hK : Each (k49.K w) xs css) : Calls Try.prog 51 #[.pointer (some ⟨g, 0, none⟩), .int .i64 wd, .slice (some ⟨b, 0, none⟩) xs.length xs.length] (W.alloc (.cells css.flatten.toArray t1)) fun r w' => ∃ A1 n1, r = .returned (.tuple #[.agg #[.int .i64 (setV e wd xs).1, .int .i64 (setV e wd xs).2.1, .int .i64 (setV e wd xs).2.2.1, .int .i64 (setV e wd xs).2.2.2.1, .int .i64 (setV e wd xs).2.2.2.2.1, .int .i64 (setV e wd xs).2.2.2.2.2.1, .slice A1 (setV e wd xs).2.2.2.2.2.2.1.length n1], .int .i64 (setV e wd xs).2.2.2.2.2.2.2]) ∧ (setV e wd xs).2.2.2.2.2.2.1.length ≤ n1 ∧ Kd.F k49 w' (fun k => ∀ p ∈ (g, Obj.cells (Value.int .i64 e :: rest).toArray t (0, 0)) :: L, k ≠ p.1) A1 (setV e wd xs).2.2.2.2.2.2.1.length (setV e wd xs).2.2.2.2.2.2.1 ∧ Pd w w' ((g, .cells (Value.int .i64 e :: rest).toArray t (0, 0)) :: L) := by
  subst hb
  have h1 : Pd w (W.alloc (.cells css.flatten.toArray t1)) ((g, .cells (Value.int .i64 e :: rest).toArray t (0, 0)) :: (W.heap.size, .cells css.flatten.toArray t1 (0, 0)) :: L) := (h.row _).swp
  refine (set_cd wd xs hx h1 ((Src.block hK).mono fun _ h => h.swp)).mono ?_
  rintro r w' ⟨A1, n1, h2, h3, h4, h5⟩
  exact ⟨A1, n1, h2, h3, Kd.F_mono h4 (fun k hk p hp => hk p (by
    rcases List.mem_cons.1 hp with rfl | hp
    · exact List.mem_cons_self
    · exact List.mem_cons_of_mem _ (List.mem_cons_of_mem _ hp))), h5.skip⟩
end
theorem cells23 {W : World} {b : Nat} {x : S39} {v : Value} {t : TypeId} (h : W.heap[b]? = some (.cells #[.int .i64 x.f0, .int .i64 x.f1, .int .i64 x.f2, .int .i64 x.f3, .int .i64 x.f4, .int .i64 x.f5, v] t (0, 0))) : W.cell? ⟨b, 2, none⟩ = some (.int .i64 x.f2) ∧ W.cell? ⟨b, 3, none⟩ = some (.int .i64 x.f3) := ⟨blk_cell h 2, blk_cell h 3⟩
theorem keep_zero {e : Int} (r : Int × Int) (_h : r.2 ≠ 0 → r.1 = 0) : (keepV e r).2 ≠ 0 → (keepV e r).1 = 0 := by
  intro h
  unfold keepV at h ⊢
  split
  · next h2 => rw [if_pos h2.1] at h; exact absurd h2.2 h
  · rfl
def rOverV (F : S36) (c z : Int) (b : S39) : BoxV :=
  let g := keepV 0 (konstV F 43 c z)
  let t := keepV g.2 (konstV F 44 c z)
  let f := keepV t.2 (konstV F 45 c z)
  let y := keepV (needE [b] f.2) (toldOf (sumR [b.f2, g.1]))
  let p := keepV y.2 (toldOf (sumR [y.1, t.1]))
  let h := keepV p.2 (toldOf (sumR [p.1, f.1]))
  setV h.2 b.f1 [⟨0, 0, b⟩, ⟨0, y.1, ⟨2, b.f1, t.1, 0, 0, 0, []⟩⟩, ⟨0, 0, ⟨0, 0, h.1, 0, 0, 0, []⟩⟩]
def rUnderV (F : S36) (c z : Int) (b : S39) : BoxV :=
  let g := keepV 0 (konstV F 46 c z)
  let t := keepV g.2 (konstV F 47 c z)
  let f := keepV t.2 (konstV F 48 c z)
  let p := keepV (needE [b] f.2) (toldOf (sumR [b.f3, g.1]))
  let y := keepV p.2 (toldOf (sumR [p.1, t.1]))
  let h := keepV y.2 (toldOf (sumR [y.1, f.1]))
  setV h.2 b.f1 [⟨0, 0, b⟩, ⟨0, wrap64 (-y.1), ⟨2, b.f1, t.1, 0, 0, 0, []⟩⟩, ⟨0, 0, ⟨0, 0, 0, h.1, 0, 0, []⟩⟩]
def rNeedV (F : S36) (c z : Int) (b : S39) : Int × Int :=
  let g := keepV 0 (konstV F (if c < 2 then 50 else 49) c z)
  let t := keepV g.2 (konstV F 51 c z)
  let p := keepV (needE [b] t.2) (toldOf (sumR [g.1, t.1]))
  let q := keepV p.2 (toldOf (sumR [p.1, b.f2]))
  keepV q.2 (toldOf (sumR [q.1, b.f3]))

set_option maxRecDepth 100000 in
set_option maxHeartbeats 2000000 in
theorem rover_calls (F : S36) (c z : Int) (b : S39) (Ab : Option Addr) (nb : Nat) (cs : List Value) (w : World) (hF : FontIn w F cs) (lb : b.f6.length ≤ nb) (hb : Kd.C k49 w Ab b.f6.length b.f6) : Calls Try.prog 31 #[.agg cs.toArray, .int .i64 c, .int .i64 z, .agg #[.int .i64 b.f0, .int .i64 b.f1, .int .i64 b.f2, .int .i64 b.f3, .int .i64 b.f4, .int .i64 b.f5, .slice Ab b.f6.length nb]] w fun r w' => ∃ A1 n1, r = .returned (.tuple #[.agg #[.int .i64 (rOverV F c z b).1, .int .i64 (rOverV F c z b).2.1, .int .i64 (rOverV F c z b).2.2.1, .int .i64 (rOverV F c z b).2.2.2.1, .int .i64 (rOverV F c z b).2.2.2.2.1, .int .i64 (rOverV F c z b).2.2.2.2.2.1, .slice A1 (rOverV F c z b).2.2.2.2.2.2.1.length n1], .int .i64 (rOverV F c z b).2.2.2.2.2.2.2]) ∧ (rOverV F c z b).2.2.2.2.2.2.1.length ≤ n1 ∧ Kd.C k49 w' A1 (rOverV F c z b).2.2.2.2.2.2.1.length (rOverV F c z b).2.2.2.2.2.2.1 ∧ Below w.heap.size w w' := by
  have hu39 := Try.underlying39
  have hu36 := Try.underlying36
  have hu49 := Try.underlying49
  have hu74 := Try.underlying74
  obtain ⟨A6, c6, A7, c7, A8, c8, A9, c9, A10, c10, A11, c11, A12, c12, A13, c13, A15, c15, A16, c16, hcs, hcr⟩ := id hF
  subst hcs
  clear hcr
  have HF := Aside0.mk hF
  have HLb := Aside0.mk lb
  have HCb := Aside0.mk hb
  clear hF lb hb
  go_enter Try.func31, Try.ntmps31
  have HP := Aside0.mk (Pd.start w)
  go_wp2_with (first | ((with_reducible refine gate_dst (N := 4) rfl ?_); refine box_event ?hg (N := 4) ?hd (cs := #[.int .i64 F.f0.f0, .int .i64 F.f0.f1, .int .i64 F.f0.f2, .int .i64 F.f0.f3, .int .i64 F.f0.f4, .bool F.f0.f5, .slice A6 F.f1.length c6, .slice A7 F.f2.length c7, .slice A8 F.f3.length c8, .slice A9 F.f4.f0.length c9, .slice A10 F.f4.f1.length c10, .slice A11 F.f4.f2.length c11, .slice A12 F.f4.f3.length c12, .slice A13 F.f4.f4.length c13, .int .i64 F.f4.f5.f0, .slice A15 F.f4.f5.f1.length c15, .slice A16 F.f4.f5.f2.length c16]) (t := 36) ?hr ?_; (case hd => rfl); (case hg => rfl); (case hr => first | (go_simp; done) | (go_simp; rfl)); intro gf hg wk hbox hb; replace HP := Aside0.mk (Pd.box (by with_reducible repeat (first | exact HP.out | apply Pd.drew)) hg hbox hb); clear hg hbox hb) | ((with_reducible refine gate_dst (N := 7) rfl ?_); refine box_event ?hg (N := 7) ?hd (cs := #[.int .i64 b.f0, .int .i64 b.f1, .int .i64 b.f2, .int .i64 b.f3, .int .i64 b.f4, .int .i64 b.f5, .slice Ab b.f6.length nb]) (t := 39) ?hr ?_; (case hd => rfl); (case hg => rfl); (case hr => first | (go_simp; done) | (go_simp; rfl)); intro gb hg wk hbox hb; replace HP := Aside0.mk (Pd.box (by with_reducible repeat (first | exact HP.out | apply Pd.drew)) hg hbox hb); clear hg hbox hb) | ((with_reducible refine gate_dst (N := 8) rfl ?_); refine box_event ?hg (N := 8) ?hd (cs := #[.int .i64 0, .int .i64 0, .int .i64 0, .int .i64 0, .int .i64 0, .int .i64 0, .slice none 0 0]) (t := 39) ?hr ?_; (case hd => rfl); (case hg => rfl); (case hr => first | (go_simp; done) | (go_simp; rfl)); intro gr hg wk hbox hb; replace HP := Aside0.mk (Pd.box (by with_reducible repeat (first | exact HP.out | apply Pd.drew)) hg hbox hb); clear hg hbox hb) | ((with_reducible refine gate_dst (N := 20) rfl ?_); refine box_event ?hg (N := 20) ?hd (cs := #[.int .i64 0]) (t := 74) ?hr ?_; (case hd => rfl); (case hg => rfl); (case hr => first | (go_simp; done) | (go_simp; rfl)); intro gk hg wk hbox hb; replace HP := Aside0.mk (Pd.box (by with_reducible repeat (first | exact HP.out | apply Pd.drew)) hg hbox hb); clear hg hbox hb) | ((with_reducible refine gate_dst (N := 22) rfl ?_); refine wpList_load_row rfl 36 (.tmp 4) rfl gf (by rfl) 36 #[.int .i64 F.f0.f0, .int .i64 F.f0.f1, .int .i64 F.f0.f2, .int .i64 F.f0.f3, .int .i64 F.f0.f4, .bool F.f0.f5, .slice A6 F.f1.length c6, .slice A7 F.f2.length c7, .slice A8 F.f3.length c8, .slice A9 F.f4.f0.length c9, .slice A10 F.f4.f1.length c10, .slice A11 F.f4.f2.length c11, .slice A12 F.f4.f3.length c12, .slice A13 F.f4.f4.length c13, .int .i64 F.f4.f5.f0, .slice A15 F.f4.f5.f1.length c15, .slice A16 F.f4.f5.f2.length c16] (0, 0) _ (Pd.hd (Pd.tl (Pd.tl (Pd.tl (by with_reducible repeat (first | exact HP.out | apply Pd.drew)))))) hu36 rfl info_font ?_))
  refine (konst_cd HP.out HF.out (by rfl) 43 c z).mono ?_
  rintro _ w1 ⟨rfl, hp⟩
  replace HP := Aside0.mk hp
  clear hp
  obtain ⟨gp, h_gp⟩ : ∃ gp, gp = keepV 0 (konstV F 43 c z) := ⟨_, rfl⟩
  rw [← h_gp] at HP ⊢
  have H_gp := Aside0.mk h_gp
  clear h_gp
  go_wp2_with (first | ((with_reducible refine gate_dst (N := 27) rfl ?_); refine wpList_load_row rfl 36 (.tmp 4) rfl gf (by rfl) 36 #[.int .i64 F.f0.f0, .int .i64 F.f0.f1, .int .i64 F.f0.f2, .int .i64 F.f0.f3, .int .i64 F.f0.f4, .bool F.f0.f5, .slice A6 F.f1.length c6, .slice A7 F.f2.length c7, .slice A8 F.f3.length c8, .slice A9 F.f4.f0.length c9, .slice A10 F.f4.f1.length c10, .slice A11 F.f4.f2.length c11, .slice A12 F.f4.f3.length c12, .slice A13 F.f4.f4.length c13, .int .i64 F.f4.f5.f0, .slice A15 F.f4.f5.f1.length c15, .slice A16 F.f4.f5.f2.length c16] (0, 0) _ (Pd.hd (Pd.tl (Pd.tl (Pd.tl (by with_reducible repeat (first | exact HP.out | apply Pd.drew)))))) hu36 rfl info_font ?_))
  refine (konst_cd HP.out HF.out (by rfl) 44 c z).mono ?_
  rintro _ w1 ⟨rfl, hp⟩
  replace HP := Aside0.mk hp
  clear hp
  obtain ⟨th, h_th⟩ : ∃ th, th = keepV gp.2 (konstV F 44 c z) := ⟨_, rfl⟩
  rw [← h_th] at HP ⊢
  have H_th := Aside0.mk h_th
  clear h_th
  go_wp2_with (first | ((with_reducible refine gate_dst (N := 32) rfl ?_); refine wpList_load_row rfl 36 (.tmp 4) rfl gf (by rfl) 36 #[.int .i64 F.f0.f0, .int .i64 F.f0.f1, .int .i64 F.f0.f2, .int .i64 F.f0.f3, .int .i64 F.f0.f4, .bool F.f0.f5, .slice A6 F.f1.length c6, .slice A7 F.f2.length c7, .slice A8 F.f3.length c8, .slice A9 F.f4.f0.length c9, .slice A10 F.f4.f1.length c10, .slice A11 F.f4.f2.length c11, .slice A12 F.f4.f3.length c12, .slice A13 F.f4.f4.length c13, .int .i64 F.f4.f5.f0, .slice A15 F.f4.f5.f1.length c15, .slice A16 F.f4.f5.f2.length c16] (0, 0) _ (Pd.hd (Pd.tl (Pd.tl (Pd.tl (by with_reducible repeat (first | exact HP.out | apply Pd.drew)))))) hu36 rfl info_font ?_))
  refine (konst_cd HP.out HF.out (by rfl) 45 c z).mono ?_
  rintro _ w1 ⟨rfl, hp⟩
  replace HP := Aside0.mk hp
  clear hp
  obtain ⟨fr, h_fr⟩ : ∃ fr, fr = keepV th.2 (konstV F 45 c z) := ⟨_, rfl⟩
  rw [← h_fr] at HP ⊢
  have H_fr := Aside0.mk h_fr
  clear h_fr
  have hc_b := box_cells (Pd.hd (Pd.tl (Pd.tl HP.out)))
  go_wp2_with fail
  clear hc_b
  refine (need_cd HP.out b Ab nb).mono ?_
  rintro _ w1 ⟨rfl, hp⟩
  replace HP := Aside0.mk hp
  clear hp
  obtain ⟨e_b, h_e_b⟩ : ∃ e_b, e_b = needE [b] fr.2 := ⟨_, rfl⟩
  rw [← h_e_b] at HP
  have H_e_b := Aside0.mk h_e_b
  clear h_e_b
  have hc_b := box_cells (Pd.hd (Pd.tl (Pd.tl HP.out)))
  go_wp2_with fail
  clear hc_b
  (try simp only [i64_w])
  refine (add_cd HP.out b.f2 gp.1).mono ?_
  rintro _ w1 ⟨rfl, hp⟩
  replace HP := Aside0.mk hp
  clear hp
  obtain ⟨y, h_y⟩ : ∃ y, y = keepV e_b (toldOf (sumR [b.f2, gp.1])) := ⟨_, rfl⟩
  rw [← h_y] at HP ⊢
  have H_y := Aside0.mk h_y
  clear h_y
  go_wp2_with fail
  (try simp only [i64_w])
  refine (add_cd HP.out y.1 th.1).mono ?_
  rintro _ w1 ⟨rfl, hp⟩
  replace HP := Aside0.mk hp
  clear hp
  obtain ⟨p1, h_p1⟩ : ∃ p1, p1 = keepV y.2 (toldOf (sumR [y.1, th.1])) := ⟨_, rfl⟩
  rw [← h_p1] at HP ⊢
  have H_p1 := Aside0.mk h_p1
  clear h_p1
  go_wp2_with fail
  (try simp only [i64_w])
  refine (add_cd HP.out p1.1 fr.1).mono ?_
  rintro _ w1 ⟨rfl, hp⟩
  replace HP := Aside0.mk hp
  clear hp
  obtain ⟨hh, h_hh⟩ : ∃ hh, hh = keepV p1.2 (toldOf (sumR [p1.1, fr.1])) := ⟨_, rfl⟩
  rw [← h_hh] at HP ⊢
  have H_hh := Aside0.mk h_hh
  clear h_hh
  have hc_b := box_cells (Pd.hd (Pd.tl (Pd.tl HP.out)))
  have hc_b2 := fun ob : Obj => box_cells (Pd.hd (Pd.tl (Pd.tl (Pd.alc HP.out ob))))
  go_wp2_with fail
  clear hc_b hc_b2
  refine (setlit_cd b.f1 [⟨0, 0, b⟩, ⟨0, y.1, ⟨2, b.f1, th.1, 0, 0, 0, []⟩⟩, ⟨0, 0, ⟨0, 0, hh.1, 0, 0, 0, []⟩⟩] [[.int .i64 0, .int .i64 0, .int .i64 b.f0, .int .i64 b.f1, .int .i64 b.f2, .int .i64 b.f3, .int .i64 b.f4, .int .i64 b.f5, .slice Ab b.f6.length nb], [.int .i64 0, .int .i64 y.1, .int .i64 2, .int .i64 b.f1, .int .i64 th.1, .int .i64 0, .int .i64 0, .int .i64 0, .slice none 0 0], [.int .i64 0, .int .i64 0, .int .i64 0, .int .i64 0, .int .i64 hh.1, .int .i64 0, .int .i64 0, .int .i64 0, .slice none 0 0]] (by simp) (Pd.alc HP.out _) ?hb ⟨k49_mk w ⟨0, 0, b⟩ HLb.out HCb.out, k49_mk w ⟨0, y.1, ⟨2, b.f1, th.1, 0, 0, 0, []⟩⟩ (A8 := none) (c8 := 0) (Nat.le_refl _) ⟨rfl, Nat.zero_le _, fun h => absurd h (Nat.lt_irrefl 0)⟩, k49_mk w ⟨0, 0, ⟨0, 0, hh.1, 0, 0, 0, []⟩⟩ (A8 := none) (c8 := 0) (Nat.le_refl _) ⟨rfl, Nat.zero_le _, fun h => absurd h (Nat.lt_irrefl 0)⟩, trivial⟩).mono ?_
  case hb => simp
  rintro _ w1 ⟨A1, n1, rfl, hl, hf, hp⟩
  replace HP := Aside0.mk hp
  have HLL := Aside0.mk hl
  have HFF := Aside0.mk hf
  clear hp hl hf
  obtain ⟨V, h_V⟩ : ∃ V, V = setV hh.2 b.f1 [⟨0, 0, b⟩, ⟨0, y.1, ⟨2, b.f1, th.1, 0, 0, 0, []⟩⟩, ⟨0, 0, ⟨0, 0, hh.1, 0, 0, 0, []⟩⟩] := ⟨_, rfl⟩
  rw [← h_V] at HLL HFF ⊢
  have H_V := Aside0.mk h_V
  clear h_V
  have hcz := fun ob : Obj => cells7 (Pd.hd (Pd.tl (Pd.alc HP.out ob)))
  have hfz := fun ob : Obj => froz7 (Pd.hd (Pd.tl (Pd.alc HP.out ob)))
  go_wp2
  refine bodyPost_ret (results_ct rfl _ _ gr 39 #[.int .i64 V.1, .int .i64 V.2.1, .int .i64 V.2.2.1, .int .i64 V.2.2.2.1, .int .i64 V.2.2.2.2.1, .int .i64 V.2.2.2.2.2.1, .slice A1 V.2.2.2.2.2.2.1.length n1] (0, 0) _ rfl (put7 (Pd.hd (Pd.tl (Pd.alc HP.out _)))) hu39 rfl (by kernel_rfl)) rfl ?_
  have hVR : V = rOverV F c z b := by (have h_gp := H_gp.out; have h_th := H_th.out; have h_fr := H_fr.out; have h_e_b := H_e_b.out; have h_y := H_y.out; have h_p1 := H_p1.out; have h_hh := H_hh.out; have h_V := H_V.out; subst h_gp h_th h_fr h_e_b h_y h_p1 h_hh h_V; rfl)
  rw [← hVR]
  exact ⟨A1, n1, rfl, HLL.out, HFF.out _ (fun k hk hlt => (far7 _ (hk (gr, _) (List.mem_cons_of_mem _ List.mem_cons_self))).trans (alloc_heap_lt hlt)), Pre.bel (Pd.toPre (Pd.st7 (Pd.alc HP.out _).tl))⟩
set_option maxRecDepth 100000 in
set_option maxHeartbeats 2000000 in
theorem runder_calls (F : S36) (c z : Int) (b : S39) (Ab : Option Addr) (nb : Nat) (cs : List Value) (w : World) (hF : FontIn w F cs) (lb : b.f6.length ≤ nb) (hb : Kd.C k49 w Ab b.f6.length b.f6) : Calls Try.prog 33 #[.agg cs.toArray, .int .i64 c, .int .i64 z, .agg #[.int .i64 b.f0, .int .i64 b.f1, .int .i64 b.f2, .int .i64 b.f3, .int .i64 b.f4, .int .i64 b.f5, .slice Ab b.f6.length nb]] w fun r w' => ∃ A1 n1, r = .returned (.tuple #[.agg #[.int .i64 (rUnderV F c z b).1, .int .i64 (rUnderV F c z b).2.1, .int .i64 (rUnderV F c z b).2.2.1, .int .i64 (rUnderV F c z b).2.2.2.1, .int .i64 (rUnderV F c z b).2.2.2.2.1, .int .i64 (rUnderV F c z b).2.2.2.2.2.1, .slice A1 (rUnderV F c z b).2.2.2.2.2.2.1.length n1], .int .i64 (rUnderV F c z b).2.2.2.2.2.2.2]) ∧ (rUnderV F c z b).2.2.2.2.2.2.1.length ≤ n1 ∧ Kd.C k49 w' A1 (rUnderV F c z b).2.2.2.2.2.2.1.length (rUnderV F c z b).2.2.2.2.2.2.1 ∧ Below w.heap.size w w' := by
  have hu39 := Try.underlying39
  have hu36 := Try.underlying36
  have hu49 := Try.underlying49
  have hu74 := Try.underlying74
  obtain ⟨A6, c6, A7, c7, A8, c8, A9, c9, A10, c10, A11, c11, A12, c12, A13, c13, A15, c15, A16, c16, hcs, hcr⟩ := id hF
  subst hcs
  clear hcr
  have HF := Aside0.mk hF
  have HLb := Aside0.mk lb
  have HCb := Aside0.mk hb
  clear hF lb hb
  go_enter Try.func33, Try.ntmps33
  have HP := Aside0.mk (Pd.start w)
  go_wp2_with (first | ((with_reducible refine gate_dst (N := 4) rfl ?_); refine box_event ?hg (N := 4) ?hd (cs := #[.int .i64 F.f0.f0, .int .i64 F.f0.f1, .int .i64 F.f0.f2, .int .i64 F.f0.f3, .int .i64 F.f0.f4, .bool F.f0.f5, .slice A6 F.f1.length c6, .slice A7 F.f2.length c7, .slice A8 F.f3.length c8, .slice A9 F.f4.f0.length c9, .slice A10 F.f4.f1.length c10, .slice A11 F.f4.f2.length c11, .slice A12 F.f4.f3.length c12, .slice A13 F.f4.f4.length c13, .int .i64 F.f4.f5.f0, .slice A15 F.f4.f5.f1.length c15, .slice A16 F.f4.f5.f2.length c16]) (t := 36) ?hr ?_; (case hd => rfl); (case hg => rfl); (case hr => first | (go_simp; done) | (go_simp; rfl)); intro gf hg wk hbox hb; replace HP := Aside0.mk (Pd.box (by with_reducible repeat (first | exact HP.out | apply Pd.drew)) hg hbox hb); clear hg hbox hb) | ((with_reducible refine gate_dst (N := 7) rfl ?_); refine box_event ?hg (N := 7) ?hd (cs := #[.int .i64 b.f0, .int .i64 b.f1, .int .i64 b.f2, .int .i64 b.f3, .int .i64 b.f4, .int .i64 b.f5, .slice Ab b.f6.length nb]) (t := 39) ?hr ?_; (case hd => rfl); (case hg => rfl); (case hr => first | (go_simp; done) | (go_simp; rfl)); intro gb hg wk hbox hb; replace HP := Aside0.mk (Pd.box (by with_reducible repeat (first | exact HP.out | apply Pd.drew)) hg hbox hb); clear hg hbox hb) | ((with_reducible refine gate_dst (N := 8) rfl ?_); refine box_event ?hg (N := 8) ?hd (cs := #[.int .i64 0, .int .i64 0, .int .i64 0, .int .i64 0, .int .i64 0, .int .i64 0, .slice none 0 0]) (t := 39) ?hr ?_; (case hd => rfl); (case hg => rfl); (case hr => first | (go_simp; done) | (go_simp; rfl)); intro gr hg wk hbox hb; replace HP := Aside0.mk (Pd.box (by with_reducible repeat (first | exact HP.out | apply Pd.drew)) hg hbox hb); clear hg hbox hb) | ((with_reducible refine gate_dst (N := 20) rfl ?_); refine box_event ?hg (N := 20) ?hd (cs := #[.int .i64 0]) (t := 74) ?hr ?_; (case hd => rfl); (case hg => rfl); (case hr => first | (go_simp; done) | (go_simp; rfl)); intro gk hg wk hbox hb; replace HP := Aside0.mk (Pd.box (by with_reducible repeat (first | exact HP.out | apply Pd.drew)) hg hbox hb); clear hg hbox hb) | ((with_reducible refine gate_dst (N := 22) rfl ?_); refine wpList_load_row rfl 36 (.tmp 4) rfl gf (by rfl) 36 #[.int .i64 F.f0.f0, .int .i64 F.f0.f1, .int .i64 F.f0.f2, .int .i64 F.f0.f3, .int .i64 F.f0.f4, .bool F.f0.f5, .slice A6 F.f1.length c6, .slice A7 F.f2.length c7, .slice A8 F.f3.length c8, .slice A9 F.f4.f0.length c9, .slice A10 F.f4.f1.length c10, .slice A11 F.f4.f2.length c11, .slice A12 F.f4.f3.length c12, .slice A13 F.f4.f4.length c13, .int .i64 F.f4.f5.f0, .slice A15 F.f4.f5.f1.length c15, .slice A16 F.f4.f5.f2.length c16] (0, 0) _ (Pd.hd (Pd.tl (Pd.tl (Pd.tl (by with_reducible repeat (first | exact HP.out | apply Pd.drew)))))) hu36 rfl info_font ?_))
  refine (konst_cd HP.out HF.out (by rfl) 46 c z).mono ?_
  rintro _ w1 ⟨rfl, hp⟩
  replace HP := Aside0.mk hp
  clear hp
  obtain ⟨gp, h_gp⟩ : ∃ gp, gp = keepV 0 (konstV F 46 c z) := ⟨_, rfl⟩
  rw [← h_gp] at HP ⊢
  have H_gp := Aside0.mk h_gp
  clear h_gp
  go_wp2_with (first | ((with_reducible refine gate_dst (N := 27) rfl ?_); refine wpList_load_row rfl 36 (.tmp 4) rfl gf (by rfl) 36 #[.int .i64 F.f0.f0, .int .i64 F.f0.f1, .int .i64 F.f0.f2, .int .i64 F.f0.f3, .int .i64 F.f0.f4, .bool F.f0.f5, .slice A6 F.f1.length c6, .slice A7 F.f2.length c7, .slice A8 F.f3.length c8, .slice A9 F.f4.f0.length c9, .slice A10 F.f4.f1.length c10, .slice A11 F.f4.f2.length c11, .slice A12 F.f4.f3.length c12, .slice A13 F.f4.f4.length c13, .int .i64 F.f4.f5.f0, .slice A15 F.f4.f5.f1.length c15, .slice A16 F.f4.f5.f2.length c16] (0, 0) _ (Pd.hd (Pd.tl (Pd.tl (Pd.tl (by with_reducible repeat (first | exact HP.out | apply Pd.drew)))))) hu36 rfl info_font ?_))
  refine (konst_cd HP.out HF.out (by rfl) 47 c z).mono ?_
  rintro _ w1 ⟨rfl, hp⟩
  replace HP := Aside0.mk hp
  clear hp
  obtain ⟨th, h_th⟩ : ∃ th, th = keepV gp.2 (konstV F 47 c z) := ⟨_, rfl⟩
  rw [← h_th] at HP ⊢
  have H_th := Aside0.mk h_th
  clear h_th
  go_wp2_with (first | ((with_reducible refine gate_dst (N := 32) rfl ?_); refine wpList_load_row rfl 36 (.tmp 4) rfl gf (by rfl) 36 #[.int .i64 F.f0.f0, .int .i64 F.f0.f1, .int .i64 F.f0.f2, .int .i64 F.f0.f3, .int .i64 F.f0.f4, .bool F.f0.f5, .slice A6 F.f1.length c6, .slice A7 F.f2.length c7, .slice A8 F.f3.length c8, .slice A9 F.f4.f0.length c9, .slice A10 F.f4.f1.length c10, .slice A11 F.f4.f2.length c11, .slice A12 F.f4.f3.length c12, .slice A13 F.f4.f4.length c13, .int .i64 F.f4.f5.f0, .slice A15 F.f4.f5.f1.length c15, .slice A16 F.f4.f5.f2.length c16] (0, 0) _ (Pd.hd (Pd.tl (Pd.tl (Pd.tl (by with_reducible repeat (first | exact HP.out | apply Pd.drew)))))) hu36 rfl info_font ?_))
  refine (konst_cd HP.out HF.out (by rfl) 48 c z).mono ?_
  rintro _ w1 ⟨rfl, hp⟩
  replace HP := Aside0.mk hp
  clear hp
  obtain ⟨fr, h_fr⟩ : ∃ fr, fr = keepV th.2 (konstV F 48 c z) := ⟨_, rfl⟩
  rw [← h_fr] at HP ⊢
  have H_fr := Aside0.mk h_fr
  clear h_fr
  have hc_b := box_cells (Pd.hd (Pd.tl (Pd.tl HP.out)))
  go_wp2_with fail
  clear hc_b
  refine (need_cd HP.out b Ab nb).mono ?_
  rintro _ w1 ⟨rfl, hp⟩
  replace HP := Aside0.mk hp
  clear hp
  obtain ⟨e_b, h_e_b⟩ : ∃ e_b, e_b = needE [b] fr.2 := ⟨_, rfl⟩
  rw [← h_e_b] at HP
  have H_e_b := Aside0.mk h_e_b
  clear h_e_b
  have hc_b := box_cells (Pd.hd (Pd.tl (Pd.tl HP.out)))
  go_wp2_with fail
  clear hc_b
  (try simp only [i64_w])
  refine (add_cd HP.out b.f3 gp.1).mono ?_
  rintro _ w1 ⟨rfl, hp⟩
  replace HP := Aside0.mk hp
  clear hp
  obtain ⟨p1, h_p1⟩ : ∃ p1, p1 = keepV e_b (toldOf (sumR [b.f3, gp.1])) := ⟨_, rfl⟩
  rw [← h_p1] at HP ⊢
  have H_p1 := Aside0.mk h_p1
  clear h_p1
  go_wp2_with fail
  (try simp only [i64_w])
  refine (add_cd HP.out p1.1 th.1).mono ?_
  rintro _ w1 ⟨rfl, hp⟩
  replace HP := Aside0.mk hp
  clear hp
  obtain ⟨y, h_y⟩ : ∃ y, y = keepV p1.2 (toldOf (sumR [p1.1, th.1])) := ⟨_, rfl⟩
  rw [← h_y] at HP ⊢
  have H_y := Aside0.mk h_y
  clear h_y
  go_wp2_with fail
  (try simp only [i64_w])
  refine (add_cd HP.out y.1 fr.1).mono ?_
  rintro _ w1 ⟨rfl, hp⟩
  replace HP := Aside0.mk hp
  clear hp
  obtain ⟨hh, h_hh⟩ : ∃ hh, hh = keepV y.2 (toldOf (sumR [y.1, fr.1])) := ⟨_, rfl⟩
  rw [← h_hh] at HP ⊢
  have H_hh := Aside0.mk h_hh
  clear h_hh
  have hc_b := box_cells (Pd.hd (Pd.tl (Pd.tl HP.out)))
  have hc_b2 := fun ob : Obj => box_cells (Pd.hd (Pd.tl (Pd.tl (Pd.alc HP.out ob))))
  go_wp2_with fail
  clear hc_b hc_b2
  refine (setlit_cd b.f1 [⟨0, 0, b⟩, ⟨0, wrap64 (-y.1), ⟨2, b.f1, th.1, 0, 0, 0, []⟩⟩, ⟨0, 0, ⟨0, 0, 0, hh.1, 0, 0, []⟩⟩] [[.int .i64 0, .int .i64 0, .int .i64 b.f0, .int .i64 b.f1, .int .i64 b.f2, .int .i64 b.f3, .int .i64 b.f4, .int .i64 b.f5, .slice Ab b.f6.length nb], [.int .i64 0, .int .i64 (wrap64 (-y.1)), .int .i64 2, .int .i64 b.f1, .int .i64 th.1, .int .i64 0, .int .i64 0, .int .i64 0, .slice none 0 0], [.int .i64 0, .int .i64 0, .int .i64 0, .int .i64 0, .int .i64 0, .int .i64 hh.1, .int .i64 0, .int .i64 0, .slice none 0 0]] (by simp) (Pd.alc HP.out _) ?hb ⟨k49_mk w ⟨0, 0, b⟩ HLb.out HCb.out, k49_mk w ⟨0, wrap64 (-y.1), ⟨2, b.f1, th.1, 0, 0, 0, []⟩⟩ (A8 := none) (c8 := 0) (Nat.le_refl _) ⟨rfl, Nat.zero_le _, fun h => absurd h (Nat.lt_irrefl 0)⟩, k49_mk w ⟨0, 0, ⟨0, 0, 0, hh.1, 0, 0, []⟩⟩ (A8 := none) (c8 := 0) (Nat.le_refl _) ⟨rfl, Nat.zero_le _, fun h => absurd h (Nat.lt_irrefl 0)⟩, trivial⟩).mono ?_
  case hb => simp
  rintro _ w1 ⟨A1, n1, rfl, hl, hf, hp⟩
  replace HP := Aside0.mk hp
  have HLL := Aside0.mk hl
  have HFF := Aside0.mk hf
  clear hp hl hf
  obtain ⟨V, h_V⟩ : ∃ V, V = setV hh.2 b.f1 [⟨0, 0, b⟩, ⟨0, wrap64 (-y.1), ⟨2, b.f1, th.1, 0, 0, 0, []⟩⟩, ⟨0, 0, ⟨0, 0, 0, hh.1, 0, 0, []⟩⟩] := ⟨_, rfl⟩
  rw [← h_V] at HLL HFF ⊢
  have H_V := Aside0.mk h_V
  clear h_V
  have hcz := fun ob : Obj => cells7 (Pd.hd (Pd.tl (Pd.alc HP.out ob)))
  have hfz := fun ob : Obj => froz7 (Pd.hd (Pd.tl (Pd.alc HP.out ob)))
  go_wp2
  refine bodyPost_ret (results_ct rfl _ _ gr 39 #[.int .i64 V.1, .int .i64 V.2.1, .int .i64 V.2.2.1, .int .i64 V.2.2.2.1, .int .i64 V.2.2.2.2.1, .int .i64 V.2.2.2.2.2.1, .slice A1 V.2.2.2.2.2.2.1.length n1] (0, 0) _ rfl (put7 (Pd.hd (Pd.tl (Pd.alc HP.out _)))) hu39 rfl (by kernel_rfl)) rfl ?_
  have hVR : V = rUnderV F c z b := by (have h_gp := H_gp.out; have h_th := H_th.out; have h_fr := H_fr.out; have h_e_b := H_e_b.out; have h_p1 := H_p1.out; have h_y := H_y.out; have h_hh := H_hh.out; have h_V := H_V.out; subst h_gp h_th h_fr h_e_b h_p1 h_y h_hh h_V; rfl)
  rw [← hVR]
  exact ⟨A1, n1, rfl, HLL.out, HFF.out _ (fun k hk hlt => (far7 _ (hk (gr, _) (List.mem_cons_of_mem _ List.mem_cons_self))).trans (alloc_heap_lt hlt)), Pre.bel (Pd.toPre (Pd.st7 (Pd.alc HP.out _).tl))⟩
set_option maxRecDepth 100000 in
set_option maxHeartbeats 2000000 in
theorem rneed_calls (F : S36) (c z : Int) (b : S39) (Ab : Option Addr) (nb : Nat) (cs : List Value) (w : World) (hF : FontIn w F cs) (lb : b.f6.length ≤ nb) (hb : Kd.C k49 w Ab b.f6.length b.f6) : Calls Try.prog 34 #[.agg cs.toArray, .int .i64 c, .int .i64 z, .agg #[.int .i64 b.f0, .int .i64 b.f1, .int .i64 b.f2, .int .i64 b.f3, .int .i64 b.f4, .int .i64 b.f5, .slice Ab b.f6.length nb]] w fun r w' => r = .returned (.tuple #[.int .i64 (rNeedV F c z b).1, .int .i64 (rNeedV F c z b).2]) ∧ Below w.heap.size w w' := by
  have hu39 := Try.underlying39
  have hu36 := Try.underlying36
  have hu49 := Try.underlying49
  have hu74 := Try.underlying74
  obtain ⟨A6, c6, A7, c7, A8, c8, A9, c9, A10, c10, A11, c11, A12, c12, A13, c13, A15, c15, A16, c16, hcs, hcr⟩ := id hF
  subst hcs
  clear hcr
  have HF := Aside0.mk hF
  have HLb := Aside0.mk lb
  have HCb := Aside0.mk hb
  clear hF lb hb
  go_enter Try.func34, Try.ntmps34
  have HP := Aside0.mk (Pd.start w)
  go_wp2_with (first | ((with_reducible refine gate_dst (N := 4) rfl ?_); refine box_event ?hg (N := 4) ?hd (cs := #[.int .i64 F.f0.f0, .int .i64 F.f0.f1, .int .i64 F.f0.f2, .int .i64 F.f0.f3, .int .i64 F.f0.f4, .bool F.f0.f5, .slice A6 F.f1.length c6, .slice A7 F.f2.length c7, .slice A8 F.f3.length c8, .slice A9 F.f4.f0.length c9, .slice A10 F.f4.f1.length c10, .slice A11 F.f4.f2.length c11, .slice A12 F.f4.f3.length c12, .slice A13 F.f4.f4.length c13, .int .i64 F.f4.f5.f0, .slice A15 F.f4.f5.f1.length c15, .slice A16 F.f4.f5.f2.length c16]) (t := 36) ?hr ?_; (case hd => rfl); (case hg => rfl); (case hr => first | (go_simp; done) | (go_simp; rfl)); intro gf hg wk hbox hb; replace HP := Aside0.mk (Pd.box (by with_reducible repeat (first | exact HP.out | apply Pd.drew)) hg hbox hb); clear hg hbox hb) | ((with_reducible refine gate_dst (N := 7) rfl ?_); refine box_event ?hg (N := 7) ?hd (cs := #[.int .i64 b.f0, .int .i64 b.f1, .int .i64 b.f2, .int .i64 b.f3, .int .i64 b.f4, .int .i64 b.f5, .slice Ab b.f6.length nb]) (t := 39) ?hr ?_; (case hd => rfl); (case hg => rfl); (case hr => first | (go_simp; done) | (go_simp; rfl)); intro gb hg wk hbox hb; replace HP := Aside0.mk (Pd.box (by with_reducible repeat (first | exact HP.out | apply Pd.drew)) hg hbox hb); clear hg hbox hb) | ((with_reducible refine gate_dst (N := 15) rfl ?_); refine box_event ?hg (N := 15) ?hd (cs := #[.int .i64 0]) (t := 74) ?hr ?_; (case hd => rfl); (case hg => rfl); (case hr => first | (go_simp; done) | (go_simp; rfl)); intro gk hg wk hbox hb; replace HP := Aside0.mk (Pd.box (by with_reducible repeat (first | exact HP.out | apply Pd.drew)) hg hbox hb); clear hg hbox hb) | ((with_reducible refine gate_dst (N := 17) rfl ?_); refine wpList_load_row rfl 36 (.tmp 4) rfl gf (by rfl) 36 #[.int .i64 F.f0.f0, .int .i64 F.f0.f1, .int .i64 F.f0.f2, .int .i64 F.f0.f3, .int .i64 F.f0.f4, .bool F.f0.f5, .slice A6 F.f1.length c6, .slice A7 F.f2.length c7, .slice A8 F.f3.length c8, .slice A9 F.f4.f0.length c9, .slice A10 F.f4.f1.length c10, .slice A11 F.f4.f2.length c11, .slice A12 F.f4.f3.length c12, .slice A13 F.f4.f4.length c13, .int .i64 F.f4.f5.f0, .slice A15 F.f4.f5.f1.length c15, .slice A16 F.f4.f5.f2.length c16] (0, 0) _ (Pd.hd (Pd.tl (Pd.tl (by with_reducible repeat (first | exact HP.out | apply Pd.drew))))) hu36 rfl info_font ?_))
  refine (either_cd HP.out HF.out (by rfl) 49 50 c z).mono ?_
  rintro _ w1 ⟨rfl, hp⟩
  replace HP := Aside0.mk hp
  clear hp
  obtain ⟨gp, h_gp⟩ : ∃ gp, gp = keepV 0 (konstV F (if c < 2 then 50 else 49) c z) := ⟨_, rfl⟩
  rw [← h_gp] at HP ⊢
  have H_gp := Aside0.mk h_gp
  clear h_gp
  go_wp2_with (first | ((with_reducible refine gate_dst (N := 22) rfl ?_); refine wpList_load_row rfl 36 (.tmp 4) rfl gf (by rfl) 36 #[.int .i64 F.f0.f0, .int .i64 F.f0.f1, .int .i64 F.f0.f2, .int .i64 F.f0.f3, .int .i64 F.f0.f4, .bool F.f0.f5, .slice A6 F.f1.length c6, .slice A7 F.f2.length c7, .slice A8 F.f3.length c8, .slice A9 F.f4.f0.length c9, .slice A10 F.f4.f1.length c10, .slice A11 F.f4.f2.length c11, .slice A12 F.f4.f3.length c12, .slice A13 F.f4.f4.length c13, .int .i64 F.f4.f5.f0, .slice A15 F.f4.f5.f1.length c15, .slice A16 F.f4.f5.f2.length c16] (0, 0) _ (Pd.hd (Pd.tl (Pd.tl (by with_reducible repeat (first | exact HP.out | apply Pd.drew))))) hu36 rfl info_font ?_))
  refine (konst_cd HP.out HF.out (by rfl) 51 c z).mono ?_
  rintro _ w1 ⟨rfl, hp⟩
  replace HP := Aside0.mk hp
  clear hp
  obtain ⟨th, h_th⟩ : ∃ th, th = keepV gp.2 (konstV F 51 c z) := ⟨_, rfl⟩
  rw [← h_th] at HP ⊢
  have H_th := Aside0.mk h_th
  clear h_th
  have hc_b := box_cells (Pd.hd (Pd.tl HP.out))
  go_wp2_with fail
  clear hc_b
  refine (need_cd HP.out b Ab nb).mono ?_
  rintro _ w1 ⟨rfl, hp⟩
  replace HP := Aside0.mk hp
  clear hp
  obtain ⟨e_b, h_e_b⟩ : ∃ e_b, e_b = needE [b] th.2 := ⟨_, rfl⟩
  rw [← h_e_b] at HP
  have H_e_b := Aside0.mk h_e_b
  clear h_e_b
  go_wp2_with fail
  go_region_held3 (fun w' => w'.cell? ⟨gb, 2, none⟩ = some (.int .i64 b.f2) ∧ w'.cell? ⟨gb, 3, none⟩ = some (.int .i64 b.f3)) (first | with_reducible exact cells23 (Pd.hd (Pd.tl (by with_reducible repeat (first | exact HP.out | apply Pd.alloc | apply Pd.drew))))) (first | (go_at_call 50; (try simp only [i64_w]); refine (add_cd (by with_reducible repeat (first | exact HP.out | apply Pd.alloc | apply Pd.drew)) _ _).mono ?_; rintro _ w1 ⟨rfl, hp⟩; replace HP := Aside0.mk hp; clear hp))
  obtain ⟨p1, h_p1⟩ : ∃ p1, p1 = keepV e_b (toldOf (sumR [gp.1, th.1])) := ⟨_, rfl⟩
  rw [← h_p1] at HP ⊢
  have H_p1 := Aside0.mk h_p1
  clear h_p1
  obtain ⟨q1, h_q1⟩ : ∃ q1, q1 = keepV p1.2 (toldOf (sumR [p1.1, b.f2])) := ⟨_, rfl⟩
  rw [← h_q1] at HP ⊢
  have H_q1 := Aside0.mk h_q1
  clear h_q1
  obtain ⟨n1, h_n1⟩ : ∃ n1, n1 = keepV q1.2 (toldOf (sumR [q1.1, b.f3])) := ⟨_, rfl⟩
  rw [← h_n1] at HP ⊢
  have H_n1 := Aside0.mk h_n1
  clear h_n1
  have hNR : n1 = rNeedV F c z b := by (have h_gp := H_gp.out; have h_th := H_th.out; have h_e_b := H_e_b.out; have h_p1 := H_p1.out; have h_q1 := H_q1.out; have h_n1 := H_n1.out; subst h_gp h_th h_e_b h_p1 h_q1 h_n1; rfl)
  have HNR := Aside0.mk hNR
  clear hNR
  have hK0 := keep_zero (e := q1.2) (toldOf (sumR [q1.1, b.f3])) (toldOf_err _)
  rw [← H_n1.out] at hK0
  have HK0 := Aside0.mk hK0
  clear hK0
  have hc0 := hd_cell HP.out.hd
  by_cases hn : n1.2 = 0
  · have hd1 : (n1.2 != 0) = false := by simp; exact hn
    have HN := Aside0.mk hn
    clear hn
    go_wp2
    go_ret2
    exact ⟨tm2 (by rw [HNR.out]) (by rw [← HNR.out, HN.out]), HP.out.bel⟩
  · have hd1 : (n1.2 != 0) = true := by simp; exact hn
    have HN := Aside0.mk hn
    clear hn
    go_wp2
    go_region
    all_goals go_wp2
    all_goals go_ret2
    all_goals exact ⟨tm2 (by rw [← HNR.out, HK0.out HN.out]) (by rw [← HNR.out]), HP.out.bel.drew⟩

end Go.Proofs.Ytjkbblnebpgpfaa.P

