import Derived.Test.YtbhljokhcmfgjaaGreatTLim3
import Derived.Test.YtbhljokhcmfgjaaGreatTLim5
import Derived.Deep.Cut
/- limit.Accent: the walk. Printed by a program of this work (mklim8.py). -/
set_option linter.unusedVariables false
set_option linter.unusedSimpArgs false
namespace Go.Proofs.YtbhljokhcmfgjaaGreat.P
open Go.RowKit Go.Proofs.YtbhljokhcmfgjaaGreatW.PrintWords Go.Proofs.YtbhljokhcmfgjaaGreatW.PrintLast Go.Proofs.YtbhljokhcmfgjaaGreatW.PrintMore

/-- A size. -/
def sizeV (F : S36) (c z : Int) : Int × Int := (style_Size.f 2 F.f4.f0 c z).getD (0, 0)
theorem size_some (F : S36) (c z : Int) : style_Size.f 2 F.f4.f0 c z = some ((sizeV F c z).1, (sizeV F c z).2) := by
  obtain ⟨v, e, h, _⟩ := size_total F.f4.f0 c z 2 (Nat.le_refl _)
  unfold sizeV
  rw [h]
  rfl
/-- An accent over a nucleus. -/
def accentV (F : S36) (c z : Int) (x : S39) (gx ix : Int) (y : S39) (gy iy : Int) : BoxV :=
  let k := keepV 0 (konstV F 6 c z)
  let s := keepV k.2 (sizeV F c z)
  let e1 := needI [x.f1, x.f2, x.f3, ix] s.2
  let e2 := needI [y.f1, y.f2, y.f3, iy] e1
  if ¬ e2 = 0 then (0, 0, 0, 0, 0, 0, [], e2) else
  let a := keepV 0 (attachV F s.1 x gx ix)
  let b := keepV a.2 (attachV F s.1 y gy iy)
  let u := keepV b.2 (toldOf (sumR [a.1, wrap64 (-b.1)]))
  let v := keepV u.2 (toldOf (sumR [x.f2, wrap64 (-(min x.f2 k.1))]))
  setV v.2 x.f1 [⟨0, 0, x⟩, ⟨u.1, v.1, y⟩]
theorem OwnR.lit2 {α : Type} {d : Kd α} {e : TypeId} {w : World} {q : Nat} {y1 y2 : α} {c1 c2 : List Value} (h1 : d.K w y1 c1) (h2 : d.K w y2 c2) : OwnR d e w q 2 (.cells (c1 ++ c2).toArray e (0, 0)) [y1, y2] :=
  ⟨(c1 ++ c2).toArray, [c1, c2], rfl, ⟨h1, h2, trivial⟩, Nat.le_refl _, by unfold maxLen; omega, by simp [d.K_len h1, d.K_len h2]; omega, by
    have e1 := d.K_len h1
    have e2 := d.K_len h2
    rw [List.take_of_length_le (by simp [e1, e2]; omega)]
    simp⟩
theorem nuc_k2 {W : World} {b : Nat} {v0 v1 v2 v3 v4 v5 v6 v7 v8 : Value} {t : TypeId} (h : W.heap[b]? = some (.cells #[v0, v1, v2, v3, v4, v5, v6, v7, v8] t (0, 0))) : W.cell? ⟨b, 2, none⟩ = some v2 := blk_cell h 2
set_option maxRecDepth 100000 in
set_option maxHeartbeats 8000000 in
theorem accent_calls (F : S36) (c z : Int) (x : S39) (gx ix : Int) (y : S39) (gy iy : Int) (Ax : Option Addr) (nx : Nat) (Ay : Option Addr) (ny : Nat) (cs : List Value) (w : World) (hF : FontIn w F cs) (hA : F.f4.f2.length ≤ 100) (hlx : x.f6.length ≤ nx) (hCx : Kd.C k67 w Ax x.f6.length x.f6) (hly : y.f6.length ≤ ny) (hCy : Kd.C k67 w Ay y.f6.length y.f6) : Calls Tryz.prog 11 #[.agg cs.toArray, .int .i64 c, .int .i64 z, .agg #[.int .i64 x.f0, .int .i64 x.f1, .int .i64 x.f2, .int .i64 x.f3, .int .i64 x.f4, .int .i64 x.f5, .slice Ax x.f6.length nx, .int .i64 gx, .int .i64 ix], .agg #[.int .i64 y.f0, .int .i64 y.f1, .int .i64 y.f2, .int .i64 y.f3, .int .i64 y.f4, .int .i64 y.f5, .slice Ay y.f6.length ny, .int .i64 gy, .int .i64 iy]] w fun r w' => ∃ A1 n1, r = .returned (.tuple #[.agg #[.int .i64 (accentV F c z x gx ix y gy iy).1, .int .i64 (accentV F c z x gx ix y gy iy).2.1, .int .i64 (accentV F c z x gx ix y gy iy).2.2.1, .int .i64 (accentV F c z x gx ix y gy iy).2.2.2.1, .int .i64 (accentV F c z x gx ix y gy iy).2.2.2.2.1, .int .i64 (accentV F c z x gx ix y gy iy).2.2.2.2.2.1, .slice A1 (accentV F c z x gx ix y gy iy).2.2.2.2.2.2.1.length n1], .int .i64 (accentV F c z x gx ix y gy iy).2.2.2.2.2.2.2]) ∧ (accentV F c z x gx ix y gy iy).2.2.2.2.2.2.1.length ≤ n1 ∧ Kd.C k67 w' A1 (accentV F c z x gx ix y gy iy).2.2.2.2.2.2.1.length (accentV F c z x gx ix y gy iy).2.2.2.2.2.2.1 ∧ Below w.heap.size w w' := by
  have hu39 := Tryz.underlying39
  have hu49 := Tryz.underlying67
  have hu36 := Tryz.underlying36
  have hu73 := Tryz.underlying41
  have hu118 := Tryz.underlying60
  obtain ⟨R, hR⟩ : ∃ R, R = accentV F c z x gx ix y gy iy := ⟨_, rfl⟩
  rw [← hR]
  have HR := Aside0.mk hR
  clear hR
  have HF := Aside0.mk hF
  have HA := Aside0.mk hA
  have Hlx := Aside0.mk hlx; clear hlx
  have HCx := Aside0.mk hCx; clear hCx
  have Hly := Aside0.mk hly; clear hly
  have HCy := Aside0.mk hCy; clear hCy
  obtain ⟨A6, c6, A7, c7, A8, c8, A9, c9, A10, c10, A11, c11, A12, c12, A13, c13, A15, c15, A16, c16, hcs, hcr⟩ := id hF
  subst hcs
  obtain ⟨l6, g6, l7, g7, l8, g8, l9, g9, l10, g10, l11, g11, l12, g12, l13, g13, l15, g15, l16, g16⟩ := hcr
  have HG9 := Aside0.mk g9
  clear l6 g6 l7 g7 l8 g8 l9 g9 l10 g10 l11 g11 l12 g12 l13 g13 l15 g15 l16 g16
  clear hF hA
  obtain ⟨pre, hpre⟩ : ∃ r : List Value, r = [.int .i64 F.f0.f0, .int .i64 F.f0.f1, .int .i64 F.f0.f2, .int .i64 F.f0.f3, .int .i64 F.f0.f4, .bool F.f0.f5, .slice A6 F.f1.length c6, .slice A7 F.f2.length c7, .slice A8 F.f3.length c8, .slice A9 F.f4.f0.length c9, .slice A10 F.f4.f1.length c10, .slice A11 F.f4.f2.length c11, .slice A12 F.f4.f3.length c12, .slice A13 F.f4.f4.length c13, .int .i64 F.f4.f5.f0, .slice A15 F.f4.f5.f1.length c15, .slice A16 F.f4.f5.f2.length c16, .int .i64 c, .int .i64 z] := ⟨_, rfl⟩
  have HPRE := Aside0.mk hpre
  have HL := Aside0.mk (show pre.length = 19 by rw [hpre]; rfl)
  clear hpre
  have HP := Aside0.mk (Pd.start w)
  go_enter Tryz.func11, Tryz.ntmps11
  go_wp2_with (first | ((with_reducible refine gate_dst (N := 5) rfl ?_); refine box_event ?hg (N := 5) ?hd (cs := #[.int .i64 F.f0.f0, .int .i64 F.f0.f1, .int .i64 F.f0.f2, .int .i64 F.f0.f3, .int .i64 F.f0.f4, .bool F.f0.f5, .slice A6 F.f1.length c6, .slice A7 F.f2.length c7, .slice A8 F.f3.length c8, .slice A9 F.f4.f0.length c9, .slice A10 F.f4.f1.length c10, .slice A11 F.f4.f2.length c11, .slice A12 F.f4.f3.length c12, .slice A13 F.f4.f4.length c13, .int .i64 F.f4.f5.f0, .slice A15 F.f4.f5.f1.length c15, .slice A16 F.f4.f5.f2.length c16]) (t := 36) ?hr ?_; (case hd => rfl); (case hg => rfl); (case hr => first | (go_simp; done) | (go_simp; rfl)); intro gf hg wk hbox hb; replace HP := Aside0.mk (Pd.box (by with_reducible repeat (first | exact HP.out | apply Pd.drew)) hg hbox hb); clear hg hbox hb) | ((with_reducible refine gate_dst (N := 8) rfl ?_); refine box_event ?hg (N := 8) ?hd (cs := #[.int .i64 x.f0, .int .i64 x.f1, .int .i64 x.f2, .int .i64 x.f3, .int .i64 x.f4, .int .i64 x.f5, .slice Ax x.f6.length nx, .int .i64 gx, .int .i64 ix]) (t := 41) ?hr ?_; (case hd => rfl); (case hg => rfl); (case hr => first | (go_simp; done) | (go_simp; rfl)); intro gn hg wk hbox hb; replace HP := Aside0.mk (Pd.box (by with_reducible repeat (first | exact HP.out | apply Pd.drew)) hg hbox hb); clear hg hbox hb) | ((with_reducible refine gate_dst (N := 9) rfl ?_); refine box_event ?hg (N := 9) ?hd (cs := #[.int .i64 y.f0, .int .i64 y.f1, .int .i64 y.f2, .int .i64 y.f3, .int .i64 y.f4, .int .i64 y.f5, .slice Ay y.f6.length ny, .int .i64 gy, .int .i64 iy]) (t := 41) ?hr ?_; (case hd => rfl); (case hg => rfl); (case hr => first | (go_simp; done) | (go_simp; rfl)); intro gm hg wk hbox hb; replace HP := Aside0.mk (Pd.box (by with_reducible repeat (first | exact HP.out | apply Pd.drew)) hg hbox hb); clear hg hbox hb) | ((with_reducible refine gate_dst (N := 10) rfl ?_); refine box_event ?hg (N := 10) ?hd (cs := #[.int .i64 0, .int .i64 0, .int .i64 0, .int .i64 0, .int .i64 0, .int .i64 0, .slice none 0 0]) (t := 39) ?hr ?_; (case hd => rfl); (case hg => rfl); (case hr => first | (go_simp; done) | (go_simp; rfl)); intro gr hg wk hbox hb; replace HP := Aside0.mk (Pd.box (by with_reducible repeat (first | exact HP.out | apply Pd.drew)) hg hbox hb); clear hg hbox hb) | ((with_reducible refine gate_dst (N := 19) rfl ?_); refine wpList_load_row rfl 36 (.tmp 5) rfl gf (by rfl) 36 #[.int .i64 F.f0.f0, .int .i64 F.f0.f1, .int .i64 F.f0.f2, .int .i64 F.f0.f3, .int .i64 F.f0.f4, .bool F.f0.f5, .slice A6 F.f1.length c6, .slice A7 F.f2.length c7, .slice A8 F.f3.length c8, .slice A9 F.f4.f0.length c9, .slice A10 F.f4.f1.length c10, .slice A11 F.f4.f2.length c11, .slice A12 F.f4.f3.length c12, .slice A13 F.f4.f4.length c13, .int .i64 F.f4.f5.f0, .slice A15 F.f4.f5.f1.length c15, .slice A16 F.f4.f5.f2.length c16] (0, 0) _ (Pd.hd (Pd.tl (Pd.tl (Pd.tl (by with_reducible repeat (first | exact HP.out | apply Pd.drew)))))) hu36 rfl info_font ?_) | ((with_reducible refine gate_dst (N := 23) rfl ?_); refine box_event ?hg (N := 23) ?hd (cs := #[.int .i64 F.f0.f0, .int .i64 F.f0.f1, .int .i64 F.f0.f2, .int .i64 F.f0.f3, .int .i64 F.f0.f4, .bool F.f0.f5, .slice A6 F.f1.length c6, .slice A7 F.f2.length c7, .slice A8 F.f3.length c8, .slice A9 F.f4.f0.length c9, .slice A10 F.f4.f1.length c10, .slice A11 F.f4.f2.length c11, .slice A12 F.f4.f3.length c12, .slice A13 F.f4.f4.length c13, .int .i64 F.f4.f5.f0, .slice A15 F.f4.f5.f1.length c15, .slice A16 F.f4.f5.f2.length c16, .int .i64 c, .int .i64 z, .int .i64 0]) (t := 60) ?hr ?_; (case hd => rfl); (case hg => rfl); (case hr => first | (go_simp; done) | (go_simp; rfl)); intro g hg wkg hbox hb; replace HP : Aside0 (Pd w wkg [(g, .cells (pre ++ [Value.int .i64 0]).toArray 60 (0, 0)), (gr, .cells #[.int .i64 0, .int .i64 0, .int .i64 0, .int .i64 0, .int .i64 0, .int .i64 0, .slice none 0 0] 39 (0, 0)), (gm, .cells #[.int .i64 y.f0, .int .i64 y.f1, .int .i64 y.f2, .int .i64 y.f3, .int .i64 y.f4, .int .i64 y.f5, .slice Ay y.f6.length ny, .int .i64 gy, .int .i64 iy] 41 (0, 0)), (gn, .cells #[.int .i64 x.f0, .int .i64 x.f1, .int .i64 x.f2, .int .i64 x.f3, .int .i64 x.f4, .int .i64 x.f5, .slice Ax x.f6.length nx, .int .i64 gx, .int .i64 ix] 41 (0, 0)), (gf, .cells #[.int .i64 F.f0.f0, .int .i64 F.f0.f1, .int .i64 F.f0.f2, .int .i64 F.f0.f3, .int .i64 F.f0.f4, .bool F.f0.f5, .slice A6 F.f1.length c6, .slice A7 F.f2.length c7, .slice A8 F.f3.length c8, .slice A9 F.f4.f0.length c9, .slice A10 F.f4.f1.length c10, .slice A11 F.f4.f2.length c11, .slice A12 F.f4.f3.length c12, .slice A13 F.f4.f4.length c13, .int .i64 F.f4.f5.f0, .slice A15 F.f4.f5.f1.length c15, .slice A16 F.f4.f5.f2.length c16] 36 (0, 0))]) := ⟨by rw [HPRE.out]; exact Pd.box HP.out hg hbox hb⟩; clear hg hbox hb))
  obtain ⟨k, h_k⟩ : ∃ k, k = keepV 0 (konstV F 6 c z) := ⟨_, rfl⟩
  have H_k := Aside0.mk h_k
  clear h_k
  obtain ⟨sv, h_sv⟩ : ∃ sv, sv = sizeV F c z := ⟨_, rfl⟩
  have H_sv := Aside0.mk h_sv
  clear h_sv
  obtain ⟨s, h_s⟩ : ∃ s, s = keepV k.2 sv := ⟨_, rfl⟩
  have H_s := Aside0.mk h_s
  clear h_s
  obtain ⟨e1, h_e1⟩ : ∃ e1, e1 = needI [x.f1, x.f2, x.f3, ix] s.2 := ⟨_, rfl⟩
  have H_e1 := Aside0.mk h_e1
  clear h_e1
  obtain ⟨e2, h_e2⟩ : ∃ e2, e2 = needI [y.f1, y.f2, y.f3, iy] e1 := ⟨_, rfl⟩
  have H_e2 := Aside0.mk h_e2
  clear h_e2
  refine (konst_ld (by with_reducible repeat (first | exact HP.out | apply Pd.drew)) HF.out (HPRE.out.trans (by rfl)) 6).mono ?_
  rintro _ w1 ⟨rfl, hp⟩
  rw [← H_k.out] at hp
  try rw [← H_k.out]
  replace HP := Aside0.mk hp
  clear hp
  have h9 := blk_cell (Pd.getb HP.out (b := gf) (by with_reducible repeat (first | exact List.mem_cons_self | apply List.mem_cons_of_mem))) 9
  go_wp2_with fail
  refine (style_Size.callsU 2 A9 c9 F.f4.f0 c z sv.1 sv.2 _ (Kd.C_below HG9.out HP.out.bel) (by rw [H_sv.out]; exact size_some F c z)).mono ?_
  rintro _ w1 ⟨rfl, hb⟩
  replace HP := Aside0.mk (Pd.below HP.out hb)
  clear hb h9
  go_wp2_with fail
  refine (keep_ld HL.out HP.out sv.1 sv.2).mono ?_
  rintro _ w1 ⟨rfl, hp⟩
  rw [← H_s.out] at hp
  try rw [← H_s.out]
  replace HP := Aside0.mk hp
  clear hp
  have hn := nuc_c9 (Pd.getb HP.out (b := gn) (by with_reducible repeat (first | exact List.mem_cons_self | apply List.mem_cons_of_mem)))
  go_wp2_with fail
  refine (nuc_ld HL.out (by with_reducible repeat (first | exact HP.out | apply Pd.drew)) x Ax nx gx ix).mono ?_
  rintro _ w1 ⟨rfl, hp⟩
  rw [← H_e1.out] at hp
  try rw [← H_e1.out]
  replace HP := Aside0.mk hp
  clear hp
  clear hn
  have hn := nuc_c9 (Pd.getb HP.out (b := gm) (by with_reducible repeat (first | exact List.mem_cons_self | apply List.mem_cons_of_mem)))
  go_wp2_with fail
  refine (nuc_ld HL.out (by with_reducible repeat (first | exact HP.out | apply Pd.drew)) y Ay ny gy iy).mono ?_
  rintro _ w1 ⟨rfl, hp⟩
  rw [← H_e2.out] at hp
  try rw [← H_e2.out]
  replace HP := Aside0.mk hp
  clear hp
  clear hn
  have hc0 := last_cell HL.out (Pd.hd HP.out)
  by_cases hee : e2 = 0
  rotate_left
  · have hd1 : (e2 == 0) = false := by simpa using hee
    have HRE : Aside0 (R = (0, 0, 0, 0, 0, 0, [], e2)) := ⟨by (rw [HR.out]; have hq := hee; have h_k := H_k.out; have h_sv := H_sv.out; have h_s := H_s.out; have h_e1 := H_e1.out; have h_e2 := H_e2.out; subst h_k h_sv h_s h_e1 h_e2; unfold accentV; exact if_pos hq)⟩
    have HE := Aside0.mk hee
    have HPG := Aside0.mk (Pd.pmL HP.out (List.perm_middle (a := (gr, Obj.cells #[.int .i64 0, .int .i64 0, .int .i64 0, .int .i64 0, .int .i64 0, .int .i64 0, .slice none 0 0] 39 (0, 0))) (l₁ := [(g, Obj.cells (pre ++ [Value.int .i64 e2]).toArray 60 (0, 0))]) (l₂ := [(gm, Obj.cells #[.int .i64 y.f0, .int .i64 y.f1, .int .i64 y.f2, .int .i64 y.f3, .int .i64 y.f4, .int .i64 y.f5, .slice Ay y.f6.length ny, .int .i64 gy, .int .i64 iy] 41 (0, 0)), (gn, Obj.cells #[.int .i64 x.f0, .int .i64 x.f1, .int .i64 x.f2, .int .i64 x.f3, .int .i64 x.f4, .int .i64 x.f5, .slice Ax x.f6.length nx, .int .i64 gx, .int .i64 ix] 41 (0, 0)), (gf, Obj.cells #[.int .i64 F.f0.f0, .int .i64 F.f0.f1, .int .i64 F.f0.f2, .int .i64 F.f0.f3, .int .i64 F.f0.f4, .bool F.f0.f5, .slice A6 F.f1.length c6, .slice A7 F.f2.length c7, .slice A8 F.f3.length c8, .slice A9 F.f4.f0.length c9, .slice A10 F.f4.f1.length c10, .slice A11 F.f4.f2.length c11, .slice A12 F.f4.f3.length c12, .slice A13 F.f4.f4.length c13, .int .i64 F.f4.f5.f0, .slice A15 F.f4.f5.f1.length c15, .slice A16 F.f4.f5.f2.length c16] 36 (0, 0))])))
    simp only [List.cons_append, List.nil_append] at HPG
    have n1 : gr ≠ g := Pd.ne_hd HPG.out (b := (g, .cells (pre ++ [Value.int .i64 e2]).toArray 60 (0, 0))) (by with_reducible repeat (first | exact List.mem_cons_self | apply List.mem_cons_of_mem))
    have n2 := n1.symm
    have hcz := cells7 (Pd.hd HPG.out)
    have hfz := froz7 (Pd.hd HPG.out)
    go_wp2_with fail
    go_region
    all_goals go_wp2
    all_goals refine bodyPost_ret (results_ct rfl _ _ gr 39 #[.int .i64 0, .int .i64 0, .int .i64 0, .int .i64 0, .int .i64 0, .int .i64 0, .slice none 0 0] (0, 0) _ rfl (blk_drew (put7 (Pd.hd HPG.out))) hu39 rfl (by kernel_rfl)) rfl ?_
    all_goals exact ⟨none, 0, by rw [HRE.out]; rfl, by rw [HRE.out]; exact Nat.le_refl _, by rw [HRE.out]; exact Kd.C_nil _ _, (Pd.drew (Pd.st7 HPG.out)).bel⟩
  · have HEE := Aside0.mk hee
    rw [hee] at HP hc0
    clear hee
    obtain ⟨av, h_av⟩ : ∃ av, av = attachV F s.1 x gx ix := ⟨_, rfl⟩
    have H_av := Aside0.mk h_av
    clear h_av
    obtain ⟨a, h_a⟩ : ∃ a, a = keepV 0 av := ⟨_, rfl⟩
    have H_a := Aside0.mk h_a
    clear h_a
    obtain ⟨bv, h_bv⟩ : ∃ bv, bv = attachV F s.1 y gy iy := ⟨_, rfl⟩
    have H_bv := Aside0.mk h_bv
    clear h_bv
    obtain ⟨b, h_b⟩ : ∃ b, b = keepV a.2 bv := ⟨_, rfl⟩
    have H_b := Aside0.mk h_b
    clear h_b
    obtain ⟨u, h_u⟩ : ∃ u, u = keepV b.2 (toldOf (sumR [a.1, wrap64 (-b.1)])) := ⟨_, rfl⟩
    have H_u := Aside0.mk h_u
    clear h_u
    obtain ⟨v, h_v⟩ : ∃ v, v = keepV u.2 (toldOf (sumR [x.f2, wrap64 (-(min x.f2 k.1))])) := ⟨_, rfl⟩
    have H_v := Aside0.mk h_v
    clear h_v
    have hn := nuc_c9 (Pd.getb HP.out (b := gn) (by with_reducible repeat (first | exact List.mem_cons_self | apply List.mem_cons_of_mem)))
    go_wp2_with (first | ((with_reducible refine gate_dst (N := 53) rfl ?_); refine wpList_load_row rfl 36 (.tmp 5) rfl gf (by rfl) 36 #[.int .i64 F.f0.f0, .int .i64 F.f0.f1, .int .i64 F.f0.f2, .int .i64 F.f0.f3, .int .i64 F.f0.f4, .bool F.f0.f5, .slice A6 F.f1.length c6, .slice A7 F.f2.length c7, .slice A8 F.f3.length c8, .slice A9 F.f4.f0.length c9, .slice A10 F.f4.f1.length c10, .slice A11 F.f4.f2.length c11, .slice A12 F.f4.f3.length c12, .slice A13 F.f4.f4.length c13, .int .i64 F.f4.f5.f0, .slice A15 F.f4.f5.f1.length c15, .slice A16 F.f4.f5.f2.length c16] (0, 0) _ (Pd.getb HP.out (b := gf) (by with_reducible repeat (first | exact List.mem_cons_self | apply List.mem_cons_of_mem))) hu36 rfl info_font ?_))
    refine (attach_calls F s.1 x gx ix Ax nx _ _ (HF.out.heap HP.out.bel) HA.out).mono ?_
    rintro _ w1 ⟨rfl, hb⟩
    rw [← H_av.out]
    replace HP := Aside0.mk (Pd.below HP.out hb)
    clear hb hn
    clear hc0
    go_wp2_with fail
    refine (keep_ld HL.out HP.out av.1 av.2).mono ?_
    rintro _ w1 ⟨rfl, hp⟩
    rw [← H_a.out] at hp
    try rw [← H_a.out]
    replace HP := Aside0.mk hp
    clear hp
    have hn := nuc_c9 (Pd.getb HP.out (b := gm) (by with_reducible repeat (first | exact List.mem_cons_self | apply List.mem_cons_of_mem)))
    go_wp2_with (first | ((with_reducible refine gate_dst (N := 61) rfl ?_); refine wpList_load_row rfl 36 (.tmp 5) rfl gf (by rfl) 36 #[.int .i64 F.f0.f0, .int .i64 F.f0.f1, .int .i64 F.f0.f2, .int .i64 F.f0.f3, .int .i64 F.f0.f4, .bool F.f0.f5, .slice A6 F.f1.length c6, .slice A7 F.f2.length c7, .slice A8 F.f3.length c8, .slice A9 F.f4.f0.length c9, .slice A10 F.f4.f1.length c10, .slice A11 F.f4.f2.length c11, .slice A12 F.f4.f3.length c12, .slice A13 F.f4.f4.length c13, .int .i64 F.f4.f5.f0, .slice A15 F.f4.f5.f1.length c15, .slice A16 F.f4.f5.f2.length c16] (0, 0) _ (Pd.getb HP.out (b := gf) (by with_reducible repeat (first | exact List.mem_cons_self | apply List.mem_cons_of_mem))) hu36 rfl info_font ?_))
    refine (attach_calls F s.1 y gy iy Ay ny _ _ (HF.out.heap HP.out.bel) HA.out).mono ?_
    rintro _ w1 ⟨rfl, hb⟩
    rw [← H_bv.out]
    replace HP := Aside0.mk (Pd.below HP.out hb)
    clear hb hn
    go_wp2_with fail
    refine (keep_ld HL.out HP.out bv.1 bv.2).mono ?_
    rintro _ w1 ⟨rfl, hp⟩
    rw [← H_b.out] at hp
    try rw [← H_b.out]
    replace HP := Aside0.mk hp
    clear hp
    go_wp2_with fail
    go_cut [17, 18] from 68 (fun s17 s18 w' => s17 = .int .i64 u.1 ∧ s18 = .int .i64 v.1 ∧ Aside0 (Pd w w' [(g, .cells (pre ++ [Value.int .i64 v.2]).toArray 60 (0, 0)), (gr, .cells #[.int .i64 0, .int .i64 0, .int .i64 0, .int .i64 0, .int .i64 0, .int .i64 0, .slice none 0 0] 39 (0, 0)), (gm, .cells #[.int .i64 y.f0, .int .i64 y.f1, .int .i64 y.f2, .int .i64 y.f3, .int .i64 y.f4, .int .i64 y.f5, .slice Ay y.f6.length ny, .int .i64 gy, .int .i64 iy] 41 (0, 0)), (gn, .cells #[.int .i64 x.f0, .int .i64 x.f1, .int .i64 x.f2, .int .i64 x.f3, .int .i64 x.f4, .int .i64 x.f5, .slice Ax x.f6.length nx, .int .i64 gx, .int .i64 ix] 41 (0, 0)), (gf, .cells #[.int .i64 F.f0.f0, .int .i64 F.f0.f1, .int .i64 F.f0.f2, .int .i64 F.f0.f3, .int .i64 F.f0.f4, .bool F.f0.f5, .slice A6 F.f1.length c6, .slice A7 F.f2.length c7, .slice A8 F.f3.length c8, .slice A9 F.f4.f0.length c9, .slice A10 F.f4.f1.length c10, .slice A11 F.f4.f2.length c11, .slice A12 F.f4.f3.length c12, .slice A13 F.f4.f4.length c13, .int .i64 F.f4.f5.f0, .slice A15 F.f4.f5.f1.length c15, .slice A16 F.f4.f5.f2.length c16] 36 (0, 0))]))
    case first =>
      go_region_held3 (fun w' => w'.cell? ⟨gn, 2, none⟩ = some (.int .i64 x.f2)) (with_reducible exact nuc_k2 (Pd.getb (by with_reducible repeat (first | exact HP.out | apply Pd.alc | apply Pd.drew)) (b := gn) (by with_reducible repeat (first | exact List.mem_cons_self | apply List.mem_cons_of_mem)))) (first | (go_at_call 23; (try simp only [i64_w]); (first | with_reducible refine g3_l 2 ?_ | with_reducible refine g3d_l 2 ?_); refine (sum2_twol' HL.out (by with_reducible first | exact Lit.refl _ _ | exact Lit.drew _ _) (by with_reducible repeat (first | exact HP.out | apply Pd.alc | apply Pd.drew)) rfl).mono ?_; rintro _ w1 ⟨rfl, hp⟩; (first | rw [← H_u.out] at hp ⊢ | rw [← H_v.out] at hp ⊢); replace HP := Aside0.mk hp; clear hp) | (go_at_call 23; (try simp only [i64_w]); (first | with_reducible refine g2_l 2 ?_ | with_reducible refine g2d_l 2 ?_); refine (sum2_twol HL.out (by with_reducible first | exact Lit.refl _ _ | exact Lit.drew _ _) (by with_reducible repeat (first | exact HP.out | apply Pd.alc | apply Pd.drew)) rfl).mono ?_; rintro _ w1 ⟨rfl, hp⟩; (first | rw [← H_u.out] at hp ⊢ | rw [← H_v.out] at hp ⊢); replace HP := Aside0.mk hp; clear hp) | (go_at_call 23; (try simp only [i64_w]); (first | with_reducible refine g1_l 2 ?_ | with_reducible refine g1d_l 2 ?_); refine (sum2_onel HL.out (by with_reducible first | exact Lit.refl _ _ | exact Lit.drew _ _) (by with_reducible repeat (first | exact HP.out | apply Pd.alc | apply Pd.drew)) rfl).mono ?_; rintro _ w1 ⟨rfl, hp⟩; (first | rw [← H_u.out] at hp ⊢ | rw [← H_v.out] at hp ⊢); replace HP := Aside0.mk hp; clear hp) | (go_at_call 23; (try simp only [i64_w]); refine (sum2_ld HL.out (by with_reducible repeat (first | exact HP.out | apply Pd.drew)) (Pd.getb (by with_reducible repeat (first | exact HP.out | apply Pd.drew)) (by with_reducible repeat (first | exact List.mem_cons_self | apply List.mem_cons_of_mem)))).mono ?_; rintro _ w1 ⟨rfl, hp⟩; (first | rw [← H_u.out] at hp ⊢ | rw [← H_v.out] at hp ⊢); replace HP := Aside0.mk hp; clear hp))
      all_goals (go_wp2_with fail; go_meet; exact ⟨rfl, rfl, ⟨Pd.subL (by with_reducible repeat (first | exact HP.out | apply Pd.alc | apply Pd.drew)) (by refine List.Sublist.cons_cons _ ?_; with_reducible repeat (first | exact List.Sublist.refl _ | apply List.Sublist.cons))⟩⟩)
    case rest =>
      obtain ⟨rfl, rfl, HP⟩ := hcut
      have HRV : Aside0 (R = setV v.2 x.f1 ([⟨0, 0, x⟩, ⟨u.1, v.1, y⟩] : List S67)) := ⟨by (rw [HR.out]; have hq := HEE.out; have h_k := H_k.out; have h_sv := H_sv.out; have h_s := H_s.out; have h_e1 := H_e1.out; have h_e2 := H_e2.out; have h_av := H_av.out; have h_a := H_a.out; have h_bv := H_bv.out; have h_b := H_b.out; have h_u := H_u.out; have h_v := H_v.out; subst h_k h_sv h_s h_e1 h_e2 h_av h_a h_bv h_b h_u h_v; unfold accentV; dsimp only; rw [if_neg (fun h => h hq)]; try rfl)⟩
      have hc0 := last_cell HL.out (Pd.hd HP.out)
      by_cases hee : v.2 = 0
      rotate_left
      · have hd1 : (v.2 == 0) = false := by simpa using hee
        have HRE : Aside0 (R = (0, 0, 0, 0, 0, 0, [], v.2)) := ⟨by rw [HRV.out]; unfold setV; exact if_neg hee⟩
        have HE := Aside0.mk hee
        have HPG := Aside0.mk (Pd.pmL HP.out (List.perm_middle (a := (gr, Obj.cells #[.int .i64 0, .int .i64 0, .int .i64 0, .int .i64 0, .int .i64 0, .int .i64 0, .slice none 0 0] 39 (0, 0))) (l₁ := [(g, Obj.cells (pre ++ [Value.int .i64 v.2]).toArray 60 (0, 0))]) (l₂ := [(gm, Obj.cells #[.int .i64 y.f0, .int .i64 y.f1, .int .i64 y.f2, .int .i64 y.f3, .int .i64 y.f4, .int .i64 y.f5, .slice Ay y.f6.length ny, .int .i64 gy, .int .i64 iy] 41 (0, 0)), (gn, Obj.cells #[.int .i64 x.f0, .int .i64 x.f1, .int .i64 x.f2, .int .i64 x.f3, .int .i64 x.f4, .int .i64 x.f5, .slice Ax x.f6.length nx, .int .i64 gx, .int .i64 ix] 41 (0, 0)), (gf, Obj.cells #[.int .i64 F.f0.f0, .int .i64 F.f0.f1, .int .i64 F.f0.f2, .int .i64 F.f0.f3, .int .i64 F.f0.f4, .bool F.f0.f5, .slice A6 F.f1.length c6, .slice A7 F.f2.length c7, .slice A8 F.f3.length c8, .slice A9 F.f4.f0.length c9, .slice A10 F.f4.f1.length c10, .slice A11 F.f4.f2.length c11, .slice A12 F.f4.f3.length c12, .slice A13 F.f4.f4.length c13, .int .i64 F.f4.f5.f0, .slice A15 F.f4.f5.f1.length c15, .slice A16 F.f4.f5.f2.length c16] 36 (0, 0))])))
        simp only [List.cons_append, List.nil_append] at HPG
        have n1 : gr ≠ g := Pd.ne_hd HPG.out (b := (g, .cells (pre ++ [Value.int .i64 v.2]).toArray 60 (0, 0))) (by with_reducible repeat (first | exact List.mem_cons_self | apply List.mem_cons_of_mem))
        have n2 := n1.symm
        have hcz := cells7 (Pd.hd HPG.out)
        have hfz := froz7 (Pd.hd HPG.out)
        go_wp2_with fail
        go_region
        all_goals go_wp2
        all_goals refine bodyPost_ret (results_ct rfl _ _ gr 39 #[.int .i64 0, .int .i64 0, .int .i64 0, .int .i64 0, .int .i64 0, .int .i64 0, .slice none 0 0] (0, 0) _ rfl (blk_drew (put7 (Pd.hd HPG.out))) hu39 rfl (by kernel_rfl)) rfl ?_
        all_goals exact ⟨none, 0, by rw [HRE.out]; rfl, by rw [HRE.out]; exact Nat.le_refl _, by rw [HRE.out]; exact Kd.C_nil _ _, (Pd.drew (Pd.st7 HPG.out)).bel⟩
      · have HE0 := Aside0.mk hee
        rw [hee] at HP hc0
        clear hee
        have HRS : Aside0 (R = setR x.f1 ([⟨0, 0, x⟩, ⟨u.1, v.1, y⟩] : List S67)) := ⟨by rw [HRV.out]; unfold setV; exact if_pos HE0.out⟩
        have hn := nuc_c9 (Pd.getb HP.out (b := gn) (by with_reducible repeat (first | exact List.mem_cons_self | apply List.mem_cons_of_mem)))
        have hm := nuc_c9 (Pd.getb HP.out (b := gm) (by with_reducible repeat (first | exact List.mem_cons_self | apply List.mem_cons_of_mem)))
        go_wp2_with fail
        obtain ⟨css, hS⟩ := RowAt.src (OwnR.lit2 (e := 67) (k67_mk w (⟨0, 0, x⟩ : S67) Hlx.out HCx.out) (k67_mk w (⟨u.1, v.1, y⟩ : S67) Hly.out HCy.out)).at ([(g, .cells (pre ++ [Value.int .i64 0]).toArray 60 (0, 0)), (gr, .cells #[.int .i64 0, .int .i64 0, .int .i64 0, .int .i64 0, .int .i64 0, .int .i64 0, .slice none 0 0] 39 (0, 0)), (gm, .cells #[.int .i64 y.f0, .int .i64 y.f1, .int .i64 y.f2, .int .i64 y.f3, .int .i64 y.f4, .int .i64 y.f5, .slice Ay y.f6.length ny, .int .i64 gy, .int .i64 iy] 41 (0, 0)), (gn, .cells #[.int .i64 x.f0, .int .i64 x.f1, .int .i64 x.f2, .int .i64 x.f3, .int .i64 x.f4, .int .i64 x.f5, .slice Ax x.f6.length nx, .int .i64 gx, .int .i64 ix] 41 (0, 0)), (gf, .cells #[.int .i64 F.f0.f0, .int .i64 F.f0.f1, .int .i64 F.f0.f2, .int .i64 F.f0.f3, .int .i64 F.f0.f4, .bool F.f0.f5, .slice A6 F.f1.length c6, .slice A7 F.f2.length c7, .slice A8 F.f3.length c8, .slice A9 F.f4.f0.length c9, .slice A10 F.f4.f1.length c10, .slice A11 F.f4.f2.length c11, .slice A12 F.f4.f3.length c12, .slice A13 F.f4.f4.length c13, .int .i64 F.f4.f5.f0, .slice A15 F.f4.f5.f1.length c15, .slice A16 F.f4.f5.f2.length c16] 36 (0, 0))] : List (Nat × Obj))
        refine (bset x.f1 ([⟨0, 0, x⟩, ⟨u.1, v.1, y⟩] : List S67) (by simp) (Pd.lit HP.out (by exact Lit.refl _ _)) hS).mono ?_
        rintro _ w7 ⟨A1, n1, rfl, hl, hf, hp⟩
        rw [← HRS.out] at hl hf ⊢
        replace HP := Aside0.mk hp
        have HLL := Aside0.mk hl
        have HFF := Aside0.mk hf
        clear hp hl hf hc0 hn hm hS
        try dsimp only
        have HPG := Aside0.mk (Pd.thirdL HP.out)
        have hcz := cells7 (Pd.hd HPG.out)
        have hfz := froz7 (Pd.hd HPG.out)
        go_wp2
        refine bodyPost_ret (results_ct rfl _ _ gr 39 #[.int .i64 R.1, .int .i64 R.2.1, .int .i64 R.2.2.1, .int .i64 R.2.2.2.1, .int .i64 R.2.2.2.2.1, .int .i64 R.2.2.2.2.2.1, .slice A1 R.2.2.2.2.2.2.1.length n1] (0, 0) _ rfl (put7 (Pd.hd HPG.out)) hu39 rfl (by kernel_rfl)) rfl ?_
        exact ⟨A1, n1, rfl, HLL.out, HFF.out _ (fun k hk _ => far7 _ (hk (gr, _) (by with_reducible repeat (first | exact List.mem_cons_self | apply List.mem_cons_of_mem)))), (Pd.st7 HPG.out).bel⟩
end Go.Proofs.YtbhljokhcmfgjaaGreat.P
