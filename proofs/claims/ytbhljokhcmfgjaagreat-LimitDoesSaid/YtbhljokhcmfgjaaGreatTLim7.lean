import Derived.Test.YtbhljokhcmfgjaaGreatTLim5
/- Law 29's few. Printed by a program of this work (mklim7.py). -/
set_option linter.unusedVariables false
set_option linter.unusedSimpArgs false
namespace Go.Proofs.YtbhljokhcmfgjaaGreat.P
open Go.RowKit Go.Proofs.YtbhljokhcmfgjaaGreatW.PrintWords Go.Proofs.YtbhljokhcmfgjaaGreatW.PrintLast Go.Proofs.YtbhljokhcmfgjaaGreatW.PrintMore

theorem few18_acc {k : Nat} {F : S36} (h : vinculumref18_Few.f k F.f0.f0 F.f0.f1 F.f0.f2 F.f0.f3 F.f0.f4 F.f0.f5 F.f1 F.f2 F.f3 F.f4.f0 F.f4.f1 F.f4.f2 F.f4.f3 F.f4.f4 F.f4.f5.f0 F.f4.f5.f1 F.f4.f5.f2 = some true) : F.f4.f2.length ≤ 100 := by
  unfold vinculumref18_Few.f at h
  split at h
  · split at h
    · cases h1 : vinculumref11_Short.f k F.f3 with
      | none => rw [h1] at h; cases h
      | some b =>
        rw [h1, Option.bind_some] at h
        split at h
        · cases h2 : vinculumref17_Few.f k F.f4.f0 F.f4.f1 F.f4.f2 F.f4.f3 F.f4.f4 F.f4.f5.f0 F.f4.f5.f1 F.f4.f5.f2 with
          | none => rw [h2] at h; cases h
          | some b2 =>
            rw [h2, Option.bind_some] at h
            injection h with h
            subst h
            unfold vinculumref17_Few.f at h2
            split at h2
            · split at h2
              · split at h2
                · omega
                · cases h2
              · cases h2
            · cases h2
        · cases h
    · cases h
  · cases h
theorem few18b_calls (w : World) (F : S36) (cs : List Value) (hF : FontIn w F cs) : Calls Tryz.prog 15 #[.agg cs.toArray] w fun r w' => ∃ b, r = .returned (.bool b) ∧ (b = true → F.f4.f2.length ≤ 100) ∧ Below w.heap.size w w' := by
  obtain ⟨A6, c6, A7, c7, A8, c8, A9, c9, A10, c10, A11, c11, A12, c12, A13, c13, A15, c15, A16, c16, rfl, l6, g6, l7, g7, l8, g8, l9, g9, l10, g10, l11, g11, l12, g12, l13, g13, l15, g15, l16, g16⟩ := hF
  obtain ⟨k, r, h⟩ := few18_total F.f0.f0 F.f0.f1 F.f0.f2 F.f0.f3 F.f0.f4 F.f0.f5 F.f1 F.f2 F.f3 F.f4.f0 F.f4.f1 F.f4.f2 F.f4.f3 F.f4.f4 F.f4.f5.f0 F.f4.f5.f1 F.f4.f5.f2
  exact (vinculumref18_Few.calls k F.f0.f0 F.f0.f1 F.f0.f2 F.f0.f3 F.f0.f4 F.f0.f5 A6 c6 F.f1 A7 c7 F.f2 A8 c8 F.f3 A9 c9 F.f4.f0 A10 c10 F.f4.f1 A11 c11 F.f4.f2 A12 c12 F.f4.f3 A13 c13 F.f4.f4 F.f4.f5.f0 A15 c15 F.f4.f5.f1 A16 c16 F.f4.f5.f2 r w g6 l6 g7 l7 g8 l8 g9 l9 g10 l10 g11 l11 g12 l12 g13 l13 g15 l15 g16 l16 h).mono fun e w' hh => ⟨r, hh.1, fun hr => few18_acc (k := k) (F := F) (hr ▸ h), hh.2⟩
set_option maxRecDepth 100000 in
set_option maxHeartbeats 3000000 in
theorem few28_calls (w : World) (x : S39) (gl it : Int) (hx : Ok39 x) (A : Option Addr) (n : Nat) (hl : x.f6.length ≤ n) (hC : Kd.C k67 w A x.f6.length x.f6) : Calls Tryz.prog 16 #[.agg #[.int .i64 x.f0, .int .i64 x.f1, .int .i64 x.f2, .int .i64 x.f3, .int .i64 x.f4, .int .i64 x.f5, .slice A x.f6.length n, .int .i64 gl, .int .i64 it]] w fun r w' => ∃ b, r = .returned (.bool b) ∧ Below w.heap.size w w' := by
  have hu39 := Tryz.underlying39
  have hu73 := Tryz.underlying41
  have HP := Aside0.mk (Pd.start w)
  have HO := Aside0.mk hx
  have HL := Aside0.mk hl
  have HC := Aside0.mk hC
  clear hx hl hC
  go_enter Tryz.func16, Tryz.ntmps16
  go_wp2_with (first | ((with_reducible refine gate_dst (N := 1) rfl ?_); refine box_event ?hg (N := 1) ?hd (cs := #[.int .i64 x.f0, .int .i64 x.f1, .int .i64 x.f2, .int .i64 x.f3, .int .i64 x.f4, .int .i64 x.f5, .slice A x.f6.length n, .int .i64 gl, .int .i64 it]) (t := 41) ?hr ?_; (case hd => rfl); (case hg => rfl); (case hr => first | (go_simp; done) | (go_simp; rfl)); intro gq hg wk hbox hb; replace HP := Aside0.mk (Pd.box (by with_reducible repeat (first | exact HP.out | apply Pd.drew)) hg hbox hb); clear hg hbox hb; have hq := nuc_c9 (Pd.hd HP.out)))
  refine (few23_calls _ x HO.out A n HL.out (Kd.C_below HC.out HP.out.bel)).mono ?_
  rintro _ w1 ⟨b, rfl, hb⟩
  replace HP := Aside0.mk (Pd.below HP.out hb)
  clear hb hq
  go_wp2
  go_ret
  exact ⟨_, rfl, HP.out.bel⟩
set_option maxRecDepth 100000 in
set_option maxHeartbeats 3000000 in
theorem few29_calls (w : World) (F : S36) (x : S39) (gx ix : Int) (y : S39) (gy iy : Int) (Ax : Option Addr) (nx : Nat) (Ay : Option Addr) (ny : Nat) (cs : List Value) (hF : FontIn w F cs) (hOx : Ok39 x) (hlx : x.f6.length ≤ nx) (hCx : Kd.C k67 w Ax x.f6.length x.f6) (hOy : Ok39 y) (hly : y.f6.length ≤ ny) (hCy : Kd.C k67 w Ay y.f6.length y.f6) : Calls Tryz.prog 5 #[.agg cs.toArray, .agg #[.int .i64 x.f0, .int .i64 x.f1, .int .i64 x.f2, .int .i64 x.f3, .int .i64 x.f4, .int .i64 x.f5, .slice Ax x.f6.length nx, .int .i64 gx, .int .i64 ix], .agg #[.int .i64 y.f0, .int .i64 y.f1, .int .i64 y.f2, .int .i64 y.f3, .int .i64 y.f4, .int .i64 y.f5, .slice Ay y.f6.length ny, .int .i64 gy, .int .i64 iy]] w fun r w' => ∃ b, r = .returned (.bool b) ∧ (b = true → F.f4.f2.length ≤ 100) ∧ Below w.heap.size w w' := by
  have hu36 := Tryz.underlying36
  have hu39 := Tryz.underlying39
  have hu73 := Tryz.underlying41
  have HF := Aside0.mk hF
  obtain ⟨A6, c6, A7, c7, A8, c8, A9, c9, A10, c10, A11, c11, A12, c12, A13, c13, A15, c15, A16, c16, hcs, hcr⟩ := id hF
  subst hcs
  clear hcr hF
  have HOx := Aside0.mk hOx; clear hOx
  have Hlx := Aside0.mk hlx; clear hlx
  have HCx := Aside0.mk hCx; clear hCx
  have HOy := Aside0.mk hOy; clear hOy
  have Hly := Aside0.mk hly; clear hly
  have HCy := Aside0.mk hCy; clear hCy
  have HP := Aside0.mk (Pd.start w)
  go_enter Tryz.func5, Tryz.ntmps5
  go_wp2_with (first | ((with_reducible refine gate_dst (N := 3) rfl ?_); refine box_event ?hg (N := 3) ?hd (cs := #[.int .i64 F.f0.f0, .int .i64 F.f0.f1, .int .i64 F.f0.f2, .int .i64 F.f0.f3, .int .i64 F.f0.f4, .bool F.f0.f5, .slice A6 F.f1.length c6, .slice A7 F.f2.length c7, .slice A8 F.f3.length c8, .slice A9 F.f4.f0.length c9, .slice A10 F.f4.f1.length c10, .slice A11 F.f4.f2.length c11, .slice A12 F.f4.f3.length c12, .slice A13 F.f4.f4.length c13, .int .i64 F.f4.f5.f0, .slice A15 F.f4.f5.f1.length c15, .slice A16 F.f4.f5.f2.length c16]) (t := 36) ?hr ?_; (case hd => rfl); (case hg => rfl); (case hr => first | (go_simp; done) | (go_simp; rfl)); intro gf hg wk hbox hb; replace HP := Aside0.mk (Pd.box (by with_reducible repeat (first | exact HP.out | apply Pd.drew)) hg hbox hb); clear hg hbox hb) | ((with_reducible refine gate_dst (N := 4) rfl ?_); refine box_event ?hg (N := 4) ?hd (cs := #[.int .i64 x.f0, .int .i64 x.f1, .int .i64 x.f2, .int .i64 x.f3, .int .i64 x.f4, .int .i64 x.f5, .slice Ax x.f6.length nx, .int .i64 gx, .int .i64 ix]) (t := 41) ?hr ?_; (case hd => rfl); (case hg => rfl); (case hr => first | (go_simp; done) | (go_simp; rfl)); intro gn hg wk hbox hb; replace HP := Aside0.mk (Pd.box (by with_reducible repeat (first | exact HP.out | apply Pd.drew)) hg hbox hb); clear hg hbox hb) | ((with_reducible refine gate_dst (N := 5) rfl ?_); refine box_event ?hg (N := 5) ?hd (cs := #[.int .i64 y.f0, .int .i64 y.f1, .int .i64 y.f2, .int .i64 y.f3, .int .i64 y.f4, .int .i64 y.f5, .slice Ay y.f6.length ny, .int .i64 gy, .int .i64 iy]) (t := 41) ?hr ?_; (case hd => rfl); (case hg => rfl); (case hr => first | (go_simp; done) | (go_simp; rfl)); intro gm hg wk hbox hb; replace HP := Aside0.mk (Pd.box (by with_reducible repeat (first | exact HP.out | apply Pd.drew)) hg hbox hb); clear hg hbox hb) | ((with_reducible refine gate_dst (N := 7) rfl ?_); refine wpList_load_row rfl 36 (.tmp 3) rfl gf (by rfl) 36 #[.int .i64 F.f0.f0, .int .i64 F.f0.f1, .int .i64 F.f0.f2, .int .i64 F.f0.f3, .int .i64 F.f0.f4, .bool F.f0.f5, .slice A6 F.f1.length c6, .slice A7 F.f2.length c7, .slice A8 F.f3.length c8, .slice A9 F.f4.f0.length c9, .slice A10 F.f4.f1.length c10, .slice A11 F.f4.f2.length c11, .slice A12 F.f4.f3.length c12, .slice A13 F.f4.f4.length c13, .int .i64 F.f4.f5.f0, .slice A15 F.f4.f5.f1.length c15, .slice A16 F.f4.f5.f2.length c16] (0, 0) _ (Pd.hd (Pd.tl (Pd.tl (by with_reducible repeat (first | exact HP.out | apply Pd.drew))))) hu36 rfl info_font ?_))
  refine (few18b_calls _ F _ (HF.out.heap HP.out.bel)).mono ?_
  rintro _ w1 ⟨b0, rfl, hacc, hb⟩
  have HACC := Aside0.mk hacc
  replace HP := Aside0.mk (Pd.below HP.out hb)
  clear hb hacc
  cases b0 with
  | false =>
    go_wp2
    go_ret
    exact ⟨_, rfl, fun h => (by cases h), HP.out.bel⟩
  | true =>
    have hn := nuc_c9 (Pd.hd (Pd.tl HP.out))
    go_wp2_with fail
    refine (few28_calls _ x gx ix HOx.out Ax nx Hlx.out (Kd.C_below HCx.out HP.out.bel)).mono ?_
    rintro _ w2 ⟨b1, rfl, hb⟩
    replace HP := Aside0.mk (Pd.below HP.out hb)
    clear hb hn
    cases b1 with
    | false =>
      go_wp2
      go_ret
      exact ⟨_, rfl, fun h => (by cases h), HP.out.bel⟩
    | true =>
      have hn := nuc_c9 (Pd.hd HP.out)
      go_wp2_with fail
      refine (few28_calls _ y gy iy HOy.out Ay ny Hly.out (Kd.C_below HCy.out HP.out.bel)).mono ?_
      rintro _ w3 ⟨b2, rfl, hb⟩
      replace HP := Aside0.mk (Pd.below HP.out hb)
      clear hb hn
      go_wp2
      go_ret
      exact ⟨_, rfl, fun _ => HACC.out (by first | rfl | trivial), HP.out.bel⟩
end Go.Proofs.YtbhljokhcmfgjaaGreat.P
