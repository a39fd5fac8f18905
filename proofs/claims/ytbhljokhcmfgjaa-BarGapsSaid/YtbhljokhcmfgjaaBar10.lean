import Derived.Test.YtbhljokhcmfgjaaBar5
/- law 27's few; bar.Radical with more than one degree: short walks. Printed by a program of this work (mkbar10.py). -/
set_option linter.unusedVariables false
set_option linter.unusedSimpArgs false
namespace Go.Proofs.Ytbhljokhcmfgjaa.P
open Go.RowKit Go.Proofs.YtbhljokhcmfgjaaW.PrintWords Go.Proofs.YtbhljokhcmfgjaaW.PrintLast Go.Proofs.YtbhljokhcmfgjaaW.PrintMore

set_option maxRecDepth 100000 in
set_option maxHeartbeats 3000000 in
theorem few27_calls (w : World) (F : S63) (x y z : S25) (Ax Ay Az : Option Addr) (nx ny nz : Nat) (cs : List Value) (hF : FontIn w F cs) (hOx : Ok25 x) (hlx : x.f6.length ≤ nx) (hCx : Kd.C k41 w Ax x.f6.length x.f6) (hOy : Ok25 y) (hly : y.f6.length ≤ ny) (hCy : Kd.C k41 w Ay y.f6.length y.f6) (hOz : Ok25 z) (hlz : z.f6.length ≤ nz) (hCz : Kd.C k41 w Az z.f6.length z.f6) : Calls Try.prog 32 #[.agg cs.toArray, .agg #[.int .i64 x.f0, .int .i64 x.f1, .int .i64 x.f2, .int .i64 x.f3, .int .i64 x.f4, .int .i64 x.f5, .slice Ax x.f6.length nx], .agg #[.int .i64 y.f0, .int .i64 y.f1, .int .i64 y.f2, .int .i64 y.f3, .int .i64 y.f4, .int .i64 y.f5, .slice Ay y.f6.length ny], .agg #[.int .i64 z.f0, .int .i64 z.f1, .int .i64 z.f2, .int .i64 z.f3, .int .i64 z.f4, .int .i64 z.f5, .slice Az z.f6.length nz]] w fun r w' => ∃ b, r = .returned (.bool b) ∧ Below w.heap.size w w' := by
  have hu39 := Try.underlying25
  have hu36 := Try.underlying63
  obtain ⟨A6, c6, A7, c7, A8, c8, A9, c9, A10, c10, A11, c11, A12, c12, A13, c13, A15, c15, A16, c16, hcs, hcr⟩ := id hF
  subst hcs
  clear hcr
  have HF := Aside0.mk hF
  have HOx := Aside0.mk hOx
  have HLx := Aside0.mk hlx
  have HCx := Aside0.mk hCx
  have HOy := Aside0.mk hOy
  have HLy := Aside0.mk hly
  have HCy := Aside0.mk hCy
  have HOz := Aside0.mk hOz
  have HLz := Aside0.mk hlz
  have HCz := Aside0.mk hCz
  clear hF hOx hlx hCx hOy hly hCy hOz hlz hCz
  have HP := Aside0.mk (Pd.start w)
  go_enter Try.func32, Try.ntmps32
  go_wp2_with (first | ((with_reducible refine gate_dst (N := 4) rfl ?_); refine box_event ?hg (N := 4) ?hd (cs := #[.int .i64 F.f0.f0, .int .i64 F.f0.f1, .int .i64 F.f0.f2, .int .i64 F.f0.f3, .int .i64 F.f0.f4, .bool F.f0.f5, .slice A6 F.f1.length c6, .slice A7 F.f2.length c7, .slice A8 F.f3.length c8, .slice A9 F.f4.f0.length c9, .slice A10 F.f4.f1.length c10, .slice A11 F.f4.f2.length c11, .slice A12 F.f4.f3.length c12, .slice A13 F.f4.f4.length c13, .int .i64 F.f4.f5.f0, .slice A15 F.f4.f5.f1.length c15, .slice A16 F.f4.f5.f2.length c16]) (t := 63) ?hr ?_; (case hd => rfl); (case hg => rfl); (case hr => first | (go_simp; done) | (go_simp; rfl)); intro gf hg wk hbox hb; replace HP := Aside0.mk (Pd.box (by with_reducible repeat (first | exact HP.out | apply Pd.drew)) hg hbox hb); clear hg hbox hb) | ((with_reducible refine gate_dst (N := 5) rfl ?_); refine box_event ?hg (N := 5) ?hd (cs := #[.int .i64 x.f0, .int .i64 x.f1, .int .i64 x.f2, .int .i64 x.f3, .int .i64 x.f4, .int .i64 x.f5, .slice Ax x.f6.length nx]) (t := 25) ?hr ?_; (case hd => rfl); (case hg => rfl); (case hr => first | (go_simp; done) | (go_simp; rfl)); intro gx hg wk hbox hb; replace HP := Aside0.mk (Pd.box (by with_reducible repeat (first | exact HP.out | apply Pd.drew)) hg hbox hb); clear hg hbox hb) | ((with_reducible refine gate_dst (N := 6) rfl ?_); refine box_event ?hg (N := 6) ?hd (cs := #[.int .i64 y.f0, .int .i64 y.f1, .int .i64 y.f2, .int .i64 y.f3, .int .i64 y.f4, .int .i64 y.f5, .slice Ay y.f6.length ny]) (t := 25) ?hr ?_; (case hd => rfl); (case hg => rfl); (case hr => first | (go_simp; done) | (go_simp; rfl)); intro gy hg wk hbox hb; replace HP := Aside0.mk (Pd.box (by with_reducible repeat (first | exact HP.out | apply Pd.drew)) hg hbox hb); clear hg hbox hb) | ((with_reducible refine gate_dst (N := 7) rfl ?_); refine box_event ?hg (N := 7) ?hd (cs := #[.int .i64 z.f0, .int .i64 z.f1, .int .i64 z.f2, .int .i64 z.f3, .int .i64 z.f4, .int .i64 z.f5, .slice Az z.f6.length nz]) (t := 25) ?hr ?_; (case hd => rfl); (case hg => rfl); (case hr => first | (go_simp; done) | (go_simp; rfl)); intro gz hg wk hbox hb; replace HP := Aside0.mk (Pd.box (by with_reducible repeat (first | exact HP.out | apply Pd.drew)) hg hbox hb); clear hg hbox hb) | ((with_reducible refine gate_dst (N := 9) rfl ?_); refine wpList_load_row rfl 63 (.tmp 4) rfl gf (by rfl) 63 #[.int .i64 F.f0.f0, .int .i64 F.f0.f1, .int .i64 F.f0.f2, .int .i64 F.f0.f3, .int .i64 F.f0.f4, .bool F.f0.f5, .slice A6 F.f1.length c6, .slice A7 F.f2.length c7, .slice A8 F.f3.length c8, .slice A9 F.f4.f0.length c9, .slice A10 F.f4.f1.length c10, .slice A11 F.f4.f2.length c11, .slice A12 F.f4.f3.length c12, .slice A13 F.f4.f4.length c13, .int .i64 F.f4.f5.f0, .slice A15 F.f4.f5.f1.length c15, .slice A16 F.f4.f5.f2.length c16] (0, 0) _ (Pd.hd (Pd.tl (Pd.tl (Pd.tl HP.out)))) hu36 rfl info_font ?_))
  refine (few18_calls _ F _ (HF.out.heap HP.out.bel)).mono ?_
  rintro _ w1 ⟨b0, rfl, hb⟩
  replace HP := Aside0.mk (Pd.below HP.out hb)
  clear hb
  have hSx := box_cells (Pd.hd (Pd.tl (Pd.tl HP.out)))
  have hSy := box_cells (Pd.hd (Pd.tl HP.out))
  have hSz := box_cells (Pd.hd HP.out)
  cases b0 with
  | false =>
    go_wp2
    go_ret
    exact ⟨_, rfl, HP.out.bel⟩
  | true =>
    go_wp2_with fail
    clear hSx hSy hSz
    refine (few23_calls _ x HOx.out Ax nx HLx.out (Kd.C_below HCx.out HP.out.bel)).mono ?_
    rintro _ w1 ⟨b1, rfl, hb⟩
    replace HP := Aside0.mk (Pd.below HP.out hb)
    clear hb
    have hSy := box_cells (Pd.hd (Pd.tl HP.out))
    have hSz := box_cells (Pd.hd HP.out)
    cases b1 with
    | false =>
      go_wp2
      go_ret
      exact ⟨_, rfl, HP.out.bel⟩
    | true =>
      go_wp2_with fail
      clear hSy hSz
      refine (few23_calls _ y HOy.out Ay ny HLy.out (Kd.C_below HCy.out HP.out.bel)).mono ?_
      rintro _ w1 ⟨b2, rfl, hb⟩
      replace HP := Aside0.mk (Pd.below HP.out hb)
      clear hb
      have hSz := box_cells (Pd.hd HP.out)
      cases b2 with
      | false =>
        go_wp2
        go_ret
        exact ⟨_, rfl, HP.out.bel⟩
      | true =>
        go_wp2_with fail
        clear hSz
        refine (few23_calls _ z HOz.out Az nz HLz.out (Kd.C_below HCz.out HP.out.bel)).mono ?_
        rintro _ w1 ⟨b3, rfl, hb⟩
        replace HP := Aside0.mk (Pd.below HP.out hb)
        clear hb
        cases b3 <;> (go_wp2; go_ret; exact ⟨_, rfl, HP.out.bel⟩)
set_option maxRecDepth 100000 in
set_option maxHeartbeats 3000000 in
theorem rad_many (w : World) (F : S63) (c z : Int) (b s : S25) (Ab As : Option Addr) (nb ns : Nat) (A : Option Addr) (n m : Nat) (cs : List Value) (hF : FontIn w F cs) (hn : 1 < n) (hn2 : n ≤ 9223372036854775807) : Calls Try.prog 74 #[.agg cs.toArray, .int .i64 c, .int .i64 z, .agg #[.int .i64 b.f0, .int .i64 b.f1, .int .i64 b.f2, .int .i64 b.f3, .int .i64 b.f4, .int .i64 b.f5, .slice Ab b.f6.length nb], .agg #[.int .i64 s.f0, .int .i64 s.f1, .int .i64 s.f2, .int .i64 s.f3, .int .i64 s.f4, .int .i64 s.f5, .slice As s.f6.length ns], .slice A n m] w fun r w' => r = .returned (.tuple #[.agg #[.int .i64 0, .int .i64 0, .int .i64 0, .int .i64 0, .int .i64 0, .int .i64 0, .slice none 0 0], .int .i64 1]) ∧ Below w.heap.size w w' := by
  have hu39 := Try.underlying25
  have hu36 := Try.underlying63
  obtain ⟨A6, c6, A7, c7, A8, c8, A9, c9, A10, c10, A11, c11, A12, c12, A13, c13, A15, c15, A16, c16, hcs, hcr⟩ := id hF
  subst hcs
  clear hcr hF
  have hd1 : decide ((1 : Int) < (n : Int)) = true := by simp; omega
  have HP := Aside0.mk (Pd.start w)
  go_enter Try.func74, Try.ntmps74
  go_wp2_with (first | ((with_reducible refine gate_dst (N := 6) rfl ?_); refine box_event ?hg (N := 6) ?hd (cs := #[.int .i64 F.f0.f0, .int .i64 F.f0.f1, .int .i64 F.f0.f2, .int .i64 F.f0.f3, .int .i64 F.f0.f4, .bool F.f0.f5, .slice A6 F.f1.length c6, .slice A7 F.f2.length c7, .slice A8 F.f3.length c8, .slice A9 F.f4.f0.length c9, .slice A10 F.f4.f1.length c10, .slice A11 F.f4.f2.length c11, .slice A12 F.f4.f3.length c12, .slice A13 F.f4.f4.length c13, .int .i64 F.f4.f5.f0, .slice A15 F.f4.f5.f1.length c15, .slice A16 F.f4.f5.f2.length c16]) (t := 63) ?hr ?_; (case hd => rfl); (case hg => rfl); (case hr => first | (go_simp; done) | (go_simp; rfl)); intro gf hg wk hbox hb; replace HP := Aside0.mk (Pd.box (by with_reducible repeat (first | exact HP.out | apply Pd.drew)) hg hbox hb); clear hg hbox hb) | ((with_reducible refine gate_dst (N := 9) rfl ?_); refine box_event ?hg (N := 9) ?hd (cs := #[.int .i64 b.f0, .int .i64 b.f1, .int .i64 b.f2, .int .i64 b.f3, .int .i64 b.f4, .int .i64 b.f5, .slice Ab b.f6.length nb]) (t := 25) ?hr ?_; (case hd => rfl); (case hg => rfl); (case hr => first | (go_simp; done) | (go_simp; rfl)); intro gb hg wk hbox hb; replace HP := Aside0.mk (Pd.box (by with_reducible repeat (first | exact HP.out | apply Pd.drew)) hg hbox hb); clear hg hbox hb) | ((with_reducible refine gate_dst (N := 10) rfl ?_); refine box_event ?hg (N := 10) ?hd (cs := #[.int .i64 s.f0, .int .i64 s.f1, .int .i64 s.f2, .int .i64 s.f3, .int .i64 s.f4, .int .i64 s.f5, .slice As s.f6.length ns]) (t := 25) ?hr ?_; (case hd => rfl); (case hg => rfl); (case hr => first | (go_simp; done) | (go_simp; rfl)); intro gs hg wk hbox hb; replace HP := Aside0.mk (Pd.box (by with_reducible repeat (first | exact HP.out | apply Pd.drew)) hg hbox hb); clear hg hbox hb) | ((with_reducible refine gate_dst (N := 12) rfl ?_); refine box_event ?hg (N := 12) ?hd (cs := #[.int .i64 0, .int .i64 0, .int .i64 0, .int .i64 0, .int .i64 0, .int .i64 0, .slice none 0 0]) (t := 25) ?hr ?_; (case hd => rfl); (case hg => rfl); (case hr => first | (go_simp; done) | (go_simp; rfl)); intro gr hg wk hbox hb; replace HP := Aside0.mk (Pd.box (by with_reducible repeat (first | exact HP.out | apply Pd.drew)) hg hbox hb); clear hg hbox hb; have hcz := cells7 (Pd.hd HP.out); have hfz := froz7 (Pd.hd HP.out)))
  refine bodyPost_ret (results_ct rfl _ _ gr 25 #[.int .i64 0, .int .i64 0, .int .i64 0, .int .i64 0, .int .i64 0, .int .i64 0, .slice none 0 0] (0, 0) _ rfl (put7 (Pd.hd HP.out)) hu39 rfl (by kernel_rfl)) rfl ?_
  exact ⟨rfl, Pre.bel (Pd.toPre (Pd.st7 HP.out))⟩
end Go.Proofs.Ytbhljokhcmfgjaa.P
