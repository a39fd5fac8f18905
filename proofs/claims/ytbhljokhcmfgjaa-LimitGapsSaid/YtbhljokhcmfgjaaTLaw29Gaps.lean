import Derived.Test.YtbhljokhcmfgjaaTMid2
import Derived.Test.YtbhljokhcmfgjaaWide
import Derived.Test.YtbhljokhcmfgjaaTLimA
import Derived.Test.YtbhljokhcmfgjaaTLimF
import Derived.Test.YtbhljokhcmfgjaaTLim7
/- The law imitGaps: the walk. Printed by a program of this work (mkmid.py). -/
set_option linter.unusedVariables false
set_option linter.unusedSimpArgs false
namespace Go.Proofs.Ytbhljokhcmfgjaa.P
open Go.RowKit Go.Proofs.YtbhljokhcmfgjaaW.PrintWords Go.Proofs.YtbhljokhcmfgjaaW.PrintLast Go.Proofs.YtbhljokhcmfgjaaW.PrintMore

set_option maxRecDepth 100000 in
set_option maxHeartbeats 8000000 in
theorem law_lgaps (w : World) (F : S63) (c z : Int) (x : S25) (gx ix : Int) (u d : S25) (Ax : Option Addr) (nx : Nat) (Au : Option Addr) (nu : Nat) (Ad : Option Addr) (nd : Nat) (cs : List Value) (hF : FontIn w F cs) (hOx : Ok25 x) (hlx : x.f6.length ≤ nx) (hCx : Kd.C k41 w Ax x.f6.length x.f6) (hOu : Ok25 u) (hlu : u.f6.length ≤ nu) (hCu : Kd.C k41 w Au u.f6.length u.f6) (hOd : Ok25 d) (hld : d.f6.length ≤ nd) (hCd : Kd.C k41 w Ad d.f6.length d.f6) : Calls Try.prog 12 #[.agg cs.toArray, .int .i64 c, .int .i64 z, .agg #[.int .i64 x.f0, .int .i64 x.f1, .int .i64 x.f2, .int .i64 x.f3, .int .i64 x.f4, .int .i64 x.f5, .slice Ax x.f6.length nx, .int .i64 gx, .int .i64 ix], .agg #[.int .i64 u.f0, .int .i64 u.f1, .int .i64 u.f2, .int .i64 u.f3, .int .i64 u.f4, .int .i64 u.f5, .slice Au u.f6.length nu], .agg #[.int .i64 d.f0, .int .i64 d.f1, .int .i64 d.f2, .int .i64 d.f3, .int .i64 d.f4, .int .i64 d.f5, .slice Ad d.f6.length nd]] w fun r w' => r = .returned (.bool true) ∧ Below w.heap.size w w' := by
  have hu39 := Try.underlying25
  have hu36 := Try.underlying63
  have hu73 := Try.underlying73
  have hu49 := Try.underlying41
  have HF := Aside0.mk hF
  have HOx := Aside0.mk hOx; clear hOx
  have Hlx := Aside0.mk hlx; clear hlx
  have HCx := Aside0.mk hCx; clear hCx
  have HOu := Aside0.mk hOu; clear hOu
  have Hlu := Aside0.mk hlu; clear hlu
  have HCu := Aside0.mk hCu; clear hCu
  have HOd := Aside0.mk hOd; clear hOd
  have Hld := Aside0.mk hld; clear hld
  have HCd := Aside0.mk hCd; clear hCd
  obtain ⟨A6, c6, A7, c7, A8, c8, A9, c9, A10, c10, A11, c11, A12, c12, A13, c13, A15, c15, A16, c16, hcs, hcr⟩ := id hF
  subst hcs
  clear hcr hF
  have HP := Aside0.mk (Pd.start w)
  go_enter Try.func12, Try.ntmps12
  go_wp2_with (first | ((with_reducible refine gate_dst (N := 6) rfl ?_); refine box_event ?hg (N := 6) ?hd (cs := #[.int .i64 F.f0.f0, .int .i64 F.f0.f1, .int .i64 F.f0.f2, .int .i64 F.f0.f3, .int .i64 F.f0.f4, .bool F.f0.f5, .slice A6 F.f1.length c6, .slice A7 F.f2.length c7, .slice A8 F.f3.length c8, .slice A9 F.f4.f0.length c9, .slice A10 F.f4.f1.length c10, .slice A11 F.f4.f2.length c11, .slice A12 F.f4.f3.length c12, .slice A13 F.f4.f4.length c13, .int .i64 F.f4.f5.f0, .slice A15 F.f4.f5.f1.length c15, .slice A16 F.f4.f5.f2.length c16]) (t := 63) ?hr ?_; (case hd => rfl); (case hg => rfl); (case hr => first | (go_simp; done) | (go_simp; rfl)); intro gf hg wk hbox hb; replace HP := Aside0.mk (Pd.box (by with_reducible repeat (first | exact HP.out | apply Pd.drew)) hg hbox hb); clear hg hbox hb) | ((with_reducible refine gate_dst (N := 9) rfl ?_); refine box_event ?hg (N := 9) ?hd (cs := #[.int .i64 x.f0, .int .i64 x.f1, .int .i64 x.f2, .int .i64 x.f3, .int .i64 x.f4, .int .i64 x.f5, .slice Ax x.f6.length nx, .int .i64 gx, .int .i64 ix]) (t := 73) ?hr ?_; (case hd => rfl); (case hg => rfl); (case hr => first | (go_simp; done) | (go_simp; rfl)); intro gn hg wk hbox hb; replace HP := Aside0.mk (Pd.box (by with_reducible repeat (first | exact HP.out | apply Pd.drew)) hg hbox hb); clear hg hbox hb) | ((with_reducible refine gate_dst (N := 10) rfl ?_); refine box_event ?hg (N := 10) ?hd (cs := #[.int .i64 u.f0, .int .i64 u.f1, .int .i64 u.f2, .int .i64 u.f3, .int .i64 u.f4, .int .i64 u.f5, .slice Au u.f6.length nu]) (t := 25) ?hr ?_; (case hd => rfl); (case hg => rfl); (case hr => first | (go_simp; done) | (go_simp; rfl)); intro gu hg wk hbox hb; replace HP := Aside0.mk (Pd.box (by with_reducible repeat (first | exact HP.out | apply Pd.drew)) hg hbox hb); clear hg hbox hb) | ((with_reducible refine gate_dst (N := 11) rfl ?_); refine box_event ?hg (N := 11) ?hd (cs := #[.int .i64 d.f0, .int .i64 d.f1, .int .i64 d.f2, .int .i64 d.f3, .int .i64 d.f4, .int .i64 d.f5, .slice Ad d.f6.length nd]) (t := 25) ?hr ?_; (case hd => rfl); (case hg => rfl); (case hr => first | (go_simp; done) | (go_simp; rfl)); intro gd hg wk hbox hb; replace HP := Aside0.mk (Pd.box (by with_reducible repeat (first | exact HP.out | apply Pd.drew)) hg hbox hb); clear hg hbox hb; have hn := nuc_c9 (Pd.getb HP.out (b := gn) (by with_reducible repeat (first | exact List.mem_cons_self | apply List.mem_cons_of_mem)))) | ((with_reducible refine gate_dst (N := 26) rfl ?_); refine wpList_load_row rfl 63 (.tmp 6) rfl gf (by rfl) 63 #[.int .i64 F.f0.f0, .int .i64 F.f0.f1, .int .i64 F.f0.f2, .int .i64 F.f0.f3, .int .i64 F.f0.f4, .bool F.f0.f5, .slice A6 F.f1.length c6, .slice A7 F.f2.length c7, .slice A8 F.f3.length c8, .slice A9 F.f4.f0.length c9, .slice A10 F.f4.f1.length c10, .slice A11 F.f4.f2.length c11, .slice A12 F.f4.f3.length c12, .slice A13 F.f4.f4.length c13, .int .i64 F.f4.f5.f0, .slice A15 F.f4.f5.f1.length c15, .slice A16 F.f4.f5.f2.length c16] (0, 0) _ (Pd.getb HP.out (b := gf) (o := .cells #[.int .i64 F.f0.f0, .int .i64 F.f0.f1, .int .i64 F.f0.f2, .int .i64 F.f0.f3, .int .i64 F.f0.f4, .bool F.f0.f5, .slice A6 F.f1.length c6, .slice A7 F.f2.length c7, .slice A8 F.f3.length c8, .slice A9 F.f4.f0.length c9, .slice A10 F.f4.f1.length c10, .slice A11 F.f4.f2.length c11, .slice A12 F.f4.f3.length c12, .slice A13 F.f4.f4.length c13, .int .i64 F.f4.f5.f0, .slice A15 F.f4.f5.f1.length c15, .slice A16 F.f4.f5.f2.length c16] 63 (0, 0)) (by with_reducible repeat (first | exact List.mem_cons_self | apply List.mem_cons_of_mem))) hu36 rfl info_font ?_))
  refine (few29_calls _ F x gx ix x gx ix Ax nx Ax nx _ (HF.out.heap HP.out.bel) HOx.out Hlx.out (Kd.C_below HCx.out HP.out.bel) HOx.out Hlx.out (Kd.C_below HCx.out HP.out.bel)).mono ?_
  rintro _ w1 ⟨q, rfl, _, hb⟩
  replace HP := Aside0.mk (Pd.below HP.out hb)
  clear hb
  try dsimp only
  clear hn
  cases q with
  | false =>
    go_wp2
    go_ret
    exact ⟨rfl, HP.out.bel⟩
  | true =>
    have hcu := cells7 (Pd.getb HP.out (b := gu) (by with_reducible repeat (first | exact List.mem_cons_self | apply List.mem_cons_of_mem)))
    go_wp2_with fail
    clear hcu
    refine (few23_calls _ u HOu.out Au nu Hlu.out (Kd.C_below HCu.out HP.out.bel)).mono ?_
    rintro _ w2 ⟨q, rfl, hb⟩
    replace HP := Aside0.mk (Pd.below HP.out hb)
    clear hb
    try dsimp only
    cases q with
    | false =>
      go_wp2
      go_ret
      exact ⟨rfl, HP.out.bel⟩
    | true =>
      have hcd := cells7 (Pd.getb HP.out (b := gd) (by with_reducible repeat (first | exact List.mem_cons_self | apply List.mem_cons_of_mem)))
      go_wp2_with fail
      clear hcd
      refine (few23_calls _ d HOd.out Ad nd Hld.out (Kd.C_below HCd.out HP.out.bel)).mono ?_
      rintro _ w3 ⟨q, rfl, hb⟩
      replace HP := Aside0.mk (Pd.below HP.out hb)
      clear hb
      try dsimp only
      cases q with
      | false =>
        go_wp2
        go_ret
        exact ⟨rfl, HP.out.bel⟩
      | true =>
        have hn := nuc_c9 (Pd.getb HP.out (b := gn) (by with_reducible repeat (first | exact List.mem_cons_self | apply List.mem_cons_of_mem)))
        have hcu := cells7 (Pd.getb HP.out (b := gu) (by with_reducible repeat (first | exact List.mem_cons_self | apply List.mem_cons_of_mem)))
        have hcd := cells7 (Pd.getb HP.out (b := gd) (by with_reducible repeat (first | exact List.mem_cons_self | apply List.mem_cons_of_mem)))
        go_wp2_with (first | ((with_reducible refine gate_dst (N := 42) rfl ?_); refine wpList_load_row rfl 63 (.tmp 6) rfl gf (by rfl) 63 #[.int .i64 F.f0.f0, .int .i64 F.f0.f1, .int .i64 F.f0.f2, .int .i64 F.f0.f3, .int .i64 F.f0.f4, .bool F.f0.f5, .slice A6 F.f1.length c6, .slice A7 F.f2.length c7, .slice A8 F.f3.length c8, .slice A9 F.f4.f0.length c9, .slice A10 F.f4.f1.length c10, .slice A11 F.f4.f2.length c11, .slice A12 F.f4.f3.length c12, .slice A13 F.f4.f4.length c13, .int .i64 F.f4.f5.f0, .slice A15 F.f4.f5.f1.length c15, .slice A16 F.f4.f5.f2.length c16] (0, 0) _ (Pd.getb HP.out (b := gf) (o := .cells #[.int .i64 F.f0.f0, .int .i64 F.f0.f1, .int .i64 F.f0.f2, .int .i64 F.f0.f3, .int .i64 F.f0.f4, .bool F.f0.f5, .slice A6 F.f1.length c6, .slice A7 F.f2.length c7, .slice A8 F.f3.length c8, .slice A9 F.f4.f0.length c9, .slice A10 F.f4.f1.length c10, .slice A11 F.f4.f2.length c11, .slice A12 F.f4.f3.length c12, .slice A13 F.f4.f4.length c13, .int .i64 F.f4.f5.f0, .slice A15 F.f4.f5.f1.length c15, .slice A16 F.f4.f5.f2.length c16] 63 (0, 0)) (by with_reducible repeat (first | exact List.mem_cons_self | apply List.mem_cons_of_mem))) hu36 rfl info_font ?_) | ((with_reducible refine gate_dst (N := 47) rfl ?_); refine lit_event ?hg (N := 47) ?hd (cs := #[.int .i64 u.f0, .int .i64 u.f1, .int .i64 u.f2, .int .i64 u.f3, .int .i64 u.f4, .int .i64 u.f5, .slice Au u.f6.length nu]) (t := 25) (n := 1) ?hr ?_; (case hd => rfl); (case hg => rfl); (case hr => first | (go_simp; done) | (go_simp; rfl)); intro qu hg wl hbox hb; replace HP := Aside0.mk (Pd.box HP.out hg hbox hb); clear hg hbox hb; clear hcd; have hcd := cells7 (Pd.getb HP.out (b := gd) (by with_reducible repeat (first | exact List.mem_cons_self | apply List.mem_cons_of_mem)))) | ((with_reducible refine gate_dst (N := 49) rfl ?_); refine lit_event ?hg (N := 49) ?hd (cs := #[.int .i64 d.f0, .int .i64 d.f1, .int .i64 d.f2, .int .i64 d.f3, .int .i64 d.f4, .int .i64 d.f5, .slice Ad d.f6.length nd]) (t := 25) (n := 1) ?hr ?_; (case hd => rfl); (case hg => rfl); (case hr => first | (go_simp; done) | (go_simp; rfl)); intro qd hg wl hbox hb; replace HP := Aside0.mk (Pd.box HP.out hg hbox hb); clear hg hbox hb; clear hcd hcu hn))
        refine (lim11_calls F c z x gx ix u d Ax nx (some ⟨qu, 0, none⟩) 1 (some ⟨qd, 0, none⟩) 1 _ _ (HF.out.heap HP.out.bel) Hlx.out (Kd.C_below HCx.out HP.out.bel) (row_C (xs := [(u : S25)]) (css := [[.int .i64 u.f0, .int .i64 u.f1, .int .i64 u.f2, .int .i64 u.f3, .int .i64 u.f4, .int .i64 u.f5, .slice Au u.f6.length nu]]) ⟨k25_mk _ u Hlu.out (Kd.C_below HCu.out HP.out.bel), trivial⟩ (Pd.getb HP.out (b := qu) (o := .cells #[.int .i64 u.f0, .int .i64 u.f1, .int .i64 u.f2, .int .i64 u.f3, .int .i64 u.f4, .int .i64 u.f5, .slice Au u.f6.length nu] 25 (0, 0)) (by with_reducible repeat (first | exact List.mem_cons_self | apply List.mem_cons_of_mem))) (by simp)) (row_C (xs := [(d : S25)]) (css := [[.int .i64 d.f0, .int .i64 d.f1, .int .i64 d.f2, .int .i64 d.f3, .int .i64 d.f4, .int .i64 d.f5, .slice Ad d.f6.length nd]]) ⟨k25_mk _ d Hld.out (Kd.C_below HCd.out HP.out.bel), trivial⟩ (Pd.getb HP.out (b := qd) (o := .cells #[.int .i64 d.f0, .int .i64 d.f1, .int .i64 d.f2, .int .i64 d.f3, .int .i64 d.f4, .int .i64 d.f5, .slice Ad d.f6.length nd] 25 (0, 0)) (by with_reducible repeat (first | exact List.mem_cons_self | apply List.mem_cons_of_mem))) (by simp))).mono ?_
        rintro _ w5 ⟨A5, n5, rfl, hl, hC, hb⟩
        replace HP := Aside0.mk (Pd.below HP.out hb)
        clear hb
        obtain ⟨R, hR⟩ : ∃ R, R = lim11V F c z x ix u d := ⟨_, rfl⟩
        rw [← hR] at hl hC ⊢
        have HR := Aside0.mk hR
        have HL5 := Aside0.mk hl
        have HC5 := Aside0.mk hC
        clear hR hl hC
        have HQ := Aside0.mk (Pd.start w5)
        go_upto_if 54 with (first | ((with_reducible refine gate_dst (N := 13) rfl ?_); refine box_event ?hg (N := 13) ?hd (cs := #[.int .i64 0, .int .i64 0, .int .i64 0, .int .i64 0, .int .i64 0, .int .i64 0, .slice none 0 0]) (t := 25) ?hr ?_; (case hd => rfl); (case hg => rfl); (case hr => first | (go_simp; done) | (go_simp; rfl)); intro g13 hg wk hbox hb; replace HP := Aside0.mk (Pd.box HP.out hg hbox hb); replace HQ := Aside0.mk (Pd.box HQ.out hg hbox hb); clear hg hbox hb; have hcz := cells7 (Pd.hd HP.out); have hfz := froz7 (Pd.hd HP.out)) | (have hgo := hcz; clear hgo; (with_reducible refine gate_dst (N := 53) rfl ?_); refine Pd.fold2 (Pd.st7 HP.out) (Pd.st7 HQ.out) ?_; intro WS h0 h1; replace HP := Aside0.mk h0; replace HQ := Aside0.mk h1; clear h0 h1 hcz hfz; skip))
        by_cases he : R.2.2.2.2.2.2.2 = 0
        rotate_left
        · have d1 : (R.2.2.2.2.2.2.2 == 0) = false := by simpa using he
          have hk : R.2.2.2.2.2.2.1 = [] := by rw [HR.out]; exact lim11_nil (by rw [← HR.out]; exact he)
          have hlen : R.2.2.2.2.2.2.1.length = 0 := by rw [hk]; rfl
          clear hk he
          go_wp2_with fail
          refine (limited_calls _).mono ?_
          rintro _ w6 ⟨rfl, hb⟩
          replace HP := Aside0.mk (Pd.below HP.out hb); replace HQ := Aside0.mk (Pd.below HQ.out hb)
          clear hb
          try dsimp only
          have h13 := cells7 (Pd.getb HP.out (b := g13) (by with_reducible repeat (first | exact List.mem_cons_self | apply List.mem_cons_of_mem)))
          go_wp2
          go_ret
          exact ⟨rfl, HP.out.bel⟩
        · obtain ⟨W, hh, dd, p, q, r, Y, Z, hV, k1, k2, k3, k4, hy, hv, hRt⟩ := gaps_plain (F := F) (c := c) (z := z) (x := x) (it := ix) (u := u) (d := d) (by rw [← HR.out]; exact he)
          have hR0 := HR.out.trans hV
          clear HR hV he
          subst hR0
          dsimp only at HL5 HC5 HP HQ ⊢
          simp only [List.length_cons, List.length_nil, Nat.reduceAdd] at HP HQ
          have HRT := Aside0.mk hRt
          have HY := Aside0.mk hy
          have HV := Aside0.mk hv
          clear hRt hy hv
          obtain ⟨ad, hA⟩ := kid_ad HC5.out (by simp)
          subst hA
          go_wp2_with (first | ((with_reducible refine gate_dst (N := 63) rfl ?_); refine wpList_load_row rfl 63 (.tmp 6) rfl gf (by rfl) 63 #[.int .i64 F.f0.f0, .int .i64 F.f0.f1, .int .i64 F.f0.f2, .int .i64 F.f0.f3, .int .i64 F.f0.f4, .bool F.f0.f5, .slice A6 F.f1.length c6, .slice A7 F.f2.length c7, .slice A8 F.f3.length c8, .slice A9 F.f4.f0.length c9, .slice A10 F.f4.f1.length c10, .slice A11 F.f4.f2.length c11, .slice A12 F.f4.f3.length c12, .slice A13 F.f4.f4.length c13, .int .i64 F.f4.f5.f0, .slice A15 F.f4.f5.f1.length c15, .slice A16 F.f4.f5.f2.length c16] (0, 0) _ (Pd.getb HP.out (b := gf) (o := .cells #[.int .i64 F.f0.f0, .int .i64 F.f0.f1, .int .i64 F.f0.f2, .int .i64 F.f0.f3, .int .i64 F.f0.f4, .bool F.f0.f5, .slice A6 F.f1.length c6, .slice A7 F.f2.length c7, .slice A8 F.f3.length c8, .slice A9 F.f4.f0.length c9, .slice A10 F.f4.f1.length c10, .slice A11 F.f4.f2.length c11, .slice A12 F.f4.f3.length c12, .slice A13 F.f4.f4.length c13, .int .i64 F.f4.f5.f0, .slice A15 F.f4.f5.f1.length c15, .slice A16 F.f4.f5.f2.length c16] 63 (0, 0)) (by with_reducible repeat (first | exact List.mem_cons_self | apply List.mem_cons_of_mem))) hu36 rfl info_font ?_))
          refine (konst_calls _ F _ 18 c z (HF.out.heap HP.out.bel)).mono ?_
          rintro _ w6 ⟨rfl, hb⟩
          replace HP := Aside0.mk (Pd.below HP.out hb); replace HQ := Aside0.mk (Pd.below HQ.out hb)
          clear hb
          try dsimp only
          go_wp2_with (first | ((with_reducible refine gate_dst (N := 70) rfl ?_); refine wpList_load_row rfl 63 (.tmp 6) rfl gf (by rfl) 63 #[.int .i64 F.f0.f0, .int .i64 F.f0.f1, .int .i64 F.f0.f2, .int .i64 F.f0.f3, .int .i64 F.f0.f4, .bool F.f0.f5, .slice A6 F.f1.length c6, .slice A7 F.f2.length c7, .slice A8 F.f3.length c8, .slice A9 F.f4.f0.length c9, .slice A10 F.f4.f1.length c10, .slice A11 F.f4.f2.length c11, .slice A12 F.f4.f3.length c12, .slice A13 F.f4.f4.length c13, .int .i64 F.f4.f5.f0, .slice A15 F.f4.f5.f1.length c15, .slice A16 F.f4.f5.f2.length c16] (0, 0) _ (Pd.getb HP.out (b := gf) (o := .cells #[.int .i64 F.f0.f0, .int .i64 F.f0.f1, .int .i64 F.f0.f2, .int .i64 F.f0.f3, .int .i64 F.f0.f4, .bool F.f0.f5, .slice A6 F.f1.length c6, .slice A7 F.f2.length c7, .slice A8 F.f3.length c8, .slice A9 F.f4.f0.length c9, .slice A10 F.f4.f1.length c10, .slice A11 F.f4.f2.length c11, .slice A12 F.f4.f3.length c12, .slice A13 F.f4.f4.length c13, .int .i64 F.f4.f5.f0, .slice A15 F.f4.f5.f1.length c15, .slice A16 F.f4.f5.f2.length c16] 63 (0, 0)) (by with_reducible repeat (first | exact List.mem_cons_self | apply List.mem_cons_of_mem))) hu36 rfl info_font ?_))
          refine (konst_calls _ F _ 19 c z (HF.out.heap HP.out.bel)).mono ?_
          rintro _ w7 ⟨rfl, hb⟩
          replace HP := Aside0.mk (Pd.below HP.out hb); replace HQ := Aside0.mk (Pd.below HQ.out hb)
          clear hb
          try dsimp only
          go_wp2_with (first | ((with_reducible refine gate_dst (N := 77) rfl ?_); refine wpList_load_row rfl 63 (.tmp 6) rfl gf (by rfl) 63 #[.int .i64 F.f0.f0, .int .i64 F.f0.f1, .int .i64 F.f0.f2, .int .i64 F.f0.f3, .int .i64 F.f0.f4, .bool F.f0.f5, .slice A6 F.f1.length c6, .slice A7 F.f2.length c7, .slice A8 F.f3.length c8, .slice A9 F.f4.f0.length c9, .slice A10 F.f4.f1.length c10, .slice A11 F.f4.f2.length c11, .slice A12 F.f4.f3.length c12, .slice A13 F.f4.f4.length c13, .int .i64 F.f4.f5.f0, .slice A15 F.f4.f5.f1.length c15, .slice A16 F.f4.f5.f2.length c16] (0, 0) _ (Pd.getb HP.out (b := gf) (o := .cells #[.int .i64 F.f0.f0, .int .i64 F.f0.f1, .int .i64 F.f0.f2, .int .i64 F.f0.f3, .int .i64 F.f0.f4, .bool F.f0.f5, .slice A6 F.f1.length c6, .slice A7 F.f2.length c7, .slice A8 F.f3.length c8, .slice A9 F.f4.f0.length c9, .slice A10 F.f4.f1.length c10, .slice A11 F.f4.f2.length c11, .slice A12 F.f4.f3.length c12, .slice A13 F.f4.f4.length c13, .int .i64 F.f4.f5.f0, .slice A15 F.f4.f5.f1.length c15, .slice A16 F.f4.f5.f2.length c16] 63 (0, 0)) (by with_reducible repeat (first | exact List.mem_cons_self | apply List.mem_cons_of_mem))) hu36 rfl info_font ?_))
          refine (konst_calls _ F _ 20 c z (HF.out.heap HP.out.bel)).mono ?_
          rintro _ w8 ⟨rfl, hb⟩
          replace HP := Aside0.mk (Pd.below HP.out hb); replace HQ := Aside0.mk (Pd.below HQ.out hb)
          clear hb
          try dsimp only
          go_wp2_with (first | ((with_reducible refine gate_dst (N := 84) rfl ?_); refine wpList_load_row rfl 63 (.tmp 6) rfl gf (by rfl) 63 #[.int .i64 F.f0.f0, .int .i64 F.f0.f1, .int .i64 F.f0.f2, .int .i64 F.f0.f3, .int .i64 F.f0.f4, .bool F.f0.f5, .slice A6 F.f1.length c6, .slice A7 F.f2.length c7, .slice A8 F.f3.length c8, .slice A9 F.f4.f0.length c9, .slice A10 F.f4.f1.length c10, .slice A11 F.f4.f2.length c11, .slice A12 F.f4.f3.length c12, .slice A13 F.f4.f4.length c13, .int .i64 F.f4.f5.f0, .slice A15 F.f4.f5.f1.length c15, .slice A16 F.f4.f5.f2.length c16] (0, 0) _ (Pd.getb HP.out (b := gf) (o := .cells #[.int .i64 F.f0.f0, .int .i64 F.f0.f1, .int .i64 F.f0.f2, .int .i64 F.f0.f3, .int .i64 F.f0.f4, .bool F.f0.f5, .slice A6 F.f1.length c6, .slice A7 F.f2.length c7, .slice A8 F.f3.length c8, .slice A9 F.f4.f0.length c9, .slice A10 F.f4.f1.length c10, .slice A11 F.f4.f2.length c11, .slice A12 F.f4.f3.length c12, .slice A13 F.f4.f4.length c13, .int .i64 F.f4.f5.f0, .slice A15 F.f4.f5.f1.length c15, .slice A16 F.f4.f5.f2.length c16] 63 (0, 0)) (by with_reducible repeat (first | exact List.mem_cons_self | apply List.mem_cons_of_mem))) hu36 rfl info_font ?_))
          refine (konst_calls _ F _ 21 c z (HF.out.heap HP.out.bel)).mono ?_
          rintro _ w9 ⟨rfl, hb⟩
          replace HP := Aside0.mk (Pd.below HP.out hb); replace HQ := Aside0.mk (Pd.below HQ.out hb)
          clear hb
          try dsimp only
          have h13 := cells7 (Pd.getb HP.out (b := g13) (by with_reducible repeat (first | exact List.mem_cons_self | apply List.mem_cons_of_mem)))
          go_wp2_with fail
          have hn := nuc_c9 (Pd.getb HP.out (b := gn) (by with_reducible repeat (first | exact List.mem_cons_self | apply List.mem_cons_of_mem)))
          have HC9 := Aside0.mk (Kd.C_below HC5.out HQ.out.bel)
          obtain ⟨ad', A8v, c8v, hA8, _, _, HW⟩ := kid_keep HC9.out 1 (by simp)
          cases hA8
          obtain ⟨v0, v1, v2, v3, v4, v5, v6, v7, v8⟩ := HW _ (Below.refl _ _)
          simp [Addr.add] at v0 v1 v2 v3 v4 v5 v6 v7 v8
          clear HW
          obtain ⟨ad', A8t, c8t, hA8, _, _, HW⟩ := kid_keep HC9.out 2 (by simp)
          cases hA8
          obtain ⟨t0, t1, t2, t3, t4, t5, t6, t7, t8⟩ := HW _ (Below.refl _ _)
          simp [Addr.add] at t0 t1 t2 t3 t4 t5 t6 t7 t8
          clear HW
          have c0 : ∀ n : On w9, n.W.cell? ⟨g13, 6, none⟩ = some (.slice (some ad) 3 n5) := fun n => On.cell h13.2.2.2.2.2.2 n
          have c1 : ∀ n : On w9, n.W.cell? ⟨ad.block, ad.off + 9 + 1, none⟩ = some (.int .i64 Y) := fun n => On.cell v1 n
          have c2 : ∀ n : On w9, n.W.cell? ⟨ad.block, ad.off + 18 + 1, none⟩ = some (.int .i64 Z) := fun n => On.cell t1 n
          have c3 : ∀ n : On w9, n.W.cell? ⟨gn, 2, none⟩ = some (.int .i64 x.f2) := fun n => On.cell hn.2.2.1 n
          have c4 : ∀ n : On w9, n.W.cell? ⟨gn, 3, none⟩ = some (.int .i64 x.f3) := fun n => On.cell hn.2.2.2.1 n
          clear h13 hn v0 t0 v1 t1 v2 t2 v3 t3 v4 t4 v5 t5 v6 t6 v7 t7 v8 t8
          have H0 := Aside0.mk (Below.refl w9.heap.size w9)
          refine wp_region_on w9 H0.out (by kernel_rfl) (by kernel_rfl) ?_
          repeat (go_big_quiet_step (fail))
          refine wpQuiet_nil ?_
          intro _ hw'
          obtain ⟨nq, hw''⟩ := hw'
          subst hw''
          go_wp2_with fail
          have HB := Aside0.mk nq.bel
          refine wp_region_on w9 HB.out (by kernel_rfl) (by kernel_rfl) ?_
          repeat (go_big_quiet_step (fail))
          refine wpQuiet_nil ?_
          intro _ hw'
          obtain ⟨nq, hw''⟩ := hw'
          subst hw''
          have hb := nq.bel
          replace HC5 := Aside0.mk (Kd.C_below HC9.out hb)
          clear HC9 HQ
          replace HP := Aside0.mk (Pd.below HP.out hb)
          clear hb
          clear HB H0 c0 c1 c2 c3 c4
          generalize nq.W = w10 at HP HC5 ⊢
          clear nq
          have HQ := Aside0.mk (Pd.start w10)
          generalize wrap64 (Y - x.f2) = yy at HY ⊢
          generalize wrap64 (wrap64 (-Z) - x.f3) = vv at HV ⊢
          clear k1 k2 k3 k4
          generalize (konstV F 18 c z).1 = ka at HY ⊢
          generalize (konstV F 19 c z).1 = kb at HY ⊢
          generalize (konstV F 20 c z).1 = kc at HV ⊢
          generalize (konstV F 21 c z).1 = kd at HV ⊢
          have hn := nuc_c9 (Pd.getb HP.out (b := gn) (by with_reducible repeat (first | exact List.mem_cons_self | apply List.mem_cons_of_mem)))
          go_wp2_with fail
          refine (check_calls _ x (Nat.lt_succ_self _) _ Ax nx Hlx.out (Kd.C_below HCx.out HP.out.bel)).mono ?_
          rintro _ w11 ⟨rfl, hb⟩
          replace HP := Aside0.mk (Pd.below HP.out hb); replace HQ := Aside0.mk (Pd.below HQ.out hb)
          clear hb
          try dsimp only
          clear hn
          obtain ⟨G1, hG1⟩ : ∃ G, G = checkV (SizeOf.sizeOf x).succ x := ⟨_, rfl⟩
          rw [← hG1]
          have HG1 := Aside0.mk hG1; clear hG1
          by_cases e1 : G1 = 0
          rotate_left
          · have q1 : (G1 == 0) = false := by simp [e1]
            clear e1
            go_wp2_with fail
            refine (limited_calls _).mono ?_
            rintro _ w20 ⟨rfl, hb⟩
            replace HP := Aside0.mk (Pd.below HP.out hb); replace HQ := Aside0.mk (Pd.below HQ.out hb)
            clear hb
            try dsimp only
            have hcu := cells7 (Pd.getb HP.out (b := gu) (by with_reducible repeat (first | exact List.mem_cons_self | apply List.mem_cons_of_mem)))
            have hcd := cells7 (Pd.getb HP.out (b := gd) (by with_reducible repeat (first | exact List.mem_cons_self | apply List.mem_cons_of_mem)))
            have hy := HY.out; have hv := HV.out; unfold Gapped at hy hv
            obtain ⟨y1, y2, y3⟩ := hy
            obtain ⟨z1, z2, z3⟩ := hv
            have s1 : decide (ka ≤ wrap64 (yy - u.f3)) = true := decide_eq_true y1
            have s2 : decide (kb ≤ yy) = true := decide_eq_true y2
            have t1 : decide (kc ≤ wrap64 (vv - d.f2)) = true := decide_eq_true z1
            have t2 : decide (kd ≤ vv) = true := decide_eq_true z2
            clear y1 y2 z1 z2
            by_cases hq : wrap64 (yy - u.f3) = ka
            · have s3 : (wrap64 (yy - u.f3) == ka) = true := by simp [hq]
              clear y3 hq
              by_cases hq : wrap64 (vv - d.f2) = kc
              · have t3 : (wrap64 (vv - d.f2) == kc) = true := by simp [hq]
                clear z3 hq
                go_wp2
                go_ret
                exact ⟨rfl, HP.out.bel⟩
              · have t3 : (wrap64 (vv - d.f2) == kc) = false := by simp [hq]
                have t4 : (vv == kd) = true := by simp [z3.resolve_left hq]
                clear z3 hq
                go_wp2
                go_ret
                exact ⟨rfl, HP.out.bel⟩
            · have s3 : (wrap64 (yy - u.f3) == ka) = false := by simp [hq]
              have s4 : (yy == kb) = true := by simp [y3.resolve_left hq]
              clear y3 hq
              by_cases hq : wrap64 (vv - d.f2) = kc
              · have t3 : (wrap64 (vv - d.f2) == kc) = true := by simp [hq]
                clear z3 hq
                go_wp2
                go_ret
                exact ⟨rfl, HP.out.bel⟩
              · have t3 : (wrap64 (vv - d.f2) == kc) = false := by simp [hq]
                have t4 : (vv == kd) = true := by simp [z3.resolve_left hq]
                clear z3 hq
                go_wp2
                go_ret
                exact ⟨rfl, HP.out.bel⟩
          · have q1 : (G1 == 0) = true := by simp [e1]
            have HR1 := Aside0.mk (check_right (Nat.lt_succ_self _) (HG1.out.symm.trans e1))
            clear e1
            have hcu := cells7 (Pd.getb HP.out (b := gu) (by with_reducible repeat (first | exact List.mem_cons_self | apply List.mem_cons_of_mem)))
            go_wp2_with fail
            clear hcu
            refine (check_calls _ u (Nat.lt_succ_self _) _ Au nu Hlu.out (Kd.C_below HCu.out HP.out.bel)).mono ?_
            rintro _ w12 ⟨rfl, hb⟩
            replace HP := Aside0.mk (Pd.below HP.out hb); replace HQ := Aside0.mk (Pd.below HQ.out hb)
            clear hb
            try dsimp only
            obtain ⟨G2, hG2⟩ : ∃ G, G = checkV (SizeOf.sizeOf u).succ u := ⟨_, rfl⟩
            rw [← hG2]
            have HG2 := Aside0.mk hG2; clear hG2
            by_cases e2 : G2 = 0
            rotate_left
            · have q2 : (G2 == 0) = false := by simp [e2]
              clear e2
              go_wp2_with fail
              refine (limited_calls _).mono ?_
              rintro _ w20 ⟨rfl, hb⟩
              replace HP := Aside0.mk (Pd.below HP.out hb); replace HQ := Aside0.mk (Pd.below HQ.out hb)
              clear hb
              try dsimp only
              have hcu := cells7 (Pd.getb HP.out (b := gu) (by with_reducible repeat (first | exact List.mem_cons_self | apply List.mem_cons_of_mem)))
              have hcd := cells7 (Pd.getb HP.out (b := gd) (by with_reducible repeat (first | exact List.mem_cons_self | apply List.mem_cons_of_mem)))
              have hy := HY.out; have hv := HV.out; unfold Gapped at hy hv
              obtain ⟨y1, y2, y3⟩ := hy
              obtain ⟨z1, z2, z3⟩ := hv
              have s1 : decide (ka ≤ wrap64 (yy - u.f3)) = true := decide_eq_true y1
              have s2 : decide (kb ≤ yy) = true := decide_eq_true y2
              have t1 : decide (kc ≤ wrap64 (vv - d.f2)) = true := decide_eq_true z1
              have t2 : decide (kd ≤ vv) = true := decide_eq_true z2
              clear y1 y2 z1 z2
              by_cases hq : wrap64 (yy - u.f3) = ka
              · have s3 : (wrap64 (yy - u.f3) == ka) = true := by simp [hq]
                clear y3 hq
                by_cases hq : wrap64 (vv - d.f2) = kc
                · have t3 : (wrap64 (vv - d.f2) == kc) = true := by simp [hq]
                  clear z3 hq
                  go_wp2
                  go_ret
                  exact ⟨rfl, HP.out.bel⟩
                · have t3 : (wrap64 (vv - d.f2) == kc) = false := by simp [hq]
                  have t4 : (vv == kd) = true := by simp [z3.resolve_left hq]
                  clear z3 hq
                  go_wp2
                  go_ret
                  exact ⟨rfl, HP.out.bel⟩
              · have s3 : (wrap64 (yy - u.f3) == ka) = false := by simp [hq]
                have s4 : (yy == kb) = true := by simp [y3.resolve_left hq]
                clear y3 hq
                by_cases hq : wrap64 (vv - d.f2) = kc
                · have t3 : (wrap64 (vv - d.f2) == kc) = true := by simp [hq]
                  clear z3 hq
                  go_wp2
                  go_ret
                  exact ⟨rfl, HP.out.bel⟩
                · have t3 : (wrap64 (vv - d.f2) == kc) = false := by simp [hq]
                  have t4 : (vv == kd) = true := by simp [z3.resolve_left hq]
                  clear z3 hq
                  go_wp2
                  go_ret
                  exact ⟨rfl, HP.out.bel⟩
            · have q2 : (G2 == 0) = true := by simp [e2]
              have HR2 := Aside0.mk (check_right (Nat.lt_succ_self _) (HG2.out.symm.trans e2))
              clear e2
              have hcd := cells7 (Pd.getb HP.out (b := gd) (by with_reducible repeat (first | exact List.mem_cons_self | apply List.mem_cons_of_mem)))
              go_wp2_with fail
              clear hcd
              refine (check_calls _ d (Nat.lt_succ_self _) _ Ad nd Hld.out (Kd.C_below HCd.out HP.out.bel)).mono ?_
              rintro _ w13 ⟨rfl, hb⟩
              replace HP := Aside0.mk (Pd.below HP.out hb); replace HQ := Aside0.mk (Pd.below HQ.out hb)
              clear hb
              try dsimp only
              obtain ⟨G3, hG3⟩ : ∃ G, G = checkV (SizeOf.sizeOf d).succ d := ⟨_, rfl⟩
              rw [← hG3]
              have HG3 := Aside0.mk hG3; clear hG3
              by_cases e3 : G3 = 0
              rotate_left
              · have q3 : (G3 == 0) = false := by simp [e3]
                clear e3
                go_wp2_with fail
                refine (limited_calls _).mono ?_
                rintro _ w20 ⟨rfl, hb⟩
                replace HP := Aside0.mk (Pd.below HP.out hb); replace HQ := Aside0.mk (Pd.below HQ.out hb)
                clear hb
                try dsimp only
                have hcu := cells7 (Pd.getb HP.out (b := gu) (by with_reducible repeat (first | exact List.mem_cons_self | apply List.mem_cons_of_mem)))
                have hcd := cells7 (Pd.getb HP.out (b := gd) (by with_reducible repeat (first | exact List.mem_cons_self | apply List.mem_cons_of_mem)))
                have hy := HY.out; have hv := HV.out; unfold Gapped at hy hv
                obtain ⟨y1, y2, y3⟩ := hy
                obtain ⟨z1, z2, z3⟩ := hv
                have s1 : decide (ka ≤ wrap64 (yy - u.f3)) = true := decide_eq_true y1
                have s2 : decide (kb ≤ yy) = true := decide_eq_true y2
                have t1 : decide (kc ≤ wrap64 (vv - d.f2)) = true := decide_eq_true z1
                have t2 : decide (kd ≤ vv) = true := decide_eq_true z2
                clear y1 y2 z1 z2
                by_cases hq : wrap64 (yy - u.f3) = ka
                · have s3 : (wrap64 (yy - u.f3) == ka) = true := by simp [hq]
                  clear y3 hq
                  by_cases hq : wrap64 (vv - d.f2) = kc
                  · have t3 : (wrap64 (vv - d.f2) == kc) = true := by simp [hq]
                    clear z3 hq
                    go_wp2
                    go_ret
                    exact ⟨rfl, HP.out.bel⟩
                  · have t3 : (wrap64 (vv - d.f2) == kc) = false := by simp [hq]
                    have t4 : (vv == kd) = true := by simp [z3.resolve_left hq]
                    clear z3 hq
                    go_wp2
                    go_ret
                    exact ⟨rfl, HP.out.bel⟩
                · have s3 : (wrap64 (yy - u.f3) == ka) = false := by simp [hq]
                  have s4 : (yy == kb) = true := by simp [y3.resolve_left hq]
                  clear y3 hq
                  by_cases hq : wrap64 (vv - d.f2) = kc
                  · have t3 : (wrap64 (vv - d.f2) == kc) = true := by simp [hq]
                    clear z3 hq
                    go_wp2
                    go_ret
                    exact ⟨rfl, HP.out.bel⟩
                  · have t3 : (wrap64 (vv - d.f2) == kc) = false := by simp [hq]
                    have t4 : (vv == kd) = true := by simp [z3.resolve_left hq]
                    clear z3 hq
                    go_wp2
                    go_ret
                    exact ⟨rfl, HP.out.bel⟩
              · have q3 : (G3 == 0) = true := by simp [e3]
                have HR3 := Aside0.mk (check_right (Nat.lt_succ_self _) (HG3.out.symm.trans e3))
                clear e3
                have h13 := cells7 (Pd.getb HP.out (b := g13) (by with_reducible repeat (first | exact List.mem_cons_self | apply List.mem_cons_of_mem)))
                go_wp2_with fail
                clear h13
                refine (check_calls _ (⟨3, W, hh, dd, 0, 0, [⟨p, 0, x⟩, ⟨q, Y, u⟩, ⟨r, Z, d⟩]⟩ : S25) (Nat.lt_succ_self _) _ (some ad) n5 HL5.out (Kd.C_below HC5.out HQ.out.bel)).mono ?_
                rintro _ w15 ⟨rfl, hb⟩
                replace HP := Aside0.mk (Pd.below HP.out hb); replace HQ := Aside0.mk (Pd.below HQ.out hb)
                clear hb
                try dsimp only
                obtain ⟨G4, hG4⟩ : ∃ G, G = checkV (SizeOf.sizeOf (⟨3, W, hh, dd, 0, 0, [⟨p, 0, x⟩, ⟨q, Y, u⟩, ⟨r, Z, d⟩]⟩ : S25)).succ (⟨3, W, hh, dd, 0, 0, [⟨p, 0, x⟩, ⟨q, Y, u⟩, ⟨r, Z, d⟩]⟩ : S25) := ⟨_, rfl⟩
                rw [← hG4]
                have q4 : (G4 == 5) = false := by rw [hG4]; simpa using right_check (Nat.lt_succ_self _) (HRT.out HR1.out HR2.out HR3.out)
                clear hG4
                go_wp2_with fail
                refine (limited_calls _).mono ?_
                rintro _ w20 ⟨rfl, hb⟩
                replace HP := Aside0.mk (Pd.below HP.out hb); replace HQ := Aside0.mk (Pd.below HQ.out hb)
                clear hb
                try dsimp only
                have hcu := cells7 (Pd.getb HP.out (b := gu) (by with_reducible repeat (first | exact List.mem_cons_self | apply List.mem_cons_of_mem)))
                have hcd := cells7 (Pd.getb HP.out (b := gd) (by with_reducible repeat (first | exact List.mem_cons_self | apply List.mem_cons_of_mem)))
                have hy := HY.out; have hv := HV.out; unfold Gapped at hy hv
                obtain ⟨y1, y2, y3⟩ := hy
                obtain ⟨z1, z2, z3⟩ := hv
                have s1 : decide (ka ≤ wrap64 (yy - u.f3)) = true := decide_eq_true y1
                have s2 : decide (kb ≤ yy) = true := decide_eq_true y2
                have t1 : decide (kc ≤ wrap64 (vv - d.f2)) = true := decide_eq_true z1
                have t2 : decide (kd ≤ vv) = true := decide_eq_true z2
                clear y1 y2 z1 z2
                by_cases hq : wrap64 (yy - u.f3) = ka
                · have s3 : (wrap64 (yy - u.f3) == ka) = true := by simp [hq]
                  clear y3 hq
                  by_cases hq : wrap64 (vv - d.f2) = kc
                  · have t3 : (wrap64 (vv - d.f2) == kc) = true := by simp [hq]
                    clear z3 hq
                    go_wp2
                    go_ret
                    exact ⟨rfl, HP.out.bel⟩
                  · have t3 : (wrap64 (vv - d.f2) == kc) = false := by simp [hq]
                    have t4 : (vv == kd) = true := by simp [z3.resolve_left hq]
                    clear z3 hq
                    go_wp2
                    go_ret
                    exact ⟨rfl, HP.out.bel⟩
                · have s3 : (wrap64 (yy - u.f3) == ka) = false := by simp [hq]
                  have s4 : (yy == kb) = true := by simp [y3.resolve_left hq]
                  clear y3 hq
                  by_cases hq : wrap64 (vv - d.f2) = kc
                  · have t3 : (wrap64 (vv - d.f2) == kc) = true := by simp [hq]
                    clear z3 hq
                    go_wp2
                    go_ret
                    exact ⟨rfl, HP.out.bel⟩
                  · have t3 : (wrap64 (vv - d.f2) == kc) = false := by simp [hq]
                    have t4 : (vv == kd) = true := by simp [z3.resolve_left hq]
                    clear z3 hq
                    go_wp2
                    go_ret
                    exact ⟨rfl, HP.out.bel⟩
end Go.Proofs.Ytbhljokhcmfgjaa.P
