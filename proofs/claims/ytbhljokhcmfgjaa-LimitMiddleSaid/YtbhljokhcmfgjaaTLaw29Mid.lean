import Derived.Test.YtbhljokhcmfgjaaTMid2
import Derived.Test.YtbhljokhcmfgjaaWide
import Derived.Test.YtbhljokhcmfgjaaTLimA
import Derived.Test.YtbhljokhcmfgjaaTLimF
import Derived.Test.YtbhljokhcmfgjaaTLim7
/- The law imitMiddle: the walk. Printed by a program of this work (mkmid.py). -/
set_option linter.unusedVariables false
set_option linter.unusedSimpArgs false
namespace Go.Proofs.Ytbhljokhcmfgjaa.P
open Go.RowKit Go.Proofs.YtbhljokhcmfgjaaW.PrintWords Go.Proofs.YtbhljokhcmfgjaaW.PrintLast Go.Proofs.YtbhljokhcmfgjaaW.PrintMore

theorem Pd.put9_8 {w W : World} {L : List (Nat × Obj)} {q : Nat} {t : TypeId} {u0 u1 u2 u3 u4 u5 u6 u7 u8 v : Value} (h : Pd w W ((q, .cells #[u0, u1, u2, u3, u4, u5, u6, u7, u8] t (0, 0)) :: L)) : Pd w (W.setCell ⟨q, 8, none⟩ v) ((q, .cells #[u0, u1, u2, u3, u4, u5, u6, u7, v] t (0, 0)) :: L) :=
  h.put (blk_put h.hd 8 v rfl) (fun k hk => Below.heap_setCell _ ⟨q, 8, none⟩ v k hk) (h.bel.setCell (p := ⟨q, 8, none⟩) (h.loc _ List.mem_cons_self).2 v)
attribute [local go_sem] max2_int max_two max_three
set_option maxRecDepth 100000 in
set_option maxHeartbeats 8000000 in
theorem law_lmiddle (w : World) (F : S63) (c z : Int) (x : S25) (gx ix : Int) (u d : S25) (Ax : Option Addr) (nx : Nat) (Au : Option Addr) (nu : Nat) (Ad : Option Addr) (nd : Nat) (cs : List Value) (hF : FontIn w F cs) (hOx : Ok25 x) (hlx : x.f6.length ≤ nx) (hCx : Kd.C k41 w Ax x.f6.length x.f6) (hOu : Ok25 u) (hlu : u.f6.length ≤ nu) (hCu : Kd.C k41 w Au u.f6.length u.f6) (hOd : Ok25 d) (hld : d.f6.length ≤ nd) (hCd : Kd.C k41 w Ad d.f6.length d.f6) : Calls Try.prog 9 #[.agg cs.toArray, .int .i64 c, .int .i64 z, .agg #[.int .i64 x.f0, .int .i64 x.f1, .int .i64 x.f2, .int .i64 x.f3, .int .i64 x.f4, .int .i64 x.f5, .slice Ax x.f6.length nx, .int .i64 gx, .int .i64 ix], .agg #[.int .i64 u.f0, .int .i64 u.f1, .int .i64 u.f2, .int .i64 u.f3, .int .i64 u.f4, .int .i64 u.f5, .slice Au u.f6.length nu], .agg #[.int .i64 d.f0, .int .i64 d.f1, .int .i64 d.f2, .int .i64 d.f3, .int .i64 d.f4, .int .i64 d.f5, .slice Ad d.f6.length nd]] w fun r w' => r = .returned (.bool true) ∧ Below w.heap.size w w' := by
  have hu39 := Try.underlying25
  have hu36 := Try.underlying63
  have hu73 := Try.underlying73
  have hu49 := Try.underlying41
  have HF := Aside0.mk hF
  have HOx := Aside0.mk hOx; clear hOx
  have Hlx := Aside0.mk hlx; clear hlx
  have HCx := Aside0.mk hCx; clear hCx
  have HOu := Aside0.mk hOu; clear hOu
  have Hlu := Aside0.mk hlu; clear hlu
  have HCu := Aside0.mk hCu; clear hCu
  have HOd := Aside0.mk hOd; clear hOd
  have Hld := Aside0.mk hld; clear hld
  have HCd := Aside0.mk hCd; clear hCd
  obtain ⟨A6, c6, A7, c7, A8, c8, A9, c9, A10, c10, A11, c11, A12, c12, A13, c13, A15, c15, A16, c16, hcs, hcr⟩ := id hF
  subst hcs
  clear hcr hF
  have HP := Aside0.mk (Pd.start w)
  go_enter Try.func9, Try.ntmps9
  go_wp2_with (first | ((with_reducible refine gate_dst (N := 6) rfl ?_); refine box_event ?hg (N := 6) ?hd (cs := #[.int .i64 F.f0.f0, .int .i64 F.f0.f1, .int .i64 F.f0.f2, .int .i64 F.f0.f3, .int .i64 F.f0.f4, .bool F.f0.f5, .slice A6 F.f1.length c6, .slice A7 F.f2.length c7, .slice A8 F.f3.length c8, .slice A9 F.f4.f0.length c9, .slice A10 F.f4.f1.length c10, .slice A11 F.f4.f2.length c11, .slice A12 F.f4.f3.length c12, .slice A13 F.f4.f4.length c13, .int .i64 F.f4.f5.f0, .slice A15 F.f4.f5.f1.length c15, .slice A16 F.f4.f5.f2.length c16]) (t := 63) ?hr ?_; (case hd => rfl); (case hg => rfl); (case hr => first | (go_simp; done) | (go_simp; rfl)); intro gf hg wk hbox hb; replace HP := Aside0.mk (Pd.box (by with_reducible repeat (first | exact HP.out | apply Pd.drew)) hg hbox hb); clear hg hbox hb) | ((with_reducible refine gate_dst (N := 9) rfl ?_); refine box_event ?hg (N := 9) ?hd (cs := #[.int .i64 x.f0, .int .i64 x.f1, .int .i64 x.f2, .int .i64 x.f3, .int .i64 x.f4, .int .i64 x.f5, .slice Ax x.f6.length nx, .int .i64 gx, .int .i64 ix]) (t := 73) ?hr ?_; (case hd => rfl); (case hg => rfl); (case hr => first | (go_simp; done) | (go_simp; rfl)); intro gn hg wk hbox hb; replace HP := Aside0.mk (Pd.box (by with_reducible repeat (first | exact HP.out | apply Pd.drew)) hg hbox hb); clear hg hbox hb) | ((with_reducible refine gate_dst (N := 10) rfl ?_); refine box_event ?hg (N := 10) ?hd (cs := #[.int .i64 u.f0, .int .i64 u.f1, .int .i64 u.f2, .int .i64 u.f3, .int .i64 u.f4, .int .i64 u.f5, .slice Au u.f6.length nu]) (t := 25) ?hr ?_; (case hd => rfl); (case hg => rfl); (case hr => first | (go_simp; done) | (go_simp; rfl)); intro gu hg wk hbox hb; replace HP := Aside0.mk (Pd.box (by with_reducible repeat (first | exact HP.out | apply Pd.drew)) hg hbox hb); clear hg hbox hb) | ((with_reducible refine gate_dst (N := 11) rfl ?_); refine box_event ?hg (N := 11) ?hd (cs := #[.int .i64 d.f0, .int .i64 d.f1, .int .i64 d.f2, .int .i64 d.f3, .int .i64 d.f4, .int .i64 d.f5, .slice Ad d.f6.length nd]) (t := 25) ?hr ?_; (case hd => rfl); (case hg => rfl); (case hr => first | (go_simp; done) | (go_simp; rfl)); intro gd hg wk hbox hb; replace HP := Aside0.mk (Pd.box (by with_reducible repeat (first | exact HP.out | apply Pd.drew)) hg hbox hb); clear hg hbox hb; have hn := nuc_c9 (Pd.getb HP.out (b := gn) (by with_reducible repeat (first | exact List.mem_cons_self | apply List.mem_cons_of_mem)))) | ((with_reducible refine gate_dst (N := 22) rfl ?_); refine wpList_load_row rfl 63 (.tmp 6) rfl gf (by rfl) 63 #[.int .i64 F.f0.f0, .int .i64 F.f0.f1, .int .i64 F.f0.f2, .int .i64 F.f0.f3, .int .i64 F.f0.f4, .bool F.f0.f5, .slice A6 F.f1.length c6, .slice A7 F.f2.length c7, .slice A8 F.f3.length c8, .slice A9 F.f4.f0.length c9, .slice A10 F.f4.f1.length c10, .slice A11 F.f4.f2.length c11, .slice A12 F.f4.f3.length c12, .slice A13 F.f4.f4.length c13, .int .i64 F.f4.f5.f0, .slice A15 F.f4.f5.f1.length c15, .slice A16 F.f4.f5.f2.length c16] (0, 0) _ (Pd.getb HP.out (b := gf) (o := .cells #[.int .i64 F.f0.f0, .int .i64 F.f0.f1, .int .i64 F.f0.f2, .int .i64 F.f0.f3, .int .i64 F.f0.f4, .bool F.f0.f5, .slice A6 F.f1.length c6, .slice A7 F.f2.length c7, .slice A8 F.f3.length c8, .slice A9 F.f4.f0.length c9, .slice A10 F.f4.f1.length c10, .slice A11 F.f4.f2.length c11, .slice A12 F.f4.f3.length c12, .slice A13 F.f4.f4.length c13, .int .i64 F.f4.f5.f0, .slice A15 F.f4.f5.f1.length c15, .slice A16 F.f4.f5.f2.length c16] 63 (0, 0)) (by with_reducible repeat (first | exact List.mem_cons_self | apply List.mem_cons_of_mem))) hu36 rfl info_font ?_))
  refine (few29_calls _ F x gx ix x gx ix Ax nx Ax nx _ (HF.out.heap HP.out.bel) HOx.out Hlx.out (Kd.C_below HCx.out HP.out.bel) HOx.out Hlx.out (Kd.C_below HCx.out HP.out.bel)).mono ?_
  rintro _ w1 ⟨q, rfl, _, hb⟩
  replace HP := Aside0.mk (Pd.below HP.out hb)
  clear hb
  try dsimp only
  clear hn
  cases q with
  | false =>
    go_wp2
    go_ret
    exact ⟨rfl, HP.out.bel⟩
  | true =>
    have hcu := cells7 (Pd.getb HP.out (b := gu) (by with_reducible repeat (first | exact List.mem_cons_self | apply List.mem_cons_of_mem)))
    go_wp2_with fail
    clear hcu
    refine (few23_calls _ u HOu.out Au nu Hlu.out (Kd.C_below HCu.out HP.out.bel)).mono ?_
    rintro _ w2 ⟨q, rfl, hb⟩
    replace HP := Aside0.mk (Pd.below HP.out hb)
    clear hb
    try dsimp only
    cases q with
    | false =>
      go_wp2
      go_ret
      exact ⟨rfl, HP.out.bel⟩
    | true =>
      have hcd := cells7 (Pd.getb HP.out (b := gd) (by with_reducible repeat (first | exact List.mem_cons_self | apply List.mem_cons_of_mem)))
      go_wp2_with fail
      clear hcd
      refine (few23_calls _ d HOd.out Ad nd Hld.out (Kd.C_below HCd.out HP.out.bel)).mono ?_
      rintro _ w3 ⟨q, rfl, hb⟩
      replace HP := Aside0.mk (Pd.below HP.out hb)
      clear hb
      try dsimp only
      cases q with
      | false =>
        go_wp2
        go_ret
        exact ⟨rfl, HP.out.bel⟩
      | true =>
        have hn := nuc_c9 (Pd.getb HP.out (b := gn) (by with_reducible repeat (first | exact List.mem_cons_self | apply List.mem_cons_of_mem)))
        go_wp2_with (first | ((with_reducible refine gate_dst (N := 13) rfl ?_); refine box_event ?hg (N := 13) ?hd (cs := #[.int .i64 0, .int .i64 0, .int .i64 0, .int .i64 0, .int .i64 0, .int .i64 0, .slice none 0 0, .int .i64 0, .int .i64 0]) (t := 73) ?hr ?_; (case hd => rfl); (case hg => rfl); (case hr => first | (go_simp; done) | (go_simp; rfl)); intro gm hg wk hbox hb; replace HP := Aside0.mk (Pd.box HP.out hg hbox hb); clear hg hbox hb; have hcz := cells9 (Pd.hd HP.out); have hfz := froz9 (Pd.hd HP.out)) | (have hgo := hcz; clear hgo; (with_reducible refine gate_dst (N := 38) rfl ?_); refine Pd.fold (Pd.set9l HP.out) ?_; intro W1 h0; replace HP := Aside0.mk h0; clear h0 hcz hfz; clear hn; have hcy := nuc_c9 (Pd.hd HP.out); have hfy := froz9 (Pd.hd HP.out)) | (have hgo := hcy; clear hgo; (with_reducible refine gate_dst (N := 40) rfl ?_); refine Pd.fold (Pd.put9_8 HP.out) ?_; intro W2 h0; replace HP := Aside0.mk h0; clear h0 hcy hfy; have hm := nuc_c9 (Pd.getb HP.out (b := gm) (by with_reducible repeat (first | exact List.mem_cons_self | apply List.mem_cons_of_mem))); have hcu := cells7 (Pd.getb HP.out (b := gu) (by with_reducible repeat (first | exact List.mem_cons_self | apply List.mem_cons_of_mem))); have hcd := cells7 (Pd.getb HP.out (b := gd) (by with_reducible repeat (first | exact List.mem_cons_self | apply List.mem_cons_of_mem))); refine wpList_load_row rfl 63 (.tmp 6) rfl gf (by rfl) 63 #[.int .i64 F.f0.f0, .int .i64 F.f0.f1, .int .i64 F.f0.f2, .int .i64 F.f0.f3, .int .i64 F.f0.f4, .bool F.f0.f5, .slice A6 F.f1.length c6, .slice A7 F.f2.length c7, .slice A8 F.f3.length c8, .slice A9 F.f4.f0.length c9, .slice A10 F.f4.f1.length c10, .slice A11 F.f4.f2.length c11, .slice A12 F.f4.f3.length c12, .slice A13 F.f4.f4.length c13, .int .i64 F.f4.f5.f0, .slice A15 F.f4.f5.f1.length c15, .slice A16 F.f4.f5.f2.length c16] (0, 0) _ (Pd.getb HP.out (b := gf) (o := .cells #[.int .i64 F.f0.f0, .int .i64 F.f0.f1, .int .i64 F.f0.f2, .int .i64 F.f0.f3, .int .i64 F.f0.f4, .bool F.f0.f5, .slice A6 F.f1.length c6, .slice A7 F.f2.length c7, .slice A8 F.f3.length c8, .slice A9 F.f4.f0.length c9, .slice A10 F.f4.f1.length c10, .slice A11 F.f4.f2.length c11, .slice A12 F.f4.f3.length c12, .slice A13 F.f4.f4.length c13, .int .i64 F.f4.f5.f0, .slice A15 F.f4.f5.f1.length c15, .slice A16 F.f4.f5.f2.length c16] 63 (0, 0)) (by with_reducible repeat (first | exact List.mem_cons_self | apply List.mem_cons_of_mem))) hu36 rfl info_font ?_) | ((with_reducible refine gate_dst (N := 45) rfl ?_); refine lit_event ?hg (N := 45) ?hd (cs := #[.int .i64 u.f0, .int .i64 u.f1, .int .i64 u.f2, .int .i64 u.f3, .int .i64 u.f4, .int .i64 u.f5, .slice Au u.f6.length nu]) (t := 25) (n := 1) ?hr ?_; (case hd => rfl); (case hg => rfl); (case hr => first | (go_simp; done) | (go_simp; rfl)); intro q1 hg wl hbox hb; replace HP := Aside0.mk (Pd.box HP.out hg hbox hb); clear hg hbox hb; clear hcd; have hcd := cells7 (Pd.getb HP.out (b := gd) (by with_reducible repeat (first | exact List.mem_cons_self | apply List.mem_cons_of_mem)))) | ((with_reducible refine gate_dst (N := 47) rfl ?_); refine lit_event ?hg (N := 47) ?hd (cs := #[.int .i64 d.f0, .int .i64 d.f1, .int .i64 d.f2, .int .i64 d.f3, .int .i64 d.f4, .int .i64 d.f5, .slice Ad d.f6.length nd]) (t := 25) (n := 1) ?hr ?_; (case hd => rfl); (case hg => rfl); (case hr => first | (go_simp; done) | (go_simp; rfl)); intro q2 hg wl hbox hb; replace HP := Aside0.mk (Pd.box HP.out hg hbox hb); clear hg hbox hb; clear hcd hcu hm))
        refine (lim11_calls F c z x gx 0 u d Ax nx (some ⟨q1, 0, none⟩) 1 (some ⟨q2, 0, none⟩) 1 _ _ (HF.out.heap HP.out.bel) Hlx.out (Kd.C_below HCx.out HP.out.bel) (row_C (xs := [(u : S25)]) (css := [[.int .i64 u.f0, .int .i64 u.f1, .int .i64 u.f2, .int .i64 u.f3, .int .i64 u.f4, .int .i64 u.f5, .slice Au u.f6.length nu]]) ⟨k25_mk _ u Hlu.out (Kd.C_below HCu.out HP.out.bel), trivial⟩ (Pd.getb HP.out (b := q1) (o := .cells #[.int .i64 u.f0, .int .i64 u.f1, .int .i64 u.f2, .int .i64 u.f3, .int .i64 u.f4, .int .i64 u.f5, .slice Au u.f6.length nu] 25 (0, 0)) (by with_reducible repeat (first | exact List.mem_cons_self | apply List.mem_cons_of_mem))) (by simp)) (row_C (xs := [(d : S25)]) (css := [[.int .i64 d.f0, .int .i64 d.f1, .int .i64 d.f2, .int .i64 d.f3, .int .i64 d.f4, .int .i64 d.f5, .slice Ad d.f6.length nd]]) ⟨k25_mk _ d Hld.out (Kd.C_below HCd.out HP.out.bel), trivial⟩ (Pd.getb HP.out (b := q2) (o := .cells #[.int .i64 d.f0, .int .i64 d.f1, .int .i64 d.f2, .int .i64 d.f3, .int .i64 d.f4, .int .i64 d.f5, .slice Ad d.f6.length nd] 25 (0, 0)) (by with_reducible repeat (first | exact List.mem_cons_self | apply List.mem_cons_of_mem))) (by simp))).mono ?_
        rintro _ w5 ⟨A5, n5, rfl, hl, hC, hb⟩
        replace HP := Aside0.mk (Pd.below HP.out hb)
        clear hb
        obtain ⟨R0, hR⟩ : ∃ R, R = lim11V F c z x 0 u d := ⟨_, rfl⟩
        rw [← hR] at hl hC ⊢
        have HR0 := Aside0.mk hR
        have HL5 := Aside0.mk hl
        have HC5 := Aside0.mk hC
        clear hR hl hC
        have HQ := Aside0.mk (Pd.start w5)
        go_wp2_with (first | ((with_reducible refine gate_dst (N := 14) rfl ?_); refine box_event ?hg (N := 14) ?hd (cs := #[.int .i64 0, .int .i64 0, .int .i64 0, .int .i64 0, .int .i64 0, .int .i64 0, .slice none 0 0]) (t := 25) ?hr ?_; (case hd => rfl); (case hg => rfl); (case hr => first | (go_simp; done) | (go_simp; rfl)); intro g14 hg wk hbox hb; replace HP := Aside0.mk (Pd.box HP.out hg hbox hb); replace HQ := Aside0.mk (Pd.box HQ.out hg hbox hb); clear hg hbox hb; have hcz := cells7 (Pd.hd HP.out); have hfz := froz7 (Pd.hd HP.out)) | (have hgo := hcz; clear hgo; (with_reducible refine gate_dst (N := 52) rfl ?_); refine Pd.fold2 (Pd.st7 HP.out) (Pd.st7 HQ.out) ?_; intro W3 h0 h1; replace HP := Aside0.mk h0; replace HQ := Aside0.mk h1; clear h0 h1 hcz hfz; have hn := nuc_c9 (Pd.getb HP.out (b := gn) (by with_reducible repeat (first | exact List.mem_cons_self | apply List.mem_cons_of_mem))); have hcu := cells7 (Pd.getb HP.out (b := gu) (by with_reducible repeat (first | exact List.mem_cons_self | apply List.mem_cons_of_mem))); have hcd := cells7 (Pd.getb HP.out (b := gd) (by with_reducible repeat (first | exact List.mem_cons_self | apply List.mem_cons_of_mem))); refine wpList_load_row rfl 63 (.tmp 6) rfl gf (by rfl) 63 #[.int .i64 F.f0.f0, .int .i64 F.f0.f1, .int .i64 F.f0.f2, .int .i64 F.f0.f3, .int .i64 F.f0.f4, .bool F.f0.f5, .slice A6 F.f1.length c6, .slice A7 F.f2.length c7, .slice A8 F.f3.length c8, .slice A9 F.f4.f0.length c9, .slice A10 F.f4.f1.length c10, .slice A11 F.f4.f2.length c11, .slice A12 F.f4.f3.length c12, .slice A13 F.f4.f4.length c13, .int .i64 F.f4.f5.f0, .slice A15 F.f4.f5.f1.length c15, .slice A16 F.f4.f5.f2.length c16] (0, 0) _ (Pd.getb HP.out (b := gf) (o := .cells #[.int .i64 F.f0.f0, .int .i64 F.f0.f1, .int .i64 F.f0.f2, .int .i64 F.f0.f3, .int .i64 F.f0.f4, .bool F.f0.f5, .slice A6 F.f1.length c6, .slice A7 F.f2.length c7, .slice A8 F.f3.length c8, .slice A9 F.f4.f0.length c9, .slice A10 F.f4.f1.length c10, .slice A11 F.f4.f2.length c11, .slice A12 F.f4.f3.length c12, .slice A13 F.f4.f4.length c13, .int .i64 F.f4.f5.f0, .slice A15 F.f4.f5.f1.length c15, .slice A16 F.f4.f5.f2.length c16] 63 (0, 0)) (by with_reducible repeat (first | exact List.mem_cons_self | apply List.mem_cons_of_mem))) hu36 rfl info_font ?_) | ((with_reducible refine gate_dst (N := 57) rfl ?_); refine lit_event ?hg (N := 57) ?hd (cs := #[.int .i64 u.f0, .int .i64 u.f1, .int .i64 u.f2, .int .i64 u.f3, .int .i64 u.f4, .int .i64 u.f5, .slice Au u.f6.length nu]) (t := 25) (n := 1) ?hr ?_; (case hd => rfl); (case hg => rfl); (case hr => first | (go_simp; done) | (go_simp; rfl)); intro q3 hg wl hbox hb; replace HP := Aside0.mk (Pd.box HP.out hg hbox hb); replace HQ := Aside0.mk (Pd.box HQ.out hg hbox hb); clear hg hbox hb; clear hcd; have hcd := cells7 (Pd.getb HP.out (b := gd) (by with_reducible repeat (first | exact List.mem_cons_self | apply List.mem_cons_of_mem)))) | ((with_reducible refine gate_dst (N := 59) rfl ?_); refine lit_event ?hg (N := 59) ?hd (cs := #[.int .i64 d.f0, .int .i64 d.f1, .int .i64 d.f2, .int .i64 d.f3, .int .i64 d.f4, .int .i64 d.f5, .slice Ad d.f6.length nd]) (t := 25) (n := 1) ?hr ?_; (case hd => rfl); (case hg => rfl); (case hr => first | (go_simp; done) | (go_simp; rfl)); intro q4 hg wl hbox hb; replace HP := Aside0.mk (Pd.box HP.out hg hbox hb); replace HQ := Aside0.mk (Pd.box HQ.out hg hbox hb); clear hg hbox hb; clear hcd hcu hn))
        refine (lim11_calls F c z x gx ix u d Ax nx (some ⟨q3, 0, none⟩) 1 (some ⟨q4, 0, none⟩) 1 _ _ (HF.out.heap HP.out.bel) Hlx.out (Kd.C_below HCx.out HP.out.bel) (row_C (xs := [(u : S25)]) (css := [[.int .i64 u.f0, .int .i64 u.f1, .int .i64 u.f2, .int .i64 u.f3, .int .i64 u.f4, .int .i64 u.f5, .slice Au u.f6.length nu]]) ⟨k25_mk _ u Hlu.out (Kd.C_below HCu.out HP.out.bel), trivial⟩ (Pd.getb HP.out (b := q3) (o := .cells #[.int .i64 u.f0, .int .i64 u.f1, .int .i64 u.f2, .int .i64 u.f3, .int .i64 u.f4, .int .i64 u.f5, .slice Au u.f6.length nu] 25 (0, 0)) (by with_reducible repeat (first | exact List.mem_cons_self | apply List.mem_cons_of_mem))) (by simp)) (row_C (xs := [(d : S25)]) (css := [[.int .i64 d.f0, .int .i64 d.f1, .int .i64 d.f2, .int .i64 d.f3, .int .i64 d.f4, .int .i64 d.f5, .slice Ad d.f6.length nd]]) ⟨k25_mk _ d Hld.out (Kd.C_below HCd.out HP.out.bel), trivial⟩ (Pd.getb HP.out (b := q4) (o := .cells #[.int .i64 d.f0, .int .i64 d.f1, .int .i64 d.f2, .int .i64 d.f3, .int .i64 d.f4, .int .i64 d.f5, .slice Ad d.f6.length nd] 25 (0, 0)) (by with_reducible repeat (first | exact List.mem_cons_self | apply List.mem_cons_of_mem))) (by simp))).mono ?_
        rintro _ w6 ⟨A6r, n6r, rfl, hl, hC, hb⟩
        replace HP := Aside0.mk (Pd.below HP.out hb); replace HQ := Aside0.mk (Pd.below HQ.out hb)
        clear hb
        obtain ⟨R1, hR⟩ : ∃ R, R = lim11V F c z x ix u d := ⟨_, rfl⟩
        rw [← hR] at hl hC ⊢
        have HR1 := Aside0.mk hR
        have HL6 := Aside0.mk hl
        have HC6 := Aside0.mk hC
        clear hR hl hC
        replace HC5 := Aside0.mk (Kd.C_below HC5.out HQ.out.bel)
        replace HQ := Aside0.mk (Pd.start w6)
        go_upto_if 64 with (first | ((with_reducible refine gate_dst (N := 16) rfl ?_); refine box_event ?hg (N := 16) ?hd (cs := #[.int .i64 0, .int .i64 0, .int .i64 0, .int .i64 0, .int .i64 0, .int .i64 0, .slice none 0 0]) (t := 25) ?hr ?_; (case hd => rfl); (case hg => rfl); (case hr => first | (go_simp; done) | (go_simp; rfl)); intro g16 hg wk hbox hb; replace HP := Aside0.mk (Pd.box HP.out hg hbox hb); replace HQ := Aside0.mk (Pd.box HQ.out hg hbox hb); clear hg hbox hb; have hcz := cells7 (Pd.hd HP.out); have hfz := froz7 (Pd.hd HP.out)) | (have hgo := hcz; clear hgo; (with_reducible refine gate_dst (N := 63) rfl ?_); refine Pd.fold2 (Pd.st7 HP.out) (Pd.st7 HQ.out) ?_; intro WS h0 h1; replace HP := Aside0.mk h0; replace HQ := Aside0.mk h1; clear h0 h1 hcz hfz; skip))
        by_cases he : R0.2.2.2.2.2.2.2 = 0
        rotate_left
        · have d1 : (R0.2.2.2.2.2.2.2 == 0) = false := by simpa using he
          have hr1 : R1.2.2.2.2.2.2.2 ≠ 0 := by rw [HR1.out]; exact middle_err (by rw [← HR0.out]; exact he)
          have d2 : (R1.2.2.2.2.2.2.2 != 0) = true := by simpa using hr1
          clear hr1 he
          go_wp2_with fail
          refine (limited_calls _).mono ?_
          rintro _ w7 ⟨rfl, hb⟩
          replace HP := Aside0.mk (Pd.below HP.out hb); replace HQ := Aside0.mk (Pd.below HQ.out hb)
          clear hb
          try dsimp only
          go_wp2
          go_ret
          exact ⟨rfl, HP.out.bel⟩
        · obtain ⟨hh, dd, p, q, r, Y, Z, hV, m1, m2, m3, hI⟩ := middle_plain (F := F) (c := c) (z := z) (x := x) (u := u) (d := d) (by rw [← HR0.out]; exact he)
          obtain ⟨W, hW⟩ : ∃ W, W = max (max x.f1 u.f1) d.f1 := ⟨_, rfl⟩
          rw [← hW] at hV m1 m2 m3 hI
          have hR0 := HR0.out.trans hV
          clear HR0 hV he
          subst hR0
          dsimp only at HL5 HC5 HP HQ ⊢
          simp only [List.length_cons, List.length_nil, Nat.reduceAdd] at HP HQ
          have M1 := Aside0.mk m1; clear m1
          have M2 := Aside0.mk m2; clear m2
          have M3 := Aside0.mk m3; clear m3
          have HI := Aside0.mk hI; clear hI
          obtain ⟨ad, hA⟩ := kid_ad HC5.out (by simp)
          subst hA
          have h14 := cells7 (Pd.getb HP.out (b := g14) (by with_reducible repeat (first | exact List.mem_cons_self | apply List.mem_cons_of_mem)))
          have hn := nuc_c9 (Pd.getb HP.out (b := gn) (by with_reducible repeat (first | exact List.mem_cons_self | apply List.mem_cons_of_mem)))
          have hcu := cells7 (Pd.getb HP.out (b := gu) (by with_reducible repeat (first | exact List.mem_cons_self | apply List.mem_cons_of_mem)))
          have hcd := cells7 (Pd.getb HP.out (b := gd) (by with_reducible repeat (first | exact List.mem_cons_self | apply List.mem_cons_of_mem)))
          have hW2 : (if (if x.f1 < u.f1 then u.f1 else x.f1) < d.f1 then d.f1 else (if x.f1 < u.f1 then u.f1 else x.f1)) = W := by rw [hW]; repeat' split <;> omega
          have HWW := Aside0.mk hW; clear hW
          go_wp2_with fail
          have HCW := Aside0.mk (Kd.C_below HC5.out HQ.out.bel)
          obtain ⟨ad', A8k0_, c8k0_, hA8, _, _, HW⟩ := kid_keep HCW.out 0 (by simp)
          cases hA8
          obtain ⟨k0_0, k0_1, k0_2, k0_3, k0_4, k0_5, k0_6, k0_7, k0_8⟩ := HW _ (Below.refl _ _)
          simp [Addr.add] at k0_0 k0_1 k0_2 k0_3 k0_4 k0_5 k0_6 k0_7 k0_8
          clear HW
          obtain ⟨ad', A8k1_, c8k1_, hA8, _, _, HW⟩ := kid_keep HCW.out 1 (by simp)
          cases hA8
          obtain ⟨k1_0, k1_1, k1_2, k1_3, k1_4, k1_5, k1_6, k1_7, k1_8⟩ := HW _ (Below.refl _ _)
          simp [Addr.add] at k1_0 k1_1 k1_2 k1_3 k1_4 k1_5 k1_6 k1_7 k1_8
          clear HW
          obtain ⟨ad', A8k2_, c8k2_, hA8, _, _, HW⟩ := kid_keep HCW.out 2 (by simp)
          cases hA8
          obtain ⟨k2_0, k2_1, k2_2, k2_3, k2_4, k2_5, k2_6, k2_7, k2_8⟩ := HW _ (Below.refl _ _)
          simp [Addr.add] at k2_0 k2_1 k2_2 k2_3 k2_4 k2_5 k2_6 k2_7 k2_8
          clear HW
          have c0 : ∀ n : On WS, n.W.cell? ⟨g14, 1, none⟩ = some (.int .i64 W) := fun n => On.cell h14.2.1 n
          have c1 : ∀ n : On WS, n.W.cell? ⟨g14, 6, none⟩ = some (.slice (some ad) 3 n5) := fun n => On.cell h14.2.2.2.2.2.2 n
          have c2 : ∀ n : On WS, n.W.cell? ad = some (.int .i64 p) := fun n => On.cell k0_0 n
          have c3 : ∀ n : On WS, n.W.cell? ⟨ad.block, ad.off + 3, none⟩ = some (.int .i64 x.f1) := fun n => On.cell k0_3 n
          have c4 : ∀ n : On WS, n.W.cell? ⟨ad.block, ad.off + 9, none⟩ = some (.int .i64 q) := fun n => On.cell k1_0 n
          have c5 : ∀ n : On WS, n.W.cell? ⟨ad.block, ad.off + 9 + 3, none⟩ = some (.int .i64 u.f1) := fun n => On.cell k1_3 n
          have c6 : ∀ n : On WS, n.W.cell? ⟨ad.block, ad.off + 18, none⟩ = some (.int .i64 r) := fun n => On.cell k2_0 n
          have c7 : ∀ n : On WS, n.W.cell? ⟨ad.block, ad.off + 18 + 3, none⟩ = some (.int .i64 d.f1) := fun n => On.cell k2_3 n
          have D0 : Aside0 (∀ n : On WS, n.W.cell? ⟨ad.block, ad.off + 9 + 1, none⟩ = some (.int .i64 Y)) := ⟨fun n => On.cell k1_1 n⟩
          have D1 : Aside0 (∀ n : On WS, n.W.cell? ⟨gn, 8, none⟩ = some (.int .i64 ix)) := ⟨fun n => On.cell hn.2.2.2.2.2.2.2.2 n⟩
          clear h14 hn hcu hcd hW2 HWW k0_0 k0_1 k0_2 k0_3 k0_4 k0_5 k0_6 k0_7 k0_8 k1_0 k1_1 k1_2 k1_3 k1_4 k1_5 k1_6 k1_7 k1_8 k2_0 k2_1 k2_2 k2_3 k2_4 k2_5 k2_6 k2_7 k2_8
          have HW := HP
          replace HP := Aside0.mk (Pd.start WS)
          go_loopw [18] (fun i wr => (i = .int .i64 0 ∨ i = .int .i64 1 ∨ i = .int .i64 2 ∨ i = .int .i64 3) ∧ Aside0 (Pd WS wr [])) (fun i _ => 3 - (intOf i).toNat)
          case atStart => exact ⟨.inl rfl, HP⟩
          case round =>
            clear HP
            obtain ⟨hi, HP⟩ := hrel
            rcases hi with rfl | rfl | rfl | rfl
            · have b1 := c1 ⟨_, HP.out.bel⟩
              have b2 := c2 ⟨_, HP.out.bel⟩
              dsimp only at b1 b2
              go_wp2_with fail
              clear b1 b2
              refine wp_region_on WS HP.out.bel (by kernel_rfl) (by kernel_rfl) ?_
              repeat (go_big_quiet_step (fail))
              refine wpQuiet_nil ?_
              intro _ hw'
              obtain ⟨nq, hw''⟩ := hw'
              subst hw''
              replace HP := Aside0.mk (Pd.below (Pd.start WS) nq.bel)
              have hm := M1.out; unfold Mid at hm
              by_cases hq : wrap64 (wrap64 (W - x.f1) - p) = p
              · have s1 : (wrap64 (wrap64 (W - x.f1) - p) != p) = false := by simp [hq]
                clear hm hq
                go_wp2
                go_roundw
                case rel => exact ⟨by first | (simp; done) | go_num, HP⟩
                case measure => simp [intOf]
              · have s1 : (wrap64 (wrap64 (W - x.f1) - p) != p) = true := by simp [hq]
                have s2 : (wrap64 (wrap64 (W - x.f1) - p) != wrap64 (p + 1)) = false := by simp [hm.resolve_left hq]
                clear hm hq
                go_wp2
                go_roundw
                case rel => exact ⟨by first | (simp; done) | go_num, HP⟩
                case measure => simp [intOf]
            · have b1 := c1 ⟨_, HP.out.bel⟩
              have b2 := c4 ⟨_, HP.out.bel⟩
              dsimp only at b1 b2
              go_wp2_with fail
              clear b1 b2
              refine wp_region_on WS HP.out.bel (by kernel_rfl) (by kernel_rfl) ?_
              repeat (go_big_quiet_step (fail))
              refine wpQuiet_nil ?_
              intro _ hw'
              obtain ⟨nq, hw''⟩ := hw'
              subst hw''
              replace HP := Aside0.mk (Pd.below (Pd.start WS) nq.bel)
              have hm := M2.out; unfold Mid at hm
              by_cases hq : wrap64 (wrap64 (W - u.f1) - q) = q
              · have s1 : (wrap64 (wrap64 (W - u.f1) - q) != q) = false := by simp [hq]
                clear hm hq
                go_wp2
                go_roundw
                case rel => exact ⟨by first | (simp; done) | go_num, HP⟩
                case measure => simp [intOf]
              · have s1 : (wrap64 (wrap64 (W - u.f1) - q) != q) = true := by simp [hq]
                have s2 : (wrap64 (wrap64 (W - u.f1) - q) != wrap64 (q + 1)) = false := by simp [hm.resolve_left hq]
                clear hm hq
                go_wp2
                go_roundw
                case rel => exact ⟨by first | (simp; done) | go_num, HP⟩
                case measure => simp [intOf]
            · have b1 := c1 ⟨_, HP.out.bel⟩
              have b2 := c6 ⟨_, HP.out.bel⟩
              dsimp only at b1 b2
              go_wp2_with fail
              clear b1 b2
              refine wp_region_on WS HP.out.bel (by kernel_rfl) (by kernel_rfl) ?_
              repeat (go_big_quiet_step (fail))
              refine wpQuiet_nil ?_
              intro _ hw'
              obtain ⟨nq, hw''⟩ := hw'
              subst hw''
              replace HP := Aside0.mk (Pd.below (Pd.start WS) nq.bel)
              have hm := M3.out; unfold Mid at hm
              by_cases hq : wrap64 (wrap64 (W - d.f1) - r) = r
              · have s1 : (wrap64 (wrap64 (W - d.f1) - r) != r) = false := by simp [hq]
                clear hm hq
                go_wp2
                go_roundw
                case rel => exact ⟨by first | (simp; done) | go_num, HP⟩
                case measure => simp [intOf]
              · have s1 : (wrap64 (wrap64 (W - d.f1) - r) != r) = true := by simp [hq]
                have s2 : (wrap64 (wrap64 (W - d.f1) - r) != wrap64 (r + 1)) = false := by simp [hm.resolve_left hq]
                clear hm hq
                go_wp2
                go_roundw
                case rel => exact ⟨by first | (simp; done) | go_num, HP⟩
                case measure => simp [intOf]
            · by_cases h1 : R1.2.2.2.2.2.2.2 = 0
              rotate_left
              · have d3 : (R1.2.2.2.2.2.2.2 == 0) = false := by simpa using h1
                go_wp2_with fail
                refine (limited_calls _).mono ?_
                rintro _ w8 ⟨rfl, hb⟩
                replace HP := Aside0.mk (Pd.below HP.out hb)
                clear hb
                try dsimp only
                go_wp2
                go_ret
                exact ⟨rfl, below_step HW.out.bel HP.out.bel⟩
              · obtain ⟨h2, d2, q2, r2, hV1, hB⟩ := HI.out ix (by rw [← HR1.out]; exact h1)
                have hR1 := HR1.out.trans hV1
                clear HR1 hV1 h1
                subst hR1
                dsimp only at HL6 HC6 HW ⊢
                simp only [List.length_cons, List.length_nil, Nat.reduceAdd] at HW
                obtain ⟨bd, hA⟩ := kid_ad HC6.out (by simp)
                subst hA
                have h16 := cells7 (Pd.getb HW.out (b := g16) (by with_reducible repeat (first | exact List.mem_cons_self | apply List.mem_cons_of_mem)))
                have HCV := Aside0.mk (Kd.C_below HC6.out HQ.out.bel)
                obtain ⟨ad', A8v0_, c8v0_, hA8, _, _, HW⟩ := kid_keep HCV.out 0 (by simp)
                cases hA8
                obtain ⟨v0_0, v0_1, v0_2, v0_3, v0_4, v0_5, v0_6, v0_7, v0_8⟩ := HW _ (Below.refl _ _)
                simp [Addr.add] at v0_0 v0_1 v0_2 v0_3 v0_4 v0_5 v0_6 v0_7 v0_8
                clear HW
                obtain ⟨ad', A8v1_, c8v1_, hA8, _, _, HW⟩ := kid_keep HCV.out 1 (by simp)
                cases hA8
                obtain ⟨v1_0, v1_1, v1_2, v1_3, v1_4, v1_5, v1_6, v1_7, v1_8⟩ := HW _ (Below.refl _ _)
                simp [Addr.add] at v1_0 v1_1 v1_2 v1_3 v1_4 v1_5 v1_6 v1_7 v1_8
                clear HW
                obtain ⟨ad', A8v2_, c8v2_, hA8, _, _, HW⟩ := kid_keep HCV.out 2 (by simp)
                cases hA8
                obtain ⟨v2_0, v2_1, v2_2, v2_3, v2_4, v2_5, v2_6, v2_7, v2_8⟩ := HW _ (Below.refl _ _)
                simp [Addr.add] at v2_0 v2_1 v2_2 v2_3 v2_4 v2_5 v2_6 v2_7 v2_8
                clear HW
                have e0 : ∀ n : On WS, n.W.cell? ⟨g16, 6, none⟩ = some (.slice (some bd) 3 n6r) := fun n => On.cell h16.2.2.2.2.2.2 n
                have e1 : ∀ n : On WS, n.W.cell? bd = some (.int .i64 p) := fun n => On.cell v0_0 n
                have e2 : ∀ n : On WS, n.W.cell? ⟨bd.block, bd.off + 9, none⟩ = some (.int .i64 q2) := fun n => On.cell v1_0 n
                have e3 : ∀ n : On WS, n.W.cell? ⟨bd.block, bd.off + 9 + 1, none⟩ = some (.int .i64 Y) := fun n => On.cell v1_1 n
                have e4 : ∀ n : On WS, n.W.cell? ⟨bd.block, bd.off + 18, none⟩ = some (.int .i64 r2) := fun n => On.cell v2_0 n
                clear h16 v0_0 v0_1 v0_2 v0_3 v0_4 v0_5 v0_6 v0_7 v0_8 v1_0 v1_1 v1_2 v1_3 v1_4 v1_5 v1_6 v1_7 v1_8 v2_0 v2_1 v2_2 v2_3 v2_4 v2_5 v2_6 v2_7 v2_8
                have b1 := e0 ⟨_, HP.out.bel⟩
                dsimp only at b1
                go_wp2_with fail
                clear b1
                have HWB := Aside0.mk HW.out.bel
                clear HW HCW HCV HC5 HC6 HQ HL5 HL6
                refine wp_region_on WS HP.out.bel (by kernel_rfl) (by kernel_rfl) ?_
                repeat (go_big_quiet_step (fail))
                refine wpQuiet_nil ?_
                intro _ hw'
                obtain ⟨nq, hw''⟩ := hw'
                subst hw''
                replace HP := Aside0.mk (Pd.below (Pd.start WS) nq.bel)
                go_wp2_with fail
                unfold By at hB
                obtain ⟨j1, j2⟩ := hB
                have E0 := D0.out; have E1 := D1.out; clear D0 D1
                generalize wrap64 (q2 - q) = by' at j1 j2 ⊢
                have s1 : (r2 == wrap64 (r - by')) = true := by simp [j1]
                clear j1
                by_cases hq : wrap64 (2 * by') = ix
                · have s2 : (wrap64 (2 * by') == ix) = true := by simp [hq]
                  clear j2 hq
                  refine wp_region_on WS HP.out.bel (by kernel_rfl) (by kernel_rfl) ?_
                  repeat (go_big_quiet_step ((go_at_call 38; exact Calls.on (limited_calls _))))
                  refine wpQuiet_nil ?_
                  intro _ hw'
                  obtain ⟨nr, hw''⟩ := hw'
                  subst hw''
                  go_wp2
                  go_ret
                  exact ⟨rfl, below_step HWB.out nr.bel⟩
                · have s2 : (wrap64 (2 * by') == ix) = false := by simp [hq]
                  have s3 : (wrap64 (wrap64 (2 * by') + 1) == ix) = true := by simp [j2.resolve_left hq]
                  clear j2 hq
                  refine wp_region_on WS HP.out.bel (by kernel_rfl) (by kernel_rfl) ?_
                  repeat (go_big_quiet_step ((go_at_call 38; exact Calls.on (limited_calls _))))
                  refine wpQuiet_nil ?_
                  intro _ hw'
                  obtain ⟨nr, hw''⟩ := hw'
                  subst hw''
                  go_wp2
                  go_ret
                  exact ⟨rfl, below_step HWB.out nr.bel⟩
end Go.Proofs.Ytbhljokhcmfgjaa.P
