import Derived.Test.YtbhljokhcmfgjaaGreatTPD
import Derived.Test.YtbhljokhcmfgjaaGreatTLims
import Derived.Test.YtbhljokhcmfgjaaGreatTLimF2
import Derived.Test.YtbhljokhcmfgjaaGreatTLim7
/- The law LimitDoes: the walk. Printed by a program of this work (mkdoes29.py). -/
set_option linter.unusedVariables false
set_option linter.unusedSimpArgs false
namespace Go.Proofs.YtbhljokhcmfgjaaGreat.P
open Go.RowKit Go.Proofs.YtbhljokhcmfgjaaGreatW.PrintWords Go.Proofs.YtbhljokhcmfgjaaGreatW.PrintLast Go.Proofs.YtbhljokhcmfgjaaGreatW.PrintMore

set_option maxRecDepth 100000 in
set_option maxHeartbeats 6000000 in
theorem law_limits (w : World) (F : S36) (c z : Int) (x : S39) (gx ix : Int) (up down : List S39) (Ax : Option Addr) (nx : Nat) (Au : Option Addr) (nu : Nat) (Ad : Option Addr) (nd : Nat) (cs : List Value) (hF : FontIn w F cs) (hOx : Ok39 x) (hlx : x.f6.length ≤ nx) (hCx : Kd.C k67 w Ax x.f6.length x.f6) (hOu : ∀ y ∈ up, Ok39 y) (hCu : Kd.C k39 w Au up.length up) (hOd : ∀ y ∈ down, Ok39 y) (hCd : Kd.C k39 w Ad down.length down) : Calls Tryz.prog 3 #[.agg cs.toArray, .int .i64 c, .int .i64 z, .agg #[.int .i64 x.f0, .int .i64 x.f1, .int .i64 x.f2, .int .i64 x.f3, .int .i64 x.f4, .int .i64 x.f5, .slice Ax x.f6.length nx, .int .i64 gx, .int .i64 ix], .slice Au up.length nu, .slice Ad down.length nd] w fun r w' => r = .returned (.bool true) ∧ Below w.heap.size w w' := by
  have hu39 := Tryz.underlying39
  have hu36 := Tryz.underlying36
  have hu73 := Tryz.underlying41
  have hu49 := Tryz.underlying67
  have HF := Aside0.mk hF
  have HOx := Aside0.mk hOx; clear hOx
  have Hlx := Aside0.mk hlx; clear hlx
  have HCx := Aside0.mk hCx; clear hCx
  have HOu := Aside0.mk hOu; clear hOu
  have HCu := Aside0.mk hCu; clear hCu
  have HOd := Aside0.mk hOd; clear hOd
  have HCd := Aside0.mk hCd; clear hCd
  obtain ⟨A6, c6, A7, c7, A8, c8, A9, c9, A10, c10, A11, c11, A12, c12, A13, c13, A15, c15, A16, c16, hcs, hcr⟩ := id hF
  subst hcs
  clear hcr hF
  have HP := Aside0.mk (Pd.start w)
  go_enter Tryz.func3, Tryz.ntmps3
  go_wp2_with (first | ((with_reducible refine gate_dst (N := 6) rfl ?_); refine box_event ?hg (N := 6) ?hd (cs := #[.int .i64 F.f0.f0, .int .i64 F.f0.f1, .int .i64 F.f0.f2, .int .i64 F.f0.f3, .int .i64 F.f0.f4, .bool F.f0.f5, .slice A6 F.f1.length c6, .slice A7 F.f2.length c7, .slice A8 F.f3.length c8, .slice A9 F.f4.f0.length c9, .slice A10 F.f4.f1.length c10, .slice A11 F.f4.f2.length c11, .slice A12 F.f4.f3.length c12, .slice A13 F.f4.f4.length c13, .int .i64 F.f4.f5.f0, .slice A15 F.f4.f5.f1.length c15, .slice A16 F.f4.f5.f2.length c16]) (t := 36) ?hr ?_; (case hd => rfl); (case hg => rfl); (case hr => first | (go_simp; done) | (go_simp; rfl)); intro gf hg wk hbox hb; replace HP := Aside0.mk (Pd.box (by with_reducible repeat (first | exact HP.out | apply Pd.drew)) hg hbox hb); clear hg hbox hb) | ((with_reducible refine gate_dst (N := 9) rfl ?_); refine box_event ?hg (N := 9) ?hd (cs := #[.int .i64 x.f0, .int .i64 x.f1, .int .i64 x.f2, .int .i64 x.f3, .int .i64 x.f4, .int .i64 x.f5, .slice Ax x.f6.length nx, .int .i64 gx, .int .i64 ix]) (t := 41) ?hr ?_; (case hd => rfl); (case hg => rfl); (case hr => first | (go_simp; done) | (go_simp; rfl)); intro gn hg wk hbox hb; replace HP := Aside0.mk (Pd.box (by with_reducible repeat (first | exact HP.out | apply Pd.drew)) hg hbox hb); clear hg hbox hb; have hn := nuc_c9 (Pd.getb HP.out (b := gn) (by with_reducible repeat (first | exact List.mem_cons_self | apply List.mem_cons_of_mem)))) | ((with_reducible refine gate_dst (N := 17) rfl ?_); refine wpList_load_row rfl 36 (.tmp 6) rfl gf (by rfl) 36 #[.int .i64 F.f0.f0, .int .i64 F.f0.f1, .int .i64 F.f0.f2, .int .i64 F.f0.f3, .int .i64 F.f0.f4, .bool F.f0.f5, .slice A6 F.f1.length c6, .slice A7 F.f2.length c7, .slice A8 F.f3.length c8, .slice A9 F.f4.f0.length c9, .slice A10 F.f4.f1.length c10, .slice A11 F.f4.f2.length c11, .slice A12 F.f4.f3.length c12, .slice A13 F.f4.f4.length c13, .int .i64 F.f4.f5.f0, .slice A15 F.f4.f5.f1.length c15, .slice A16 F.f4.f5.f2.length c16] (0, 0) _ (Pd.getb HP.out (b := gf) (o := .cells #[.int .i64 F.f0.f0, .int .i64 F.f0.f1, .int .i64 F.f0.f2, .int .i64 F.f0.f3, .int .i64 F.f0.f4, .bool F.f0.f5, .slice A6 F.f1.length c6, .slice A7 F.f2.length c7, .slice A8 F.f3.length c8, .slice A9 F.f4.f0.length c9, .slice A10 F.f4.f1.length c10, .slice A11 F.f4.f2.length c11, .slice A12 F.f4.f3.length c12, .slice A13 F.f4.f4.length c13, .int .i64 F.f4.f5.f0, .slice A15 F.f4.f5.f1.length c15, .slice A16 F.f4.f5.f2.length c16] 36 (0, 0)) (by with_reducible repeat (first | exact List.mem_cons_self | apply List.mem_cons_of_mem))) hu36 rfl info_font ?_))
  refine (few29_calls _ F x gx ix x gx ix Ax nx Ax nx _ (HF.out.heap HP.out.bel) HOx.out Hlx.out (Kd.C_below HCx.out HP.out.bel) HOx.out Hlx.out (Kd.C_below HCx.out HP.out.bel)).mono ?_
  rintro _ w1 ⟨q, rfl, _, hb⟩
  replace HP := Aside0.mk (Pd.below HP.out hb)
  clear hb hn
  cases q with
  | false =>
    go_wp2
    go_ret
    exact ⟨rfl, HP.out.bel⟩
  | true =>
    go_wp2_with fail
    refine (all_calls up HOu.out Au nu _ (Kd.C_below HCu.out HP.out.bel)).mono ?_
    rintro _ w2 ⟨q, rfl, hb⟩
    replace HP := Aside0.mk (Pd.below HP.out hb)
    clear hb
    cases q with
    | false =>
      go_wp2
      go_ret
      exact ⟨rfl, HP.out.bel⟩
    | true =>
      go_wp2_with fail
      refine (all_calls down HOd.out Ad nd _ (Kd.C_below HCd.out HP.out.bel)).mono ?_
      rintro _ w3 ⟨q, rfl, hb⟩
      replace HP := Aside0.mk (Pd.below HP.out hb)
      clear hb
      cases q with
      | false =>
        go_wp2
        go_ret
        exact ⟨rfl, HP.out.bel⟩
      | true =>
        have hn := nuc_c9 (Pd.getb HP.out (b := gn) (by with_reducible repeat (first | exact List.mem_cons_self | apply List.mem_cons_of_mem)))
        obtain ⟨R, hR⟩ : ∃ R, R = limsV F c z x ix up down := ⟨_, rfl⟩
        have HR := Aside0.mk hR; clear hR
        go_wp2_with (first | ((with_reducible refine gate_dst (N := 33) rfl ?_); refine wpList_load_row rfl 36 (.tmp 6) rfl gf (by rfl) 36 #[.int .i64 F.f0.f0, .int .i64 F.f0.f1, .int .i64 F.f0.f2, .int .i64 F.f0.f3, .int .i64 F.f0.f4, .bool F.f0.f5, .slice A6 F.f1.length c6, .slice A7 F.f2.length c7, .slice A8 F.f3.length c8, .slice A9 F.f4.f0.length c9, .slice A10 F.f4.f1.length c10, .slice A11 F.f4.f2.length c11, .slice A12 F.f4.f3.length c12, .slice A13 F.f4.f4.length c13, .int .i64 F.f4.f5.f0, .slice A15 F.f4.f5.f1.length c15, .slice A16 F.f4.f5.f2.length c16] (0, 0) _ (Pd.getb HP.out (b := gf) (o := .cells #[.int .i64 F.f0.f0, .int .i64 F.f0.f1, .int .i64 F.f0.f2, .int .i64 F.f0.f3, .int .i64 F.f0.f4, .bool F.f0.f5, .slice A6 F.f1.length c6, .slice A7 F.f2.length c7, .slice A8 F.f3.length c8, .slice A9 F.f4.f0.length c9, .slice A10 F.f4.f1.length c10, .slice A11 F.f4.f2.length c11, .slice A12 F.f4.f3.length c12, .slice A13 F.f4.f4.length c13, .int .i64 F.f4.f5.f0, .slice A15 F.f4.f5.f1.length c15, .slice A16 F.f4.f5.f2.length c16] 36 (0, 0)) (by with_reducible repeat (first | exact List.mem_cons_self | apply List.mem_cons_of_mem))) hu36 rfl info_font ?_))
        clear hn
        refine (lims_any F c z x gx ix Ax nx Au nu Ad nd _ _ (HF.out.heap HP.out.bel) Hlx.out (Kd.C_below HCx.out HP.out.bel) up down (Kd.C_below HCu.out HP.out.bel) (Kd.C_below HCd.out HP.out.bel)).mono ?_
        rintro _ w5 ⟨A5, n5, rfl, hl, hC, hb⟩
        rw [← HR.out] at hl hC ⊢
        replace HP := Aside0.mk (Pd.below HP.out hb)
        have HL5 := Aside0.mk hl
        have HC5 := Aside0.mk hC
        clear hl hC hb
        have HQ := Aside0.mk (Pd.start w5)
        go_wp2_with (first | ((with_reducible refine gate_dst (N := 13) rfl ?_); refine box_event ?hg (N := 13) ?hd (cs := #[.int .i64 0, .int .i64 0, .int .i64 0, .int .i64 0, .int .i64 0, .int .i64 0, .slice none 0 0]) (t := 39) ?hr ?_; (case hd => rfl); (case hg => rfl); (case hr => first | (go_simp; done) | (go_simp; rfl)); intro g13 hg wk hbox hb; replace HP := Aside0.mk (Pd.box HP.out hg hbox hb); replace HQ := Aside0.mk (Pd.box HQ.out hg hbox hb); clear hg hbox hb; have hcz := cells7 (Pd.hd HP.out); have hfz := froz7 (Pd.hd HP.out)) | (have hgo := hcz; clear hgo; (with_reducible refine gate_dst (N := 43) rfl ?_); refine Pd.fold2 (Pd.st7 HP.out) (Pd.st7 HQ.out) ?_; intro W1 h0 h1; replace HP := Aside0.mk h0; replace HQ := Aside0.mk h1; clear h0 h1 hcz hfz; have hn := nuc_c9 (Pd.getb HP.out (b := gn) (by with_reducible repeat (first | exact List.mem_cons_self | apply List.mem_cons_of_mem))); refine wpList_load_row rfl 36 (.tmp 6) rfl gf (by rfl) 36 #[.int .i64 F.f0.f0, .int .i64 F.f0.f1, .int .i64 F.f0.f2, .int .i64 F.f0.f3, .int .i64 F.f0.f4, .bool F.f0.f5, .slice A6 F.f1.length c6, .slice A7 F.f2.length c7, .slice A8 F.f3.length c8, .slice A9 F.f4.f0.length c9, .slice A10 F.f4.f1.length c10, .slice A11 F.f4.f2.length c11, .slice A12 F.f4.f3.length c12, .slice A13 F.f4.f4.length c13, .int .i64 F.f4.f5.f0, .slice A15 F.f4.f5.f1.length c15, .slice A16 F.f4.f5.f2.length c16] (0, 0) _ (Pd.getb HP.out (b := gf) (o := .cells #[.int .i64 F.f0.f0, .int .i64 F.f0.f1, .int .i64 F.f0.f2, .int .i64 F.f0.f3, .int .i64 F.f0.f4, .bool F.f0.f5, .slice A6 F.f1.length c6, .slice A7 F.f2.length c7, .slice A8 F.f3.length c8, .slice A9 F.f4.f0.length c9, .slice A10 F.f4.f1.length c10, .slice A11 F.f4.f2.length c11, .slice A12 F.f4.f3.length c12, .slice A13 F.f4.f4.length c13, .int .i64 F.f4.f5.f0, .slice A15 F.f4.f5.f1.length c15, .slice A16 F.f4.f5.f2.length c16] 36 (0, 0)) (by with_reducible repeat (first | exact List.mem_cons_self | apply List.mem_cons_of_mem))) hu36 rfl info_font ?_))
        clear hn
        refine (rlims_any F c z x gx ix Ax nx Au nu Ad nd _ _ (HF.out.heap HP.out.bel) Hlx.out (Kd.C_below HCx.out HP.out.bel) up down (Kd.C_below HCu.out HP.out.bel) (Kd.C_below HCd.out HP.out.bel)).mono ?_
        rintro _ w6 ⟨A6r, n6r, rfl, hl, hC, hb⟩
        rw [← HR.out] at hl hC ⊢
        replace HP := Aside0.mk (Pd.below HP.out hb); replace HQ := Aside0.mk (Pd.below HQ.out hb)
        have HL6 := Aside0.mk hl
        have HC6 := Aside0.mk hC
        clear hl hC hb
        replace HC5 := Aside0.mk (Kd.C_below HC5.out HQ.out.bel)
        replace HQ := Aside0.mk (Pd.start w6)
        go_wp2_with (first | ((with_reducible refine gate_dst (N := 15) rfl ?_); refine box_event ?hg (N := 15) ?hd (cs := #[.int .i64 0, .int .i64 0, .int .i64 0, .int .i64 0, .int .i64 0, .int .i64 0, .slice none 0 0]) (t := 39) ?hr ?_; (case hd => rfl); (case hg => rfl); (case hr => first | (go_simp; done) | (go_simp; rfl)); intro g15 hg wk hbox hb; replace HP := Aside0.mk (Pd.box HP.out hg hbox hb); replace HQ := Aside0.mk (Pd.box HQ.out hg hbox hb); clear hg hbox hb; have hcz := cells7 (Pd.hd HP.out); have hfz := froz7 (Pd.hd HP.out)) | fail)
        refine (limited_calls _).mono ?_
        rintro _ w9 ⟨rfl, hb⟩
        replace HP := Aside0.mk (Pd.below (Pd.st7 HP.out) hb); replace HQ := Aside0.mk (Pd.below (Pd.st7 HQ.out) hb)
        clear hb hcz hfz
        have h13 := cells7 (Pd.getb HP.out (b := g13) (by with_reducible repeat (first | exact List.mem_cons_self | apply List.mem_cons_of_mem)))
        have h15 := cells7 (Pd.getb HP.out (b := g15) (by with_reducible repeat (first | exact List.mem_cons_self | apply List.mem_cons_of_mem)))
        go_wp2_with fail
        clear h13 h15
        refine (same_calls _ (⟨R.1, R.2.1, R.2.2.1, R.2.2.2.1, R.2.2.2.2.1, R.2.2.2.2.2.1, R.2.2.2.2.2.2.1⟩ : S39) (Nat.lt_succ_self _) _ A5 n5 A6r n6r HL5.out (Kd.C_below HC5.out HQ.out.bel) HL6.out (Kd.C_below HC6.out HQ.out.bel)).mono ?_
        rintro _ w10 ⟨rfl, hb⟩
        replace HP := Aside0.mk (Pd.below HP.out hb); replace HQ := Aside0.mk (Pd.below HQ.out hb)
        clear hb
        go_wp2
        go_ret
        exact ⟨by first | rfl | simp, HP.out.bel⟩
end Go.Proofs.YtbhljokhcmfgjaaGreat.P
