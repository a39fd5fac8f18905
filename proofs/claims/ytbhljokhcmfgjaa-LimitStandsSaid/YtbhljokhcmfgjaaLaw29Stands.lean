import Derived.Test.YtbhljokhcmfgjaaStands1
import Derived.Test.YtbhljokhcmfgjaaWide
/- The law LimitStands: the walk. Printed by a program of this work (mklim11.py). -/
set_option linter.unusedVariables false
set_option linter.unusedSimpArgs false
namespace Go.Proofs.Ytbhljokhcmfgjaa.P
open Go.RowKit Go.Proofs.YtbhljokhcmfgjaaW.PrintWords Go.Proofs.YtbhljokhcmfgjaaW.PrintLast Go.Proofs.YtbhljokhcmfgjaaW.PrintMore

/-- Is it this box? (A contract that does not fit is laid open: ask first.) -/
theorem same_gate (b : S25) {P : Program} {f : FuncId} {A B : Option Addr} {n m : Nat} {w : World} {Q : Ending → World → Prop} (h : Calls P f #[.agg #[.int .i64 b.f0, .int .i64 b.f1, .int .i64 b.f2, .int .i64 b.f3, .int .i64 b.f4, .int .i64 b.f5, .slice A b.f6.length n], .agg #[.int .i64 b.f0, .int .i64 b.f1, .int .i64 b.f2, .int .i64 b.f3, .int .i64 b.f4, .int .i64 b.f5, .slice B b.f6.length m]] w Q) : Calls P f #[.agg #[.int .i64 b.f0, .int .i64 b.f1, .int .i64 b.f2, .int .i64 b.f3, .int .i64 b.f4, .int .i64 b.f5, .slice A b.f6.length n], .agg #[.int .i64 b.f0, .int .i64 b.f1, .int .i64 b.f2, .int .i64 b.f3, .int .i64 b.f4, .int .i64 b.f5, .slice B b.f6.length m]] w Q := h
set_option maxRecDepth 100000 in
set_option maxHeartbeats 6000000 in
theorem law_stands (w : World) (F : S63) (c z : Int) (x : S25) (gx ix : Int) (y : S25) (gy iy : Int) (Ax : Option Addr) (nx : Nat) (Ay : Option Addr) (ny : Nat) (cs : List Value) (hF : FontIn w F cs) (hOx : Ok25 x) (hlx : x.f6.length ≤ nx) (hCx : Kd.C k41 w Ax x.f6.length x.f6) (hOy : Ok25 y) (hly : y.f6.length ≤ ny) (hCy : Kd.C k41 w Ay y.f6.length y.f6) : Calls Try.prog 10 #[.agg cs.toArray, .int .i64 c, .int .i64 z, .agg #[.int .i64 x.f0, .int .i64 x.f1, .int .i64 x.f2, .int .i64 x.f3, .int .i64 x.f4, .int .i64 x.f5, .slice Ax x.f6.length nx, .int .i64 gx, .int .i64 ix], .agg #[.int .i64 y.f0, .int .i64 y.f1, .int .i64 y.f2, .int .i64 y.f3, .int .i64 y.f4, .int .i64 y.f5, .slice Ay y.f6.length ny, .int .i64 gy, .int .i64 iy]] w fun r w' => r = .returned (.bool true) ∧ Below w.heap.size w w' := by
  have hu39 := Try.underlying25
  have hu36 := Try.underlying63
  have hu73 := Try.underlying73
  have hu49 := Try.underlying41
  have HF := Aside0.mk hF
  have HOx := Aside0.mk hOx; clear hOx
  have Hlx := Aside0.mk hlx; clear hlx
  have HCx := Aside0.mk hCx; clear hCx
  have HOy := Aside0.mk hOy; clear hOy
  have Hly := Aside0.mk hly; clear hly
  have HCy := Aside0.mk hCy; clear hCy
  obtain ⟨A6, c6, A7, c7, A8, c8, A9, c9, A10, c10, A11, c11, A12, c12, A13, c13, A15, c15, A16, c16, hcs, hcr⟩ := id hF
  subst hcs
  obtain ⟨l6, g6, l7, g7, l8, g8, l9, g9, l10, g10, l11, g11, l12, g12, l13, g13, l15, g15, l16, g16⟩ := hcr
  have HG9 := Aside0.mk g9
  clear l6 g6 l7 g7 l8 g8 l9 g9 l10 g10 l11 g11 l12 g12 l13 g13 l15 g15 l16 g16
  clear hF
  have HP := Aside0.mk (Pd.start w)
  go_enter Try.func10, Try.ntmps10
  go_wp2_with (first | ((with_reducible refine gate_dst (N := 5) rfl ?_); refine box_event ?hg (N := 5) ?hd (cs := #[.int .i64 F.f0.f0, .int .i64 F.f0.f1, .int .i64 F.f0.f2, .int .i64 F.f0.f3, .int .i64 F.f0.f4, .bool F.f0.f5, .slice A6 F.f1.length c6, .slice A7 F.f2.length c7, .slice A8 F.f3.length c8, .slice A9 F.f4.f0.length c9, .slice A10 F.f4.f1.length c10, .slice A11 F.f4.f2.length c11, .slice A12 F.f4.f3.length c12, .slice A13 F.f4.f4.length c13, .int .i64 F.f4.f5.f0, .slice A15 F.f4.f5.f1.length c15, .slice A16 F.f4.f5.f2.length c16]) (t := 63) ?hr ?_; (case hd => rfl); (case hg => rfl); (case hr => first | (go_simp; done) | (go_simp; rfl)); intro gf hg wk hbox hb; replace HP := Aside0.mk (Pd.box (by with_reducible repeat (first | exact HP.out | apply Pd.drew)) hg hbox hb); clear hg hbox hb) | ((with_reducible refine gate_dst (N := 8) rfl ?_); refine box_event ?hg (N := 8) ?hd (cs := #[.int .i64 x.f0, .int .i64 x.f1, .int .i64 x.f2, .int .i64 x.f3, .int .i64 x.f4, .int .i64 x.f5, .slice Ax x.f6.length nx, .int .i64 gx, .int .i64 ix]) (t := 73) ?hr ?_; (case hd => rfl); (case hg => rfl); (case hr => first | (go_simp; done) | (go_simp; rfl)); intro gn hg wk hbox hb; replace HP := Aside0.mk (Pd.box (by with_reducible repeat (first | exact HP.out | apply Pd.drew)) hg hbox hb); clear hg hbox hb) | ((with_reducible refine gate_dst (N := 9) rfl ?_); refine box_event ?hg (N := 9) ?hd (cs := #[.int .i64 y.f0, .int .i64 y.f1, .int .i64 y.f2, .int .i64 y.f3, .int .i64 y.f4, .int .i64 y.f5, .slice Ay y.f6.length ny, .int .i64 gy, .int .i64 iy]) (t := 73) ?hr ?_; (case hd => rfl); (case hg => rfl); (case hr => first | (go_simp; done) | (go_simp; rfl)); intro gm hg wk hbox hb; replace HP := Aside0.mk (Pd.box (by with_reducible repeat (first | exact HP.out | apply Pd.drew)) hg hbox hb); clear hg hbox hb; have hn := nuc_c9 (Pd.getb HP.out (b := gn) (by with_reducible repeat (first | exact List.mem_cons_self | apply List.mem_cons_of_mem))); have hm := nuc_c9 (Pd.getb HP.out (b := gm) (by with_reducible repeat (first | exact List.mem_cons_self | apply List.mem_cons_of_mem)))) | ((with_reducible refine gate_dst (N := 22) rfl ?_); refine wpList_load_row rfl 63 (.tmp 5) rfl gf (by rfl) 63 #[.int .i64 F.f0.f0, .int .i64 F.f0.f1, .int .i64 F.f0.f2, .int .i64 F.f0.f3, .int .i64 F.f0.f4, .bool F.f0.f5, .slice A6 F.f1.length c6, .slice A7 F.f2.length c7, .slice A8 F.f3.length c8, .slice A9 F.f4.f0.length c9, .slice A10 F.f4.f1.length c10, .slice A11 F.f4.f2.length c11, .slice A12 F.f4.f3.length c12, .slice A13 F.f4.f4.length c13, .int .i64 F.f4.f5.f0, .slice A15 F.f4.f5.f1.length c15, .slice A16 F.f4.f5.f2.length c16] (0, 0) _ (Pd.getb HP.out (b := gf) (o := .cells #[.int .i64 F.f0.f0, .int .i64 F.f0.f1, .int .i64 F.f0.f2, .int .i64 F.f0.f3, .int .i64 F.f0.f4, .bool F.f0.f5, .slice A6 F.f1.length c6, .slice A7 F.f2.length c7, .slice A8 F.f3.length c8, .slice A9 F.f4.f0.length c9, .slice A10 F.f4.f1.length c10, .slice A11 F.f4.f2.length c11, .slice A12 F.f4.f3.length c12, .slice A13 F.f4.f4.length c13, .int .i64 F.f4.f5.f0, .slice A15 F.f4.f5.f1.length c15, .slice A16 F.f4.f5.f2.length c16] 63 (0, 0)) (by with_reducible repeat (first | exact List.mem_cons_self | apply List.mem_cons_of_mem))) hu36 rfl info_font ?_))
  refine (few29_calls _ F x gx ix y gy iy Ax nx Ay ny _ (HF.out.heap HP.out.bel) HOx.out Hlx.out (Kd.C_below HCx.out HP.out.bel) HOy.out Hly.out (Kd.C_below HCy.out HP.out.bel)).mono ?_
  rintro _ w1 ⟨q, rfl, hacc, hb⟩
  replace HP := Aside0.mk (Pd.below HP.out hb)
  have HACC := Aside0.mk hacc
  clear hb hn hm hacc
  cases q with
  | false =>
    go_wp2
    go_ret
    exact ⟨rfl, HP.out.bel⟩
  | true =>
    have HA := Aside0.mk (HACC.out (by first | rfl | trivial))
    clear HACC
    have hn := nuc_c9 (Pd.getb HP.out (b := gn) (by with_reducible repeat (first | exact List.mem_cons_self | apply List.mem_cons_of_mem)))
    have hm := nuc_c9 (Pd.getb HP.out (b := gm) (by with_reducible repeat (first | exact List.mem_cons_self | apply List.mem_cons_of_mem)))
    go_wp2_with (first | ((with_reducible refine gate_dst (N := 28) rfl ?_); refine wpList_load_row rfl 63 (.tmp 5) rfl gf (by rfl) 63 #[.int .i64 F.f0.f0, .int .i64 F.f0.f1, .int .i64 F.f0.f2, .int .i64 F.f0.f3, .int .i64 F.f0.f4, .bool F.f0.f5, .slice A6 F.f1.length c6, .slice A7 F.f2.length c7, .slice A8 F.f3.length c8, .slice A9 F.f4.f0.length c9, .slice A10 F.f4.f1.length c10, .slice A11 F.f4.f2.length c11, .slice A12 F.f4.f3.length c12, .slice A13 F.f4.f4.length c13, .int .i64 F.f4.f5.f0, .slice A15 F.f4.f5.f1.length c15, .slice A16 F.f4.f5.f2.length c16] (0, 0) _ (Pd.getb HP.out (b := gf) (o := .cells #[.int .i64 F.f0.f0, .int .i64 F.f0.f1, .int .i64 F.f0.f2, .int .i64 F.f0.f3, .int .i64 F.f0.f4, .bool F.f0.f5, .slice A6 F.f1.length c6, .slice A7 F.f2.length c7, .slice A8 F.f3.length c8, .slice A9 F.f4.f0.length c9, .slice A10 F.f4.f1.length c10, .slice A11 F.f4.f2.length c11, .slice A12 F.f4.f3.length c12, .slice A13 F.f4.f4.length c13, .int .i64 F.f4.f5.f0, .slice A15 F.f4.f5.f1.length c15, .slice A16 F.f4.f5.f2.length c16] 63 (0, 0)) (by with_reducible repeat (first | exact List.mem_cons_self | apply List.mem_cons_of_mem))) hu36 rfl info_font ?_))
    refine (accent_calls F c z x gx ix y gy iy Ax nx Ay ny _ _ (HF.out.heap HP.out.bel) HA.out Hlx.out (Kd.C_below HCx.out HP.out.bel) Hly.out (Kd.C_below HCy.out HP.out.bel)).mono ?_
    rintro _ w5 ⟨A5, n5, rfl, hl5, hC5, hb⟩
    replace HP := Aside0.mk (Pd.below HP.out hb)
    have HQ := Aside0.mk (Pd.start w5)
    clear hb hn hm
    have hS := stands_plain F c z x gx ix y gy iy
    have hN := accent_nil F c z x gx ix y gy iy
    obtain ⟨R, hR⟩ : ∃ R, R = accentV F c z x gx ix y gy iy := ⟨_, rfl⟩
    rw [← hR] at hl5 hC5 hS hN ⊢
    clear hR
    obtain ⟨KV, hKV⟩ : ∃ q, q = konstV F 6 c z := ⟨_, rfl⟩
    rw [← hKV] at hS
    have HKV := Aside0.mk hKV
    clear hKV
    obtain ⟨SV, hSV⟩ : ∃ q, q = sizeV F c z := ⟨_, rfl⟩
    rw [← hSV] at hS
    have HSV := Aside0.mk hSV
    clear hSV
    obtain ⟨AV, hAV⟩ : ∃ q, q = attachV F SV.1 x gx ix := ⟨_, rfl⟩
    rw [← hAV] at hS
    have HAV := Aside0.mk hAV
    clear hAV
    obtain ⟨BV, hBV⟩ : ∃ q, q = attachV F SV.1 y gy iy := ⟨_, rfl⟩
    rw [← hBV] at hS
    have HBV := Aside0.mk hBV
    clear hBV
    have HL5 := Aside0.mk hl5
    have HC5 := Aside0.mk hC5
    clear hl5 hC5
    go_wp2_with (first | ((with_reducible refine gate_dst (N := 11) rfl ?_); refine box_event ?hg (N := 11) ?hd (cs := #[.int .i64 0, .int .i64 0, .int .i64 0, .int .i64 0, .int .i64 0, .int .i64 0, .slice none 0 0]) (t := 25) ?hr ?_; (case hd => rfl); (case hg => rfl); (case hr => first | (go_simp; done) | (go_simp; rfl)); intro g11 hg wk hbox hb; replace HP := Aside0.mk (Pd.box HP.out hg hbox hb); replace HQ := Aside0.mk (Pd.box HQ.out hg hbox hb); clear hg hbox hb; have hcz := cells7 (Pd.hd HP.out); have hfz := froz7 (Pd.hd HP.out)) | (have hgo := hcz; clear hgo; (with_reducible refine gate_dst (N := 37) rfl ?_); refine Pd.fold2 (Pd.st7 HP.out) (Pd.st7 HQ.out) ?_; intro W3 h0 h1; replace HP := Aside0.mk h0; replace HQ := Aside0.mk h1; clear h0 h1 hcz hfz; refine wpList_load_row rfl 63 (.tmp 5) rfl gf (by rfl) 63 #[.int .i64 F.f0.f0, .int .i64 F.f0.f1, .int .i64 F.f0.f2, .int .i64 F.f0.f3, .int .i64 F.f0.f4, .bool F.f0.f5, .slice A6 F.f1.length c6, .slice A7 F.f2.length c7, .slice A8 F.f3.length c8, .slice A9 F.f4.f0.length c9, .slice A10 F.f4.f1.length c10, .slice A11 F.f4.f2.length c11, .slice A12 F.f4.f3.length c12, .slice A13 F.f4.f4.length c13, .int .i64 F.f4.f5.f0, .slice A15 F.f4.f5.f1.length c15, .slice A16 F.f4.f5.f2.length c16] (0, 0) _ (Pd.getb HP.out (b := gf) (o := .cells #[.int .i64 F.f0.f0, .int .i64 F.f0.f1, .int .i64 F.f0.f2, .int .i64 F.f0.f3, .int .i64 F.f0.f4, .bool F.f0.f5, .slice A6 F.f1.length c6, .slice A7 F.f2.length c7, .slice A8 F.f3.length c8, .slice A9 F.f4.f0.length c9, .slice A10 F.f4.f1.length c10, .slice A11 F.f4.f2.length c11, .slice A12 F.f4.f3.length c12, .slice A13 F.f4.f4.length c13, .int .i64 F.f4.f5.f0, .slice A15 F.f4.f5.f1.length c15, .slice A16 F.f4.f5.f2.length c16] 63 (0, 0)) (by with_reducible repeat (first | exact List.mem_cons_self | apply List.mem_cons_of_mem))) hu36 rfl info_font ?_))
    refine (konst_calls _ F _ 6 c z (HF.out.heap HP.out.bel)).mono ?_
    rintro _ w6 ⟨rfl, hb⟩
    rw [← HKV.out]
    replace HP := Aside0.mk (Pd.below HP.out hb)
    replace HQ := Aside0.mk (Pd.below HQ.out hb)
    clear hb
    try dsimp only
    have h9 := blk_cell (Pd.getb HP.out (b := gf) (by with_reducible repeat (first | exact List.mem_cons_self | apply List.mem_cons_of_mem))) 9
    go_wp2_with fail
    refine (style_Size.callsU 2 A9 c9 F.f4.f0 c z SV.1 SV.2 _ (Kd.C_below HG9.out HP.out.bel) (by rw [HSV.out]; exact size_some F c z)).mono ?_
    rintro _ w7 ⟨rfl, hb⟩
    replace HP := Aside0.mk (Pd.below HP.out hb)
    replace HQ := Aside0.mk (Pd.below HQ.out hb)
    clear hb
    clear h9
    try dsimp only
    by_cases he : R.2.2.2.2.2.2.2 = 0
    rotate_left
    · have d1 : (R.2.2.2.2.2.2.2 == 0) = false := by simpa using he
      have hk := hN he
      have hlen : R.2.2.2.2.2.2.1.length = 0 := by rw [hk]; rfl
      clear hS hN hk he
      go_wp2_with fail
      refine (limited_calls _).mono ?_
      rintro _ w8 ⟨rfl, hb⟩
      replace HP := Aside0.mk (Pd.below HP.out hb)
      replace HQ := Aside0.mk (Pd.below HQ.out hb)
      clear hb
      try dsimp only
      have h11 := cells7 (Pd.getb HP.out (b := g11) (by with_reducible repeat (first | exact List.mem_cons_self | apply List.mem_cons_of_mem)))
      go_wp2
      go_ret
      exact ⟨rfl, HP.out.bel⟩
    · obtain ⟨hh, dd, u, v, hV, k1, k2, k3, k4, hv, hu⟩ := hS he
      clear hS hN he
      subst hV
      dsimp only at HL5 HC5 HP HQ ⊢
      simp only [List.length_cons, List.length_nil, Nat.reduceAdd] at HP HQ
      obtain ⟨ad, hA⟩ := kid_ad HC5.out (by simp)
      subst hA
      have HK := Aside0.mk (show KV.2 = 0 ∧ SV.2 = 0 ∧ AV.2 = 0 ∧ BV.2 = 0 ∧ v = max 0 (wrap64 (x.f2 - KV.1)) ∧ wrap64 (u + BV.1) = AV.1 from ⟨k1, k2, k3, k4, hv, hu⟩)
      clear hv hu
      have hn := nuc_c9 (Pd.getb HP.out (b := gn) (by with_reducible repeat (first | exact List.mem_cons_self | apply List.mem_cons_of_mem)))
      go_wp2_with (first | ((with_reducible refine gate_dst (N := 62) rfl ?_); refine wpList_load_row rfl 63 (.tmp 5) rfl gf (by rfl) 63 #[.int .i64 F.f0.f0, .int .i64 F.f0.f1, .int .i64 F.f0.f2, .int .i64 F.f0.f3, .int .i64 F.f0.f4, .bool F.f0.f5, .slice A6 F.f1.length c6, .slice A7 F.f2.length c7, .slice A8 F.f3.length c8, .slice A9 F.f4.f0.length c9, .slice A10 F.f4.f1.length c10, .slice A11 F.f4.f2.length c11, .slice A12 F.f4.f3.length c12, .slice A13 F.f4.f4.length c13, .int .i64 F.f4.f5.f0, .slice A15 F.f4.f5.f1.length c15, .slice A16 F.f4.f5.f2.length c16] (0, 0) _ (Pd.getb HP.out (b := gf) (o := .cells #[.int .i64 F.f0.f0, .int .i64 F.f0.f1, .int .i64 F.f0.f2, .int .i64 F.f0.f3, .int .i64 F.f0.f4, .bool F.f0.f5, .slice A6 F.f1.length c6, .slice A7 F.f2.length c7, .slice A8 F.f3.length c8, .slice A9 F.f4.f0.length c9, .slice A10 F.f4.f1.length c10, .slice A11 F.f4.f2.length c11, .slice A12 F.f4.f3.length c12, .slice A13 F.f4.f4.length c13, .int .i64 F.f4.f5.f0, .slice A15 F.f4.f5.f1.length c15, .slice A16 F.f4.f5.f2.length c16] 63 (0, 0)) (by with_reducible repeat (first | exact List.mem_cons_self | apply List.mem_cons_of_mem))) hu36 rfl info_font ?_))
      refine (attach_calls F SV.1 x gx ix Ax nx _ _ (HF.out.heap HP.out.bel) HA.out).mono ?_
      rintro _ w8 ⟨rfl, hb⟩
      rw [← HAV.out]
      replace HP := Aside0.mk (Pd.below HP.out hb)
      replace HQ := Aside0.mk (Pd.below HQ.out hb)
      clear hb
      try dsimp only
      clear hn
      have hm := nuc_c9 (Pd.getb HP.out (b := gm) (by with_reducible repeat (first | exact List.mem_cons_self | apply List.mem_cons_of_mem)))
      go_wp2_with (first | ((with_reducible refine gate_dst (N := 69) rfl ?_); refine wpList_load_row rfl 63 (.tmp 5) rfl gf (by rfl) 63 #[.int .i64 F.f0.f0, .int .i64 F.f0.f1, .int .i64 F.f0.f2, .int .i64 F.f0.f3, .int .i64 F.f0.f4, .bool F.f0.f5, .slice A6 F.f1.length c6, .slice A7 F.f2.length c7, .slice A8 F.f3.length c8, .slice A9 F.f4.f0.length c9, .slice A10 F.f4.f1.length c10, .slice A11 F.f4.f2.length c11, .slice A12 F.f4.f3.length c12, .slice A13 F.f4.f4.length c13, .int .i64 F.f4.f5.f0, .slice A15 F.f4.f5.f1.length c15, .slice A16 F.f4.f5.f2.length c16] (0, 0) _ (Pd.getb HP.out (b := gf) (o := .cells #[.int .i64 F.f0.f0, .int .i64 F.f0.f1, .int .i64 F.f0.f2, .int .i64 F.f0.f3, .int .i64 F.f0.f4, .bool F.f0.f5, .slice A6 F.f1.length c6, .slice A7 F.f2.length c7, .slice A8 F.f3.length c8, .slice A9 F.f4.f0.length c9, .slice A10 F.f4.f1.length c10, .slice A11 F.f4.f2.length c11, .slice A12 F.f4.f3.length c12, .slice A13 F.f4.f4.length c13, .int .i64 F.f4.f5.f0, .slice A15 F.f4.f5.f1.length c15, .slice A16 F.f4.f5.f2.length c16] 63 (0, 0)) (by with_reducible repeat (first | exact List.mem_cons_self | apply List.mem_cons_of_mem))) hu36 rfl info_font ?_))
      refine (attach_calls F SV.1 y gy iy Ay ny _ _ (HF.out.heap HP.out.bel) HA.out).mono ?_
      rintro _ w8 ⟨rfl, hb⟩
      rw [← HBV.out]
      replace HP := Aside0.mk (Pd.below HP.out hb)
      replace HQ := Aside0.mk (Pd.below HQ.out hb)
      clear hb
      try dsimp only
      clear hm
      have h11 := cells7 (Pd.getb HP.out (b := g11) (by with_reducible repeat (first | exact List.mem_cons_self | apply List.mem_cons_of_mem)))
      have hn := nuc_c9 (Pd.getb HP.out (b := gn) (by with_reducible repeat (first | exact List.mem_cons_self | apply List.mem_cons_of_mem)))
      have hm := nuc_c9 (Pd.getb HP.out (b := gm) (by with_reducible repeat (first | exact List.mem_cons_self | apply List.mem_cons_of_mem)))
      obtain ⟨ad0, A8x, c8x, hA8, hl8x, hC8x, HW0⟩ := kid_keep HC5.out 0 (by simp)
      cases hA8
      have HL8x := Aside0.mk hl8x
      have HC8x := Aside0.mk (Kd.C_below hC8x HQ.out.bel)
      clear hl8x hC8x
      obtain ⟨u00, u01, u02, u03, u04, u05, u06, u07, u08⟩ := HW0 _ HQ.out.bel
      simp [Addr.add] at u00 u01 u02 u03 u04 u05 u06 u07 u08
      clear HW0
      obtain ⟨ad1, A8y, c8y, hA8, hl8y, hC8y, HW1⟩ := kid_keep HC5.out 1 (by simp)
      cases hA8
      have HL8y := Aside0.mk hl8y
      have HC8y := Aside0.mk (Kd.C_below hC8y HQ.out.bel)
      clear hl8y hC8y
      obtain ⟨u10, u11, u12, u13, u14, u15, u16, u17, u18⟩ := HW1 _ HQ.out.bel
      simp [Addr.add] at u10 u11 u12 u13 u14 u15 u16 u17 u18
      clear HW1
      go_wp2_with fail
      have c0 : ∀ n : On w8, n.W.cell? ⟨g11, 6, none⟩ = some (.slice (some ad) 2 n5) := fun n => On.cell h11.2.2.2.2.2.2 n
      have c1 : ∀ n : On w8, n.W.cell? ⟨gn, 0, none⟩ = some (.int .i64 x.f0) := fun n => On.cell hn.1 n
      have c2 : ∀ n : On w8, n.W.cell? ⟨gn, 1, none⟩ = some (.int .i64 x.f1) := fun n => On.cell hn.2.1 n
      have c3 : ∀ n : On w8, n.W.cell? ⟨gn, 2, none⟩ = some (.int .i64 x.f2) := fun n => On.cell hn.2.2.1 n
      have c4 : ∀ n : On w8, n.W.cell? ⟨gn, 3, none⟩ = some (.int .i64 x.f3) := fun n => On.cell hn.2.2.2.1 n
      have c5 : ∀ n : On w8, n.W.cell? ⟨gn, 4, none⟩ = some (.int .i64 x.f4) := fun n => On.cell hn.2.2.2.2.1 n
      have c6 : ∀ n : On w8, n.W.cell? ⟨gn, 5, none⟩ = some (.int .i64 x.f5) := fun n => On.cell hn.2.2.2.2.2.1 n
      have c7 : ∀ n : On w8, n.W.cell? ⟨gn, 6, none⟩ = some (.slice Ax x.f6.length nx) := fun n => On.cell hn.2.2.2.2.2.2.1 n
      have c8 : ∀ n : On w8, n.W.cell? ⟨gm, 0, none⟩ = some (.int .i64 y.f0) := fun n => On.cell hm.1 n
      have c9 : ∀ n : On w8, n.W.cell? ⟨gm, 1, none⟩ = some (.int .i64 y.f1) := fun n => On.cell hm.2.1 n
      have c10 : ∀ n : On w8, n.W.cell? ⟨gm, 2, none⟩ = some (.int .i64 y.f2) := fun n => On.cell hm.2.2.1 n
      have c11 : ∀ n : On w8, n.W.cell? ⟨gm, 3, none⟩ = some (.int .i64 y.f3) := fun n => On.cell hm.2.2.2.1 n
      have c12 : ∀ n : On w8, n.W.cell? ⟨gm, 4, none⟩ = some (.int .i64 y.f4) := fun n => On.cell hm.2.2.2.2.1 n
      have c13 : ∀ n : On w8, n.W.cell? ⟨gm, 5, none⟩ = some (.int .i64 y.f5) := fun n => On.cell hm.2.2.2.2.2.1 n
      have c14 : ∀ n : On w8, n.W.cell? ⟨gm, 6, none⟩ = some (.slice Ay y.f6.length ny) := fun n => On.cell hm.2.2.2.2.2.2.1 n
      have c15 : ∀ n : On w8, n.W.cell? ⟨ad.block, ad.off + 9, none⟩ = some (.int .i64 u) := fun n => On.cell u10 n
      have c16 : ∀ n : On w8, n.W.cell? ⟨ad.block, ad.off + 2, none⟩ = some (.int .i64 x.f0) := fun n => On.cell u02 n
      have c17 : ∀ n : On w8, n.W.cell? ⟨ad.block, ad.off + 3, none⟩ = some (.int .i64 x.f1) := fun n => On.cell u03 n
      have c18 : ∀ n : On w8, n.W.cell? ⟨ad.block, ad.off + 4, none⟩ = some (.int .i64 x.f2) := fun n => On.cell u04 n
      have c19 : ∀ n : On w8, n.W.cell? ⟨ad.block, ad.off + 5, none⟩ = some (.int .i64 x.f3) := fun n => On.cell u05 n
      have c20 : ∀ n : On w8, n.W.cell? ⟨ad.block, ad.off + 6, none⟩ = some (.int .i64 x.f4) := fun n => On.cell u06 n
      have c21 : ∀ n : On w8, n.W.cell? ⟨ad.block, ad.off + 7, none⟩ = some (.int .i64 x.f5) := fun n => On.cell u07 n
      have c22 : ∀ n : On w8, n.W.cell? ⟨ad.block, ad.off + 8, none⟩ = some (.slice A8x x.f6.length c8x) := fun n => On.cell u08 n
      have c23 : ∀ n : On w8, n.W.cell? ⟨ad.block, ad.off + 9 + 2, none⟩ = some (.int .i64 y.f0) := fun n => On.cell u12 n
      have c24 : ∀ n : On w8, n.W.cell? ⟨ad.block, ad.off + 9 + 3, none⟩ = some (.int .i64 y.f1) := fun n => On.cell u13 n
      have c25 : ∀ n : On w8, n.W.cell? ⟨ad.block, ad.off + 9 + 4, none⟩ = some (.int .i64 y.f2) := fun n => On.cell u14 n
      have c26 : ∀ n : On w8, n.W.cell? ⟨ad.block, ad.off + 9 + 5, none⟩ = some (.int .i64 y.f3) := fun n => On.cell u15 n
      have c27 : ∀ n : On w8, n.W.cell? ⟨ad.block, ad.off + 9 + 6, none⟩ = some (.int .i64 y.f4) := fun n => On.cell u16 n
      have c28 : ∀ n : On w8, n.W.cell? ⟨ad.block, ad.off + 9 + 7, none⟩ = some (.int .i64 y.f5) := fun n => On.cell u17 n
      have c29 : ∀ n : On w8, n.W.cell? ⟨ad.block, ad.off + 9 + 8, none⟩ = some (.slice A8y y.f6.length c8y) := fun n => On.cell u18 n
      have HB := Aside0.mk HP.out.bel
      replace HCx := Aside0.mk (Kd.C_below HCx.out HP.out.bel)
      replace HCy := Aside0.mk (Kd.C_below HCy.out HP.out.bel)
      clear h11 hn hm u00 u01 u02 u03 u04 u05 u06 u07 u08 u10 u11 u12 u13 u14 u15 u16 u17 u18
      clear HQ HF HG9 k1 k2 k3 k4
      replace HP := Aside0.mk (Pd.start w8)
      have j1 : (v == max 0 (wrap64 (x.f2 - KV.1))) = true := by simp [HK.out.2.2.2.2.1]
      have j2 : (wrap64 (u + BV.1) == AV.1) = true := by simp [HK.out.2.2.2.2.2]
      refine wp_region_on w8 HP.out.bel (by kernel_rfl) (by kernel_rfl) ?_
      repeat (go_big_quiet_step (first | (go_at_call 38; exact Calls.on (limited_calls _)) | (go_at_call 22; (with_reducible refine same_gate x ?_); exact Calls.on (same_calls _ x (Nat.lt_succ_self _) _ A8x c8x Ax nx HL8x.out (Kd.C_below HC8x.out (On.bel _)) Hlx.out (Kd.C_below HCx.out (On.bel _)))) | (go_at_call 22; (with_reducible refine same_gate y ?_); exact Calls.on (same_calls _ y (Nat.lt_succ_self _) _ A8y c8y Ay ny HL8y.out (Kd.C_below HC8y.out (On.bel _)) Hly.out (Kd.C_below HCy.out (On.bel _))))))
      refine wpQuiet_nil ?_
      intro _ hw'
      obtain ⟨nq, hw''⟩ := hw'
      subst hw''
      go_wp2
      go_ret
      exact ⟨rfl, below_step HB.out nq.bel⟩
end Go.Proofs.Ytbhljokhcmfgjaa.P
