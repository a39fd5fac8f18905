import Derived.Test.YtbhljokhcmfgjaaGaps2
import Derived.Test.YtbhljokhcmfgjaaBar10
import Derived.Deep.Cut
/- The law BarGaps: the walk. Printed by a program of this work (mkgaps27.py). -/
set_option linter.unusedVariables false
set_option linter.unusedSimpArgs false
namespace Go.Proofs.Ytbhljokhcmfgjaa.P
open Go.RowKit Go.Proofs.YtbhljokhcmfgjaaW.PrintWords Go.Proofs.YtbhljokhcmfgjaaW.PrintLast Go.Proofs.YtbhljokhcmfgjaaW.PrintMore

theorem Pd.base {w W : World} {L : List (Nat × Obj)} (h : Pd w W L) : ∀ p ∈ L, W.heap[p.1]? = some p.2 := fun p hp => (h.loc p hp).1
theorem Pd.olds {w W : World} {L M : List (Nat × Obj)} (h : Pd w W L) (hM : ∀ p ∈ M, w.heap[p.1]? = some p.2) {b : Nat} {o : Obj} (hm : (b, o) ∈ M) : W.heap[b]? = some o := by
  have h1 := hM _ hm
  rw [h.bel.block b (blk_lt h1)]
  exact h1
theorem Pd.rebase {w W : World} {L M : List (Nat × Obj)} (h : Pd w W L) (hM : ∀ p ∈ M, w.heap[p.1]? = some p.2) : ∀ p ∈ L ++ M, W.heap[p.1]? = some p.2 := by
  intro p hp
  rcases List.mem_append.1 hp with hp | hp
  · exact (h.loc p hp).1
  · exact h.olds hM hp

theorem Pd.set9 {w W : World} {L : List (Nat × Obj)} {q : Nat} {t : TypeId} {u0 u1 u2 u3 u4 u5 u6 u7 u8 v0 v1 v2 v3 v4 v5 v6 v7 v8 : Value} (h : Pd w W ((q, .cells #[u0, u1, u2, u3, u4, u5, u6, u7, u8] t (0, 0)) :: L)) : Pd w (((((((((W.setCell ⟨q, 0, none⟩ v0).setCell ⟨q, 1, none⟩ v1).setCell ⟨q, 2, none⟩ v2).setCell ⟨q, 3, none⟩ v3).setCell ⟨q, 4, none⟩ v4).setCell ⟨q, 5, none⟩ v5).setCell ⟨q, 6, none⟩ v6).setCell ⟨q, 7, none⟩ v7).setCell ⟨q, 8, none⟩ v8) ((q, .cells #[v0, v1, v2, v3, v4, v5, v6, v7, v8] t (0, 0)) :: L) :=
  h.put (put9 h.hd) (fun k hk => far9 _ hk) (bel9 h.bel (h.loc _ List.mem_cons_self).2)
theorem Pd.none {w W : World} {L : List (Nat × Obj)} (h : Pd w W L) : Pd w W [] := ⟨⟨h.bel, fun p hp => by cases hp⟩, List.Pairwise.nil⟩
set_option maxRecDepth 100000 in
set_option maxHeartbeats 3000000 in
theorem law_bar_gaps (w : World) (F : S63) (c z : Int) (b : S25) (hOb : Ok25 b) (cs : List Value) (Ab : Option Addr) (nb : Nat) (hF : FontIn w F cs) (hlb : b.f6.length ≤ nb) (hCb : Kd.C k41 w Ab b.f6.length b.f6)
    (hbar : ∀ w : World, Calls Try.prog 35 #[] w fun r w' => r = .returned (.bool true) ∧ Below w.heap.size w w') :
    Calls Try.prog 8 #[.agg cs.toArray, .int .i64 c, .int .i64 z, .agg #[.int .i64 b.f0, .int .i64 b.f1, .int .i64 b.f2, .int .i64 b.f3, .int .i64 b.f4, .int .i64 b.f5, .slice Ab b.f6.length nb]] w fun r w' => r = .returned (.bool true) ∧ Below w.heap.size w w' := by
  have hu39 := Try.underlying25
  have hu36 := Try.underlying63
  have hu49 := Try.underlying41
  have HF := Aside0.mk hF
  have HOb := Aside0.mk hOb
  have HLb := Aside0.mk hlb
  have HCb := Aside0.mk hCb
  obtain ⟨A6, c6, A7, c7, A8, c8, A9, c9, A10, c10, A11, c11, A12, c12, A13, c13, A15, c15, A16, c16, hcs, hcr⟩ := id hF
  subst hcs
  clear hcr hOb hlb hCb hF
  have HP := Aside0.mk (Pd.start w)
  go_enter Try.func8, Try.ntmps8
  go_wp2_with (first | ((with_reducible refine gate_dst (N := 4) rfl ?_); refine box_event ?hg (N := 4) ?hd (cs := #[.int .i64 F.f0.f0, .int .i64 F.f0.f1, .int .i64 F.f0.f2, .int .i64 F.f0.f3, .int .i64 F.f0.f4, .bool F.f0.f5, .slice A6 F.f1.length c6, .slice A7 F.f2.length c7, .slice A8 F.f3.length c8, .slice A9 F.f4.f0.length c9, .slice A10 F.f4.f1.length c10, .slice A11 F.f4.f2.length c11, .slice A12 F.f4.f3.length c12, .slice A13 F.f4.f4.length c13, .int .i64 F.f4.f5.f0, .slice A15 F.f4.f5.f1.length c15, .slice A16 F.f4.f5.f2.length c16]) (t := 63) ?hr ?_; (case hd => rfl); (case hg => rfl); (case hr => first | (go_simp; done) | (go_simp; rfl)); intro gf hg wk hbox hb; replace HP := Aside0.mk (Pd.box (by with_reducible repeat (first | exact HP.out | apply Pd.drew)) hg hbox hb); clear hg hbox hb) | ((with_reducible refine gate_dst (N := 7) rfl ?_); refine box_event ?hg (N := 7) ?hd (cs := #[.int .i64 b.f0, .int .i64 b.f1, .int .i64 b.f2, .int .i64 b.f3, .int .i64 b.f4, .int .i64 b.f5, .slice Ab b.f6.length nb]) (t := 25) ?hr ?_; (case hd => rfl); (case hg => rfl); (case hr => first | (go_simp; done) | (go_simp; rfl)); intro gb hg wk hbox hb; replace HP := Aside0.mk (Pd.box (by with_reducible repeat (first | exact HP.out | apply Pd.drew)) hg hbox hb); clear hg hbox hb; have hsb := cells7 (Pd.hd HP.out)) | ((with_reducible refine gate_dst (N := 27) rfl ?_); refine wpList_load_row rfl 63 (.tmp 4) rfl gf (by rfl) 63 #[.int .i64 F.f0.f0, .int .i64 F.f0.f1, .int .i64 F.f0.f2, .int .i64 F.f0.f3, .int .i64 F.f0.f4, .bool F.f0.f5, .slice A6 F.f1.length c6, .slice A7 F.f2.length c7, .slice A8 F.f3.length c8, .slice A9 F.f4.f0.length c9, .slice A10 F.f4.f1.length c10, .slice A11 F.f4.f2.length c11, .slice A12 F.f4.f3.length c12, .slice A13 F.f4.f4.length c13, .int .i64 F.f4.f5.f0, .slice A15 F.f4.f5.f1.length c15, .slice A16 F.f4.f5.f2.length c16] (0, 0) _ (Pd.hd (Pd.tl (by with_reducible repeat (first | exact HP.out | apply Pd.drew)))) hu36 rfl info_font ?_))
  clear hsb
  refine (few27_calls _ F b b b Ab Ab Ab nb nb nb _ (HF.out.heap HP.out.bel) HOb.out HLb.out (Kd.C_below HCb.out HP.out.bel) HOb.out HLb.out (Kd.C_below HCb.out HP.out.bel) HOb.out HLb.out (Kd.C_below HCb.out HP.out.bel)).mono ?_
  rintro _ w1 ⟨q, rfl, hb⟩
  replace HP := Aside0.mk (Pd.below HP.out hb)
  clear hb
  cases q with
  | false =>
    go_wp2
    go_ret
    exact ⟨rfl, HP.out.bel⟩
  | true =>
    have HW := Aside0.mk HP.out.bel
    have HB := Aside0.mk (Pd.base HP.out)
    replace HF := Aside0.mk (HF.out.heap HP.out.bel)
    replace HCb := Aside0.mk (Kd.C_below HCb.out HP.out.bel)
    replace HP := Aside0.mk (Pd.start w1)
    have hsb := cells7 (Pd.olds HP.out HB.out (b := gb) (o := .cells #[.int .i64 b.f0, .int .i64 b.f1, .int .i64 b.f2, .int .i64 b.f3, .int .i64 b.f4, .int .i64 b.f5, .slice Ab b.f6.length nb] 25 (0, 0)) (by with_reducible repeat (first | exact List.mem_cons_self | apply List.mem_cons_of_mem)))
    go_wp2_with (first | ((with_reducible refine gate_dst (N := 34) rfl ?_); refine wpList_load_row rfl 63 (.tmp 4) rfl gf (by rfl) 63 #[.int .i64 F.f0.f0, .int .i64 F.f0.f1, .int .i64 F.f0.f2, .int .i64 F.f0.f3, .int .i64 F.f0.f4, .bool F.f0.f5, .slice A6 F.f1.length c6, .slice A7 F.f2.length c7, .slice A8 F.f3.length c8, .slice A9 F.f4.f0.length c9, .slice A10 F.f4.f1.length c10, .slice A11 F.f4.f2.length c11, .slice A12 F.f4.f3.length c12, .slice A13 F.f4.f4.length c13, .int .i64 F.f4.f5.f0, .slice A15 F.f4.f5.f1.length c15, .slice A16 F.f4.f5.f2.length c16] (0, 0) _ (Pd.olds HP.out HB.out (b := gf) (o := .cells #[.int .i64 F.f0.f0, .int .i64 F.f0.f1, .int .i64 F.f0.f2, .int .i64 F.f0.f3, .int .i64 F.f0.f4, .bool F.f0.f5, .slice A6 F.f1.length c6, .slice A7 F.f2.length c7, .slice A8 F.f3.length c8, .slice A9 F.f4.f0.length c9, .slice A10 F.f4.f1.length c10, .slice A11 F.f4.f2.length c11, .slice A12 F.f4.f3.length c12, .slice A13 F.f4.f4.length c13, .int .i64 F.f4.f5.f0, .slice A15 F.f4.f5.f1.length c15, .slice A16 F.f4.f5.f2.length c16] 63 (0, 0)) (by with_reducible repeat (first | exact List.mem_cons_self | apply List.mem_cons_of_mem))) hu36 rfl info_font ?_))
    clear hsb
    refine (over_calls F c z b Ab nb _ _ (HF.out.heap HP.out.bel) HLb.out (Kd.C_below HCb.out HP.out.bel)).mono ?_
    rintro _ w20 ⟨A20, n20, rfl, hl, hC, hb⟩
    obtain ⟨R0, h_R0⟩ : ∃ R0, R0 = overV F c z b := ⟨_, rfl⟩
    rw [← h_R0] at hl hC ⊢
    have H_R0 := Aside0.mk h_R0
    clear h_R0
    replace HP := Aside0.mk (Pd.below HP.out hb)
    clear hb
    replace HW := Aside0.mk (below_step HW.out HP.out.bel)
    replace HB := Aside0.mk (Pd.rebase HP.out HB.out)
    replace HF := Aside0.mk (HF.out.heap HP.out.bel)
    replace HCb := Aside0.mk (Kd.C_below HCb.out HP.out.bel)
    replace HP := Aside0.mk (Pd.start w20)
    simp only [List.cons_append, List.nil_append] at HB
    have HL20 := Aside0.mk hl
    have HC20 := Aside0.mk hC
    clear hl hC
    go_wp2_with (first | ((with_reducible refine gate_dst (N := 9) rfl ?_); refine box_event ?hg (N := 9) ?hd (cs := #[.int .i64 0, .int .i64 0, .int .i64 0, .int .i64 0, .int .i64 0, .int .i64 0, .slice none 0 0]) (t := 25) ?hr ?_; (case hd => rfl); (case hg => rfl); (case hr => first | (go_simp; done) | (go_simp; rfl)); intro g9 hg wk9 hbox hb; replace HP := Aside0.mk (Pd.box HP.out hg hbox hb); clear hg hbox hb; have hcz := cells7 (Pd.hd HP.out); have hfz := froz7 (Pd.hd HP.out)) | (have hgo := hcz; clear hgo; (with_reducible refine gate_dst (N := 42) rfl ?_); refine Pd.fold (Pd.st7 HP.out) ?_; intro W' h0; replace HP := Aside0.mk h0; clear h0 hcz hfz; have hsb := cells7 (Pd.olds HP.out HB.out (b := gb) (o := .cells #[.int .i64 b.f0, .int .i64 b.f1, .int .i64 b.f2, .int .i64 b.f3, .int .i64 b.f4, .int .i64 b.f5, .slice Ab b.f6.length nb] 25 (0, 0)) (by with_reducible repeat (first | exact List.mem_cons_self | apply List.mem_cons_of_mem))); refine wpList_load_row rfl 63 (.tmp 4) rfl gf (by rfl) 63 #[.int .i64 F.f0.f0, .int .i64 F.f0.f1, .int .i64 F.f0.f2, .int .i64 F.f0.f3, .int .i64 F.f0.f4, .bool F.f0.f5, .slice A6 F.f1.length c6, .slice A7 F.f2.length c7, .slice A8 F.f3.length c8, .slice A9 F.f4.f0.length c9, .slice A10 F.f4.f1.length c10, .slice A11 F.f4.f2.length c11, .slice A12 F.f4.f3.length c12, .slice A13 F.f4.f4.length c13, .int .i64 F.f4.f5.f0, .slice A15 F.f4.f5.f1.length c15, .slice A16 F.f4.f5.f2.length c16] (0, 0) _ (Pd.olds HP.out HB.out (b := gf) (o := .cells #[.int .i64 F.f0.f0, .int .i64 F.f0.f1, .int .i64 F.f0.f2, .int .i64 F.f0.f3, .int .i64 F.f0.f4, .bool F.f0.f5, .slice A6 F.f1.length c6, .slice A7 F.f2.length c7, .slice A8 F.f3.length c8, .slice A9 F.f4.f0.length c9, .slice A10 F.f4.f1.length c10, .slice A11 F.f4.f2.length c11, .slice A12 F.f4.f3.length c12, .slice A13 F.f4.f4.length c13, .int .i64 F.f4.f5.f0, .slice A15 F.f4.f5.f1.length c15, .slice A16 F.f4.f5.f2.length c16] 63 (0, 0)) (by with_reducible repeat (first | exact List.mem_cons_self | apply List.mem_cons_of_mem))) hu36 rfl info_font ?_))
    clear hsb
    refine (under_calls F c z b Ab nb _ _ (HF.out.heap HP.out.bel) HLb.out (Kd.C_below HCb.out HP.out.bel)).mono ?_
    rintro _ w21 ⟨A21, n21, rfl, hl, hC, hb⟩
    obtain ⟨R1, h_R1⟩ : ∃ R1, R1 = underV F c z b := ⟨_, rfl⟩
    rw [← h_R1] at hl hC ⊢
    have H_R1 := Aside0.mk h_R1
    clear h_R1
    replace HP := Aside0.mk (Pd.below HP.out hb)
    clear hb
    replace HW := Aside0.mk (below_step HW.out HP.out.bel)
    replace HB := Aside0.mk (Pd.rebase HP.out HB.out)
    replace HF := Aside0.mk (HF.out.heap HP.out.bel)
    replace HCb := Aside0.mk (Kd.C_below HCb.out HP.out.bel)
    replace HC20 := Aside0.mk (Kd.C_below HC20.out HP.out.bel)
    replace HP := Aside0.mk (Pd.start w21)
    simp only [List.cons_append, List.nil_append] at HB
    have HL21 := Aside0.mk hl
    have HC21 := Aside0.mk hC
    clear hl hC
    go_upto_if 50 with (first | ((with_reducible refine gate_dst (N := 11) rfl ?_); refine box_event ?hg (N := 11) ?hd (cs := #[.int .i64 0, .int .i64 0, .int .i64 0, .int .i64 0, .int .i64 0, .int .i64 0, .slice none 0 0]) (t := 25) ?hr ?_; (case hd => rfl); (case hg => rfl); (case hr => first | (go_simp; done) | (go_simp; rfl)); intro g11 hg wk9 hbox hb; replace HP := Aside0.mk (Pd.box HP.out hg hbox hb); clear hg hbox hb; have hcz := cells7 (Pd.hd HP.out); have hfz := froz7 (Pd.hd HP.out)) | (have hgo := hcz; clear hgo; (with_reducible refine gate_dst (N := 49) rfl ?_); refine Pd.fold (Pd.st7 HP.out) ?_; intro WS h0; replace HP := Aside0.mk h0; clear h0 hcz hfz; skip))
    replace HW := Aside0.mk (below_step HW.out HP.out.bel)
    replace HB := Aside0.mk (Pd.rebase HP.out HB.out)
    replace HF := Aside0.mk (HF.out.heap HP.out.bel)
    replace HCb := Aside0.mk (Kd.C_below HCb.out HP.out.bel)
    replace HC20 := Aside0.mk (Kd.C_below HC20.out HP.out.bel)
    replace HC21 := Aside0.mk (Kd.C_below HC21.out HP.out.bel)
    replace HP := Aside0.mk (Pd.start WS)
    simp only [List.cons_append, List.nil_append] at HB
    go_cut [13, 14, 15, 16, 17, 18, 19] from 49 (fun s13 s14 s15 s16 s17 s18 s19 w' => Aside0 (Pd WS w' []))
    case first =>
      by_cases he : R0.2.2.2.2.2.2.2 = 0
      · obtain ⟨hh, dd, y, q, hV, k1, k2, k3, ⟨o1, o2⟩, hR⟩ := over_gaps F c z b (by rw [← H_R0.out]; exact he)
        have hR0 := H_R0.out.trans hV
        clear he hV
        subst hR0
        dsimp only at HB HC20 HL20 ⊢
        have HRI := Aside0.mk hR
        clear hR H_R0
        go_wp2_with (first | ((with_reducible refine gate_dst (N := 52) rfl ?_); refine wpList_load_row rfl 63 (.tmp 4) rfl gf (by rfl) 63 #[.int .i64 F.f0.f0, .int .i64 F.f0.f1, .int .i64 F.f0.f2, .int .i64 F.f0.f3, .int .i64 F.f0.f4, .bool F.f0.f5, .slice A6 F.f1.length c6, .slice A7 F.f2.length c7, .slice A8 F.f3.length c8, .slice A9 F.f4.f0.length c9, .slice A10 F.f4.f1.length c10, .slice A11 F.f4.f2.length c11, .slice A12 F.f4.f3.length c12, .slice A13 F.f4.f4.length c13, .int .i64 F.f4.f5.f0, .slice A15 F.f4.f5.f1.length c15, .slice A16 F.f4.f5.f2.length c16] (0, 0) _ (Pd.olds HP.out HB.out (b := gf) (o := .cells #[.int .i64 F.f0.f0, .int .i64 F.f0.f1, .int .i64 F.f0.f2, .int .i64 F.f0.f3, .int .i64 F.f0.f4, .bool F.f0.f5, .slice A6 F.f1.length c6, .slice A7 F.f2.length c7, .slice A8 F.f3.length c8, .slice A9 F.f4.f0.length c9, .slice A10 F.f4.f1.length c10, .slice A11 F.f4.f2.length c11, .slice A12 F.f4.f3.length c12, .slice A13 F.f4.f4.length c13, .int .i64 F.f4.f5.f0, .slice A15 F.f4.f5.f1.length c15, .slice A16 F.f4.f5.f2.length c16] 63 (0, 0)) (by with_reducible repeat (first | exact List.mem_cons_self | apply List.mem_cons_of_mem))) hu36 rfl info_font ?_))
        refine (konst_calls _ F _ 43 c z (HF.out.heap HP.out.bel)).mono ?_
        rintro _ w6 ⟨rfl, hb⟩
        replace HP := Aside0.mk (Pd.below HP.out hb)
        clear hb
        try dsimp only
        go_wp2_with (first | ((with_reducible refine gate_dst (N := 59) rfl ?_); refine wpList_load_row rfl 63 (.tmp 4) rfl gf (by rfl) 63 #[.int .i64 F.f0.f0, .int .i64 F.f0.f1, .int .i64 F.f0.f2, .int .i64 F.f0.f3, .int .i64 F.f0.f4, .bool F.f0.f5, .slice A6 F.f1.length c6, .slice A7 F.f2.length c7, .slice A8 F.f3.length c8, .slice A9 F.f4.f0.length c9, .slice A10 F.f4.f1.length c10, .slice A11 F.f4.f2.length c11, .slice A12 F.f4.f3.length c12, .slice A13 F.f4.f4.length c13, .int .i64 F.f4.f5.f0, .slice A15 F.f4.f5.f1.length c15, .slice A16 F.f4.f5.f2.length c16] (0, 0) _ (Pd.olds HP.out HB.out (b := gf) (o := .cells #[.int .i64 F.f0.f0, .int .i64 F.f0.f1, .int .i64 F.f0.f2, .int .i64 F.f0.f3, .int .i64 F.f0.f4, .bool F.f0.f5, .slice A6 F.f1.length c6, .slice A7 F.f2.length c7, .slice A8 F.f3.length c8, .slice A9 F.f4.f0.length c9, .slice A10 F.f4.f1.length c10, .slice A11 F.f4.f2.length c11, .slice A12 F.f4.f3.length c12, .slice A13 F.f4.f4.length c13, .int .i64 F.f4.f5.f0, .slice A15 F.f4.f5.f1.length c15, .slice A16 F.f4.f5.f2.length c16] 63 (0, 0)) (by with_reducible repeat (first | exact List.mem_cons_self | apply List.mem_cons_of_mem))) hu36 rfl info_font ?_))
        refine (konst_calls _ F _ 44 c z (HF.out.heap HP.out.bel)).mono ?_
        rintro _ w6 ⟨rfl, hb⟩
        replace HP := Aside0.mk (Pd.below HP.out hb)
        clear hb
        try dsimp only
        go_wp2_with (first | ((with_reducible refine gate_dst (N := 66) rfl ?_); refine wpList_load_row rfl 63 (.tmp 4) rfl gf (by rfl) 63 #[.int .i64 F.f0.f0, .int .i64 F.f0.f1, .int .i64 F.f0.f2, .int .i64 F.f0.f3, .int .i64 F.f0.f4, .bool F.f0.f5, .slice A6 F.f1.length c6, .slice A7 F.f2.length c7, .slice A8 F.f3.length c8, .slice A9 F.f4.f0.length c9, .slice A10 F.f4.f1.length c10, .slice A11 F.f4.f2.length c11, .slice A12 F.f4.f3.length c12, .slice A13 F.f4.f4.length c13, .int .i64 F.f4.f5.f0, .slice A15 F.f4.f5.f1.length c15, .slice A16 F.f4.f5.f2.length c16] (0, 0) _ (Pd.olds HP.out HB.out (b := gf) (o := .cells #[.int .i64 F.f0.f0, .int .i64 F.f0.f1, .int .i64 F.f0.f2, .int .i64 F.f0.f3, .int .i64 F.f0.f4, .bool F.f0.f5, .slice A6 F.f1.length c6, .slice A7 F.f2.length c7, .slice A8 F.f3.length c8, .slice A9 F.f4.f0.length c9, .slice A10 F.f4.f1.length c10, .slice A11 F.f4.f2.length c11, .slice A12 F.f4.f3.length c12, .slice A13 F.f4.f4.length c13, .int .i64 F.f4.f5.f0, .slice A15 F.f4.f5.f1.length c15, .slice A16 F.f4.f5.f2.length c16] 63 (0, 0)) (by with_reducible repeat (first | exact List.mem_cons_self | apply List.mem_cons_of_mem))) hu36 rfl info_font ?_))
        refine (konst_calls _ F _ 45 c z (HF.out.heap HP.out.bel)).mono ?_
        rintro _ w6 ⟨rfl, hb⟩
        replace HP := Aside0.mk (Pd.below HP.out hb)
        clear hb
        try dsimp only
        obtain ⟨ad, hA⟩ := kid_ad HC20.out (by simp)
        subst hA
        simp only [List.length_cons, List.length_nil, Nat.reduceAdd] at HB
        have hs9 := cells7 (Pd.olds HP.out HB.out (b := g9) (o := .cells #[.int .i64 3, .int .i64 b.f1, .int .i64 hh, .int .i64 dd, .int .i64 0, .int .i64 0, .slice (some ad) 3 n20] 25 (0, 0)) (by with_reducible repeat (first | exact List.mem_cons_self | apply List.mem_cons_of_mem)))
        have hsb := cells7 (Pd.olds HP.out HB.out (b := gb) (o := .cells #[.int .i64 b.f0, .int .i64 b.f1, .int .i64 b.f2, .int .i64 b.f3, .int .i64 b.f4, .int .i64 b.f5, .slice Ab b.f6.length nb] 25 (0, 0)) (by with_reducible repeat (first | exact List.mem_cons_self | apply List.mem_cons_of_mem)))
        obtain ⟨ad', A8, c8, hA8, _, _, HW1⟩ := kid_keep HC20.out 1 (by simp)
        cases hA8
        obtain ⟨u0, u1, u2, u3, u4, u5, u6, u7, u8⟩ := HW1 _ HP.out.bel
        simp [Addr.add] at u0 u1 u2 u3 u4 u5 u6 u7 u8
        clear HW1
        go_wp2_with (first | ((with_reducible refine gate_dst (N := 19) rfl ?_); refine box_event ?hg (N := 19) ?hd (cs := #[.int .i64 0, .int .i64 0, .int .i64 0, .int .i64 0, .int .i64 0, .int .i64 0, .int .i64 0, .int .i64 0, .slice none 0 0]) (t := 41) ?hr ?_; (case hd => rfl); (case hg => rfl); (case hr => first | (go_simp; done) | (go_simp; rfl)); intro gk hg wk9 hbox hb; replace HP := Aside0.mk (Pd.box HP.out hg hbox hb); clear hg hbox hb; have hcz := cells9 (Pd.hd HP.out); have hfz := froz9 (Pd.hd HP.out)) | (have hgo := hcz; clear hgo; (with_reducible refine gate_dst (N := 99) rfl ?_); refine Pd.fold (Pd.set9 HP.out) ?_; intro W' h0; replace HP := Aside0.mk h0; clear h0 hcz hfz; clear hs9 hsb u0 u1 u2 u3 u4 u5 u6 u7 u8; have hs9 := cells7 (Pd.olds HP.out HB.out (b := g9) (o := .cells #[.int .i64 3, .int .i64 b.f1, .int .i64 hh, .int .i64 dd, .int .i64 0, .int .i64 0, .slice (some ad) 3 n20] 25 (0, 0)) (by with_reducible repeat (first | exact List.mem_cons_self | apply List.mem_cons_of_mem))); have hsb := cells7 (Pd.olds HP.out HB.out (b := gb) (o := .cells #[.int .i64 b.f0, .int .i64 b.f1, .int .i64 b.f2, .int .i64 b.f3, .int .i64 b.f4, .int .i64 b.f5, .slice Ab b.f6.length nb] 25 (0, 0)) (by with_reducible repeat (first | exact List.mem_cons_self | apply List.mem_cons_of_mem))); have hk9 := cells9 (Pd.hd HP.out)))
        have j2 : decide (hh < wrap64 (wrap64 (y + (konstV F 44 c z).1) + (konstV F 45 c z).1)) = false := decide_eq_false (by have := o2; omega)
        have HKS := Aside0.mk (show _ ∧ _ ∧ _ from ⟨k1, k2, k3⟩)
        go_wp2_with fail
        clear hk9 hs9 hsb o1 j2
        refine (check_calls _ b (Nat.lt_succ_self _) _ Ab nb HLb.out (Kd.C_below HCb.out HP.out.bel)).mono ?_
        rintro _ w7 ⟨rfl, hb⟩
        replace HP := Aside0.mk (Pd.below HP.out hb)
        clear hb
        try dsimp only
        obtain ⟨G1, hG1⟩ : ∃ G, G = checkV (SizeOf.sizeOf b).succ b := ⟨_, rfl⟩
        rw [← hG1]
        have HG1 := Aside0.mk hG1
        clear hG1
        by_cases e1 : G1 = 0
        · have q1 : (G1 == 0) = true := by simp [e1]
          have HR1 := Aside0.mk (check_right (Nat.lt_succ_self _) (HG1.out.symm.trans e1))
          clear e1
          have hs9 := cells7 (Pd.olds HP.out HB.out (b := g9) (o := .cells #[.int .i64 3, .int .i64 b.f1, .int .i64 hh, .int .i64 dd, .int .i64 0, .int .i64 0, .slice (some ad) 3 n20] 25 (0, 0)) (by with_reducible repeat (first | exact List.mem_cons_self | apply List.mem_cons_of_mem)))
          go_wp2_with fail
          clear hs9
          refine (check_calls _ (⟨3, b.f1, hh, dd, 0, 0, [⟨0, 0, b⟩, ⟨0, y, ⟨2, b.f1, (konstV F 44 c z).1, 0, 0, 0, []⟩⟩, ⟨0, 0, ⟨0, 0, q, 0, 0, 0, []⟩⟩]⟩ : S25) (Nat.lt_succ_self _) _ (some ad) n20 HL20.out (Kd.C_below HC20.out HP.out.bel)).mono ?_
          rintro _ w7 ⟨rfl, hb⟩
          replace HP := Aside0.mk (Pd.below HP.out hb)
          clear hb
          try dsimp only
          obtain ⟨G3, hG3⟩ : ∃ G, G = checkV (SizeOf.sizeOf (⟨3, b.f1, hh, dd, 0, 0, [⟨0, 0, b⟩, ⟨0, y, ⟨2, b.f1, (konstV F 44 c z).1, 0, 0, 0, []⟩⟩, ⟨0, 0, ⟨0, 0, q, 0, 0, 0, []⟩⟩]⟩ : S25)).succ (⟨3, b.f1, hh, dd, 0, 0, [⟨0, 0, b⟩, ⟨0, y, ⟨2, b.f1, (konstV F 44 c z).1, 0, 0, 0, []⟩⟩, ⟨0, 0, ⟨0, 0, q, 0, 0, 0, []⟩⟩]⟩ : S25) := ⟨_, rfl⟩
          rw [← hG3]
          have q3 : (G3 == 5) = false := by rw [hG3]; simpa using right_check (Nat.lt_succ_self _) (HRI.out HR1.out)
          clear hG3
          go_wp2_with fail; go_meet; exact ⟨Pd.none HP.out⟩
        · have q1 : (G1 == 0) = false := by simp [e1]
          go_wp2_with fail; go_meet; exact ⟨Pd.none HP.out⟩
      · have hd1 : (R0.2.2.2.2.2.2.2 == 0) = false := by simpa using he
        go_wp2_with fail; go_meet; exact ⟨HP.out⟩
    case rest =>
      have HP := hcut
      clear hcut
      go_upto_if 149 with fail
      go_cut [20, 21, 22, 23, 24, 25, 26] from 148 (fun s20 s21 s22 s23 s24 s25 s26 w' => Aside0 (Pd WS w' []))
      case first =>
        by_cases he : R1.2.2.2.2.2.2.2 = 0
        · obtain ⟨hh, dd, y, q, hV, k1, k2, k3, ⟨o1, o2⟩, hR⟩ := under_gaps F c z b (by rw [← H_R1.out]; exact he)
          have hR0 := H_R1.out.trans hV
          clear he hV
          subst hR0
          dsimp only at HB HC21 HL21 ⊢
          have HRI := Aside0.mk hR
          clear hR H_R1
          go_wp2_with (first | ((with_reducible refine gate_dst (N := 151) rfl ?_); refine wpList_load_row rfl 63 (.tmp 4) rfl gf (by rfl) 63 #[.int .i64 F.f0.f0, .int .i64 F.f0.f1, .int .i64 F.f0.f2, .int .i64 F.f0.f3, .int .i64 F.f0.f4, .bool F.f0.f5, .slice A6 F.f1.length c6, .slice A7 F.f2.length c7, .slice A8 F.f3.length c8, .slice A9 F.f4.f0.length c9, .slice A10 F.f4.f1.length c10, .slice A11 F.f4.f2.length c11, .slice A12 F.f4.f3.length c12, .slice A13 F.f4.f4.length c13, .int .i64 F.f4.f5.f0, .slice A15 F.f4.f5.f1.length c15, .slice A16 F.f4.f5.f2.length c16] (0, 0) _ (Pd.olds HP.out HB.out (b := gf) (o := .cells #[.int .i64 F.f0.f0, .int .i64 F.f0.f1, .int .i64 F.f0.f2, .int .i64 F.f0.f3, .int .i64 F.f0.f4, .bool F.f0.f5, .slice A6 F.f1.length c6, .slice A7 F.f2.length c7, .slice A8 F.f3.length c8, .slice A9 F.f4.f0.length c9, .slice A10 F.f4.f1.length c10, .slice A11 F.f4.f2.length c11, .slice A12 F.f4.f3.length c12, .slice A13 F.f4.f4.length c13, .int .i64 F.f4.f5.f0, .slice A15 F.f4.f5.f1.length c15, .slice A16 F.f4.f5.f2.length c16] 63 (0, 0)) (by with_reducible repeat (first | exact List.mem_cons_self | apply List.mem_cons_of_mem))) hu36 rfl info_font ?_))
          refine (konst_calls _ F _ 46 c z (HF.out.heap HP.out.bel)).mono ?_
          rintro _ w6 ⟨rfl, hb⟩
          replace HP := Aside0.mk (Pd.below HP.out hb)
          clear hb
          try dsimp only
          go_wp2_with (first | ((with_reducible refine gate_dst (N := 158) rfl ?_); refine wpList_load_row rfl 63 (.tmp 4) rfl gf (by rfl) 63 #[.int .i64 F.f0.f0, .int .i64 F.f0.f1, .int .i64 F.f0.f2, .int .i64 F.f0.f3, .int .i64 F.f0.f4, .bool F.f0.f5, .slice A6 F.f1.length c6, .slice A7 F.f2.length c7, .slice A8 F.f3.length c8, .slice A9 F.f4.f0.length c9, .slice A10 F.f4.f1.length c10, .slice A11 F.f4.f2.length c11, .slice A12 F.f4.f3.length c12, .slice A13 F.f4.f4.length c13, .int .i64 F.f4.f5.f0, .slice A15 F.f4.f5.f1.length c15, .slice A16 F.f4.f5.f2.length c16] (0, 0) _ (Pd.olds HP.out HB.out (b := gf) (o := .cells #[.int .i64 F.f0.f0, .int .i64 F.f0.f1, .int .i64 F.f0.f2, .int .i64 F.f0.f3, .int .i64 F.f0.f4, .bool F.f0.f5, .slice A6 F.f1.length c6, .slice A7 F.f2.length c7, .slice A8 F.f3.length c8, .slice A9 F.f4.f0.length c9, .slice A10 F.f4.f1.length c10, .slice A11 F.f4.f2.length c11, .slice A12 F.f4.f3.length c12, .slice A13 F.f4.f4.length c13, .int .i64 F.f4.f5.f0, .slice A15 F.f4.f5.f1.length c15, .slice A16 F.f4.f5.f2.length c16] 63 (0, 0)) (by with_reducible repeat (first | exact List.mem_cons_self | apply List.mem_cons_of_mem))) hu36 rfl info_font ?_))
          refine (konst_calls _ F _ 47 c z (HF.out.heap HP.out.bel)).mono ?_
          rintro _ w6 ⟨rfl, hb⟩
          replace HP := Aside0.mk (Pd.below HP.out hb)
          clear hb
          try dsimp only
          go_wp2_with (first | ((with_reducible refine gate_dst (N := 165) rfl ?_); refine wpList_load_row rfl 63 (.tmp 4) rfl gf (by rfl) 63 #[.int .i64 F.f0.f0, .int .i64 F.f0.f1, .int .i64 F.f0.f2, .int .i64 F.f0.f3, .int .i64 F.f0.f4, .bool F.f0.f5, .slice A6 F.f1.length c6, .slice A7 F.f2.length c7, .slice A8 F.f3.length c8, .slice A9 F.f4.f0.length c9, .slice A10 F.f4.f1.length c10, .slice A11 F.f4.f2.length c11, .slice A12 F.f4.f3.length c12, .slice A13 F.f4.f4.length c13, .int .i64 F.f4.f5.f0, .slice A15 F.f4.f5.f1.length c15, .slice A16 F.f4.f5.f2.length c16] (0, 0) _ (Pd.olds HP.out HB.out (b := gf) (o := .cells #[.int .i64 F.f0.f0, .int .i64 F.f0.f1, .int .i64 F.f0.f2, .int .i64 F.f0.f3, .int .i64 F.f0.f4, .bool F.f0.f5, .slice A6 F.f1.length c6, .slice A7 F.f2.length c7, .slice A8 F.f3.length c8, .slice A9 F.f4.f0.length c9, .slice A10 F.f4.f1.length c10, .slice A11 F.f4.f2.length c11, .slice A12 F.f4.f3.length c12, .slice A13 F.f4.f4.length c13, .int .i64 F.f4.f5.f0, .slice A15 F.f4.f5.f1.length c15, .slice A16 F.f4.f5.f2.length c16] 63 (0, 0)) (by with_reducible repeat (first | exact List.mem_cons_self | apply List.mem_cons_of_mem))) hu36 rfl info_font ?_))
          refine (konst_calls _ F _ 48 c z (HF.out.heap HP.out.bel)).mono ?_
          rintro _ w6 ⟨rfl, hb⟩
          replace HP := Aside0.mk (Pd.below HP.out hb)
          clear hb
          try dsimp only
          obtain ⟨ad, hA⟩ := kid_ad HC21.out (by simp)
          subst hA
          simp only [List.length_cons, List.length_nil, Nat.reduceAdd] at HB
          have hs9 := cells7 (Pd.olds HP.out HB.out (b := g11) (o := .cells #[.int .i64 3, .int .i64 b.f1, .int .i64 hh, .int .i64 dd, .int .i64 0, .int .i64 0, .slice (some ad) 3 n21] 25 (0, 0)) (by with_reducible repeat (first | exact List.mem_cons_self | apply List.mem_cons_of_mem)))
          have hsb := cells7 (Pd.olds HP.out HB.out (b := gb) (o := .cells #[.int .i64 b.f0, .int .i64 b.f1, .int .i64 b.f2, .int .i64 b.f3, .int .i64 b.f4, .int .i64 b.f5, .slice Ab b.f6.length nb] 25 (0, 0)) (by with_reducible repeat (first | exact List.mem_cons_self | apply List.mem_cons_of_mem)))
          obtain ⟨ad', A8, c8, hA8, _, _, HW1⟩ := kid_keep HC21.out 1 (by simp)
          cases hA8
          obtain ⟨u0, u1, u2, u3, u4, u5, u6, u7, u8⟩ := HW1 _ HP.out.bel
          simp [Addr.add] at u0 u1 u2 u3 u4 u5 u6 u7 u8
          clear HW1
          go_wp2_with (first | ((with_reducible refine gate_dst (N := 26) rfl ?_); refine box_event ?hg (N := 26) ?hd (cs := #[.int .i64 0, .int .i64 0, .int .i64 0, .int .i64 0, .int .i64 0, .int .i64 0, .int .i64 0, .int .i64 0, .slice none 0 0]) (t := 41) ?hr ?_; (case hd => rfl); (case hg => rfl); (case hr => first | (go_simp; done) | (go_simp; rfl)); intro gk hg wk9 hbox hb; replace HP := Aside0.mk (Pd.box HP.out hg hbox hb); clear hg hbox hb; have hcz := cells9 (Pd.hd HP.out); have hfz := froz9 (Pd.hd HP.out)) | (have hgo := hcz; clear hgo; (with_reducible refine gate_dst (N := 198) rfl ?_); refine Pd.fold (Pd.set9 HP.out) ?_; intro W' h0; replace HP := Aside0.mk h0; clear h0 hcz hfz; clear hs9 hsb u0 u1 u2 u3 u4 u5 u6 u7 u8; have hs9 := cells7 (Pd.olds HP.out HB.out (b := g11) (o := .cells #[.int .i64 3, .int .i64 b.f1, .int .i64 hh, .int .i64 dd, .int .i64 0, .int .i64 0, .slice (some ad) 3 n21] 25 (0, 0)) (by with_reducible repeat (first | exact List.mem_cons_self | apply List.mem_cons_of_mem))); have hsb := cells7 (Pd.olds HP.out HB.out (b := gb) (o := .cells #[.int .i64 b.f0, .int .i64 b.f1, .int .i64 b.f2, .int .i64 b.f3, .int .i64 b.f4, .int .i64 b.f5, .slice Ab b.f6.length nb] 25 (0, 0)) (by with_reducible repeat (first | exact List.mem_cons_self | apply List.mem_cons_of_mem))); have hk9 := cells9 (Pd.hd HP.out)))
          have j2 : decide (dd < wrap64 (wrap64 (-wrap64 (-y)) + (konstV F 48 c z).1)) = false := decide_eq_false (by have := o2; omega)
          have HKS := Aside0.mk (show _ ∧ _ ∧ _ from ⟨k1, k2, k3⟩)
          go_wp2_with fail
          clear hk9 hs9 hsb o1 j2
          refine (check_calls _ b (Nat.lt_succ_self _) _ Ab nb HLb.out (Kd.C_below HCb.out HP.out.bel)).mono ?_
          rintro _ w7 ⟨rfl, hb⟩
          replace HP := Aside0.mk (Pd.below HP.out hb)
          clear hb
          try dsimp only
          obtain ⟨G1, hG1⟩ : ∃ G, G = checkV (SizeOf.sizeOf b).succ b := ⟨_, rfl⟩
          rw [← hG1]
          have HG1 := Aside0.mk hG1
          clear hG1
          by_cases e1 : G1 = 0
          · have q1 : (G1 == 0) = true := by simp [e1]
            have HR1 := Aside0.mk (check_right (Nat.lt_succ_self _) (HG1.out.symm.trans e1))
            clear e1
            have hs9 := cells7 (Pd.olds HP.out HB.out (b := g11) (o := .cells #[.int .i64 3, .int .i64 b.f1, .int .i64 hh, .int .i64 dd, .int .i64 0, .int .i64 0, .slice (some ad) 3 n21] 25 (0, 0)) (by with_reducible repeat (first | exact List.mem_cons_self | apply List.mem_cons_of_mem)))
            go_wp2_with fail
            clear hs9
            refine (check_calls _ (⟨3, b.f1, hh, dd, 0, 0, [⟨0, 0, b⟩, ⟨0, wrap64 (-y), ⟨2, b.f1, (konstV F 47 c z).1, 0, 0, 0, []⟩⟩, ⟨0, 0, ⟨0, 0, 0, q, 0, 0, []⟩⟩]⟩ : S25) (Nat.lt_succ_self _) _ (some ad) n21 HL21.out (Kd.C_below HC21.out HP.out.bel)).mono ?_
            rintro _ w7 ⟨rfl, hb⟩
            replace HP := Aside0.mk (Pd.below HP.out hb)
            clear hb
            try dsimp only
            obtain ⟨G3, hG3⟩ : ∃ G, G = checkV (SizeOf.sizeOf (⟨3, b.f1, hh, dd, 0, 0, [⟨0, 0, b⟩, ⟨0, wrap64 (-y), ⟨2, b.f1, (konstV F 47 c z).1, 0, 0, 0, []⟩⟩, ⟨0, 0, ⟨0, 0, 0, q, 0, 0, []⟩⟩]⟩ : S25)).succ (⟨3, b.f1, hh, dd, 0, 0, [⟨0, 0, b⟩, ⟨0, wrap64 (-y), ⟨2, b.f1, (konstV F 47 c z).1, 0, 0, 0, []⟩⟩, ⟨0, 0, ⟨0, 0, 0, q, 0, 0, []⟩⟩]⟩ : S25) := ⟨_, rfl⟩
            rw [← hG3]
            have q3 : (G3 == 5) = false := by rw [hG3]; simpa using right_check (Nat.lt_succ_self _) (HRI.out HR1.out)
            clear hG3
            go_wp2_with fail; go_meet; exact ⟨Pd.none HP.out⟩
          · have q1 : (G1 == 0) = false := by simp [e1]
            go_wp2_with fail; go_meet; exact ⟨Pd.none HP.out⟩
        · have hd1 : (R1.2.2.2.2.2.2.2 == 0) = false := by simpa using he
          go_wp2_with fail; go_meet; exact ⟨HP.out⟩
      case rest =>
        have HP := hcut
        clear hcut
        go_wp2_with fail
        refine (hbar _).mono ?_
        rintro _ w7 ⟨rfl, hb⟩
        replace HP := Aside0.mk (Pd.below HP.out hb)
        clear hb
        go_wp2
        go_ret
        exact ⟨rfl, below_step HW.out HP.out.bel⟩
end Go.Proofs.Ytbhljokhcmfgjaa.P
