import Derived.Test.YtjkbblnebpgpfaaDoes2
import Derived.Test.YtjkbblnebpgpfaaBar10
/- The law BarDoes: the walk. Printed by a program of this work (mklaw27e.py). -/
set_option linter.unusedVariables false
set_option linter.unusedSimpArgs false
namespace Go.Proofs.Ytjkbblnebpgpfaa.P
open Go.RowKit Go.Proofs.YtjkbblnebpgpfaaW.PrintWords Go.Proofs.YtjkbblnebpgpfaaW.PrintLast Go.Proofs.YtjkbblnebpgpfaaW.PrintMore

theorem Pd.base {w W : World} {L : List (Nat × Obj)} (h : Pd w W L) : ∀ p ∈ L, W.heap[p.1]? = some p.2 := fun p hp => (h.loc p hp).1
theorem Pd.olds {w W : World} {L M : List (Nat × Obj)} (h : Pd w W L) (hM : ∀ p ∈ M, w.heap[p.1]? = some p.2) {b : Nat} {o : Obj} (hm : (b, o) ∈ M) : W.heap[b]? = some o := by
  have h1 := hM _ hm
  rw [h.bel.block b (blk_lt h1)]
  exact h1
theorem Pd.rebase {w W : World} {L M : List (Nat × Obj)} (h : Pd w W L) (hM : ∀ p ∈ M, w.heap[p.1]? = some p.2) : ∀ p ∈ L ++ M, W.heap[p.1]? = some p.2 := by
  intro p hp
  rcases List.mem_append.1 hp with hp | hp
  · exact (h.loc p hp).1
  · exact h.olds hM hp

set_option maxRecDepth 100000 in
set_option maxHeartbeats 3000000 in
theorem law_bar_does (w : World) (F : S36) (c z : Int) (b : S39) (hOb : Ok39 b) (cs : List Value) (Ab : Option Addr) (nb : Nat) (hF : FontIn w F cs) (hlb : b.f6.length ≤ nb) (hCb : Kd.C k49 w Ab b.f6.length b.f6)
    (hbar : ∀ w : World, Calls Try.prog 28 #[] w fun r w' => r = .returned (.bool true) ∧ Below w.heap.size w w') :
    Calls Try.prog 10 #[.agg cs.toArray, .int .i64 c, .int .i64 z, .agg #[.int .i64 b.f0, .int .i64 b.f1, .int .i64 b.f2, .int .i64 b.f3, .int .i64 b.f4, .int .i64 b.f5, .slice Ab b.f6.length nb]] w fun r w' => r = .returned (.bool true) ∧ Below w.heap.size w w' := by
  have hu39 := Try.underlying39
  have hu36 := Try.underlying36
  have hu49 := Try.underlying49
  have HF := Aside0.mk hF
  have HOb := Aside0.mk hOb
  have HLb := Aside0.mk hlb
  have HCb := Aside0.mk hCb
  obtain ⟨A6, c6, A7, c7, A8, c8, A9, c9, A10, c10, A11, c11, A12, c12, A13, c13, A15, c15, A16, c16, hcs, hcr⟩ := id hF
  subst hcs
  clear hcr hOb hlb hCb hF
  have HP := Aside0.mk (Pd.start w)
  go_enter Try.func10, Try.ntmps10
  go_wp2_with (first | ((with_reducible refine gate_dst (N := 4) rfl ?_); refine box_event ?hg (N := 4) ?hd (cs := #[.int .i64 F.f0.f0, .int .i64 F.f0.f1, .int .i64 F.f0.f2, .int .i64 F.f0.f3, .int .i64 F.f0.f4, .bool F.f0.f5, .slice A6 F.f1.length c6, .slice A7 F.f2.length c7, .slice A8 F.f3.length c8, .slice A9 F.f4.f0.length c9, .slice A10 F.f4.f1.length c10, .slice A11 F.f4.f2.length c11, .slice A12 F.f4.f3.length c12, .slice A13 F.f4.f4.length c13, .int .i64 F.f4.f5.f0, .slice A15 F.f4.f5.f1.length c15, .slice A16 F.f4.f5.f2.length c16]) (t := 36) ?hr ?_; (case hd => rfl); (case hg => rfl); (case hr => first | (go_simp; done) | (go_simp; rfl)); intro gf hg wk hbox hb; replace HP := Aside0.mk (Pd.box (by with_reducible repeat (first | exact HP.out | apply Pd.drew)) hg hbox hb); clear hg hbox hb) | ((with_reducible refine gate_dst (N := 7) rfl ?_); refine box_event ?hg (N := 7) ?hd (cs := #[.int .i64 b.f0, .int .i64 b.f1, .int .i64 b.f2, .int .i64 b.f3, .int .i64 b.f4, .int .i64 b.f5, .slice Ab b.f6.length nb]) (t := 39) ?hr ?_; (case hd => rfl); (case hg => rfl); (case hr => first | (go_simp; done) | (go_simp; rfl)); intro gb hg wk hbox hb; replace HP := Aside0.mk (Pd.box (by with_reducible repeat (first | exact HP.out | apply Pd.drew)) hg hbox hb); clear hg hbox hb; have hsb := cells7 (Pd.hd HP.out)) | ((with_reducible refine gate_dst (N := 21) rfl ?_); refine wpList_load_row rfl 36 (.tmp 4) rfl gf (by rfl) 36 #[.int .i64 F.f0.f0, .int .i64 F.f0.f1, .int .i64 F.f0.f2, .int .i64 F.f0.f3, .int .i64 F.f0.f4, .bool F.f0.f5, .slice A6 F.f1.length c6, .slice A7 F.f2.length c7, .slice A8 F.f3.length c8, .slice A9 F.f4.f0.length c9, .slice A10 F.f4.f1.length c10, .slice A11 F.f4.f2.length c11, .slice A12 F.f4.f3.length c12, .slice A13 F.f4.f4.length c13, .int .i64 F.f4.f5.f0, .slice A15 F.f4.f5.f1.length c15, .slice A16 F.f4.f5.f2.length c16] (0, 0) _ (Pd.hd (Pd.tl (by with_reducible repeat (first | exact HP.out | apply Pd.drew)))) hu36 rfl info_font ?_))
  clear hsb
  refine (few27_calls _ F b b b Ab Ab Ab nb nb nb _ (HF.out.heap HP.out.bel) HOb.out HLb.out (Kd.C_below HCb.out HP.out.bel) HOb.out HLb.out (Kd.C_below HCb.out HP.out.bel) HOb.out HLb.out (Kd.C_below HCb.out HP.out.bel)).mono ?_
  rintro _ w1 ⟨q, rfl, hb⟩
  replace HP := Aside0.mk (Pd.below HP.out hb)
  clear hb
  cases q with
  | false =>
    go_wp2
    go_ret
    exact ⟨rfl, HP.out.bel⟩
  | true =>
    have HW := Aside0.mk HP.out.bel
    have HB := Aside0.mk (Pd.base HP.out)
    replace HF := Aside0.mk (HF.out.heap HP.out.bel)
    replace HCb := Aside0.mk (Kd.C_below HCb.out HP.out.bel)
    replace HP := Aside0.mk (Pd.start w1)
    have hsb := cells7 (Pd.olds HP.out HB.out (b := gb) (o := .cells #[.int .i64 b.f0, .int .i64 b.f1, .int .i64 b.f2, .int .i64 b.f3, .int .i64 b.f4, .int .i64 b.f5, .slice Ab b.f6.length nb] 39 (0, 0)) (by with_reducible repeat (first | exact List.mem_cons_self | apply List.mem_cons_of_mem)))
    go_wp2_with (first | ((with_reducible refine gate_dst (N := 28) rfl ?_); refine wpList_load_row rfl 36 (.tmp 4) rfl gf (by rfl) 36 #[.int .i64 F.f0.f0, .int .i64 F.f0.f1, .int .i64 F.f0.f2, .int .i64 F.f0.f3, .int .i64 F.f0.f4, .bool F.f0.f5, .slice A6 F.f1.length c6, .slice A7 F.f2.length c7, .slice A8 F.f3.length c8, .slice A9 F.f4.f0.length c9, .slice A10 F.f4.f1.length c10, .slice A11 F.f4.f2.length c11, .slice A12 F.f4.f3.length c12, .slice A13 F.f4.f4.length c13, .int .i64 F.f4.f5.f0, .slice A15 F.f4.f5.f1.length c15, .slice A16 F.f4.f5.f2.length c16] (0, 0) _ (Pd.olds HP.out HB.out (b := gf) (o := .cells #[.int .i64 F.f0.f0, .int .i64 F.f0.f1, .int .i64 F.f0.f2, .int .i64 F.f0.f3, .int .i64 F.f0.f4, .bool F.f0.f5, .slice A6 F.f1.length c6, .slice A7 F.f2.length c7, .slice A8 F.f3.length c8, .slice A9 F.f4.f0.length c9, .slice A10 F.f4.f1.length c10, .slice A11 F.f4.f2.length c11, .slice A12 F.f4.f3.length c12, .slice A13 F.f4.f4.length c13, .int .i64 F.f4.f5.f0, .slice A15 F.f4.f5.f1.length c15, .slice A16 F.f4.f5.f2.length c16] 36 (0, 0)) (by with_reducible repeat (first | exact List.mem_cons_self | apply List.mem_cons_of_mem))) hu36 rfl info_font ?_))
    clear hsb
    refine (over_calls F c z b Ab nb _ _ (HF.out.heap HP.out.bel) HLb.out (Kd.C_below HCb.out HP.out.bel)).mono ?_
    rintro _ w20 ⟨A20, n20, rfl, hl, hC, hb⟩
    obtain ⟨R0, h_R0⟩ : ∃ R0, R0 = overV F c z b := ⟨_, rfl⟩
    rw [← h_R0] at hl hC ⊢
    have H_R0 := Aside0.mk h_R0
    clear h_R0
    replace HP := Aside0.mk (Pd.below HP.out hb)
    clear hb
    replace HW := Aside0.mk (below_step HW.out HP.out.bel)
    replace HB := Aside0.mk (Pd.rebase HP.out HB.out)
    replace HF := Aside0.mk (HF.out.heap HP.out.bel)
    replace HCb := Aside0.mk (Kd.C_below HCb.out HP.out.bel)
    have HL20 := Aside0.mk hl
    have HC20 := Aside0.mk hC
    clear hl hC
    replace HP := Aside0.mk (Pd.start w20)
    simp only [List.cons_append, List.nil_append] at HB
    have hsb := cells7 (Pd.olds HP.out HB.out (b := gb) (o := .cells #[.int .i64 b.f0, .int .i64 b.f1, .int .i64 b.f2, .int .i64 b.f3, .int .i64 b.f4, .int .i64 b.f5, .slice Ab b.f6.length nb] 39 (0, 0)) (by with_reducible repeat (first | exact List.mem_cons_self | apply List.mem_cons_of_mem)))
    clear hsb
    go_wp2_with (first | ((with_reducible refine gate_dst (N := 9) rfl ?_); refine box_event ?hg (N := 9) ?hd (cs := #[.int .i64 0, .int .i64 0, .int .i64 0, .int .i64 0, .int .i64 0, .int .i64 0, .slice none 0 0]) (t := 39) ?hr ?_; (case hd => rfl); (case hg => rfl); (case hr => first | (go_simp; done) | (go_simp; rfl)); intro g9 hg wk9 hbox hb; replace HP := Aside0.mk (Pd.box HP.out hg hbox hb); clear hg hbox hb; have hcz := cells7 (Pd.hd HP.out); have hfz := froz7 (Pd.hd HP.out)) | (have hgo := hcz; clear hgo; (with_reducible refine gate_dst (N := 36) rfl ?_); refine Pd.fold (Pd.st7 HP.out) ?_; intro W' h0; replace HP := Aside0.mk h0; clear h0 hcz hfz; have hsb := cells7 (Pd.olds HP.out HB.out (b := gb) (o := .cells #[.int .i64 b.f0, .int .i64 b.f1, .int .i64 b.f2, .int .i64 b.f3, .int .i64 b.f4, .int .i64 b.f5, .slice Ab b.f6.length nb] 39 (0, 0)) (by with_reducible repeat (first | exact List.mem_cons_self | apply List.mem_cons_of_mem))); refine wpList_load_row rfl 36 (.tmp 4) rfl gf (by rfl) 36 #[.int .i64 F.f0.f0, .int .i64 F.f0.f1, .int .i64 F.f0.f2, .int .i64 F.f0.f3, .int .i64 F.f0.f4, .bool F.f0.f5, .slice A6 F.f1.length c6, .slice A7 F.f2.length c7, .slice A8 F.f3.length c8, .slice A9 F.f4.f0.length c9, .slice A10 F.f4.f1.length c10, .slice A11 F.f4.f2.length c11, .slice A12 F.f4.f3.length c12, .slice A13 F.f4.f4.length c13, .int .i64 F.f4.f5.f0, .slice A15 F.f4.f5.f1.length c15, .slice A16 F.f4.f5.f2.length c16] (0, 0) _ (Pd.olds HP.out HB.out (b := gf) (o := .cells #[.int .i64 F.f0.f0, .int .i64 F.f0.f1, .int .i64 F.f0.f2, .int .i64 F.f0.f3, .int .i64 F.f0.f4, .bool F.f0.f5, .slice A6 F.f1.length c6, .slice A7 F.f2.length c7, .slice A8 F.f3.length c8, .slice A9 F.f4.f0.length c9, .slice A10 F.f4.f1.length c10, .slice A11 F.f4.f2.length c11, .slice A12 F.f4.f3.length c12, .slice A13 F.f4.f4.length c13, .int .i64 F.f4.f5.f0, .slice A15 F.f4.f5.f1.length c15, .slice A16 F.f4.f5.f2.length c16] 36 (0, 0)) (by with_reducible repeat (first | exact List.mem_cons_self | apply List.mem_cons_of_mem))) hu36 rfl info_font ?_))
    clear hsb
    refine (rover_calls F c z b Ab nb _ _ (HF.out.heap HP.out.bel) HLb.out (Kd.C_below HCb.out HP.out.bel)).mono ?_
    rintro _ w21 ⟨A21, n21, rfl, hl, hC, hb⟩
    rw [← over_same, ← H_R0.out] at hl hC ⊢
    replace HP := Aside0.mk (Pd.below HP.out hb)
    clear hb
    replace HW := Aside0.mk (below_step HW.out HP.out.bel)
    replace HB := Aside0.mk (Pd.rebase HP.out HB.out)
    replace HF := Aside0.mk (HF.out.heap HP.out.bel)
    replace HCb := Aside0.mk (Kd.C_below HCb.out HP.out.bel)
    replace HC20 := Aside0.mk (Kd.C_below HC20.out HP.out.bel)
    have HL21 := Aside0.mk hl
    have HC21 := Aside0.mk hC
    clear hl hC
    replace HP := Aside0.mk (Pd.start w21)
    simp only [List.cons_append, List.nil_append] at HB
    have hsb := cells7 (Pd.olds HP.out HB.out (b := gb) (o := .cells #[.int .i64 b.f0, .int .i64 b.f1, .int .i64 b.f2, .int .i64 b.f3, .int .i64 b.f4, .int .i64 b.f5, .slice Ab b.f6.length nb] 39 (0, 0)) (by with_reducible repeat (first | exact List.mem_cons_self | apply List.mem_cons_of_mem)))
    clear hsb
    go_wp2_with (first | ((with_reducible refine gate_dst (N := 11) rfl ?_); refine box_event ?hg (N := 11) ?hd (cs := #[.int .i64 0, .int .i64 0, .int .i64 0, .int .i64 0, .int .i64 0, .int .i64 0, .slice none 0 0]) (t := 39) ?hr ?_; (case hd => rfl); (case hg => rfl); (case hr => first | (go_simp; done) | (go_simp; rfl)); intro g11 hg wk9 hbox hb; replace HP := Aside0.mk (Pd.box HP.out hg hbox hb); clear hg hbox hb; have hcz := cells7 (Pd.hd HP.out); have hfz := froz7 (Pd.hd HP.out)) | (have hgo := hcz; clear hgo; (with_reducible refine gate_dst (N := 44) rfl ?_); refine Pd.fold (Pd.st7 HP.out) ?_; intro W' h0; replace HP := Aside0.mk h0; clear h0 hcz hfz; have hsb := cells7 (Pd.olds HP.out HB.out (b := gb) (o := .cells #[.int .i64 b.f0, .int .i64 b.f1, .int .i64 b.f2, .int .i64 b.f3, .int .i64 b.f4, .int .i64 b.f5, .slice Ab b.f6.length nb] 39 (0, 0)) (by with_reducible repeat (first | exact List.mem_cons_self | apply List.mem_cons_of_mem))); refine wpList_load_row rfl 36 (.tmp 4) rfl gf (by rfl) 36 #[.int .i64 F.f0.f0, .int .i64 F.f0.f1, .int .i64 F.f0.f2, .int .i64 F.f0.f3, .int .i64 F.f0.f4, .bool F.f0.f5, .slice A6 F.f1.length c6, .slice A7 F.f2.length c7, .slice A8 F.f3.length c8, .slice A9 F.f4.f0.length c9, .slice A10 F.f4.f1.length c10, .slice A11 F.f4.f2.length c11, .slice A12 F.f4.f3.length c12, .slice A13 F.f4.f4.length c13, .int .i64 F.f4.f5.f0, .slice A15 F.f4.f5.f1.length c15, .slice A16 F.f4.f5.f2.length c16] (0, 0) _ (Pd.olds HP.out HB.out (b := gf) (o := .cells #[.int .i64 F.f0.f0, .int .i64 F.f0.f1, .int .i64 F.f0.f2, .int .i64 F.f0.f3, .int .i64 F.f0.f4, .bool F.f0.f5, .slice A6 F.f1.length c6, .slice A7 F.f2.length c7, .slice A8 F.f3.length c8, .slice A9 F.f4.f0.length c9, .slice A10 F.f4.f1.length c10, .slice A11 F.f4.f2.length c11, .slice A12 F.f4.f3.length c12, .slice A13 F.f4.f4.length c13, .int .i64 F.f4.f5.f0, .slice A15 F.f4.f5.f1.length c15, .slice A16 F.f4.f5.f2.length c16] 36 (0, 0)) (by with_reducible repeat (first | exact List.mem_cons_self | apply List.mem_cons_of_mem))) hu36 rfl info_font ?_))
    clear hsb
    refine (under_calls F c z b Ab nb _ _ (HF.out.heap HP.out.bel) HLb.out (Kd.C_below HCb.out HP.out.bel)).mono ?_
    rintro _ w22 ⟨A22, n22, rfl, hl, hC, hb⟩
    obtain ⟨R2, h_R2⟩ : ∃ R2, R2 = underV F c z b := ⟨_, rfl⟩
    rw [← h_R2] at hl hC ⊢
    have H_R2 := Aside0.mk h_R2
    clear h_R2
    replace HP := Aside0.mk (Pd.below HP.out hb)
    clear hb
    replace HW := Aside0.mk (below_step HW.out HP.out.bel)
    replace HB := Aside0.mk (Pd.rebase HP.out HB.out)
    replace HF := Aside0.mk (HF.out.heap HP.out.bel)
    replace HCb := Aside0.mk (Kd.C_below HCb.out HP.out.bel)
    replace HC20 := Aside0.mk (Kd.C_below HC20.out HP.out.bel)
    replace HC21 := Aside0.mk (Kd.C_below HC21.out HP.out.bel)
    have HL22 := Aside0.mk hl
    have HC22 := Aside0.mk hC
    clear hl hC
    replace HP := Aside0.mk (Pd.start w22)
    simp only [List.cons_append, List.nil_append] at HB
    have hsb := cells7 (Pd.olds HP.out HB.out (b := gb) (o := .cells #[.int .i64 b.f0, .int .i64 b.f1, .int .i64 b.f2, .int .i64 b.f3, .int .i64 b.f4, .int .i64 b.f5, .slice Ab b.f6.length nb] 39 (0, 0)) (by with_reducible repeat (first | exact List.mem_cons_self | apply List.mem_cons_of_mem)))
    clear hsb
    go_wp2_with (first | ((with_reducible refine gate_dst (N := 13) rfl ?_); refine box_event ?hg (N := 13) ?hd (cs := #[.int .i64 0, .int .i64 0, .int .i64 0, .int .i64 0, .int .i64 0, .int .i64 0, .slice none 0 0]) (t := 39) ?hr ?_; (case hd => rfl); (case hg => rfl); (case hr => first | (go_simp; done) | (go_simp; rfl)); intro g13 hg wk9 hbox hb; replace HP := Aside0.mk (Pd.box HP.out hg hbox hb); clear hg hbox hb; have hcz := cells7 (Pd.hd HP.out); have hfz := froz7 (Pd.hd HP.out)) | (have hgo := hcz; clear hgo; (with_reducible refine gate_dst (N := 52) rfl ?_); refine Pd.fold (Pd.st7 HP.out) ?_; intro W' h0; replace HP := Aside0.mk h0; clear h0 hcz hfz; have hsb := cells7 (Pd.olds HP.out HB.out (b := gb) (o := .cells #[.int .i64 b.f0, .int .i64 b.f1, .int .i64 b.f2, .int .i64 b.f3, .int .i64 b.f4, .int .i64 b.f5, .slice Ab b.f6.length nb] 39 (0, 0)) (by with_reducible repeat (first | exact List.mem_cons_self | apply List.mem_cons_of_mem))); refine wpList_load_row rfl 36 (.tmp 4) rfl gf (by rfl) 36 #[.int .i64 F.f0.f0, .int .i64 F.f0.f1, .int .i64 F.f0.f2, .int .i64 F.f0.f3, .int .i64 F.f0.f4, .bool F.f0.f5, .slice A6 F.f1.length c6, .slice A7 F.f2.length c7, .slice A8 F.f3.length c8, .slice A9 F.f4.f0.length c9, .slice A10 F.f4.f1.length c10, .slice A11 F.f4.f2.length c11, .slice A12 F.f4.f3.length c12, .slice A13 F.f4.f4.length c13, .int .i64 F.f4.f5.f0, .slice A15 F.f4.f5.f1.length c15, .slice A16 F.f4.f5.f2.length c16] (0, 0) _ (Pd.olds HP.out HB.out (b := gf) (o := .cells #[.int .i64 F.f0.f0, .int .i64 F.f0.f1, .int .i64 F.f0.f2, .int .i64 F.f0.f3, .int .i64 F.f0.f4, .bool F.f0.f5, .slice A6 F.f1.length c6, .slice A7 F.f2.length c7, .slice A8 F.f3.length c8, .slice A9 F.f4.f0.length c9, .slice A10 F.f4.f1.length c10, .slice A11 F.f4.f2.length c11, .slice A12 F.f4.f3.length c12, .slice A13 F.f4.f4.length c13, .int .i64 F.f4.f5.f0, .slice A15 F.f4.f5.f1.length c15, .slice A16 F.f4.f5.f2.length c16] 36 (0, 0)) (by with_reducible repeat (first | exact List.mem_cons_self | apply List.mem_cons_of_mem))) hu36 rfl info_font ?_))
    clear hsb
    refine (runder_calls F c z b Ab nb _ _ (HF.out.heap HP.out.bel) HLb.out (Kd.C_below HCb.out HP.out.bel)).mono ?_
    rintro _ w23 ⟨A23, n23, rfl, hl, hC, hb⟩
    rw [← under_same, ← H_R2.out] at hl hC ⊢
    replace HP := Aside0.mk (Pd.below HP.out hb)
    clear hb
    replace HW := Aside0.mk (below_step HW.out HP.out.bel)
    replace HB := Aside0.mk (Pd.rebase HP.out HB.out)
    replace HF := Aside0.mk (HF.out.heap HP.out.bel)
    replace HCb := Aside0.mk (Kd.C_below HCb.out HP.out.bel)
    replace HC20 := Aside0.mk (Kd.C_below HC20.out HP.out.bel)
    replace HC21 := Aside0.mk (Kd.C_below HC21.out HP.out.bel)
    replace HC22 := Aside0.mk (Kd.C_below HC22.out HP.out.bel)
    have HL23 := Aside0.mk hl
    have HC23 := Aside0.mk hC
    clear hl hC
    replace HP := Aside0.mk (Pd.start w23)
    simp only [List.cons_append, List.nil_append] at HB
    have hsb := cells7 (Pd.olds HP.out HB.out (b := gb) (o := .cells #[.int .i64 b.f0, .int .i64 b.f1, .int .i64 b.f2, .int .i64 b.f3, .int .i64 b.f4, .int .i64 b.f5, .slice Ab b.f6.length nb] 39 (0, 0)) (by with_reducible repeat (first | exact List.mem_cons_self | apply List.mem_cons_of_mem)))
    clear hsb
    go_wp2_with (first | ((with_reducible refine gate_dst (N := 15) rfl ?_); refine box_event ?hg (N := 15) ?hd (cs := #[.int .i64 0, .int .i64 0, .int .i64 0, .int .i64 0, .int .i64 0, .int .i64 0, .slice none 0 0]) (t := 39) ?hr ?_; (case hd => rfl); (case hg => rfl); (case hr => first | (go_simp; done) | (go_simp; rfl)); intro g15 hg wk9 hbox hb; replace HP := Aside0.mk (Pd.box HP.out hg hbox hb); clear hg hbox hb; have hcz := cells7 (Pd.hd HP.out); have hfz := froz7 (Pd.hd HP.out)) | (have hgo := hcz; clear hgo; (with_reducible refine gate_dst (N := 60) rfl ?_); refine Pd.fold (Pd.st7 HP.out) ?_; intro W' h0; replace HP := Aside0.mk h0; clear h0 hcz hfz; have hsb := cells7 (Pd.olds HP.out HB.out (b := gb) (o := .cells #[.int .i64 b.f0, .int .i64 b.f1, .int .i64 b.f2, .int .i64 b.f3, .int .i64 b.f4, .int .i64 b.f5, .slice Ab b.f6.length nb] 39 (0, 0)) (by with_reducible repeat (first | exact List.mem_cons_self | apply List.mem_cons_of_mem))); refine wpList_load_row rfl 36 (.tmp 4) rfl gf (by rfl) 36 #[.int .i64 F.f0.f0, .int .i64 F.f0.f1, .int .i64 F.f0.f2, .int .i64 F.f0.f3, .int .i64 F.f0.f4, .bool F.f0.f5, .slice A6 F.f1.length c6, .slice A7 F.f2.length c7, .slice A8 F.f3.length c8, .slice A9 F.f4.f0.length c9, .slice A10 F.f4.f1.length c10, .slice A11 F.f4.f2.length c11, .slice A12 F.f4.f3.length c12, .slice A13 F.f4.f4.length c13, .int .i64 F.f4.f5.f0, .slice A15 F.f4.f5.f1.length c15, .slice A16 F.f4.f5.f2.length c16] (0, 0) _ (Pd.olds HP.out HB.out (b := gf) (o := .cells #[.int .i64 F.f0.f0, .int .i64 F.f0.f1, .int .i64 F.f0.f2, .int .i64 F.f0.f3, .int .i64 F.f0.f4, .bool F.f0.f5, .slice A6 F.f1.length c6, .slice A7 F.f2.length c7, .slice A8 F.f3.length c8, .slice A9 F.f4.f0.length c9, .slice A10 F.f4.f1.length c10, .slice A11 F.f4.f2.length c11, .slice A12 F.f4.f3.length c12, .slice A13 F.f4.f4.length c13, .int .i64 F.f4.f5.f0, .slice A15 F.f4.f5.f1.length c15, .slice A16 F.f4.f5.f2.length c16] 36 (0, 0)) (by with_reducible repeat (first | exact List.mem_cons_self | apply List.mem_cons_of_mem))) hu36 rfl info_font ?_))
    clear hsb
    refine (barNeed_calls F c z b Ab nb _ _ (HF.out.heap HP.out.bel) HLb.out (Kd.C_below HCb.out HP.out.bel)).mono ?_
    rintro _ w24 ⟨rfl, hb⟩
    obtain ⟨R4, h_R4⟩ : ∃ R4, R4 = needV F c z b := ⟨_, rfl⟩
    rw [← h_R4]
    have H_R4 := Aside0.mk h_R4
    clear h_R4
    replace HP := Aside0.mk (Pd.below HP.out hb)
    clear hb
    replace HW := Aside0.mk (below_step HW.out HP.out.bel)
    replace HB := Aside0.mk (Pd.rebase HP.out HB.out)
    replace HF := Aside0.mk (HF.out.heap HP.out.bel)
    replace HCb := Aside0.mk (Kd.C_below HCb.out HP.out.bel)
    replace HC20 := Aside0.mk (Kd.C_below HC20.out HP.out.bel)
    replace HC21 := Aside0.mk (Kd.C_below HC21.out HP.out.bel)
    replace HC22 := Aside0.mk (Kd.C_below HC22.out HP.out.bel)
    replace HC23 := Aside0.mk (Kd.C_below HC23.out HP.out.bel)
    replace HP := Aside0.mk (Pd.start w24)
    simp only [List.cons_append, List.nil_append] at HB
    have hsb := cells7 (Pd.olds HP.out HB.out (b := gb) (o := .cells #[.int .i64 b.f0, .int .i64 b.f1, .int .i64 b.f2, .int .i64 b.f3, .int .i64 b.f4, .int .i64 b.f5, .slice Ab b.f6.length nb] 39 (0, 0)) (by with_reducible repeat (first | exact List.mem_cons_self | apply List.mem_cons_of_mem)))
    go_wp2_with (first | ((with_reducible refine gate_dst (N := 68) rfl ?_); refine wpList_load_row rfl 36 (.tmp 4) rfl gf (by rfl) 36 #[.int .i64 F.f0.f0, .int .i64 F.f0.f1, .int .i64 F.f0.f2, .int .i64 F.f0.f3, .int .i64 F.f0.f4, .bool F.f0.f5, .slice A6 F.f1.length c6, .slice A7 F.f2.length c7, .slice A8 F.f3.length c8, .slice A9 F.f4.f0.length c9, .slice A10 F.f4.f1.length c10, .slice A11 F.f4.f2.length c11, .slice A12 F.f4.f3.length c12, .slice A13 F.f4.f4.length c13, .int .i64 F.f4.f5.f0, .slice A15 F.f4.f5.f1.length c15, .slice A16 F.f4.f5.f2.length c16] (0, 0) _ (Pd.olds HP.out HB.out (b := gf) (o := .cells #[.int .i64 F.f0.f0, .int .i64 F.f0.f1, .int .i64 F.f0.f2, .int .i64 F.f0.f3, .int .i64 F.f0.f4, .bool F.f0.f5, .slice A6 F.f1.length c6, .slice A7 F.f2.length c7, .slice A8 F.f3.length c8, .slice A9 F.f4.f0.length c9, .slice A10 F.f4.f1.length c10, .slice A11 F.f4.f2.length c11, .slice A12 F.f4.f3.length c12, .slice A13 F.f4.f4.length c13, .int .i64 F.f4.f5.f0, .slice A15 F.f4.f5.f1.length c15, .slice A16 F.f4.f5.f2.length c16] 36 (0, 0)) (by with_reducible repeat (first | exact List.mem_cons_self | apply List.mem_cons_of_mem))) hu36 rfl info_font ?_))
    clear hsb
    refine (rneed_calls F c z b Ab nb _ _ (HF.out.heap HP.out.bel) HLb.out (Kd.C_below HCb.out HP.out.bel)).mono ?_
    rintro _ w25 ⟨rfl, hb⟩
    rw [← need_same, ← H_R4.out]
    replace HP := Aside0.mk (Pd.below HP.out hb)
    clear hb
    replace HW := Aside0.mk (below_step HW.out HP.out.bel)
    replace HB := Aside0.mk (Pd.rebase HP.out HB.out)
    replace HF := Aside0.mk (HF.out.heap HP.out.bel)
    replace HCb := Aside0.mk (Kd.C_below HCb.out HP.out.bel)
    replace HC20 := Aside0.mk (Kd.C_below HC20.out HP.out.bel)
    replace HC21 := Aside0.mk (Kd.C_below HC21.out HP.out.bel)
    replace HC22 := Aside0.mk (Kd.C_below HC22.out HP.out.bel)
    replace HC23 := Aside0.mk (Kd.C_below HC23.out HP.out.bel)
    replace HP := Aside0.mk (Pd.start w25)
    simp only [List.cons_append, List.nil_append] at HB
    go_wp2_with fail
    refine (hbar _).mono ?_
    rintro _ w7 ⟨rfl, hb⟩
    replace HP := Aside0.mk (Pd.below HP.out hb)
    clear hb
    have hs9 := cells7 (Pd.olds HP.out HB.out (b := g9) (o := .cells #[.int .i64 R0.1, .int .i64 R0.2.1, .int .i64 R0.2.2.1, .int .i64 R0.2.2.2.1, .int .i64 R0.2.2.2.2.1, .int .i64 R0.2.2.2.2.2.1, .slice A20 R0.2.2.2.2.2.2.1.length n20] 39 (0, 0)) (by with_reducible repeat (first | exact List.mem_cons_self | apply List.mem_cons_of_mem)))
    have hs11 := cells7 (Pd.olds HP.out HB.out (b := g11) (o := .cells #[.int .i64 R0.1, .int .i64 R0.2.1, .int .i64 R0.2.2.1, .int .i64 R0.2.2.2.1, .int .i64 R0.2.2.2.2.1, .int .i64 R0.2.2.2.2.2.1, .slice A21 R0.2.2.2.2.2.2.1.length n21] 39 (0, 0)) (by with_reducible repeat (first | exact List.mem_cons_self | apply List.mem_cons_of_mem)))
    go_wp2_with fail
    clear hs9 hs11
    refine (same_calls _ (⟨R0.1, R0.2.1, R0.2.2.1, R0.2.2.2.1, R0.2.2.2.2.1, R0.2.2.2.2.2.1, R0.2.2.2.2.2.2.1⟩ : S39) (Nat.lt_succ_self _) _ A20 n20 A21 n21 HL20.out (Kd.C_below HC20.out HP.out.bel) HL21.out (Kd.C_below HC21.out HP.out.bel)).mono ?_
    rintro _ w7 ⟨rfl, hb⟩
    replace HP := Aside0.mk (Pd.below HP.out hb)
    clear hb
    have hs13 := cells7 (Pd.olds HP.out HB.out (b := g13) (o := .cells #[.int .i64 R2.1, .int .i64 R2.2.1, .int .i64 R2.2.2.1, .int .i64 R2.2.2.2.1, .int .i64 R2.2.2.2.2.1, .int .i64 R2.2.2.2.2.2.1, .slice A22 R2.2.2.2.2.2.2.1.length n22] 39 (0, 0)) (by with_reducible repeat (first | exact List.mem_cons_self | apply List.mem_cons_of_mem)))
    have hs15 := cells7 (Pd.olds HP.out HB.out (b := g15) (o := .cells #[.int .i64 R2.1, .int .i64 R2.2.1, .int .i64 R2.2.2.1, .int .i64 R2.2.2.2.1, .int .i64 R2.2.2.2.2.1, .int .i64 R2.2.2.2.2.2.1, .slice A23 R2.2.2.2.2.2.2.1.length n23] 39 (0, 0)) (by with_reducible repeat (first | exact List.mem_cons_self | apply List.mem_cons_of_mem)))
    go_wp2_with fail
    clear hs13 hs15
    refine (same_calls _ (⟨R2.1, R2.2.1, R2.2.2.1, R2.2.2.2.1, R2.2.2.2.2.1, R2.2.2.2.2.2.1, R2.2.2.2.2.2.2.1⟩ : S39) (Nat.lt_succ_self _) _ A22 n22 A23 n23 HL22.out (Kd.C_below HC22.out HP.out.bel) HL23.out (Kd.C_below HC23.out HP.out.bel)).mono ?_
    rintro _ w7 ⟨rfl, hb⟩
    replace HP := Aside0.mk (Pd.below HP.out hb)
    clear hb
    go_wp2
    go_ret
    exact ⟨by simp, below_step HW.out HP.out.bel⟩
end Go.Proofs.Ytjkbblnebpgpfaa.P
