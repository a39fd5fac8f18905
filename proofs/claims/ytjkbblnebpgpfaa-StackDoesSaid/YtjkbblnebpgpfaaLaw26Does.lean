import Derived.Test.YtjkbblnebpgpfaaDoes1
import Derived.Test.YtjkbblnebpgpfaaE13
import Derived.Test.YtjkbblnebpgpfaaE15
import Derived.Test.YtjkbblnebpgpfaaE16
import Derived.Test.YtjkbblnebpgpfaaE12
/- The law StackDoes: the walk. Printed by a program of this work (mklaw26e.py). -/
set_option linter.unusedVariables false
set_option linter.unusedSimpArgs false
namespace Go.Proofs.Ytjkbblnebpgpfaa.P
open Go.RowKit Go.Proofs.YtjkbblnebpgpfaaW.PrintWords Go.Proofs.YtjkbblnebpgpfaaW.PrintLast Go.Proofs.YtjkbblnebpgpfaaW.PrintMore

theorem Pd.base {w W : World} {L : List (Nat × Obj)} (h : Pd w W L) : ∀ p ∈ L, W.heap[p.1]? = some p.2 := fun p hp => (h.loc p hp).1
theorem Pd.olds {w W : World} {L M : List (Nat × Obj)} (h : Pd w W L) (hM : ∀ p ∈ M, w.heap[p.1]? = some p.2) {b : Nat} {o : Obj} (hm : (b, o) ∈ M) : W.heap[b]? = some o := by
  have h1 := hM _ hm
  rw [h.bel.block b (blk_lt h1)]
  exact h1
theorem Pd.rebase {w W : World} {L M : List (Nat × Obj)} (h : Pd w W L) (hM : ∀ p ∈ M, w.heap[p.1]? = some p.2) : ∀ p ∈ L ++ M, W.heap[p.1]? = some p.2 := by
  intro p hp
  rcases List.mem_append.1 hp with hp | hp
  · exact (h.loc p hp).1
  · exact h.olds hM hp

set_option maxRecDepth 100000 in
set_option maxHeartbeats 3000000 in
theorem law_does (w : World) (F : S36) (c z : Int) (num den : S39) (hOn : Ok39 num) (hOd : Ok39 den) (cs : List Value) (Anum : Option Addr) (nnum : Nat) (Aden : Option Addr) (nden : Nat) (hF : FontIn w F cs) (hln : num.f6.length ≤ nnum) (hCn : Kd.C k49 w Anum num.f6.length num.f6) (hld : den.f6.length ≤ nden) (hCd : Kd.C k49 w Aden den.f6.length den.f6)
    (hpile : ∀ w : World, Calls Try.prog 20 #[] w fun r w' => r = .returned (.bool true) ∧ Below w.heap.size w w') :
    Calls Try.prog 3 #[.agg cs.toArray, .int .i64 c, .int .i64 z, .agg #[.int .i64 num.f0, .int .i64 num.f1, .int .i64 num.f2, .int .i64 num.f3, .int .i64 num.f4, .int .i64 num.f5, .slice Anum num.f6.length nnum], .agg #[.int .i64 den.f0, .int .i64 den.f1, .int .i64 den.f2, .int .i64 den.f3, .int .i64 den.f4, .int .i64 den.f5, .slice Aden den.f6.length nden]] w fun r w' => r = .returned (.bool true) ∧ Below w.heap.size w w' := by
  have hu39 := Try.underlying39
  have hu36 := Try.underlying36
  have hu49 := Try.underlying49
  have HF := Aside0.mk hF
  have HOn := Aside0.mk hOn
  have HOd := Aside0.mk hOd
  have HLn := Aside0.mk hln
  have HCn := Aside0.mk hCn
  have HLd := Aside0.mk hld
  have HCd := Aside0.mk hCd
  obtain ⟨A6, c6, A7, c7, A8, c8, A9, c9, A10, c10, A11, c11, A12, c12, A13, c13, A15, c15, A16, c16, hcs, hcr⟩ := id hF
  subst hcs
  clear hcr hOn hOd hln hCn hld hCd hF
  have HP := Aside0.mk (Pd.start w)
  go_enter Try.func3, Try.ntmps3
  go_wp2_with (first | ((with_reducible refine gate_dst (N := 5) rfl ?_); refine box_event ?hg (N := 5) ?hd (cs := #[.int .i64 F.f0.f0, .int .i64 F.f0.f1, .int .i64 F.f0.f2, .int .i64 F.f0.f3, .int .i64 F.f0.f4, .bool F.f0.f5, .slice A6 F.f1.length c6, .slice A7 F.f2.length c7, .slice A8 F.f3.length c8, .slice A9 F.f4.f0.length c9, .slice A10 F.f4.f1.length c10, .slice A11 F.f4.f2.length c11, .slice A12 F.f4.f3.length c12, .slice A13 F.f4.f4.length c13, .int .i64 F.f4.f5.f0, .slice A15 F.f4.f5.f1.length c15, .slice A16 F.f4.f5.f2.length c16]) (t := 36) ?hr ?_; (case hd => rfl); (case hg => rfl); (case hr => first | (go_simp; done) | (go_simp; rfl)); intro gf hg wk hbox hb; replace HP := Aside0.mk (Pd.box (by with_reducible repeat (first | exact HP.out | apply Pd.drew)) hg hbox hb); clear hg hbox hb) | ((with_reducible refine gate_dst (N := 8) rfl ?_); refine box_event ?hg (N := 8) ?hd (cs := #[.int .i64 num.f0, .int .i64 num.f1, .int .i64 num.f2, .int .i64 num.f3, .int .i64 num.f4, .int .i64 num.f5, .slice Anum num.f6.length nnum]) (t := 39) ?hr ?_; (case hd => rfl); (case hg => rfl); (case hr => first | (go_simp; done) | (go_simp; rfl)); intro gn hg wk hbox hb; replace HP := Aside0.mk (Pd.box (by with_reducible repeat (first | exact HP.out | apply Pd.drew)) hg hbox hb); clear hg hbox hb) | ((with_reducible refine gate_dst (N := 9) rfl ?_); refine box_event ?hg (N := 9) ?hd (cs := #[.int .i64 den.f0, .int .i64 den.f1, .int .i64 den.f2, .int .i64 den.f3, .int .i64 den.f4, .int .i64 den.f5, .slice Aden den.f6.length nden]) (t := 39) ?hr ?_; (case hd => rfl); (case hg => rfl); (case hr => first | (go_simp; done) | (go_simp; rfl)); intro gd hg wk hbox hb; replace HP := Aside0.mk (Pd.box (by with_reducible repeat (first | exact HP.out | apply Pd.drew)) hg hbox hb); clear hg hbox hb; have hsn := cells7 (Pd.hd (Pd.tl HP.out)); have hsd := cells7 (Pd.hd HP.out)) | ((with_reducible refine gate_dst (N := 23) rfl ?_); refine wpList_load_row rfl 36 (.tmp 5) rfl gf (by rfl) 36 #[.int .i64 F.f0.f0, .int .i64 F.f0.f1, .int .i64 F.f0.f2, .int .i64 F.f0.f3, .int .i64 F.f0.f4, .bool F.f0.f5, .slice A6 F.f1.length c6, .slice A7 F.f2.length c7, .slice A8 F.f3.length c8, .slice A9 F.f4.f0.length c9, .slice A10 F.f4.f1.length c10, .slice A11 F.f4.f2.length c11, .slice A12 F.f4.f3.length c12, .slice A13 F.f4.f4.length c13, .int .i64 F.f4.f5.f0, .slice A15 F.f4.f5.f1.length c15, .slice A16 F.f4.f5.f2.length c16] (0, 0) _ (Pd.hd (Pd.tl (Pd.tl (by with_reducible repeat (first | exact HP.out | apply Pd.drew))))) hu36 rfl info_font ?_))
  clear hsn hsd
  refine (few_calls _ F num den HOn.out HOd.out _ Anum nnum Aden nden (HF.out.heap HP.out.bel) HLn.out (Kd.C_below HCn.out HP.out.bel) HLd.out (Kd.C_below HCd.out HP.out.bel)).mono ?_
  rintro _ w1 ⟨q, rfl, hb⟩
  replace HP := Aside0.mk (Pd.below HP.out hb)
  clear hb
  cases q with
  | false =>
    go_wp2
    go_ret
    exact ⟨rfl, HP.out.bel⟩
  | true =>
    have HW := Aside0.mk HP.out.bel
    have HB := Aside0.mk (Pd.base HP.out)
    replace HF := Aside0.mk (HF.out.heap HP.out.bel)
    replace HCn := Aside0.mk (Kd.C_below HCn.out HP.out.bel)
    replace HCd := Aside0.mk (Kd.C_below HCd.out HP.out.bel)
    replace HP := Aside0.mk (Pd.start w1)
    have hsn := cells7 (Pd.olds HP.out HB.out (b := gn) (o := .cells #[.int .i64 num.f0, .int .i64 num.f1, .int .i64 num.f2, .int .i64 num.f3, .int .i64 num.f4, .int .i64 num.f5, .slice Anum num.f6.length nnum] 39 (0, 0)) (by with_reducible repeat (first | exact List.mem_cons_self | apply List.mem_cons_of_mem)))
    have hsd := cells7 (Pd.olds HP.out HB.out (b := gd) (o := .cells #[.int .i64 den.f0, .int .i64 den.f1, .int .i64 den.f2, .int .i64 den.f3, .int .i64 den.f4, .int .i64 den.f5, .slice Aden den.f6.length nden] 39 (0, 0)) (by with_reducible repeat (first | exact List.mem_cons_self | apply List.mem_cons_of_mem)))
    go_wp2_with (first | ((with_reducible refine gate_dst (N := 29) rfl ?_); refine wpList_load_row rfl 36 (.tmp 5) rfl gf (by rfl) 36 #[.int .i64 F.f0.f0, .int .i64 F.f0.f1, .int .i64 F.f0.f2, .int .i64 F.f0.f3, .int .i64 F.f0.f4, .bool F.f0.f5, .slice A6 F.f1.length c6, .slice A7 F.f2.length c7, .slice A8 F.f3.length c8, .slice A9 F.f4.f0.length c9, .slice A10 F.f4.f1.length c10, .slice A11 F.f4.f2.length c11, .slice A12 F.f4.f3.length c12, .slice A13 F.f4.f4.length c13, .int .i64 F.f4.f5.f0, .slice A15 F.f4.f5.f1.length c15, .slice A16 F.f4.f5.f2.length c16] (0, 0) _ (Pd.olds HP.out HB.out (b := gf) (o := .cells #[.int .i64 F.f0.f0, .int .i64 F.f0.f1, .int .i64 F.f0.f2, .int .i64 F.f0.f3, .int .i64 F.f0.f4, .bool F.f0.f5, .slice A6 F.f1.length c6, .slice A7 F.f2.length c7, .slice A8 F.f3.length c8, .slice A9 F.f4.f0.length c9, .slice A10 F.f4.f1.length c10, .slice A11 F.f4.f2.length c11, .slice A12 F.f4.f3.length c12, .slice A13 F.f4.f4.length c13, .int .i64 F.f4.f5.f0, .slice A15 F.f4.f5.f1.length c15, .slice A16 F.f4.f5.f2.length c16] 36 (0, 0)) (by with_reducible repeat (first | exact List.mem_cons_self | apply List.mem_cons_of_mem))) hu36 rfl info_font ?_))
    clear hsn hsd
    refine (frac_calls F c z num Anum nnum den Aden nden _ _ (HF.out.heap HP.out.bel) HLn.out (Kd.C_below HCn.out HP.out.bel) HLd.out (Kd.C_below HCd.out HP.out.bel)).mono ?_
    rintro _ w20 ⟨A20, n20, rfl, hl, hC, hb⟩
    obtain ⟨R0, h_R0⟩ : ∃ R0, R0 = fracV F c z num den := ⟨_, rfl⟩
    rw [← h_R0] at hl hC ⊢
    have H_R0 := Aside0.mk h_R0
    clear h_R0
    replace HP := Aside0.mk (Pd.below HP.out hb)
    clear hb
    replace HW := Aside0.mk (below_step HW.out HP.out.bel)
    replace HB := Aside0.mk (Pd.rebase HP.out HB.out)
    replace HF := Aside0.mk (HF.out.heap HP.out.bel)
    replace HCn := Aside0.mk (Kd.C_below HCn.out HP.out.bel)
    replace HCd := Aside0.mk (Kd.C_below HCd.out HP.out.bel)
    have HL20 := Aside0.mk hl
    have HC20 := Aside0.mk hC
    clear hl hC
    replace HP := Aside0.mk (Pd.start w20)
    simp only [List.cons_append, List.nil_append] at HB
    have hsn := cells7 (Pd.olds HP.out HB.out (b := gn) (o := .cells #[.int .i64 num.f0, .int .i64 num.f1, .int .i64 num.f2, .int .i64 num.f3, .int .i64 num.f4, .int .i64 num.f5, .slice Anum num.f6.length nnum] 39 (0, 0)) (by with_reducible repeat (first | exact List.mem_cons_self | apply List.mem_cons_of_mem)))
    clear hsn
    go_wp2_with (first | ((with_reducible refine gate_dst (N := 11) rfl ?_); refine box_event ?hg (N := 11) ?hd (cs := #[.int .i64 0, .int .i64 0, .int .i64 0, .int .i64 0, .int .i64 0, .int .i64 0, .slice none 0 0]) (t := 39) ?hr ?_; (case hd => rfl); (case hg => rfl); (case hr => first | (go_simp; done) | (go_simp; rfl)); intro g11 hg wk9 hbox hb; replace HP := Aside0.mk (Pd.box HP.out hg hbox hb); clear hg hbox hb; have hcz := cells7 (Pd.hd HP.out); have hfz := froz7 (Pd.hd HP.out)) | (have hgo := hcz; clear hgo; (with_reducible refine gate_dst (N := 38) rfl ?_); refine Pd.fold (Pd.st7 HP.out) ?_; intro W' h0; replace HP := Aside0.mk h0; clear h0 hcz hfz; have hsn := cells7 (Pd.olds HP.out HB.out (b := gn) (o := .cells #[.int .i64 num.f0, .int .i64 num.f1, .int .i64 num.f2, .int .i64 num.f3, .int .i64 num.f4, .int .i64 num.f5, .slice Anum num.f6.length nnum] 39 (0, 0)) (by with_reducible repeat (first | exact List.mem_cons_self | apply List.mem_cons_of_mem))); have hsd := cells7 (Pd.olds HP.out HB.out (b := gd) (o := .cells #[.int .i64 den.f0, .int .i64 den.f1, .int .i64 den.f2, .int .i64 den.f3, .int .i64 den.f4, .int .i64 den.f5, .slice Aden den.f6.length nden] 39 (0, 0)) (by with_reducible repeat (first | exact List.mem_cons_self | apply List.mem_cons_of_mem))); refine wpList_load_row rfl 36 (.tmp 5) rfl gf (by rfl) 36 #[.int .i64 F.f0.f0, .int .i64 F.f0.f1, .int .i64 F.f0.f2, .int .i64 F.f0.f3, .int .i64 F.f0.f4, .bool F.f0.f5, .slice A6 F.f1.length c6, .slice A7 F.f2.length c7, .slice A8 F.f3.length c8, .slice A9 F.f4.f0.length c9, .slice A10 F.f4.f1.length c10, .slice A11 F.f4.f2.length c11, .slice A12 F.f4.f3.length c12, .slice A13 F.f4.f4.length c13, .int .i64 F.f4.f5.f0, .slice A15 F.f4.f5.f1.length c15, .slice A16 F.f4.f5.f2.length c16] (0, 0) _ (Pd.olds HP.out HB.out (b := gf) (o := .cells #[.int .i64 F.f0.f0, .int .i64 F.f0.f1, .int .i64 F.f0.f2, .int .i64 F.f0.f3, .int .i64 F.f0.f4, .bool F.f0.f5, .slice A6 F.f1.length c6, .slice A7 F.f2.length c7, .slice A8 F.f3.length c8, .slice A9 F.f4.f0.length c9, .slice A10 F.f4.f1.length c10, .slice A11 F.f4.f2.length c11, .slice A12 F.f4.f3.length c12, .slice A13 F.f4.f4.length c13, .int .i64 F.f4.f5.f0, .slice A15 F.f4.f5.f1.length c15, .slice A16 F.f4.f5.f2.length c16] 36 (0, 0)) (by with_reducible repeat (first | exact List.mem_cons_self | apply List.mem_cons_of_mem))) hu36 rfl info_font ?_))
    clear hsn hsd
    refine (rfrac_calls F c z num Anum nnum den Aden nden _ _ (HF.out.heap HP.out.bel) HLn.out (Kd.C_below HCn.out HP.out.bel) HLd.out (Kd.C_below HCd.out HP.out.bel)).mono ?_
    rintro _ w21 ⟨A21, n21, rfl, hl, hC, hb⟩
    rw [← frac_same, ← H_R0.out] at hl hC ⊢
    replace HP := Aside0.mk (Pd.below HP.out hb)
    clear hb
    replace HW := Aside0.mk (below_step HW.out HP.out.bel)
    replace HB := Aside0.mk (Pd.rebase HP.out HB.out)
    replace HF := Aside0.mk (HF.out.heap HP.out.bel)
    replace HCn := Aside0.mk (Kd.C_below HCn.out HP.out.bel)
    replace HCd := Aside0.mk (Kd.C_below HCd.out HP.out.bel)
    replace HC20 := Aside0.mk (Kd.C_below HC20.out HP.out.bel)
    have HL21 := Aside0.mk hl
    have HC21 := Aside0.mk hC
    clear hl hC
    replace HP := Aside0.mk (Pd.start w21)
    simp only [List.cons_append, List.nil_append] at HB
    have hsn := cells7 (Pd.olds HP.out HB.out (b := gn) (o := .cells #[.int .i64 num.f0, .int .i64 num.f1, .int .i64 num.f2, .int .i64 num.f3, .int .i64 num.f4, .int .i64 num.f5, .slice Anum num.f6.length nnum] 39 (0, 0)) (by with_reducible repeat (first | exact List.mem_cons_self | apply List.mem_cons_of_mem)))
    clear hsn
    go_wp2_with (first | ((with_reducible refine gate_dst (N := 13) rfl ?_); refine box_event ?hg (N := 13) ?hd (cs := #[.int .i64 0, .int .i64 0, .int .i64 0, .int .i64 0, .int .i64 0, .int .i64 0, .slice none 0 0]) (t := 39) ?hr ?_; (case hd => rfl); (case hg => rfl); (case hr => first | (go_simp; done) | (go_simp; rfl)); intro g13 hg wk9 hbox hb; replace HP := Aside0.mk (Pd.box HP.out hg hbox hb); clear hg hbox hb; have hcz := cells7 (Pd.hd HP.out); have hfz := froz7 (Pd.hd HP.out)) | (have hgo := hcz; clear hgo; (with_reducible refine gate_dst (N := 47) rfl ?_); refine Pd.fold (Pd.st7 HP.out) ?_; intro W' h0; replace HP := Aside0.mk h0; clear h0 hcz hfz; have hsn := cells7 (Pd.olds HP.out HB.out (b := gn) (o := .cells #[.int .i64 num.f0, .int .i64 num.f1, .int .i64 num.f2, .int .i64 num.f3, .int .i64 num.f4, .int .i64 num.f5, .slice Anum num.f6.length nnum] 39 (0, 0)) (by with_reducible repeat (first | exact List.mem_cons_self | apply List.mem_cons_of_mem))); have hsd := cells7 (Pd.olds HP.out HB.out (b := gd) (o := .cells #[.int .i64 den.f0, .int .i64 den.f1, .int .i64 den.f2, .int .i64 den.f3, .int .i64 den.f4, .int .i64 den.f5, .slice Aden den.f6.length nden] 39 (0, 0)) (by with_reducible repeat (first | exact List.mem_cons_self | apply List.mem_cons_of_mem))); refine wpList_load_row rfl 36 (.tmp 5) rfl gf (by rfl) 36 #[.int .i64 F.f0.f0, .int .i64 F.f0.f1, .int .i64 F.f0.f2, .int .i64 F.f0.f3, .int .i64 F.f0.f4, .bool F.f0.f5, .slice A6 F.f1.length c6, .slice A7 F.f2.length c7, .slice A8 F.f3.length c8, .slice A9 F.f4.f0.length c9, .slice A10 F.f4.f1.length c10, .slice A11 F.f4.f2.length c11, .slice A12 F.f4.f3.length c12, .slice A13 F.f4.f4.length c13, .int .i64 F.f4.f5.f0, .slice A15 F.f4.f5.f1.length c15, .slice A16 F.f4.f5.f2.length c16] (0, 0) _ (Pd.olds HP.out HB.out (b := gf) (o := .cells #[.int .i64 F.f0.f0, .int .i64 F.f0.f1, .int .i64 F.f0.f2, .int .i64 F.f0.f3, .int .i64 F.f0.f4, .bool F.f0.f5, .slice A6 F.f1.length c6, .slice A7 F.f2.length c7, .slice A8 F.f3.length c8, .slice A9 F.f4.f0.length c9, .slice A10 F.f4.f1.length c10, .slice A11 F.f4.f2.length c11, .slice A12 F.f4.f3.length c12, .slice A13 F.f4.f4.length c13, .int .i64 F.f4.f5.f0, .slice A15 F.f4.f5.f1.length c15, .slice A16 F.f4.f5.f2.length c16] 36 (0, 0)) (by with_reducible repeat (first | exact List.mem_cons_self | apply List.mem_cons_of_mem))) hu36 rfl info_font ?_))
    clear hsn hsd
    refine (atop_calls F c z num Anum nnum den Aden nden _ _ (HF.out.heap HP.out.bel) HLn.out (Kd.C_below HCn.out HP.out.bel) HLd.out (Kd.C_below HCd.out HP.out.bel)).mono ?_
    rintro _ w22 ⟨A22, n22, rfl, hl, hC, hb⟩
    obtain ⟨R2, h_R2⟩ : ∃ R2, R2 = atopV F c z num den := ⟨_, rfl⟩
    rw [← h_R2] at hl hC ⊢
    have H_R2 := Aside0.mk h_R2
    clear h_R2
    replace HP := Aside0.mk (Pd.below HP.out hb)
    clear hb
    replace HW := Aside0.mk (below_step HW.out HP.out.bel)
    replace HB := Aside0.mk (Pd.rebase HP.out HB.out)
    replace HF := Aside0.mk (HF.out.heap HP.out.bel)
    replace HCn := Aside0.mk (Kd.C_below HCn.out HP.out.bel)
    replace HCd := Aside0.mk (Kd.C_below HCd.out HP.out.bel)
    replace HC20 := Aside0.mk (Kd.C_below HC20.out HP.out.bel)
    replace HC21 := Aside0.mk (Kd.C_below HC21.out HP.out.bel)
    have HL22 := Aside0.mk hl
    have HC22 := Aside0.mk hC
    clear hl hC
    replace HP := Aside0.mk (Pd.start w22)
    simp only [List.cons_append, List.nil_append] at HB
    have hsn := cells7 (Pd.olds HP.out HB.out (b := gn) (o := .cells #[.int .i64 num.f0, .int .i64 num.f1, .int .i64 num.f2, .int .i64 num.f3, .int .i64 num.f4, .int .i64 num.f5, .slice Anum num.f6.length nnum] 39 (0, 0)) (by with_reducible repeat (first | exact List.mem_cons_self | apply List.mem_cons_of_mem)))
    clear hsn
    go_wp2_with (first | ((with_reducible refine gate_dst (N := 15) rfl ?_); refine box_event ?hg (N := 15) ?hd (cs := #[.int .i64 0, .int .i64 0, .int .i64 0, .int .i64 0, .int .i64 0, .int .i64 0, .slice none 0 0]) (t := 39) ?hr ?_; (case hd => rfl); (case hg => rfl); (case hr => first | (go_simp; done) | (go_simp; rfl)); intro g15 hg wk9 hbox hb; replace HP := Aside0.mk (Pd.box HP.out hg hbox hb); clear hg hbox hb; have hcz := cells7 (Pd.hd HP.out); have hfz := froz7 (Pd.hd HP.out)) | (have hgo := hcz; clear hgo; (with_reducible refine gate_dst (N := 56) rfl ?_); refine Pd.fold (Pd.st7 HP.out) ?_; intro W' h0; replace HP := Aside0.mk h0; clear h0 hcz hfz; have hsn := cells7 (Pd.olds HP.out HB.out (b := gn) (o := .cells #[.int .i64 num.f0, .int .i64 num.f1, .int .i64 num.f2, .int .i64 num.f3, .int .i64 num.f4, .int .i64 num.f5, .slice Anum num.f6.length nnum] 39 (0, 0)) (by with_reducible repeat (first | exact List.mem_cons_self | apply List.mem_cons_of_mem))); have hsd := cells7 (Pd.olds HP.out HB.out (b := gd) (o := .cells #[.int .i64 den.f0, .int .i64 den.f1, .int .i64 den.f2, .int .i64 den.f3, .int .i64 den.f4, .int .i64 den.f5, .slice Aden den.f6.length nden] 39 (0, 0)) (by with_reducible repeat (first | exact List.mem_cons_self | apply List.mem_cons_of_mem))); refine wpList_load_row rfl 36 (.tmp 5) rfl gf (by rfl) 36 #[.int .i64 F.f0.f0, .int .i64 F.f0.f1, .int .i64 F.f0.f2, .int .i64 F.f0.f3, .int .i64 F.f0.f4, .bool F.f0.f5, .slice A6 F.f1.length c6, .slice A7 F.f2.length c7, .slice A8 F.f3.length c8, .slice A9 F.f4.f0.length c9, .slice A10 F.f4.f1.length c10, .slice A11 F.f4.f2.length c11, .slice A12 F.f4.f3.length c12, .slice A13 F.f4.f4.length c13, .int .i64 F.f4.f5.f0, .slice A15 F.f4.f5.f1.length c15, .slice A16 F.f4.f5.f2.length c16] (0, 0) _ (Pd.olds HP.out HB.out (b := gf) (o := .cells #[.int .i64 F.f0.f0, .int .i64 F.f0.f1, .int .i64 F.f0.f2, .int .i64 F.f0.f3, .int .i64 F.f0.f4, .bool F.f0.f5, .slice A6 F.f1.length c6, .slice A7 F.f2.length c7, .slice A8 F.f3.length c8, .slice A9 F.f4.f0.length c9, .slice A10 F.f4.f1.length c10, .slice A11 F.f4.f2.length c11, .slice A12 F.f4.f3.length c12, .slice A13 F.f4.f4.length c13, .int .i64 F.f4.f5.f0, .slice A15 F.f4.f5.f1.length c15, .slice A16 F.f4.f5.f2.length c16] 36 (0, 0)) (by with_reducible repeat (first | exact List.mem_cons_self | apply List.mem_cons_of_mem))) hu36 rfl info_font ?_))
    clear hsn hsd
    refine (ratop_calls F c z num Anum nnum den Aden nden _ _ (HF.out.heap HP.out.bel) HLn.out (Kd.C_below HCn.out HP.out.bel) HLd.out (Kd.C_below HCd.out HP.out.bel)).mono ?_
    rintro _ w23 ⟨A23, n23, rfl, hl, hC, hb⟩
    rw [← atop_same, ← H_R2.out] at hl hC ⊢
    replace HP := Aside0.mk (Pd.below HP.out hb)
    clear hb
    replace HW := Aside0.mk (below_step HW.out HP.out.bel)
    replace HB := Aside0.mk (Pd.rebase HP.out HB.out)
    replace HF := Aside0.mk (HF.out.heap HP.out.bel)
    replace HCn := Aside0.mk (Kd.C_below HCn.out HP.out.bel)
    replace HCd := Aside0.mk (Kd.C_below HCd.out HP.out.bel)
    replace HC20 := Aside0.mk (Kd.C_below HC20.out HP.out.bel)
    replace HC21 := Aside0.mk (Kd.C_below HC21.out HP.out.bel)
    replace HC22 := Aside0.mk (Kd.C_below HC22.out HP.out.bel)
    have HL23 := Aside0.mk hl
    have HC23 := Aside0.mk hC
    clear hl hC
    replace HP := Aside0.mk (Pd.start w23)
    simp only [List.cons_append, List.nil_append] at HB
    have hsn := cells7 (Pd.olds HP.out HB.out (b := gn) (o := .cells #[.int .i64 num.f0, .int .i64 num.f1, .int .i64 num.f2, .int .i64 num.f3, .int .i64 num.f4, .int .i64 num.f5, .slice Anum num.f6.length nnum] 39 (0, 0)) (by with_reducible repeat (first | exact List.mem_cons_self | apply List.mem_cons_of_mem)))
    clear hsn
    go_wp2_with (first | ((with_reducible refine gate_dst (N := 17) rfl ?_); refine box_event ?hg (N := 17) ?hd (cs := #[.int .i64 0, .int .i64 0, .int .i64 0, .int .i64 0, .int .i64 0, .int .i64 0, .slice none 0 0]) (t := 39) ?hr ?_; (case hd => rfl); (case hg => rfl); (case hr => first | (go_simp; done) | (go_simp; rfl)); intro g17 hg wk9 hbox hb; replace HP := Aside0.mk (Pd.box HP.out hg hbox hb); clear hg hbox hb; have hcz := cells7 (Pd.hd HP.out); have hfz := froz7 (Pd.hd HP.out)) | (have hgo := hcz; clear hgo; (with_reducible refine gate_dst (N := 65) rfl ?_); refine Pd.fold (Pd.st7 HP.out) ?_; intro W' h0; replace HP := Aside0.mk h0; clear h0 hcz hfz; have hsn := cells7 (Pd.olds HP.out HB.out (b := gn) (o := .cells #[.int .i64 num.f0, .int .i64 num.f1, .int .i64 num.f2, .int .i64 num.f3, .int .i64 num.f4, .int .i64 num.f5, .slice Anum num.f6.length nnum] 39 (0, 0)) (by with_reducible repeat (first | exact List.mem_cons_self | apply List.mem_cons_of_mem))); refine wpList_load_row rfl 36 (.tmp 5) rfl gf (by rfl) 36 #[.int .i64 F.f0.f0, .int .i64 F.f0.f1, .int .i64 F.f0.f2, .int .i64 F.f0.f3, .int .i64 F.f0.f4, .bool F.f0.f5, .slice A6 F.f1.length c6, .slice A7 F.f2.length c7, .slice A8 F.f3.length c8, .slice A9 F.f4.f0.length c9, .slice A10 F.f4.f1.length c10, .slice A11 F.f4.f2.length c11, .slice A12 F.f4.f3.length c12, .slice A13 F.f4.f4.length c13, .int .i64 F.f4.f5.f0, .slice A15 F.f4.f5.f1.length c15, .slice A16 F.f4.f5.f2.length c16] (0, 0) _ (Pd.olds HP.out HB.out (b := gf) (o := .cells #[.int .i64 F.f0.f0, .int .i64 F.f0.f1, .int .i64 F.f0.f2, .int .i64 F.f0.f3, .int .i64 F.f0.f4, .bool F.f0.f5, .slice A6 F.f1.length c6, .slice A7 F.f2.length c7, .slice A8 F.f3.length c8, .slice A9 F.f4.f0.length c9, .slice A10 F.f4.f1.length c10, .slice A11 F.f4.f2.length c11, .slice A12 F.f4.f3.length c12, .slice A13 F.f4.f4.length c13, .int .i64 F.f4.f5.f0, .slice A15 F.f4.f5.f1.length c15, .slice A16 F.f4.f5.f2.length c16] 36 (0, 0)) (by with_reducible repeat (first | exact List.mem_cons_self | apply List.mem_cons_of_mem))) hu36 rfl info_font ?_))
    clear hsn
    refine (center_calls F c z num Anum nnum _ _ (HF.out.heap HP.out.bel) HLn.out (Kd.C_below HCn.out HP.out.bel)).mono ?_
    rintro _ w24 ⟨A24, n24, rfl, hl, hC, hb⟩
    obtain ⟨R4, h_R4⟩ : ∃ R4, R4 = centerV F c z num := ⟨_, rfl⟩
    rw [← h_R4] at hl hC ⊢
    have H_R4 := Aside0.mk h_R4
    clear h_R4
    replace HP := Aside0.mk (Pd.below HP.out hb)
    clear hb
    replace HW := Aside0.mk (below_step HW.out HP.out.bel)
    replace HB := Aside0.mk (Pd.rebase HP.out HB.out)
    replace HF := Aside0.mk (HF.out.heap HP.out.bel)
    replace HCn := Aside0.mk (Kd.C_below HCn.out HP.out.bel)
    replace HCd := Aside0.mk (Kd.C_below HCd.out HP.out.bel)
    replace HC20 := Aside0.mk (Kd.C_below HC20.out HP.out.bel)
    replace HC21 := Aside0.mk (Kd.C_below HC21.out HP.out.bel)
    replace HC22 := Aside0.mk (Kd.C_below HC22.out HP.out.bel)
    replace HC23 := Aside0.mk (Kd.C_below HC23.out HP.out.bel)
    have HL24 := Aside0.mk hl
    have HC24 := Aside0.mk hC
    clear hl hC
    replace HP := Aside0.mk (Pd.start w24)
    simp only [List.cons_append, List.nil_append] at HB
    have hsn := cells7 (Pd.olds HP.out HB.out (b := gn) (o := .cells #[.int .i64 num.f0, .int .i64 num.f1, .int .i64 num.f2, .int .i64 num.f3, .int .i64 num.f4, .int .i64 num.f5, .slice Anum num.f6.length nnum] 39 (0, 0)) (by with_reducible repeat (first | exact List.mem_cons_self | apply List.mem_cons_of_mem)))
    clear hsn
    go_wp2_with (first | ((with_reducible refine gate_dst (N := 19) rfl ?_); refine box_event ?hg (N := 19) ?hd (cs := #[.int .i64 0, .int .i64 0, .int .i64 0, .int .i64 0, .int .i64 0, .int .i64 0, .slice none 0 0]) (t := 39) ?hr ?_; (case hd => rfl); (case hg => rfl); (case hr => first | (go_simp; done) | (go_simp; rfl)); intro g19 hg wk9 hbox hb; replace HP := Aside0.mk (Pd.box HP.out hg hbox hb); clear hg hbox hb; have hcz := cells7 (Pd.hd HP.out); have hfz := froz7 (Pd.hd HP.out)) | (have hgo := hcz; clear hgo; (with_reducible refine gate_dst (N := 73) rfl ?_); refine Pd.fold (Pd.st7 HP.out) ?_; intro W' h0; replace HP := Aside0.mk h0; clear h0 hcz hfz; have hsn := cells7 (Pd.olds HP.out HB.out (b := gn) (o := .cells #[.int .i64 num.f0, .int .i64 num.f1, .int .i64 num.f2, .int .i64 num.f3, .int .i64 num.f4, .int .i64 num.f5, .slice Anum num.f6.length nnum] 39 (0, 0)) (by with_reducible repeat (first | exact List.mem_cons_self | apply List.mem_cons_of_mem))); refine wpList_load_row rfl 36 (.tmp 5) rfl gf (by rfl) 36 #[.int .i64 F.f0.f0, .int .i64 F.f0.f1, .int .i64 F.f0.f2, .int .i64 F.f0.f3, .int .i64 F.f0.f4, .bool F.f0.f5, .slice A6 F.f1.length c6, .slice A7 F.f2.length c7, .slice A8 F.f3.length c8, .slice A9 F.f4.f0.length c9, .slice A10 F.f4.f1.length c10, .slice A11 F.f4.f2.length c11, .slice A12 F.f4.f3.length c12, .slice A13 F.f4.f4.length c13, .int .i64 F.f4.f5.f0, .slice A15 F.f4.f5.f1.length c15, .slice A16 F.f4.f5.f2.length c16] (0, 0) _ (Pd.olds HP.out HB.out (b := gf) (o := .cells #[.int .i64 F.f0.f0, .int .i64 F.f0.f1, .int .i64 F.f0.f2, .int .i64 F.f0.f3, .int .i64 F.f0.f4, .bool F.f0.f5, .slice A6 F.f1.length c6, .slice A7 F.f2.length c7, .slice A8 F.f3.length c8, .slice A9 F.f4.f0.length c9, .slice A10 F.f4.f1.length c10, .slice A11 F.f4.f2.length c11, .slice A12 F.f4.f3.length c12, .slice A13 F.f4.f4.length c13, .int .i64 F.f4.f5.f0, .slice A15 F.f4.f5.f1.length c15, .slice A16 F.f4.f5.f2.length c16] 36 (0, 0)) (by with_reducible repeat (first | exact List.mem_cons_self | apply List.mem_cons_of_mem))) hu36 rfl info_font ?_))
    clear hsn
    refine (rcenter_calls F c z num Anum nnum _ _ (HF.out.heap HP.out.bel) HLn.out (Kd.C_below HCn.out HP.out.bel)).mono ?_
    rintro _ w25 ⟨A25, n25, rfl, hl, hC, hb⟩
    rw [← center_same, ← H_R4.out] at hl hC ⊢
    replace HP := Aside0.mk (Pd.below HP.out hb)
    clear hb
    replace HW := Aside0.mk (below_step HW.out HP.out.bel)
    replace HB := Aside0.mk (Pd.rebase HP.out HB.out)
    replace HF := Aside0.mk (HF.out.heap HP.out.bel)
    replace HCn := Aside0.mk (Kd.C_below HCn.out HP.out.bel)
    replace HCd := Aside0.mk (Kd.C_below HCd.out HP.out.bel)
    replace HC20 := Aside0.mk (Kd.C_below HC20.out HP.out.bel)
    replace HC21 := Aside0.mk (Kd.C_below HC21.out HP.out.bel)
    replace HC22 := Aside0.mk (Kd.C_below HC22.out HP.out.bel)
    replace HC23 := Aside0.mk (Kd.C_below HC23.out HP.out.bel)
    replace HC24 := Aside0.mk (Kd.C_below HC24.out HP.out.bel)
    have HL25 := Aside0.mk hl
    have HC25 := Aside0.mk hC
    clear hl hC
    replace HP := Aside0.mk (Pd.start w25)
    simp only [List.cons_append, List.nil_append] at HB
    go_wp2_with (first | ((with_reducible refine gate_dst (N := 21) rfl ?_); refine box_event ?hg (N := 21) ?hd (cs := #[.int .i64 0, .int .i64 0, .int .i64 0, .int .i64 0, .int .i64 0, .int .i64 0, .slice none 0 0]) (t := 39) ?hr ?_; (case hd => rfl); (case hg => rfl); (case hr => first | (go_simp; done) | (go_simp; rfl)); intro g21 hg wk9 hbox hb; replace HP := Aside0.mk (Pd.box HP.out hg hbox hb); clear hg hbox hb; have hcz := cells7 (Pd.hd HP.out); have hfz := froz7 (Pd.hd HP.out)))
    refine (hpile _).mono ?_
    rintro _ w7 ⟨rfl, hb⟩
    replace HP := Aside0.mk (Pd.below (Pd.st7 HP.out) hb)
    clear hb hcz hfz
    have hs11 := cells7 (Pd.olds HP.out HB.out (b := g11) (o := .cells #[.int .i64 R0.1, .int .i64 R0.2.1, .int .i64 R0.2.2.1, .int .i64 R0.2.2.2.1, .int .i64 R0.2.2.2.2.1, .int .i64 R0.2.2.2.2.2.1, .slice A20 R0.2.2.2.2.2.2.1.length n20] 39 (0, 0)) (by with_reducible repeat (first | exact List.mem_cons_self | apply List.mem_cons_of_mem)))
    have hs13 := cells7 (Pd.olds HP.out HB.out (b := g13) (o := .cells #[.int .i64 R0.1, .int .i64 R0.2.1, .int .i64 R0.2.2.1, .int .i64 R0.2.2.2.1, .int .i64 R0.2.2.2.2.1, .int .i64 R0.2.2.2.2.2.1, .slice A21 R0.2.2.2.2.2.2.1.length n21] 39 (0, 0)) (by with_reducible repeat (first | exact List.mem_cons_self | apply List.mem_cons_of_mem)))
    go_wp2_with fail
    clear hs11 hs13
    refine (same_calls _ (⟨R0.1, R0.2.1, R0.2.2.1, R0.2.2.2.1, R0.2.2.2.2.1, R0.2.2.2.2.2.1, R0.2.2.2.2.2.2.1⟩ : S39) (Nat.lt_succ_self _) _ A20 n20 A21 n21 HL20.out (Kd.C_below HC20.out HP.out.bel) HL21.out (Kd.C_below HC21.out HP.out.bel)).mono ?_
    rintro _ w7 ⟨rfl, hb⟩
    replace HP := Aside0.mk (Pd.below HP.out hb)
    clear hb
    have hs15 := cells7 (Pd.olds HP.out HB.out (b := g15) (o := .cells #[.int .i64 R2.1, .int .i64 R2.2.1, .int .i64 R2.2.2.1, .int .i64 R2.2.2.2.1, .int .i64 R2.2.2.2.2.1, .int .i64 R2.2.2.2.2.2.1, .slice A22 R2.2.2.2.2.2.2.1.length n22] 39 (0, 0)) (by with_reducible repeat (first | exact List.mem_cons_self | apply List.mem_cons_of_mem)))
    have hs17 := cells7 (Pd.olds HP.out HB.out (b := g17) (o := .cells #[.int .i64 R2.1, .int .i64 R2.2.1, .int .i64 R2.2.2.1, .int .i64 R2.2.2.2.1, .int .i64 R2.2.2.2.2.1, .int .i64 R2.2.2.2.2.2.1, .slice A23 R2.2.2.2.2.2.2.1.length n23] 39 (0, 0)) (by with_reducible repeat (first | exact List.mem_cons_self | apply List.mem_cons_of_mem)))
    go_wp2_with fail
    clear hs15 hs17
    refine (same_calls _ (⟨R2.1, R2.2.1, R2.2.2.1, R2.2.2.2.1, R2.2.2.2.2.1, R2.2.2.2.2.2.1, R2.2.2.2.2.2.2.1⟩ : S39) (Nat.lt_succ_self _) _ A22 n22 A23 n23 HL22.out (Kd.C_below HC22.out HP.out.bel) HL23.out (Kd.C_below HC23.out HP.out.bel)).mono ?_
    rintro _ w7 ⟨rfl, hb⟩
    replace HP := Aside0.mk (Pd.below HP.out hb)
    clear hb
    have hs19 := cells7 (Pd.olds HP.out HB.out (b := g19) (o := .cells #[.int .i64 R4.1, .int .i64 R4.2.1, .int .i64 R4.2.2.1, .int .i64 R4.2.2.2.1, .int .i64 R4.2.2.2.2.1, .int .i64 R4.2.2.2.2.2.1, .slice A24 R4.2.2.2.2.2.2.1.length n24] 39 (0, 0)) (by with_reducible repeat (first | exact List.mem_cons_self | apply List.mem_cons_of_mem)))
    have hs21 := cells7 (Pd.hd HP.out)
    go_wp2_with fail
    clear hs19 hs21
    refine (same_calls _ (⟨R4.1, R4.2.1, R4.2.2.1, R4.2.2.2.1, R4.2.2.2.2.1, R4.2.2.2.2.2.1, R4.2.2.2.2.2.2.1⟩ : S39) (Nat.lt_succ_self _) _ A24 n24 A25 n25 HL24.out (Kd.C_below HC24.out HP.out.bel) HL25.out (Kd.C_below HC25.out HP.out.bel)).mono ?_
    rintro _ w7 ⟨rfl, hb⟩
    replace HP := Aside0.mk (Pd.below HP.out hb)
    clear hb
    go_wp2
    go_ret
    exact ⟨by simp, below_step HW.out HP.out.bel⟩
end Go.Proofs.Ytjkbblnebpgpfaa.P
