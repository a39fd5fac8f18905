import Derived.Test.YtjkbblnebpgpfaaSet2
import Derived.BigRegion
/- stack.builder.set: a short walk, over box.Set by hand. Printed by a program of this work (mksetin.py). -/
set_option linter.unusedVariables false
set_option linter.unusedSimpArgs false
namespace Go.Proofs.Ytjkbblnebpgpfaa.P
open Go.RowKit Go.Proofs.YtjkbblnebpgpfaaW.PrintWords Go.Proofs.YtjkbblnebpgpfaaW.PrintLast Go.Proofs.YtjkbblnebpgpfaaW.PrintMore

section
variable {w W W1 : World} {L : List (Nat × Obj)} {g : Nat} {F : S36} {c z e : Int} {CS : Array Value}
theorem alloc_lt {w : World} {o : Obj} {k : Nat} (h : k < w.heap.size) : (w.alloc o).heap[k]? = w.heap[k]? := by
  show (w.heap.push o)[k]? = _
  rw [Array.getElem?_push_lt h]
  exact (Array.getElem?_eq_getElem h).symm
theorem cell19 (hC : CS[19]? = some (.int .i64 e)) (h : W.heap[g]? = some (.cells CS 66 (0, 0))) : W.cell? ⟨g, 19, none⟩ = some (.int .i64 e) := (blk_cell h 19).trans hC
set_option maxRecDepth 100000 in
set_option maxHeartbeats 4000000 in
theorem set_sd {A : Option Addr} {n : Nat} (wd : Int) (xs : List S49) {css : List (List Value)} (hx : xs.length < 1599289640401) (hC : CS[19]? = some (.int .i64 e)) (h : Pd w W ((g, .cells CS 66 (0, 0)) :: L)) (hS : Src w ((g, .cells CS 66 (0, 0)) :: L) A xs css) : Calls Try.prog 43 #[.pointer (some ⟨g, 0, none⟩), .int .i64 wd, .slice A xs.length n] W fun r w' => ∃ A1 n1, r = .returned (.tuple #[.agg #[.int .i64 (setV e wd xs).1, .int .i64 (setV e wd xs).2.1, .int .i64 (setV e wd xs).2.2.1, .int .i64 (setV e wd xs).2.2.2.1, .int .i64 (setV e wd xs).2.2.2.2.1, .int .i64 (setV e wd xs).2.2.2.2.2.1, .slice A1 (setV e wd xs).2.2.2.2.2.2.1.length n1], .int .i64 (setV e wd xs).2.2.2.2.2.2.2]) ∧ (setV e wd xs).2.2.2.2.2.2.1.length ≤ n1 ∧ Kd.F k49 w' (fun k => ∀ p ∈ ((g, Obj.cells CS 66 (0, 0)) :: L), k ≠ p.1) A1 (setV e wd xs).2.2.2.2.2.2.1.length (setV e wd xs).2.2.2.2.2.2.1 ∧ Pd w w' ((g, .cells CS 66 (0, 0)) :: L) := by
  have hu39 := Try.underlying39
  have HS := Aside0.mk hS
  have HX := Aside0.mk hx
  have HP := Aside0.mk h
  have HC := Aside0.mk hC
  clear h hS hx hC
  by_cases he : e = 0
  · obtain ⟨V, hV⟩ : ∃ V, V = setR wd xs := ⟨_, rfl⟩
    have hSV : setV e wd xs = V := by rw [hV]; exact if_pos he
    have HQ := Aside0.mk (fun (W : World) (L : List (Nat × Obj)) (h : Pd w W L) (hS : Src w L A xs css) => bset (n := n) wd xs HX.out h hS)
    rw [← hV] at HQ
    rw [hSV]
    clear hSV hV
    have hd1 : (e != 0) = false := by simp; exact he
    have hd2 : decide (e = 0) = true := by simp; exact he
    have hc0 := cell19 HC.out HP.out.hd
    go_enter Try.func43, Try.ntmps43
    go_wp2_with (first | ((with_reducible refine gate_dst (N := 6) rfl ?_); refine box_event ?hg (N := 6) ?hd (cs := #[.int .i64 0, .int .i64 0, .int .i64 0, .int .i64 0, .int .i64 0, .int .i64 0, .slice none 0 0]) (t := 39) ?hr ?_; (case hd => rfl); (case hg => rfl); (case hr => first | (go_simp; done) | (go_simp; rfl)); intro gr hg wk hbox hb; replace HP := Aside0.mk (Pd.box (by with_reducible repeat (first | exact HP.out | apply Pd.drew)) hg hbox hb); clear hg hbox hb; have hcz := cells7 (Pd.hd HP.out); have hfz := froz7 (Pd.hd HP.out); have hc0 := cell19 HC.out (Pd.hd (Pd.tl HP.out))))
    clear hcz hfz hc0
    refine (HQ.out _ _ HP.out (HS.out.mono fun _ h => h.tl)).mono ?_
    rintro _ w1 ⟨A1, n1, rfl, hl, hF, hp⟩
    replace HP := Aside0.mk hp
    have HF := Aside0.mk hF
    have HL := Aside0.mk hl
    clear hp hF hl HQ
    have hcz := cells7 (Pd.hd HP.out)
    have hfz := froz7 (Pd.hd HP.out)
    go_wp2
    refine bodyPost_ret (results_ct rfl _ _ gr 39 #[.int .i64 V.1, .int .i64 V.2.1, .int .i64 V.2.2.1, .int .i64 V.2.2.2.1, .int .i64 V.2.2.2.2.1, .int .i64 V.2.2.2.2.2.1, .slice A1 V.2.2.2.2.2.2.1.length n1] (0, 0) _ rfl (put7 (Pd.hd HP.out)) hu39 rfl (by kernel_rfl)) rfl ?_
    exact ⟨A1, n1, rfl, HL.out, Kd.F_mono (Kd.F_step HF.out (fun k hk hlt => far7 _ (hk _ List.mem_cons_self))) (fun k hk p hp => hk p (List.mem_cons_of_mem _ hp)), (Pd.st7 HP.out).tl⟩
  · have hV : setV e wd xs = (0, 0, 0, 0, 0, 0, [], e) := if_neg he
    rw [hV]
    have hd1 : (e != 0) = true := by simp; exact he
    have hd2 : decide (e = 0) = false := by simp; exact he
    have hc0 := cell19 HC.out HP.out.hd
    go_enter Try.func43, Try.ntmps43
    go_wp2_with (first | ((with_reducible refine gate_dst (N := 6) rfl ?_); refine box_event ?hg (N := 6) ?hd (cs := #[.int .i64 0, .int .i64 0, .int .i64 0, .int .i64 0, .int .i64 0, .int .i64 0, .slice none 0 0]) (t := 39) ?hr ?_; (case hd => rfl); (case hg => rfl); (case hr => first | (go_simp; done) | (go_simp; rfl)); intro gr hg wk hbox hb; replace HP := Aside0.mk (Pd.box (by with_reducible repeat (first | exact HP.out | apply Pd.drew)) hg hbox hb); clear hg hbox hb; have hcz := cells7 (Pd.hd HP.out); have hfz := froz7 (Pd.hd HP.out); have hc0 := cell19 HC.out (Pd.hd (Pd.tl HP.out))))
    clear hc0
    have hgr : g ≠ gr := Pd.ne1 HP.out
    have hc0 := cell19 HC.out (Pd.hd (Pd.tl HP.out))
    have hgr2 := hgr.symm
    go_region
    all_goals go_wp2
    refine bodyPost_ret (results_ct rfl _ _ gr 39 #[.int .i64 0, .int .i64 0, .int .i64 0, .int .i64 0, .int .i64 0, .int .i64 0, .slice none 0 0] (0, 0) _ rfl (blk_drew (put7 (Pd.hd HP.out))) hu39 rfl (by kernel_rfl)) rfl ?_
    exact ⟨none, 0, rfl, Nat.le_refl _, Kd.F_nil _ _ _, (Pd.st7 HP.out).tl.drew⟩
/-- The blocks of a list, each once. -/
theorem once (L : List (Nat × Obj)) : ∃ M : List (Nat × Obj), (∀ p ∈ M, p ∈ L) ∧ M.Pairwise (fun a b => b.1 ≠ a.1) ∧ ∀ p ∈ L, ∃ q ∈ M, q.1 = p.1 := by
  induction L with
  | nil => exact ⟨[], by simp, List.Pairwise.nil, by simp⟩
  | cons p L ih =>
    obtain ⟨M, h1, h2, h3⟩ := ih
    by_cases hp : ∃ q ∈ M, q.1 = p.1
    · exact ⟨M, fun q hq => List.mem_cons_of_mem _ (h1 q hq), h2, fun q hq => by
        rcases List.mem_cons.1 hq with rfl | hq
        · exact hp
        · exact h3 q hq⟩
    · exact ⟨p :: M, fun q hq => by
        rcases List.mem_cons.1 hq with rfl | hq
        · exact List.mem_cons_self
        · exact List.mem_cons_of_mem _ (h1 q hq), List.Pairwise.cons (fun q hq he => hp ⟨q, hq, he⟩) h2, fun q hq => by
        rcases List.mem_cons.1 hq with rfl | hq
        · exact ⟨q, List.mem_cons_self, rfl⟩
        · obtain ⟨r, hr, he⟩ := h3 q hq
          exact ⟨r, List.mem_cons_of_mem _ hr, he⟩⟩
/-- A row of boxes at their places that is written out, and the box of them. -/
theorem set_in {t : TypeId} {b : Nat} (wd : Int) (xs : List S49) (css : List (List Value)) (hx : xs.length < 1599289640401) (hB : Lit W (.cells css.flatten.toArray t) W1) (h : In w W g F c z e L) (hb : b = W.heap.size) (hK : Each (k49.K w) xs css) : Calls Try.prog 43 #[.pointer (some ⟨g, 0, none⟩), .int .i64 wd, .slice (some ⟨b, 0, none⟩) xs.length xs.length] W1 fun r w' => ∃ A n, r = .returned (.tuple #[.agg #[.int .i64 (setV e wd xs).1, .int .i64 (setV e wd xs).2.1, .int .i64 (setV e wd xs).2.2.1, .int .i64 (setV e wd xs).2.2.2.1, .int .i64 (setV e wd xs).2.2.2.2.1, .int .i64 (setV e wd xs).2.2.2.2.2.1, .slice A (setV e wd xs).2.2.2.2.2.2.1.length n], .int .i64 (setV e wd xs).2.2.2.2.2.2.2]) ∧ (setV e wd xs).2.2.2.2.2.2.1.length ≤ n ∧ Kd.F k49 w' (fun k => ∀ p ∈ L, k ≠ p.1) A (setV e wd xs).2.2.2.2.2.2.1.length (setV e wd xs).2.2.2.2.2.2.1 ∧ In w w' g F c z e L := by
  subst hb
  have h1 := h.lit hB
  obtain ⟨A6, c6, A7, c7, A8, c8, A9, c9, A10, c10, A11, c11, A12, c12, A13, c13, A15, c15, A16, c16, hg, hr⟩ := id h1.bd
  obtain ⟨M, m1, m2, m3⟩ := once L
  have hP : Pd w W1 ((g, .cells _ 66 (0, 0)) :: (W.heap.size, .cells css.flatten.toArray t (0, 0)) :: M) :=
    ⟨⟨h1.bel, fun p hp => by
        rcases List.mem_cons.1 hp with rfl | hp
        · exact ⟨hg, h1.ge⟩
        · rcases List.mem_cons.1 hp with rfl | hp
          · exact ⟨hB.blk, by have := h.ge; have := h.lt; show w.heap.size ≤ W.heap.size; omega⟩
          · exact ⟨(h1.loc p (m1 p hp)).1, (h1.loc p (m1 p hp)).2.2⟩⟩,
      List.Pairwise.cons (fun p hp => by
        rcases List.mem_cons.1 hp with rfl | hp
        · have := h.lt; show W.heap.size ≠ g; omega
        · exact (h1.loc p (m1 p hp)).2.1) (List.Pairwise.cons (fun p hp => by have := blk_lt (h.loc p (m1 p hp)).1; show p.1 ≠ W.heap.size; omega) m2)⟩
  refine (set_sd (n := xs.length) wd xs hx rfl hP ((Src.block hK).mono fun _ h => h.swp)).mono ?_
  rintro r w' ⟨A, n, hr1, hl, hF, hp⟩
  refine ⟨A, n, hr1, hl, Kd.F_mono hF (fun k hk p hp he => ?_), ?_⟩
  · obtain ⟨q, hq, hqe⟩ := m3 p hp
    exact hk q (List.mem_cons_of_mem _ (List.mem_cons_of_mem _ hq)) (by rw [hqe]; exact he)
  · refine ⟨h1.bd.heap (hp.hd.trans hg.symm), hp.bel, fun p hp1 => ?_⟩
    obtain ⟨q, hq, hqe⟩ := m3 p hp1
    have e1 := (hp.loc q (List.mem_cons_of_mem _ (List.mem_cons_of_mem _ hq))).1
    have e2 := (h1.loc q (m1 q hq)).1
    have e3 := h1.loc p hp1
    rw [hqe] at e1 e2
    exact ⟨e1.trans (e2.symm.trans e3.1), e3.2⟩
end

end Go.Proofs.Ytjkbblnebpgpfaa.P

