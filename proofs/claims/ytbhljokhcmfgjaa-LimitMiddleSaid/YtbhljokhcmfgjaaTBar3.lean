import Derived.Test.YtbhljokhcmfgjaaTBar2
/- bar.line, bar.strut, bar.Need: short walks. Printed by a program of this work (mkbar3.py). -/
set_option linter.unusedVariables false
set_option linter.unusedSimpArgs false
namespace Go.Proofs.Ytbhljokhcmfgjaa.P
open Go.RowKit Go.Proofs.YtbhljokhcmfgjaaW.PrintWords Go.Proofs.YtbhljokhcmfgjaaW.PrintLast Go.Proofs.YtbhljokhcmfgjaaW.PrintMore

theorem cells9 {W : World} {b : Nat} {v0 v1 v2 v3 v4 v5 v6 v7 v8 : Value} {t : TypeId} (h : W.heap[b]? = some (.cells #[v0, v1, v2, v3, v4, v5, v6, v7, v8] t (0, 0))) :
    W.cell? ⟨b, 0, none⟩ = some v0 ∧ W.cell? ⟨b, 1, none⟩ = some v1 ∧ W.cell? ⟨b, 2, none⟩ = some v2 ∧ W.cell? ⟨b, 3, none⟩ = some v3 ∧ W.cell? ⟨b, 4, none⟩ = some v4 ∧ W.cell? ⟨b, 5, none⟩ = some v5 ∧ W.cell? ⟨b, 6, none⟩ = some v6 ∧ W.cell? ⟨b, 7, none⟩ = some v7 ∧ W.cell? ⟨b, 8, none⟩ = some v8 := ⟨blk_cell h 0, blk_cell h 1, blk_cell h 2, blk_cell h 3, blk_cell h 4, blk_cell h 5, blk_cell h 6, blk_cell h 7, blk_cell h 8⟩
theorem froz9 {W : World} {b : Nat} {v0 v1 v2 v3 v4 v5 v6 v7 v8 : Value} {t : TypeId} (h : W.heap[b]? = some (.cells #[v0, v1, v2, v3, v4, v5, v6, v7, v8] t (0, 0))) :
    W.frozen? ⟨b, 0, none⟩ = false ∧ W.frozen? ⟨b, 1, none⟩ = false ∧ W.frozen? ⟨b, 2, none⟩ = false ∧ W.frozen? ⟨b, 3, none⟩ = false ∧ W.frozen? ⟨b, 4, none⟩ = false ∧ W.frozen? ⟨b, 5, none⟩ = false ∧ W.frozen? ⟨b, 6, none⟩ = false ∧ W.frozen? ⟨b, 7, none⟩ = false ∧ W.frozen? ⟨b, 8, none⟩ = false := ⟨blk_frozen h 0, blk_frozen h 1, blk_frozen h 2, blk_frozen h 3, blk_frozen h 4, blk_frozen h 5, blk_frozen h 6, blk_frozen h 7, blk_frozen h 8⟩
set_option maxRecDepth 100000 in
set_option maxHeartbeats 1000000 in
theorem line_calls (w : World) (wd th x y : Int) : Calls Try.prog 71 #[.int .i64 wd, .int .i64 th, .int .i64 x, .int .i64 y] w fun r w' => r = .returned (.agg #[.int .i64 x, .int .i64 y, .int .i64 2, .int .i64 wd, .int .i64 th, .int .i64 0, .int .i64 0, .int .i64 0, .slice none 0 0]) ∧ Below w.heap.size w w' := by
  have hu49 := Try.underlying41
  have HP := Aside0.mk (Pd.start w)
  go_enter Try.func71, Try.ntmps71
  go_wp2_with (first | ((with_reducible refine gate_dst (N := 8) rfl ?_); refine box_event ?hg (N := 8) ?hd (cs := #[.int .i64 0, .int .i64 0, .int .i64 0, .int .i64 0, .int .i64 0, .int .i64 0, .int .i64 0, .int .i64 0, .slice none 0 0]) (t := 41) ?hr ?_; (case hd => rfl); (case hg => rfl); (case hr => first | (go_simp; done) | (go_simp; rfl)); intro gr hg wk hbox hb; replace HP := Aside0.mk (Pd.box HP.out hg hbox hb); clear hg hbox hb; have hcz := cells9 (Pd.hd HP.out); have hfz := froz9 (Pd.hd HP.out)))
  clear hcz hfz
  refine bodyPost_ret (results_cell_row rfl _ _ gr 41 #[.int .i64 x, .int .i64 y, .int .i64 2, .int .i64 wd, .int .i64 th, .int .i64 0, .int .i64 0, .int .i64 0, .slice none 0 0] (0, 0) _ rfl (put9 (Pd.hd HP.out)) hu49 rfl (by kernel_rfl)) rfl ?_
  exact ⟨rfl, bel9 HP.out.bel (HP.out.loc _ List.mem_cons_self).2⟩
set_option maxRecDepth 100000 in
set_option maxHeartbeats 1000000 in
theorem strut_calls (w : World) (hh dd : Int) : Calls Try.prog 72 #[.int .i64 hh, .int .i64 dd] w fun r w' => r = .returned (.agg #[.int .i64 0, .int .i64 0, .int .i64 0, .int .i64 0, .int .i64 hh, .int .i64 dd, .int .i64 0, .int .i64 0, .slice none 0 0]) ∧ Below w.heap.size w w' := by
  have hu49 := Try.underlying41
  have HP := Aside0.mk (Pd.start w)
  go_enter Try.func72, Try.ntmps72
  go_wp2_with (first | ((with_reducible refine gate_dst (N := 4) rfl ?_); refine box_event ?hg (N := 4) ?hd (cs := #[.int .i64 0, .int .i64 0, .int .i64 0, .int .i64 0, .int .i64 0, .int .i64 0, .int .i64 0, .int .i64 0, .slice none 0 0]) (t := 41) ?hr ?_; (case hd => rfl); (case hg => rfl); (case hr => first | (go_simp; done) | (go_simp; rfl)); intro gr hg wk hbox hb; replace HP := Aside0.mk (Pd.box HP.out hg hbox hb); clear hg hbox hb; have hcz := cells9 (Pd.hd HP.out); have hfz := froz9 (Pd.hd HP.out)))
  clear hcz hfz
  refine bodyPost_ret (results_cell_row rfl _ _ gr 41 #[.int .i64 0, .int .i64 0, .int .i64 0, .int .i64 0, .int .i64 hh, .int .i64 dd, .int .i64 0, .int .i64 0, .slice none 0 0] (0, 0) _ rfl (put9 (Pd.hd HP.out)) hu49 rfl (by kernel_rfl)) rfl ?_
  exact ⟨rfl, bel9 HP.out.bel (HP.out.loc _ List.mem_cons_self).2⟩

section
variable {w W W1 : World} {L : List (Nat × Obj)} {g : Nat} {e : Int} {rest : List Value} {t : TypeId}
theorem Pd.alloc (h : Pd w W L) (o : Obj) : Pd w (W.alloc o) L := h.below ((Below.refl _ _).alloc (Nat.le_refl _) o)
theorem Pd.swap {a b : Nat × Obj} (h : Pd w W (a :: b :: L)) : Pd w W (b :: a :: L) :=
  ⟨⟨h.bel, fun p hp => h.loc p (by simp only [List.mem_cons] at hp ⊢; rcases hp with h | h | h <;> simp [h])⟩,
   List.Pairwise.cons (fun p hp => by
      rcases List.mem_cons.1 hp with rfl | hp
      · exact fun he => (List.pairwise_cons.1 h.dis).1 b List.mem_cons_self he.symm
      · exact (List.pairwise_cons.1 (List.pairwise_cons.1 h.dis).2).1 p hp)
     (List.Pairwise.cons (fun p hp => (List.pairwise_cons.1 h.dis).1 p (List.mem_cons_of_mem _ hp)) (List.pairwise_cons.1 (List.pairwise_cons.1 h.dis).2).2)⟩
/-- A row of boxes written out, right ahead of the call. -/
theorem need_row {b : Nat} {t1 : TypeId} (xs : List S25) (css : List (List Value)) (hB : Lit W (.cells css.flatten.toArray t1) W1) (h : Pd w W ((g, .cells (Value.int .i64 e :: rest).toArray t (0, 0)) :: L)) (hb : b = W.heap.size) (hx : xs.length ≤ 9223372036854775807) (hK : Each (k25.K w) xs css) : Calls Try.prog 68 #[.pointer (some ⟨g, 0, none⟩), .slice (some ⟨b, 0, none⟩) xs.length xs.length] W1 fun r w' => r = .returned (.tuple #[]) ∧ Pd w w' ((g, .cells (Value.int .i64 (needE xs e) :: rest).toArray t (0, 0)) :: L) := by
  subst hb
  exact (need_pd xs css ((h.lit hB).swap) hx hK).mono fun r w' ⟨h1, h2⟩ => ⟨h1, h2.swap.tl⟩
/-- A sum of a row written out, right ahead of the call. -/
theorem sum_row_pd {b : Nat} {t1 : TypeId} (xs : List Int) (hB : Lit W (.cells (encs (Value.int .i64) xs).toArray t1) W1) (h : Pd w W ((g, .cells (Value.int .i64 e :: rest).toArray t (0, 0)) :: L)) (hb : b = W.heap.size) (hx : xs.length ≤ 9223372036854775807) : Calls Try.prog 69 #[.pointer (some ⟨g, 0, none⟩), .slice (some ⟨b, 0, none⟩) xs.length xs.length] W1 fun r w' => r = .returned (.int .i64 (keepV e (toldOf (sumR xs))).1) ∧ Pd w w' ((g, .cells (Value.int .i64 (keepV e (toldOf (sumR xs))).2 :: rest).toArray t (0, 0)) :: L) := by
  subst hb
  exact (sum_pd (h.lit hB).swap xs (h.lit hB).hd hx).mono fun r w' ⟨h1, h2⟩ => ⟨h1, h2.swap.tl⟩
theorem sum2_pd {b : Nat} {t1 : TypeId} {x0 x1 : Int} (hB : Lit W (.cells #[.int .i64 x0, .int .i64 x1] t1) W1) (h : Pd w W ((g, .cells (Value.int .i64 e :: rest).toArray t (0, 0)) :: L)) (hb : b = W.heap.size) : Calls Try.prog 69 #[.pointer (some ⟨g, 0, none⟩), .slice (some ⟨b, 0, none⟩) 2 2] W1 fun r w' => r = .returned (.int .i64 (keepV e (toldOf (sumR [x0, x1]))).1) ∧ Pd w w' ((g, .cells (Value.int .i64 (keepV e (toldOf (sumR [x0, x1]))).2 :: rest).toArray t (0, 0)) :: L) :=
  sum_row_pd [x0, x1] hB h hb (by simp)
theorem sum3_pd {b : Nat} {t1 : TypeId} {x0 x1 x2 : Int} (hB : Lit W (.cells #[.int .i64 x0, .int .i64 x1, .int .i64 x2] t1) W1) (h : Pd w W ((g, .cells (Value.int .i64 e :: rest).toArray t (0, 0)) :: L)) (hb : b = W.heap.size) : Calls Try.prog 69 #[.pointer (some ⟨g, 0, none⟩), .slice (some ⟨b, 0, none⟩) 3 3] W1 fun r w' => r = .returned (.int .i64 (keepV e (toldOf (sumR [x0, x1, x2]))).1) ∧ Pd w w' ((g, .cells (Value.int .i64 (keepV e (toldOf (sumR [x0, x1, x2]))).2 :: rest).toArray t (0, 0)) :: L) :=
  sum_row_pd [x0, x1, x2] hB h hb (by simp)
theorem sum4_pd {b : Nat} {t1 : TypeId} {x0 x1 x2 x3 : Int} (hB : Lit W (.cells #[.int .i64 x0, .int .i64 x1, .int .i64 x2, .int .i64 x3] t1) W1) (h : Pd w W ((g, .cells (Value.int .i64 e :: rest).toArray t (0, 0)) :: L)) (hb : b = W.heap.size) : Calls Try.prog 69 #[.pointer (some ⟨g, 0, none⟩), .slice (some ⟨b, 0, none⟩) 4 4] W1 fun r w' => r = .returned (.int .i64 (keepV e (toldOf (sumR [x0, x1, x2, x3]))).1) ∧ Pd w w' ((g, .cells (Value.int .i64 (keepV e (toldOf (sumR [x0, x1, x2, x3]))).2 :: rest).toArray t (0, 0)) :: L) :=
  sum_row_pd [x0, x1, x2, x3] hB h hb (by simp)
theorem need1_pd {q : Nat} {t1 : TypeId} {b0 : S25} {Ab0 : Option Addr} {nb0 : Nat} (hB : Lit W (.cells #[.int .i64 b0.f0, .int .i64 b0.f1, .int .i64 b0.f2, .int .i64 b0.f3, .int .i64 b0.f4, .int .i64 b0.f5, .slice Ab0 b0.f6.length nb0] t1) W1) (h : Pd w W ((g, .cells (Value.int .i64 e :: rest).toArray t (0, 0)) :: L)) (hq : q = W.heap.size) (hKb0 : k25.K w b0 [.int .i64 b0.f0, .int .i64 b0.f1, .int .i64 b0.f2, .int .i64 b0.f3, .int .i64 b0.f4, .int .i64 b0.f5, .slice Ab0 b0.f6.length nb0]) : Calls Try.prog 68 #[.pointer (some ⟨g, 0, none⟩), .slice (some ⟨q, 0, none⟩) 1 1] W1 fun r w' => r = .returned (.tuple #[]) ∧ Pd w w' ((g, .cells (Value.int .i64 (needE [b0] e) :: rest).toArray t (0, 0)) :: L) :=
  need_row [b0] [[.int .i64 b0.f0, .int .i64 b0.f1, .int .i64 b0.f2, .int .i64 b0.f3, .int .i64 b0.f4, .int .i64 b0.f5, .slice Ab0 b0.f6.length nb0]] hB h hq (by simp) ⟨hKb0, trivial⟩
theorem need2_pd {q : Nat} {t1 : TypeId} {b0 b1 : S25} {Ab0 : Option Addr} {nb0 : Nat} {Ab1 : Option Addr} {nb1 : Nat} (hB : Lit W (.cells #[.int .i64 b0.f0, .int .i64 b0.f1, .int .i64 b0.f2, .int .i64 b0.f3, .int .i64 b0.f4, .int .i64 b0.f5, .slice Ab0 b0.f6.length nb0, .int .i64 b1.f0, .int .i64 b1.f1, .int .i64 b1.f2, .int .i64 b1.f3, .int .i64 b1.f4, .int .i64 b1.f5, .slice Ab1 b1.f6.length nb1] t1) W1) (h : Pd w W ((g, .cells (Value.int .i64 e :: rest).toArray t (0, 0)) :: L)) (hq : q = W.heap.size) (hKb0 : k25.K w b0 [.int .i64 b0.f0, .int .i64 b0.f1, .int .i64 b0.f2, .int .i64 b0.f3, .int .i64 b0.f4, .int .i64 b0.f5, .slice Ab0 b0.f6.length nb0]) (hKb1 : k25.K w b1 [.int .i64 b1.f0, .int .i64 b1.f1, .int .i64 b1.f2, .int .i64 b1.f3, .int .i64 b1.f4, .int .i64 b1.f5, .slice Ab1 b1.f6.length nb1]) : Calls Try.prog 68 #[.pointer (some ⟨g, 0, none⟩), .slice (some ⟨q, 0, none⟩) 2 2] W1 fun r w' => r = .returned (.tuple #[]) ∧ Pd w w' ((g, .cells (Value.int .i64 (needE [b0, b1] e) :: rest).toArray t (0, 0)) :: L) :=
  need_row [b0, b1] [[.int .i64 b0.f0, .int .i64 b0.f1, .int .i64 b0.f2, .int .i64 b0.f3, .int .i64 b0.f4, .int .i64 b0.f5, .slice Ab0 b0.f6.length nb0], [.int .i64 b1.f0, .int .i64 b1.f1, .int .i64 b1.f2, .int .i64 b1.f3, .int .i64 b1.f4, .int .i64 b1.f5, .slice Ab1 b1.f6.length nb1]] hB h hq (by simp) ⟨hKb0, hKb1, trivial⟩
theorem sum2_at {b : Nat} {t1 : TypeId} {x0 x1 : Int} (h : Pd w W ((b, .cells #[.int .i64 x0, .int .i64 x1] t1 (0, 0)) :: (g, .cells (Value.int .i64 e :: rest).toArray t (0, 0)) :: L)) : Calls Try.prog 69 #[.pointer (some ⟨g, 0, none⟩), .slice (some ⟨b, 0, none⟩) 2 2] W fun r w' => r = .returned (.int .i64 (keepV e (toldOf (sumR [x0, x1]))).1) ∧ Pd w w' ((g, .cells (Value.int .i64 (keepV e (toldOf (sumR [x0, x1]))).2 :: rest).toArray t (0, 0)) :: L) :=
  (sum_pd h.swap [x0, x1] h.hd (by simp)).mono fun r w' ⟨h1, h2⟩ => ⟨h1, h2.swap.tl⟩
theorem sum3_at {b : Nat} {t1 : TypeId} {x0 x1 x2 : Int} (h : Pd w W ((b, .cells #[.int .i64 x0, .int .i64 x1, .int .i64 x2] t1 (0, 0)) :: (g, .cells (Value.int .i64 e :: rest).toArray t (0, 0)) :: L)) : Calls Try.prog 69 #[.pointer (some ⟨g, 0, none⟩), .slice (some ⟨b, 0, none⟩) 3 3] W fun r w' => r = .returned (.int .i64 (keepV e (toldOf (sumR [x0, x1, x2]))).1) ∧ Pd w w' ((g, .cells (Value.int .i64 (keepV e (toldOf (sumR [x0, x1, x2]))).2 :: rest).toArray t (0, 0)) :: L) :=
  (sum_pd h.swap [x0, x1, x2] h.hd (by simp)).mono fun r w' ⟨h1, h2⟩ => ⟨h1, h2.swap.tl⟩
theorem sum4_at {b : Nat} {t1 : TypeId} {x0 x1 x2 x3 : Int} (h : Pd w W ((b, .cells #[.int .i64 x0, .int .i64 x1, .int .i64 x2, .int .i64 x3] t1 (0, 0)) :: (g, .cells (Value.int .i64 e :: rest).toArray t (0, 0)) :: L)) : Calls Try.prog 69 #[.pointer (some ⟨g, 0, none⟩), .slice (some ⟨b, 0, none⟩) 4 4] W fun r w' => r = .returned (.int .i64 (keepV e (toldOf (sumR [x0, x1, x2, x3]))).1) ∧ Pd w w' ((g, .cells (Value.int .i64 (keepV e (toldOf (sumR [x0, x1, x2, x3]))).2 :: rest).toArray t (0, 0)) :: L) :=
  (sum_pd h.swap [x0, x1, x2, x3] h.hd (by simp)).mono fun r w' ⟨h1, h2⟩ => ⟨h1, h2.swap.tl⟩
end
def needV (F : S63) (c z : Int) (b : S25) : Int × Int :=
  let g := keepV 0 (gapV F c z)
  let t := keepV g.2 (konstV F 51 c z)
  keepV (needE [b] t.2) (toldOf (sumR [g.1, t.1, b.f2, b.f3]))

set_option maxRecDepth 100000 in
set_option maxHeartbeats 2000000 in
theorem barNeed_calls (F : S63) (c z : Int) (b : S25) (Ab : Option Addr) (nb : Nat) (cs : List Value) (w : World) (hF : FontIn w F cs) (lb : b.f6.length ≤ nb) (hb : Kd.C k41 w Ab b.f6.length b.f6) :
    Calls Try.prog 73 #[.agg cs.toArray, .int .i64 c, .int .i64 z, .agg #[.int .i64 b.f0, .int .i64 b.f1, .int .i64 b.f2, .int .i64 b.f3, .int .i64 b.f4, .int .i64 b.f5, .slice Ab b.f6.length nb]] w fun r w' => r = .returned (.tuple #[.int .i64 (needV F c z b).1, .int .i64 (needV F c z b).2]) ∧ Below w.heap.size w w' := by
  have hu39 := Try.underlying25
  have hu36 := Try.underlying63
  have hu86 := Try.underlying110
  obtain ⟨R, hR⟩ : ∃ R, R = needV F c z b := ⟨_, rfl⟩
  rw [← hR]
  have HR := Aside0.mk hR
  clear hR
  obtain ⟨A6, c6, A7, c7, A8, c8, A9, c9, A10, c10, A11, c11, A12, c12, A13, c13, A15, c15, A16, c16, hcs, hcr⟩ := id hF
  subst hcs
  clear hcr
  have HF := Aside0.mk hF
  have HKb := Aside0.mk (k25_mk w b lb hb)
  clear hF hb lb
  go_enter Try.func73, Try.ntmps73
  have HP := Aside0.mk (Pd.start w)
  go_wp2_with (first | ((with_reducible refine gate_dst (N := 4) rfl ?_); refine box_event ?hg (N := 4) ?hd (cs := #[.int .i64 F.f0.f0, .int .i64 F.f0.f1, .int .i64 F.f0.f2, .int .i64 F.f0.f3, .int .i64 F.f0.f4, .bool F.f0.f5, .slice A6 F.f1.length c6, .slice A7 F.f2.length c7, .slice A8 F.f3.length c8, .slice A9 F.f4.f0.length c9, .slice A10 F.f4.f1.length c10, .slice A11 F.f4.f2.length c11, .slice A12 F.f4.f3.length c12, .slice A13 F.f4.f4.length c13, .int .i64 F.f4.f5.f0, .slice A15 F.f4.f5.f1.length c15, .slice A16 F.f4.f5.f2.length c16]) (t := 63) ?hr ?_; (case hd => rfl); (case hg => rfl); (case hr => first | (go_simp; done) | (go_simp; rfl)); intro gf hg wk hbox hb; replace HP := Aside0.mk (Pd.box (by with_reducible repeat (first | exact HP.out | apply Pd.drew)) hg hbox hb); clear hg hbox hb) | ((with_reducible refine gate_dst (N := 7) rfl ?_); refine box_event ?hg (N := 7) ?hd (cs := #[.int .i64 b.f0, .int .i64 b.f1, .int .i64 b.f2, .int .i64 b.f3, .int .i64 b.f4, .int .i64 b.f5, .slice Ab b.f6.length nb]) (t := 25) ?hr ?_; (case hd => rfl); (case hg => rfl); (case hr => first | (go_simp; done) | (go_simp; rfl)); intro gb hg wk hbox hb; replace HP := Aside0.mk (Pd.box (by with_reducible repeat (first | exact HP.out | apply Pd.drew)) hg hbox hb); clear hg hbox hb) | ((with_reducible refine gate_dst (N := 14) rfl ?_); refine wpList_load_row rfl 63 (.tmp 4) rfl gf (by rfl) 63 #[.int .i64 F.f0.f0, .int .i64 F.f0.f1, .int .i64 F.f0.f2, .int .i64 F.f0.f3, .int .i64 F.f0.f4, .bool F.f0.f5, .slice A6 F.f1.length c6, .slice A7 F.f2.length c7, .slice A8 F.f3.length c8, .slice A9 F.f4.f0.length c9, .slice A10 F.f4.f1.length c10, .slice A11 F.f4.f2.length c11, .slice A12 F.f4.f3.length c12, .slice A13 F.f4.f4.length c13, .int .i64 F.f4.f5.f0, .slice A15 F.f4.f5.f1.length c15, .slice A16 F.f4.f5.f2.length c16] (0, 0) _ (Pd.hd (Pd.tl HP.out)) hu36 rfl info_font ?_) | ((with_reducible refine gate_dst (N := 18) rfl ?_); refine box_event ?hg (N := 18) ?hd (cs := #[.int .i64 0, .int .i64 F.f0.f0, .int .i64 F.f0.f1, .int .i64 F.f0.f2, .int .i64 F.f0.f3, .int .i64 F.f0.f4, .bool F.f0.f5, .slice A6 F.f1.length c6, .slice A7 F.f2.length c7, .slice A8 F.f3.length c8, .slice A9 F.f4.f0.length c9, .slice A10 F.f4.f1.length c10, .slice A11 F.f4.f2.length c11, .slice A12 F.f4.f3.length c12, .slice A13 F.f4.f4.length c13, .int .i64 F.f4.f5.f0, .slice A15 F.f4.f5.f1.length c15, .slice A16 F.f4.f5.f2.length c16, .int .i64 c, .int .i64 z]) (t := 110) ?hr ?_; (case hd => rfl); (case hg => rfl); (case hr => first | (go_simp; done) | (go_simp; rfl)); intro g hg wk hbox hb; replace HP := Aside0.mk (Pd.box (by with_reducible repeat (first | exact HP.out | apply Pd.drew)) hg hbox hb); clear hg hbox hb))
  refine (gap_pd (by with_reducible repeat (first | exact HP.out | apply Pd.drew)) HF.out (by rfl)).mono ?_
  rintro _ w1 ⟨rfl, hp⟩
  replace HP := Aside0.mk hp
  clear hp
  obtain ⟨gp, h_gp⟩ : ∃ gp, gp = keepV 0 (gapV F c z) := ⟨_, rfl⟩
  rw [← h_gp] at HP ⊢
  have H_gp := Aside0.mk h_gp
  clear h_gp
  go_wp2_with fail
  refine (konst_pd (by with_reducible repeat (first | exact HP.out | apply Pd.drew)) HF.out (by rfl) 51).mono ?_
  rintro _ w1 ⟨rfl, hp⟩
  replace HP := Aside0.mk hp
  clear hp
  obtain ⟨th, h_th⟩ : ∃ th, th = keepV gp.2 (konstV F 51 c z) := ⟨_, rfl⟩
  rw [← h_th] at HP ⊢
  have H_th := Aside0.mk h_th
  clear h_th
  go_wp2_with fail
  go_region_held3 (fun w' => w'.cell? ⟨gb, 0, none⟩ = some (.int .i64 b.f0) ∧ w'.cell? ⟨gb, 1, none⟩ = some (.int .i64 b.f1) ∧ w'.cell? ⟨gb, 2, none⟩ = some (.int .i64 b.f2) ∧ w'.cell? ⟨gb, 3, none⟩ = some (.int .i64 b.f3) ∧ w'.cell? ⟨gb, 4, none⟩ = some (.int .i64 b.f4) ∧ w'.cell? ⟨gb, 5, none⟩ = some (.int .i64 b.f5) ∧ w'.cell? ⟨gb, 6, none⟩ = some (.slice Ab b.f6.length nb)) (first | with_reducible exact box_cells (Pd.hd (Pd.tl (by with_reducible repeat (first | exact HP.out | apply Pd.alloc | apply Pd.drew))))) (first | (go_at_call 68; refine (need1_pd (by with_reducible first | exact Lit.refl _ _ | exact Lit.drew _ _) (by with_reducible repeat (first | exact HP.out | apply Pd.alloc | apply Pd.drew)) (by simp) HKb.out).mono ?_; rintro _ w1 ⟨rfl, hp⟩; replace HP := Aside0.mk hp; clear hp))
  obtain ⟨e2, h_e2⟩ : ∃ e2, e2 = needE [b] th.2 := ⟨_, rfl⟩
  rw [← h_e2] at HP
  have H_e2 := Aside0.mk h_e2
  clear h_e2
  go_wp2_with fail
  go_region_held3 (fun w' => w'.cell? ⟨gb, 0, none⟩ = some (.int .i64 b.f0) ∧ w'.cell? ⟨gb, 1, none⟩ = some (.int .i64 b.f1) ∧ w'.cell? ⟨gb, 2, none⟩ = some (.int .i64 b.f2) ∧ w'.cell? ⟨gb, 3, none⟩ = some (.int .i64 b.f3) ∧ w'.cell? ⟨gb, 4, none⟩ = some (.int .i64 b.f4) ∧ w'.cell? ⟨gb, 5, none⟩ = some (.int .i64 b.f5) ∧ w'.cell? ⟨gb, 6, none⟩ = some (.slice Ab b.f6.length nb)) (first | with_reducible exact box_cells (Pd.hd (Pd.tl (by with_reducible repeat (first | exact HP.out | apply Pd.alloc | apply Pd.drew))))) (first | (go_at_call 69; (try simp only [i64_w]); refine (sum4_pd (by with_reducible first | exact Lit.refl _ _ | exact Lit.drew _ _) (by with_reducible repeat (first | exact HP.out | apply Pd.alloc | apply Pd.drew)) (by simp)).mono ?_; rintro _ w1 ⟨rfl, hp⟩; replace HP := Aside0.mk hp; clear hp))
  obtain ⟨n, h_n⟩ : ∃ n, n = keepV e2 (toldOf (sumR [gp.1, th.1, b.f2, b.f3])) := ⟨_, rfl⟩
  rw [← h_n] at HP ⊢
  have H_n := Aside0.mk h_n
  clear h_n
  have hc0 := head_cell (Pd.hd (by with_reducible repeat (first | exact HP.out | apply Pd.drew)))
  go_wp2_with fail
  go_region_held3 (fun w' => w'.cell? ⟨g, 0, none⟩ = some (.int .i64 n.2)) (first | with_reducible exact head_cell (Pd.hd (by with_reducible repeat (first | exact HP.out | apply Pd.alloc | apply Pd.drew)))) (fail)
  go_wp2
  go_ret2
  obtain rfl : n = R := by
    rw [HR.out]
    have h1 := H_gp.out
    have h2 := H_th.out
    have h3 := H_e2.out
    have h4 := H_n.out
    subst h1 h2 h3 h4
    unfold needV
    exact rfl
  exact ⟨rfl, Pre.bel (Pd.toPre (by with_reducible repeat (first | exact HP.out | apply Pd.drew)))⟩
end Go.Proofs.Ytbhljokhcmfgjaa.P
