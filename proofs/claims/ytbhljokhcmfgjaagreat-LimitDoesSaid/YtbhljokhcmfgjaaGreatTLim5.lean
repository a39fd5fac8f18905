import Derived.Test.YtbhljokhcmfgjaaGreatTLim4
import Derived.Deep.Cut
import Derived.Laws.AppendOwnNone
/- What limit.Limits' walk needs: a row as a block with what stands in it; an empty literal; an element's cells; the state's names. -/
set_option linter.unusedVariables false
set_option linter.unusedSimpArgs false
namespace Go.Proofs.YtbhljokhcmfgjaaGreat.P
open Go.RowKit Go.Proofs.YtbhljokhcmfgjaaGreatW.PrintWords Go.Proofs.YtbhljokhcmfgjaaGreatW.PrintLast Go.Proofs.YtbhljokhcmfgjaaGreatW.PrintMore

def OwnR {α : Type} (d : Kd α) (e : TypeId) (w : World) (q cap : Nat) (o : Obj) (xs : List α) : Prop := ∃ cur css, o = .cells cur e (0, 0) ∧ Each (d.K w) xs css ∧ xs.length ≤ cap ∧ cap ≤ maxLen ∧ cur.size = cap * d.sz ∧ cur.toList.take (xs.length * d.sz) = css.flatten
section
variable {α : Type} {d : Kd α} {e : TypeId} {w W : World} {L : List (Nat × Obj)} {xs : List α} {q cap n : Nat} {ob : Obj}
theorem Row.outR (h : Row d e w W L (.slice (some ⟨q, 0, none⟩) n cap) xs) : ∃ o, OwnR d e w q cap o xs ∧ Pd w W ((q, o) :: L) := by
  rcases h with ⟨h, _⟩ | ⟨q', cap', cur, css, hv, hK, hp, h1, h2, h3, h4⟩
  · cases h
  · injection hv with e1 e2 e3
    injection e1 with e1
    injection e1 with e1
    subst e1 e3
    exact ⟨_, ⟨cur, css, rfl, hK, h1, h2, h3, h4⟩, hp⟩
theorem OwnR.row (h : OwnR d e w q cap ob xs) (hp : Pd w W ((q, ob) :: L)) : Row d e w W L (.slice (some ⟨q, 0, none⟩) xs.length cap) xs := by
  obtain ⟨cur, css, rfl, h1, h2, h3, h4, h5⟩ := h
  exact .inr ⟨q, cap, cur, css, rfl, h1, hp, h2, h3, h4, h5⟩
theorem OwnR.C (h : OwnR d e w q cap ob xs) (hd : Kd.Heap d) (hp : Pd w W ((q, ob) :: L)) (hx : xs.length ≤ 9223372036854775807) : Kd.C d W (some ⟨q, 0, none⟩) xs.length xs := by
  obtain ⟨A, n, hv, _, hF⟩ := (h.row hp).reads hd hx
  injection hv with e1
  rw [e1]
  exact hF W (fun _ _ _ => rfl)
theorem Row.owns {v : Value} (h : Row d e w W L v xs) : ∃ cells, W.ownsRow w.heap.size e d.sz v xs.length cells := by
  rcases h with ⟨rfl, rfl, h⟩ | ⟨q, cap, cur, css, rfl, hE, h, hc, hmx, hcs, htk⟩
  · exact ⟨[], World.ownsRow_nil _ _ _ _⟩
  · exact ⟨css.flatten, hE.flat (fun x c h => d.K_len h), .inr ⟨q, cap, cur, rfl, (h.loc _ List.mem_cons_self).2, h.hd, hc, hmx, hcs, htk⟩⟩
theorem Row.empty (hp : Pd w W ((q, .cells #[] e (0, 0)) :: L)) : Row d e w W L (.slice (some ⟨q, 0, none⟩) 0 0) [] := .inr ⟨q, 0, #[], [], rfl, trivial, hp, Nat.le_refl _, Nat.zero_le _, by simp, by simp⟩
theorem Pd.oldcell (h : Pd w W L) {p : Addr} {v : Value} (hv : w.cell? p = some v) : W.cell? p = some v := by
  rw [h.bel.cell (World.block_lt_of_cell? w _ hv)]
  exact hv
theorem Pd.s1 {q : Nat} {t : TypeId} {u v : Value} (h : Pd w W ((q, .cells #[u] t (0, 0)) :: L)) : Pd w (W.setCell ⟨q, 0, none⟩ v) ((q, .cells #[v] t (0, 0)) :: L) :=
  h.put (blk_put h.hd 0 v rfl) (fun k hk => Below.heap_setCell _ ⟨q, 0, none⟩ v k hk) (h.bel.setCell (p := ⟨q, 0, none⟩) (h.loc _ List.mem_cons_self).2 v)
theorem Pd.pmL {L' : List (Nat × Obj)} (h : Pd w W L) (hp : L.Perm L') : Pd w W L' := ⟨⟨h.bel, fun p hp' => h.loc p (hp.mem_iff.2 hp')⟩, (hp.pairwise_iff (fun {_ _} h => Ne.symm h)).1 h.dis⟩
theorem Pd.thirdL {a b c : Nat × Obj} (h : Pd w W (a :: b :: c :: L)) : Pd w W (c :: a :: b :: L) := h.pmL ((List.Perm.cons a (List.Perm.swap c b L)).trans (List.Perm.swap c a (b :: L)))
/-- A cell that lies third is stored into, the second block is let go. -/
theorem Pd.stMid {a b : Nat × Obj} {q : Nat} {t : TypeId} {u v : Value} (h : Pd w W (a :: b :: (q, .cells #[u] t (0, 0)) :: L)) : Pd w (W.setCell ⟨q, 0, none⟩ v) (a :: (q, .cells #[v] t (0, 0)) :: L) := (h.thirdL.s1 (v := v)).thirdL.tl.swp
theorem Pd.foldDl {P : Program} {C : Code} {a : Act} {Q : Exit → Act → World → Prop} {w W : World} {L : List (Nat × Obj)} (h : Pd w W L) (k : ∀ W', Pd w W' L → C.wp P Q a W') : C.wp P Q a W := k W h
theorem Pd.fifthL {a b c d p : Nat × Obj} (h : Pd w W (a :: b :: c :: d :: p :: L)) : Pd w W (p :: a :: b :: c :: d :: L) :=
  h.pmL ((((List.Perm.swap p d L).cons c).cons b).cons a |>.trans ((((List.Perm.swap p c (d :: L)).cons b).cons a).trans (((List.Perm.swap p b (c :: d :: L)).cons a).trans (List.Perm.swap p a (b :: c :: d :: L)))))
theorem Pd.subL {L' : List (Nat × Obj)} (h : Pd w W L) (hs : L'.Sublist L) : Pd w W L' := ⟨⟨h.bel, fun p hp => h.loc p (hs.subset hp)⟩, h.dis.sublist hs⟩
theorem Pd.ne_hd {a b : Nat × Obj} (h : Pd w W (a :: L)) (hb : b ∈ L) : a.1 ≠ b.1 := Ne.symm ((List.pairwise_cons.1 h.dis).1 b hb)
theorem OwnR.lit1 {y : α} {c : List Value} (hK : d.K w y c) : OwnR d e w q 1 (.cells c.toArray e (0, 0)) [y] :=
  ⟨c.toArray, [c], rfl, ⟨hK, trivial⟩, Nat.le_refl _, by unfold maxLen; omega, by simp [d.K_len hK], by have := d.K_len hK; simp [← this]⟩
end
theorem OwnR.at {w : World} {q cap : Nat} {ob : Obj} {xs : List S67} (h : OwnR k67 67 w q cap ob xs) : RowAt w q ob xs := by
  obtain ⟨cur, css, rfl, h1, h2, h3, h4, h5⟩ := h
  refine ⟨css, h1, fun W_ hW j u hu => ?_⟩
  have ha : (⟨q, 0, none⟩ : Addr).add j = ⟨q, j, none⟩ := by
    unfold Addr.add
    split
    · next h => rw [h]
    · simp
  have hl := h1.flat (fun x c h => k67.K_len h)
  have hj : j < xs.length * k67.sz := by
    have := (List.getElem?_eq_some_iff.1 hu).1
    omega
  rw [ha, blk_cell hW, ← Array.getElem?_toList, ← hu, ← h5, List.getElem?_take, if_pos hj]
theorem g0_l {P : Program} {f : FuncId} {xs : Array Value} {W : World} {o : Obj} {R : Ending → World → Prop} (h : Calls P f xs (W.alloc o) R) : Calls P f xs (W.alloc o) R := h
theorem g0d_l {P : Program} {f : FuncId} {xs : Array Value} {W : World} {o : Obj} {R : Ending → World → Prop} (h : Calls P f xs (W.alloc o).drew R) : Calls P f xs (W.alloc o).drew R := h
theorem g1_l {P : Program} {f : FuncId} {a : Value} {k : Nat} {W : World} {o : Obj} {R : Ending → World → Prop} (n : Nat) (h : Calls P f #[a, .slice (some ⟨k, 0, none⟩) n n] (W.alloc o) R) : Calls P f #[a, .slice (some ⟨k, 0, none⟩) n n] (W.alloc o) R := h
theorem g2_l {P : Program} {f : FuncId} {a : Value} {k : Nat} {W : World} {o o1 : Obj} {R : Ending → World → Prop} (n : Nat) (h : Calls P f #[a, .slice (some ⟨k, 0, none⟩) n n] ((W.alloc o1).alloc o) R) : Calls P f #[a, .slice (some ⟨k, 0, none⟩) n n] ((W.alloc o1).alloc o) R := h
theorem g3_l {P : Program} {f : FuncId} {a : Value} {k : Nat} {W : World} {o o1 : Obj} {R : Ending → World → Prop} (n : Nat) (h : Calls P f #[a, .slice (some ⟨k + 1, 0, none⟩) n n] ((W.alloc o1).alloc o) R) : Calls P f #[a, .slice (some ⟨k + 1, 0, none⟩) n n] ((W.alloc o1).alloc o) R := h
theorem g1d_l {P : Program} {f : FuncId} {a : Value} {k : Nat} {W : World} {o : Obj} {R : Ending → World → Prop} (n : Nat) (h : Calls P f #[a, .slice (some ⟨k, 0, none⟩) n n] (W.alloc o).drew R) : Calls P f #[a, .slice (some ⟨k, 0, none⟩) n n] (W.alloc o).drew R := h
theorem g2d_l {P : Program} {f : FuncId} {a : Value} {k : Nat} {W : World} {o o1 : Obj} {R : Ending → World → Prop} (n : Nat) (h : Calls P f #[a, .slice (some ⟨k, 0, none⟩) n n] ((W.alloc o1).alloc o).drew R) : Calls P f #[a, .slice (some ⟨k, 0, none⟩) n n] ((W.alloc o1).alloc o).drew R := h
theorem g3d_l {P : Program} {f : FuncId} {a : Value} {k : Nat} {W : World} {o o1 : Obj} {R : Ending → World → Prop} (n : Nat) (h : Calls P f #[a, .slice (some ⟨k + 1, 0, none⟩) n n] ((W.alloc o1).alloc o).drew R) : Calls P f #[a, .slice (some ⟨k + 1, 0, none⟩) n n] ((W.alloc o1).alloc o).drew R := h
section
variable {w W W1 : World} {L : List (Nat × Obj)} {g : Nat} {e : Int} {pre : List Value} {t : TypeId}
theorem sum2_nxl {b : Nat} {t1 : TypeId} {x0 x1 : Int} (hl : pre.length = 19) (h : Pd w W ((g, .cells (pre ++ [Value.int .i64 e]).toArray t (0, 0)) :: (b, .cells #[.int .i64 x0, .int .i64 x1] t1 (0, 0)) :: L)) : Calls Tryz.prog 23 #[.pointer (some ⟨g, 0, none⟩), .slice (some ⟨b, 0, none⟩) 2 2] W fun r w' => r = .returned (.int .i64 (keepV e (toldOf (sumR [x0, x1]))).1) ∧ Pd w w' ((g, .cells (pre ++ [Value.int .i64 (keepV e (toldOf (sumR [x0, x1]))).2]).toArray t (0, 0)) :: L) :=
  (sum2_ld hl h h.tl.hd).mono fun r w' ⟨h1, h2⟩ => ⟨h1, h2.swp.tl⟩
theorem sum2_onel {b : Nat} {t1 : TypeId} {x0 x1 : Int} (hl : pre.length = 19) (hB : Lit W (.cells #[.int .i64 x0, .int .i64 x1] t1) W1) (h : Pd w W ((g, .cells (pre ++ [Value.int .i64 e]).toArray t (0, 0)) :: L)) (hb : b = W.heap.size) : Calls Tryz.prog 23 #[.pointer (some ⟨g, 0, none⟩), .slice (some ⟨b, 0, none⟩) 2 2] W1 fun r w' => r = .returned (.int .i64 (keepV e (toldOf (sumR [x0, x1]))).1) ∧ Pd w w' ((g, .cells (pre ++ [Value.int .i64 (keepV e (toldOf (sumR [x0, x1]))).2]).toArray t (0, 0)) :: L) := by
  subst hb
  exact sum2_nxl hl (h.lit hB).swp
theorem sum2_twol {b : Nat} {t1 : TypeId} {o : Obj} {x0 x1 : Int} (hl : pre.length = 19) (hB : Lit (W.alloc (.cells #[.int .i64 x0, .int .i64 x1] t1)) o W1) (h : Pd w W ((g, .cells (pre ++ [Value.int .i64 e]).toArray t (0, 0)) :: L)) (hb : b = W.heap.size) : Calls Tryz.prog 23 #[.pointer (some ⟨g, 0, none⟩), .slice (some ⟨b, 0, none⟩) 2 2] W1 fun r w' => r = .returned (.int .i64 (keepV e (toldOf (sumR [x0, x1]))).1) ∧ Pd w w' ((g, .cells (pre ++ [Value.int .i64 (keepV e (toldOf (sumR [x0, x1]))).2]).toArray t (0, 0)) :: (W.heap.size + 1, o) :: L) := by
  subst hb
  have h1 := (h.row (.cells #[.int .i64 x0, .int .i64 x1] t1)).lit hB
  rw [alloc_size] at h1
  exact sum2_nxl hl (h1.pmL ((List.Perm.swap _ _ _).trans ((List.Perm.cons _ (List.Perm.swap _ _ _)).trans ((List.Perm.swap _ _ _)))))
theorem sum2_twol' {b : Nat} {t1 : TypeId} {o : Obj} {x0 x1 : Int} (hl : pre.length = 19) (hB : Lit (W.alloc o) (.cells #[.int .i64 x0, .int .i64 x1] t1) W1) (h : Pd w W ((g, .cells (pre ++ [Value.int .i64 e]).toArray t (0, 0)) :: L)) (hb : b = W.heap.size + 1) : Calls Tryz.prog 23 #[.pointer (some ⟨g, 0, none⟩), .slice (some ⟨b, 0, none⟩) 2 2] W1 fun r w' => r = .returned (.int .i64 (keepV e (toldOf (sumR [x0, x1]))).1) ∧ Pd w w' ((g, .cells (pre ++ [Value.int .i64 (keepV e (toldOf (sumR [x0, x1]))).2]).toArray t (0, 0)) :: (W.heap.size, o) :: L) := by
  subst hb
  have h1 := (h.row o).lit hB
  rw [alloc_size] at h1
  exact sum2_nxl hl (h1.pmL ((List.Perm.cons _ (List.Perm.swap _ _ _)).trans (List.Perm.swap _ _ _)))
end
theorem nuc_c7 {W : World} {b : Nat} {v0 v1 v2 v3 v4 v5 v6 v7 v8 : Value} {t : TypeId} (h : W.heap[b]? = some (.cells #[v0, v1, v2, v3, v4, v5, v6, v7, v8] t (0, 0))) : W.cell? ⟨b, 0, none⟩ = some v0 ∧ W.cell? ⟨b, 1, none⟩ = some v1 ∧ W.cell? ⟨b, 2, none⟩ = some v2 ∧ W.cell? ⟨b, 3, none⟩ = some v3 ∧ W.cell? ⟨b, 4, none⟩ = some v4 ∧ W.cell? ⟨b, 5, none⟩ = some v5 ∧ W.cell? ⟨b, 6, none⟩ = some v6 :=
  ⟨blk_cell h 0, blk_cell h 1, blk_cell h 2, blk_cell h 3, blk_cell h 4, blk_cell h 5, blk_cell h 6⟩
theorem lim_cells {W : World} {g1 g2 g3 : Nat} {a v0 v1 v2 v3 v4 v5 v6 u0 u1 u2 u3 u4 u5 u6 u7 u8 : Value} {t1 t2 t3 : TypeId} (h1 : W.heap[g1]? = some (.cells #[a] t1 (0, 0))) (h2 : W.heap[g2]? = some (.cells #[v0, v1, v2, v3, v4, v5, v6] t2 (0, 0))) (h3 : W.heap[g3]? = some (.cells #[u0, u1, u2, u3, u4, u5, u6, u7, u8] t3 (0, 0))) :
    W.cell? ⟨g1, 0, none⟩ = some a ∧ W.cell? ⟨g2, 0, none⟩ = some v0 ∧ W.cell? ⟨g2, 1, none⟩ = some v1 ∧ W.cell? ⟨g2, 2, none⟩ = some v2 ∧ W.cell? ⟨g2, 3, none⟩ = some v3 ∧ W.cell? ⟨g2, 4, none⟩ = some v4 ∧ W.cell? ⟨g2, 5, none⟩ = some v5 ∧ W.cell? ⟨g2, 6, none⟩ = some v6 ∧ W.cell? ⟨g3, 2, none⟩ = some u2 ∧ W.cell? ⟨g3, 3, none⟩ = some u3 :=
  ⟨blk_cell h1 0, blk_cell h2 0, blk_cell h2 1, blk_cell h2 2, blk_cell h2 3, blk_cell h2 4, blk_cell h2 5, blk_cell h2 6, blk_cell h3 2, blk_cell h3 3⟩
section
variable {P : Program} {ops : Array Oper} {o : Oper} {a : Act} {K : Act → World → Prop} {Q : Exit → Act → World → Prop} {E : Prop}
theorem gate_if {W : World} {N : Tmp} (_h : o.dst = some N) (h : if Region.wanted o (yielded ops a.tmps) = true then Oper.wp P o a W K Q else E) : if Region.wanted o (yielded ops a.tmps) = true then Oper.wp P o a W K Q else E := h
theorem lit_step {W : World} (hgd : o.guard = none) {cs : Array Value} {t : TypeId} {n : Nat}
    (hrun : (execOp a.eval o).run P W = .ok (.value (.slice (some ⟨W.heap.size, 0, none⟩) n n)) (W.alloc (.cells cs t (0, 0))))
    (h : ∀ g, g = W.heap.size → ∀ w1, w1.heap[g]? = some (.cells cs t (0, 0)) → Below W.heap.size W w1 → K (a.put o.dst (.slice (some ⟨g, 0, none⟩) n n)) w1) : if Region.wanted o (yielded ops a.tmps) = true then Oper.wp P o a W K Q else E := by
  rw [if_pos (by simp [Region.wanted, hgd])]
  unfold Oper.wp
  rw [hrun]
  exact h _ rfl _ (blk_new W _) (below_alloc (Below.refl _ _) _)
end
section
variable {P : Program} {ops : Array Oper} {rest : List Oper} {o : Oper} {a : Act} {Q : Exit → Act → World → Prop}
theorem lit_event {W : World} (hgd : o.guard = none) {N : Tmp} (_hd : o.dst = some N) {cs : Array Value} {t : TypeId} {n : Nat}
    (hrun : (execOp a.eval o).run P W = .ok (.value (.slice (some ⟨W.heap.size, 0, none⟩) n n)) (W.alloc (.cells cs t (0, 0))))
    (h : ∀ g, g = W.heap.size → ∀ w1, w1.heap[g]? = some (.cells cs t (0, 0)) → Below W.heap.size W w1 → wpList P ops Q rest (a.put o.dst (.slice (some ⟨g, 0, none⟩) n n)) w1) : wpList P ops Q (o :: rest) a W :=
  Kd.event_run hgd hrun (h _ rfl _ (blk_new W _) (below_alloc (Below.refl _ _) _))
end
/-- The one element of a row of one box. -/
theorem one_box {w : World} {A : Option Addr} {u : S39} (h : Kd.C k39 w A 1 [u]) : ∃ ad A6 n6, A = some ad ∧ k39.K w u [.int .i64 u.f0, .int .i64 u.f1, .int .i64 u.f2, .int .i64 u.f3, .int .i64 u.f4, .int .i64 u.f5, .slice A6 u.f6.length n6] ∧ (∀ j v, ([.int .i64 u.f0, .int .i64 u.f1, .int .i64 u.f2, .int .i64 u.f3, .int .i64 u.f4, .int .i64 u.f5, .slice A6 u.f6.length n6] : List Value)[j]? = some v → w.cell? (ad.add j) = some v) ∧ u.f6.length ≤ n6 ∧ Kd.C k67 w A6 u.f6.length u.f6 := by
  obtain ⟨ad, c, e, _, hK, hc0⟩ := Kd.C_get h z39 0 (Int.le_refl _) (by decide)
  have hc : ∀ j v, c[j]? = some v → w.cell? (ad.add (0 * 7 + j)) = some v := hc0
  have hK : k39.K w u c := hK
  obtain ⟨A6, n6, rfl, hl, hC⟩ := k39_open hK
  exact ⟨ad, A6, n6, e, hK, fun j v hj => by have := hc j v hj; rwa [Nat.zero_mul, Nat.zero_add] at this, hl, hC⟩
end Go.Proofs.YtbhljokhcmfgjaaGreat.P
