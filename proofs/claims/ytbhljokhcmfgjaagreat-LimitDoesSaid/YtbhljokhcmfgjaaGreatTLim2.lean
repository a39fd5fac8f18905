import Derived.Test.YtbhljokhcmfgjaaGreatTLim1
/- limit's nuc. Printed by a program of this work (mklim2.py). -/
set_option linter.unusedVariables false
set_option linter.unusedSimpArgs false
namespace Go.Proofs.YtbhljokhcmfgjaaGreat.P
open Go.RowKit Go.Proofs.YtbhljokhcmfgjaaGreatW.PrintWords Go.Proofs.YtbhljokhcmfgjaaGreatW.PrintLast Go.Proofs.YtbhljokhcmfgjaaGreatW.PrintMore

section
variable {w W W1 : World} {L : List (Nat × Obj)} {g : Nat} {e : Int} {pre : List Value} {t : TypeId}
theorem nuc_c9 {W : World} {b : Nat} {v0 v1 v2 v3 v4 v5 v6 v7 v8 : Value} {t : TypeId} (h : W.heap[b]? = some (.cells #[v0, v1, v2, v3, v4, v5, v6, v7, v8] t (0, 0))) : W.cell? ⟨b, 0, none⟩ = some v0 ∧ W.cell? ⟨b, 1, none⟩ = some v1 ∧ W.cell? ⟨b, 2, none⟩ = some v2 ∧ W.cell? ⟨b, 3, none⟩ = some v3 ∧ W.cell? ⟨b, 4, none⟩ = some v4 ∧ W.cell? ⟨b, 5, none⟩ = some v5 ∧ W.cell? ⟨b, 6, none⟩ = some v6 ∧ W.cell? ⟨b, 7, none⟩ = some v7 ∧ W.cell? ⟨b, 8, none⟩ = some v8 :=
  ⟨blk_cell h 0, blk_cell h 1, blk_cell h 2, blk_cell h 3, blk_cell h 4, blk_cell h 5, blk_cell h 6, blk_cell h 7, blk_cell h 8⟩
theorem sum2_ld (hl : pre.length = 19) (h : Pd w W ((g, .cells (pre ++ [Value.int .i64 e]).toArray t (0, 0)) :: L)) {b : Nat} {t1 : TypeId} {x0 x1 : Int} (hb : W.heap[b]? = some (.cells #[.int .i64 x0, .int .i64 x1] t1 (0, 0))) : Calls Tryz.prog 23 #[.pointer (some ⟨g, 0, none⟩), .slice (some ⟨b, 0, none⟩) 2 2] W fun r w' => r = .returned (.int .i64 (keepV e (toldOf (sumR [x0, x1]))).1) ∧ Pd w w' ((g, .cells (pre ++ [Value.int .i64 (keepV e (toldOf (sumR [x0, x1]))).2]).toArray t (0, 0)) :: L) := sum_ld hl h [x0, x1] hb (by simp)
theorem need2_ld (hl : pre.length = 19) (h : Pd w W ((g, .cells (pre ++ [Value.int .i64 e]).toArray t (0, 0)) :: L)) {b : Nat} {t1 : TypeId} {x0 x1 : Int} (hb : W.heap[b]? = some (.cells #[.int .i64 x0, .int .i64 x1] t1 (0, 0))) : Calls Tryz.prog 20 #[.pointer (some ⟨g, 0, none⟩), .slice (some ⟨b, 0, none⟩) 2 2] W fun r w' => r = .returned (.tuple #[]) ∧ Pd w w' ((g, .cells (pre ++ [Value.int .i64 (needI [x0, x1] e)]).toArray t (0, 0)) :: L) := need_ld hl h [x0, x1] hb (by simp)
theorem sum3_ld (hl : pre.length = 19) (h : Pd w W ((g, .cells (pre ++ [Value.int .i64 e]).toArray t (0, 0)) :: L)) {b : Nat} {t1 : TypeId} {x0 x1 x2 : Int} (hb : W.heap[b]? = some (.cells #[.int .i64 x0, .int .i64 x1, .int .i64 x2] t1 (0, 0))) : Calls Tryz.prog 23 #[.pointer (some ⟨g, 0, none⟩), .slice (some ⟨b, 0, none⟩) 3 3] W fun r w' => r = .returned (.int .i64 (keepV e (toldOf (sumR [x0, x1, x2]))).1) ∧ Pd w w' ((g, .cells (pre ++ [Value.int .i64 (keepV e (toldOf (sumR [x0, x1, x2]))).2]).toArray t (0, 0)) :: L) := sum_ld hl h [x0, x1, x2] hb (by simp)
theorem need3_ld (hl : pre.length = 19) (h : Pd w W ((g, .cells (pre ++ [Value.int .i64 e]).toArray t (0, 0)) :: L)) {b : Nat} {t1 : TypeId} {x0 x1 x2 : Int} (hb : W.heap[b]? = some (.cells #[.int .i64 x0, .int .i64 x1, .int .i64 x2] t1 (0, 0))) : Calls Tryz.prog 20 #[.pointer (some ⟨g, 0, none⟩), .slice (some ⟨b, 0, none⟩) 3 3] W fun r w' => r = .returned (.tuple #[]) ∧ Pd w w' ((g, .cells (pre ++ [Value.int .i64 (needI [x0, x1, x2] e)]).toArray t (0, 0)) :: L) := need_ld hl h [x0, x1, x2] hb (by simp)
theorem sum4_ld (hl : pre.length = 19) (h : Pd w W ((g, .cells (pre ++ [Value.int .i64 e]).toArray t (0, 0)) :: L)) {b : Nat} {t1 : TypeId} {x0 x1 x2 x3 : Int} (hb : W.heap[b]? = some (.cells #[.int .i64 x0, .int .i64 x1, .int .i64 x2, .int .i64 x3] t1 (0, 0))) : Calls Tryz.prog 23 #[.pointer (some ⟨g, 0, none⟩), .slice (some ⟨b, 0, none⟩) 4 4] W fun r w' => r = .returned (.int .i64 (keepV e (toldOf (sumR [x0, x1, x2, x3]))).1) ∧ Pd w w' ((g, .cells (pre ++ [Value.int .i64 (keepV e (toldOf (sumR [x0, x1, x2, x3]))).2]).toArray t (0, 0)) :: L) := sum_ld hl h [x0, x1, x2, x3] hb (by simp)
theorem need4_ld (hl : pre.length = 19) (h : Pd w W ((g, .cells (pre ++ [Value.int .i64 e]).toArray t (0, 0)) :: L)) {b : Nat} {t1 : TypeId} {x0 x1 x2 x3 : Int} (hb : W.heap[b]? = some (.cells #[.int .i64 x0, .int .i64 x1, .int .i64 x2, .int .i64 x3] t1 (0, 0))) : Calls Tryz.prog 20 #[.pointer (some ⟨g, 0, none⟩), .slice (some ⟨b, 0, none⟩) 4 4] W fun r w' => r = .returned (.tuple #[]) ∧ Pd w w' ((g, .cells (pre ++ [Value.int .i64 (needI [x0, x1, x2, x3] e)]).toArray t (0, 0)) :: L) := need_ld hl h [x0, x1, x2, x3] hb (by simp)
end
set_option maxRecDepth 100000 in
set_option maxHeartbeats 2000000 in
theorem nuc_ld {w W : World} {L : List (Nat × Obj)} {g : Nat} {e : Int} {pre : List Value} {t : TypeId} (hl : pre.length = 19) (h : Pd w W ((g, .cells (pre ++ [Value.int .i64 e]).toArray t (0, 0)) :: L)) (x : S39) (A : Option Addr) (n : Nat) (gl it : Int) : Calls Tryz.prog 19 #[.pointer (some ⟨g, 0, none⟩), .agg #[.int .i64 x.f0, .int .i64 x.f1, .int .i64 x.f2, .int .i64 x.f3, .int .i64 x.f4, .int .i64 x.f5, .slice A x.f6.length n, .int .i64 gl, .int .i64 it]] W fun r w' => r = .returned (.tuple #[]) ∧ Pd w w' ((g, .cells (pre ++ [Value.int .i64 (needI [x.f1, x.f2, x.f3, it] e)]).toArray t (0, 0)) :: L) := by
  have hu39 := Tryz.underlying39
  have hu73 := Tryz.underlying41
  have HP := Aside0.mk h
  have HL := Aside0.mk hl
  clear h hl
  go_enter Tryz.func19, Tryz.ntmps19
  go_wp2_with (first | ((with_reducible refine gate_dst (N := 3) rfl ?_); refine box_event ?hg (N := 3) ?hd (cs := #[.int .i64 x.f0, .int .i64 x.f1, .int .i64 x.f2, .int .i64 x.f3, .int .i64 x.f4, .int .i64 x.f5, .slice A x.f6.length n, .int .i64 gl, .int .i64 it]) (t := 41) ?hr ?_; (case hd => rfl); (case hg => rfl); (case hr => first | (go_simp; done) | (go_simp; rfl)); intro gq hg wk hbox hb; replace HP := Aside0.mk (Pd.box (by with_reducible repeat (first | exact HP.out | apply Pd.drew)) hg hbox hb); clear hg hbox hb; have hq := nuc_c9 (Pd.hd HP.out)))
  refine (need4_ld HL.out (Pd.swp (Pd.alc HP.out _)) (by exact alloc_last _ _)).mono ?_
  rintro _ w1 ⟨rfl, hp⟩
  replace HP := Aside0.mk (Pd.tl (Pd.swp hp))
  clear hp hq
  go_wp2
  go_end0
  exact ⟨rfl, HP.out⟩
end Go.Proofs.YtbhljokhcmfgjaaGreat.P
