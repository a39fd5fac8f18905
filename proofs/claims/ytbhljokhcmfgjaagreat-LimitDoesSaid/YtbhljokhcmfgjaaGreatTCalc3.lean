import Derived.Test.YtbhljokhcmfgjaaGreatTCalc2
/- The calculator's Set over a row that is written out. -/
set_option linter.unusedVariables false
set_option linter.unusedSimpArgs false
namespace Go.Proofs.YtbhljokhcmfgjaaGreat.P
open Go.RowKit Go.Proofs.YtbhljokhcmfgjaaGreatW.PrintWords Go.Proofs.YtbhljokhcmfgjaaGreatW.PrintLast Go.Proofs.YtbhljokhcmfgjaaGreatW.PrintMore

section
variable {w W : World} {L : List (Nat × Obj)} {g : Nat} {e : Int} {rest : List Value} {t : TypeId}
/-- Set of a row of kids that is written out. -/
theorem setlit_cd {b : Nat} {t1 : TypeId} (wd : Int) (xs : List S67) (css : List (List Value)) (hx : xs.length < 1599289640401) (h : Pd w W ((g, .cells (Value.int .i64 e :: rest).toArray t (0, 0)) :: L)) (hb : b = W.heap.size) (hK : Each (k67.K w) xs css) : Calls Tryz.prog 32 #[.pointer (some ⟨g, 0, none⟩), .int .i64 wd, .slice (some ⟨b, 0, none⟩) xs.length xs.length] (W.alloc (.cells css.flatten.toArray t1)) fun r w' => ∃ A1 n1, r = .returned (.tuple #[.agg #[.int .i64 (setV e wd xs).1, .int .i64 (setV e wd xs).2.1, .int .i64 (setV e wd xs).2.2.1, .int .i64 (setV e wd xs).2.2.2.1, .int .i64 (setV e wd xs).2.2.2.2.1, .int .i64 (setV e wd xs).2.2.2.2.2.1, .slice A1 (setV e wd xs).2.2.2.2.2.2.1.length n1], .int .i64 (setV e wd xs).2.2.2.2.2.2.2]) ∧ (setV e wd xs).2.2.2.2.2.2.1.length ≤ n1 ∧ Kd.F k67 w' (fun k => ∀ p ∈ (g, Obj.cells (Value.int .i64 e :: rest).toArray t (0, 0)) :: L, k ≠ p.1) A1 (setV e wd xs).2.2.2.2.2.2.1.length (setV e wd xs).2.2.2.2.2.2.1 ∧ Pd w w' ((g, .cells (Value.int .i64 e :: rest).toArray t (0, 0)) :: L) := by
  subst hb
  have h1 : Pd w (W.alloc (.cells css.flatten.toArray t1)) ((g, .cells (Value.int .i64 e :: rest).toArray t (0, 0)) :: (W.heap.size, .cells css.flatten.toArray t1 (0, 0)) :: L) := (h.row _).swp
  refine (set_cd wd xs hx h1 ((Src.block hK).mono fun _ h => h.swp)).mono ?_
  rintro r w' ⟨A1, n1, h2, h3, h4, h5⟩
  exact ⟨A1, n1, h2, h3, Kd.F_mono h4 (fun k hk p hp => hk p (by
    rcases List.mem_cons.1 hp with rfl | hp
    · exact List.mem_cons_self
    · exact List.mem_cons_of_mem _ (List.mem_cons_of_mem _ hp))), h5.skip⟩
end
end Go.Proofs.YtbhljokhcmfgjaaGreat.P
