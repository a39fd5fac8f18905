import Derived.Test.YtbhljokhcmfgjaaGreatTPB
import Derived.Test.YtbhljokhcmfgjaaGreatTSet2
import Derived.BigRegion
import Derived.Deep.AppendLies
/- What the texts behind need of this work's joined texts. -/
set_option linter.unusedVariables false
set_option linter.unusedSimpArgs false
set_option linter.unusedVariables false
set_option linter.unusedSimpArgs false
namespace Go.Proofs.YtbhljokhcmfgjaaGreat.P
open Go.RowKit Go.Proofs.YtbhljokhcmfgjaaGreatW.PrintWords Go.Proofs.YtbhljokhcmfgjaaGreatW.PrintLast Go.Proofs.YtbhljokhcmfgjaaGreatW.PrintMore
section
variable {w W W1 : World} {L : List (Nat × Obj)} {g : Nat} {e : Int} {rest : List Value} {t : TypeId}
theorem Pd.lit {o : Obj} (h : Pd w W L) (hB : Lit W o W1) : Pd w W1 ((W.heap.size, o) :: L) := (h.row o).below hB
end
end Go.Proofs.YtbhljokhcmfgjaaGreat.P
set_option linter.unusedVariables false
set_option linter.unusedSimpArgs false
set_option linter.unusedVariables false
set_option linter.unusedSimpArgs false
namespace Go.Proofs.YtbhljokhcmfgjaaGreat.P
open Go.RowKit Go.Proofs.YtbhljokhcmfgjaaGreatW.PrintWords Go.Proofs.YtbhljokhcmfgjaaGreatW.PrintLast Go.Proofs.YtbhljokhcmfgjaaGreatW.PrintMore
theorem cells9 {W : World} {b : Nat} {v0 v1 v2 v3 v4 v5 v6 v7 v8 : Value} {t : TypeId} (h : W.heap[b]? = some (.cells #[v0, v1, v2, v3, v4, v5, v6, v7, v8] t (0, 0))) :
    W.cell? ⟨b, 0, none⟩ = some v0 ∧ W.cell? ⟨b, 1, none⟩ = some v1 ∧ W.cell? ⟨b, 2, none⟩ = some v2 ∧ W.cell? ⟨b, 3, none⟩ = some v3 ∧ W.cell? ⟨b, 4, none⟩ = some v4 ∧ W.cell? ⟨b, 5, none⟩ = some v5 ∧ W.cell? ⟨b, 6, none⟩ = some v6 ∧ W.cell? ⟨b, 7, none⟩ = some v7 ∧ W.cell? ⟨b, 8, none⟩ = some v8 := ⟨blk_cell h 0, blk_cell h 1, blk_cell h 2, blk_cell h 3, blk_cell h 4, blk_cell h 5, blk_cell h 6, blk_cell h 7, blk_cell h 8⟩
theorem froz9 {W : World} {b : Nat} {v0 v1 v2 v3 v4 v5 v6 v7 v8 : Value} {t : TypeId} (h : W.heap[b]? = some (.cells #[v0, v1, v2, v3, v4, v5, v6, v7, v8] t (0, 0))) :
    W.frozen? ⟨b, 0, none⟩ = false ∧ W.frozen? ⟨b, 1, none⟩ = false ∧ W.frozen? ⟨b, 2, none⟩ = false ∧ W.frozen? ⟨b, 3, none⟩ = false ∧ W.frozen? ⟨b, 4, none⟩ = false ∧ W.frozen? ⟨b, 5, none⟩ = false ∧ W.frozen? ⟨b, 6, none⟩ = false ∧ W.frozen? ⟨b, 7, none⟩ = false ∧ W.frozen? ⟨b, 8, none⟩ = false := ⟨blk_frozen h 0, blk_frozen h 1, blk_frozen h 2, blk_frozen h 3, blk_frozen h 4, blk_frozen h 5, blk_frozen h 6, blk_frozen h 7, blk_frozen h 8⟩
section
variable {w W W1 : World} {L : List (Nat × Obj)} {g : Nat} {e : Int} {rest : List Value} {t : TypeId}
theorem Pd.alloc (h : Pd w W L) (o : Obj) : Pd w (W.alloc o) L := h.below ((Below.refl _ _).alloc (Nat.le_refl _) o)
theorem Pd.swap {a b : Nat × Obj} (h : Pd w W (a :: b :: L)) : Pd w W (b :: a :: L) :=
  ⟨⟨h.bel, fun p hp => h.loc p (by simp only [List.mem_cons] at hp ⊢; rcases hp with h | h | h <;> simp [h])⟩,
   List.Pairwise.cons (fun p hp => by
      rcases List.mem_cons.1 hp with rfl | hp
      · exact fun he => (List.pairwise_cons.1 h.dis).1 b List.mem_cons_self he.symm
      · exact (List.pairwise_cons.1 (List.pairwise_cons.1 h.dis).2).1 p hp)
     (List.Pairwise.cons (fun p hp => (List.pairwise_cons.1 h.dis).1 p (List.mem_cons_of_mem _ hp)) (List.pairwise_cons.1 (List.pairwise_cons.1 h.dis).2).2)⟩
end
end Go.Proofs.YtbhljokhcmfgjaaGreat.P
set_option linter.unusedVariables false
set_option linter.unusedSimpArgs false
set_option linter.unusedVariables false
set_option linter.unusedSimpArgs false
namespace Go.Proofs.YtbhljokhcmfgjaaGreat.P
open Go.RowKit Go.Proofs.YtbhljokhcmfgjaaGreatW.PrintWords Go.Proofs.YtbhljokhcmfgjaaGreatW.PrintLast Go.Proofs.YtbhljokhcmfgjaaGreatW.PrintMore
theorem Pd.getb {w W : World} {L : List (Nat × Obj)} {b : Nat} {o : Obj} (h : Pd w W L) (hm : (b, o) ∈ L) : W.heap[b]? = some o := (h.loc _ hm).1
/-- A row of kids in a block of the call's own. -/
def RowAt (w : World) (q : Nat) (o : Obj) (xs : List S67) : Prop := ∃ css, Each (k67.K w) xs css ∧ ∀ W_ : World, W_.heap[q]? = some o → ∀ j u, css.flatten[j]? = some u → W_.cell? ((⟨q, 0, none⟩ : Addr).add j) = some u
theorem RowAt.src {w : World} {q : Nat} {o : Obj} {xs : List S67} (h : RowAt w q o xs) (M : List (Nat × Obj)) : ∃ css, Src w ((q, o) :: M) (some ⟨q, 0, none⟩) xs css := by
  obtain ⟨css, h1, h2⟩ := h
  exact ⟨css, h1, fun _ => ⟨_, rfl, fun W' hP j u hu => h2 W' hP.hd j u hu⟩⟩
section
variable {ops : Array Oper} {o : Oper} {a : Act} {K : Act → World → Prop} {Q : Exit → Act → World → Prop} {E : Prop}
/-- The goal is an append: a look at its text. Ahead of every arm that lays an operation open: arms are tried at EVERY step of a region. -/
theorem gate_app {P : Program} {d : Option Tmp} {x : Array Operand} {tx : Array TypeId} {t1 : TypeId} {ps : String} {af : Array Edge} {gd : Option (Nat × Bool)} {W : World} (h : if Region.wanted ⟨d, .call { callee := .builtin .append, args := x, argTypes := tx }, t1, ps, af, gd⟩ (yielded ops a.tmps) = true then Oper.wp P ⟨d, .call { callee := .builtin .append, args := x, argTypes := tx }, t1, ps, af, gd⟩ a W K Q else E) : if Region.wanted ⟨d, .call { callee := .builtin .append, args := x, argTypes := tx }, t1, ps, af, gd⟩ (yielded ops a.tmps) = true then Oper.wp P ⟨d, .call { callee := .builtin .append, args := x, argTypes := tx }, t1, ps, af, gd⟩ a W K Q else E := h
end
end Go.Proofs.YtbhljokhcmfgjaaGreat.P
set_option linter.unusedVariables false
set_option linter.unusedSimpArgs false
