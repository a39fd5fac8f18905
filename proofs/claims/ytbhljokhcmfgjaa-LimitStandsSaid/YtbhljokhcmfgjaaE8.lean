import Derived.Test.YtbhljokhcmfgjaaK2
import Derived.Test.YtbhljokhcmfgjaaE7
import Derived.Deep.RegionHeld3
/- Part 8 of the proof of stackCenter_holds: what it needs of this work's texts, joined. -/
set_option linter.unusedVariables false
set_option linter.unusedSimpArgs false
namespace Go.Proofs.Ytbhljokhcmfgjaa.P
open Go.RowKit Go.Proofs.YtbhljokhcmfgjaaW.PrintWords Go.Proofs.YtbhljokhcmfgjaaW.PrintLast Go.Proofs.YtbhljokhcmfgjaaW.PrintMore
attribute [local go_sem] max2_int min2_int max_two min_two max_three min_three max_four min_four   -- for this text's walks alone
set_option linter.unusedVariables false
set_option linter.unusedSimpArgs false
/-- A state of type 66 at block g of W; what its slices lead to came in by w0. -/
def IsS100 (w0 W : World) (g : Nat) (f0 : Int) (f1 : Int) (f2 : Int) (f3 : Int) (f4 : Int) (f5 : Bool) (f6 : List (S196)) (f7 : List (S198)) (f8 : List (S157)) (f9 : List Int) (f10 : List (S82)) (f11 : List (S82)) (f12 : List Int) (f13 : List (S160)) (f14 : Int) (f15 : List (S178)) (f16 : List (S178)) (f17 : Int) (f18 : Int) (f19 : Int) : Prop := ∃ A6 c6, ∃ A7 c7, ∃ A8 c8, ∃ A9 c9, ∃ A10 c10, ∃ A11 c11, ∃ A12 c12, ∃ A13 c13, ∃ A15 c15, ∃ A16 c16, W.heap[g]? = some (.cells #[.int .i64 f0, .int .i64 f1, .int .i64 f2, .int .i64 f3, .int .i64 f4, .bool f5, .slice A6 f6.length c6, .slice A7 f7.length c7, .slice A8 f8.length c8, .slice A9 f9.length c9, .slice A10 f10.length c10, .slice A11 f11.length c11, .slice A12 f12.length c12, .slice A13 f13.length c13, .int .i64 f14, .slice A15 f15.length c15, .slice A16 f16.length c16, .int .i64 f17, .int .i64 f18, .int .i64 f19] 100 (0, 0)) ∧ w0.heap.size ≤ g ∧ Kd.C k196 w0 A6 f6.length f6 ∧ Kd.C k198 w0 A7 f7.length f7 ∧ Kd.C k157 w0 A8 f8.length f8 ∧ Kd.C (Kd.int .i64) w0 A9 f9.length f9 ∧ Kd.C k82 w0 A10 f10.length f10 ∧ Kd.C k82 w0 A11 f11.length f11 ∧ Kd.C (Kd.int .i64) w0 A12 f12.length f12 ∧ Kd.C k160 w0 A13 f13.length f13 ∧ Kd.C k178 w0 A15 f15.length f15 ∧ Kd.C k178 w0 A16 f16.length f16
theorem IsS100.grown {w0 W : World} {g : Nat} {f0 : Int} {f1 : Int} {f2 : Int} {f3 : Int} {f4 : Int} {f5 : Bool} {f6 : List (S196)} {f7 : List (S198)} {f8 : List (S157)} {f9 : List Int} {f10 : List (S82)} {f11 : List (S82)} {f12 : List Int} {f13 : List (S160)} {f14 : Int} {f15 : List (S178)} {f16 : List (S178)} {f17 : Int} {f18 : Int} {f19 : Int} {W1 : World} {row : Option Nat} (h : IsS100 w0 W g f0 f1 f2 f3 f4 f5 f6 f7 f8 f9 f10 f11 f12 f13 f14 f15 f16 f17 f18 f19) (hw : W.grownBy W1 row) (hne : some g ≠ row) : IsS100 w0 W1 g f0 f1 f2 f3 f4 f5 f6 f7 f8 f9 f10 f11 f12 f13 f14 f15 f16 f17 f18 f19 := by
  obtain ⟨A6, c6, A7, c7, A8, c8, A9, c9, A10, c10, A11, c11, A12, c12, A13, c13, A15, c15, A16, c16, hb, hg, hr6, hr7, hr8, hr9, hr10, hr11, hr12, hr13, hr15, hr16⟩ := h
  exact ⟨A6, c6, A7, c7, A8, c8, A9, c9, A10, c10, A11, c11, A12, c12, A13, c13, A15, c15, A16, c16, blk_grown hb hw hne, hg, hr6, hr7, hr8, hr9, hr10, hr11, hr12, hr13, hr15, hr16⟩
theorem IsS100.fresh {w0 W : World} {g : Nat} {f0 : Int} {f1 : Int} {f2 : Int} {f3 : Int} {f4 : Int} {f5 : Bool} {f6 : List (S196)} {f7 : List (S198)} {f8 : List (S157)} {f9 : List Int} {f10 : List (S82)} {f11 : List (S82)} {f12 : List Int} {f13 : List (S160)} {f14 : Int} {f15 : List (S178)} {f16 : List (S178)} {f17 : Int} {f18 : Int} {f19 : Int} (h : IsS100 w0 W g f0 f1 f2 f3 f4 f5 f6 f7 f8 f9 f10 f11 f12 f13 f14 f15 f16 f17 f18 f19) : ∀ k, W.heap.size ≤ k → k ≠ g := by
  obtain ⟨A6, c6, A7, c7, A8, c8, A9, c9, A10, c10, A11, c11, A12, c12, A13, c13, A15, c15, A16, c16, hb, hg, hr6, hr7, hr8, hr9, hr10, hr11, hr12, hr13, hr15, hr16⟩ := h
  exact Kd.freshB hb
theorem IsS100.below {w0 W : World} {g : Nat} {f0 : Int} {f1 : Int} {f2 : Int} {f3 : Int} {f4 : Int} {f5 : Bool} {f6 : List (S196)} {f7 : List (S198)} {f8 : List (S157)} {f9 : List Int} {f10 : List (S82)} {f11 : List (S82)} {f12 : List Int} {f13 : List (S160)} {f14 : Int} {f15 : List (S178)} {f16 : List (S178)} {f17 : Int} {f18 : Int} {f19 : Int} {W1 : World} (h : IsS100 w0 W g f0 f1 f2 f3 f4 f5 f6 f7 f8 f9 f10 f11 f12 f13 f14 f15 f16 f17 f18 f19) (hw : Below W.heap.size W W1) : IsS100 w0 W1 g f0 f1 f2 f3 f4 f5 f6 f7 f8 f9 f10 f11 f12 f13 f14 f15 f16 f17 f18 f19 := h.grown (grown_of_below hw none) (by simp)
theorem IsS100.alloc {w0 W : World} {g : Nat} {f0 : Int} {f1 : Int} {f2 : Int} {f3 : Int} {f4 : Int} {f5 : Bool} {f6 : List (S196)} {f7 : List (S198)} {f8 : List (S157)} {f9 : List Int} {f10 : List (S82)} {f11 : List (S82)} {f12 : List Int} {f13 : List (S160)} {f14 : Int} {f15 : List (S178)} {f16 : List (S178)} {f17 : Int} {f18 : Int} {f19 : Int} (h : IsS100 w0 W g f0 f1 f2 f3 f4 f5 f6 f7 f8 f9 f10 f11 f12 f13 f14 f15 f16 f17 f18 f19) (o : Obj) : IsS100 w0 (W.alloc o) g f0 f1 f2 f3 f4 f5 f6 f7 f8 f9 f10 f11 f12 f13 f14 f15 f16 f17 f18 f19 := h.below (below_alloc (Below.refl _ _) o)
theorem IsS100.drewN {w0 W : World} {g : Nat} {f0 : Int} {f1 : Int} {f2 : Int} {f3 : Int} {f4 : Int} {f5 : Bool} {f6 : List (S196)} {f7 : List (S198)} {f8 : List (S157)} {f9 : List Int} {f10 : List (S82)} {f11 : List (S82)} {f12 : List Int} {f13 : List (S160)} {f14 : Int} {f15 : List (S178)} {f16 : List (S178)} {f17 : Int} {f18 : Int} {f19 : Int} (h : IsS100 w0 W g f0 f1 f2 f3 f4 f5 f6 f7 f8 f9 f10 f11 f12 f13 f14 f15 f16 f17 f18 f19) (m : Nat) : IsS100 w0 (W.drewN m) g f0 f1 f2 f3 f4 f5 f6 f7 f8 f9 f10 f11 f12 f13 f14 f15 f16 f17 f18 f19 := h
theorem IsS100.drew {w0 W : World} {g : Nat} {f0 : Int} {f1 : Int} {f2 : Int} {f3 : Int} {f4 : Int} {f5 : Bool} {f6 : List (S196)} {f7 : List (S198)} {f8 : List (S157)} {f9 : List Int} {f10 : List (S82)} {f11 : List (S82)} {f12 : List Int} {f13 : List (S160)} {f14 : Int} {f15 : List (S178)} {f16 : List (S178)} {f17 : Int} {f18 : Int} {f19 : Int} (h : IsS100 w0 W g f0 f1 f2 f3 f4 f5 f6 f7 f8 f9 f10 f11 f12 f13 f14 f15 f16 f17 f18 f19) : IsS100 w0 W.drew g f0 f1 f2 f3 f4 f5 f6 f7 f8 f9 f10 f11 f12 f13 f14 f15 f16 f17 f18 f19 := h
theorem IsS100.own_ne {w0 W : World} {g : Nat} {f0 : Int} {f1 : Int} {f2 : Int} {f3 : Int} {f4 : Int} {f5 : Bool} {f6 : List (S196)} {f7 : List (S198)} {f8 : List (S157)} {f9 : List Int} {f10 : List (S82)} {f11 : List (S82)} {f12 : List Int} {f13 : List (S160)} {f14 : Int} {f15 : List (S178)} {f16 : List (S178)} {f17 : Int} {f18 : Int} {f19 : Int} {α : Type} {d : Kd α} {e : Nat} {base : Nat} {ok : Nat → Prop} {v : Value} {xs : List α} (h : IsS100 w0 W g f0 f1 f2 f3 f4 f5 f6 f7 f8 f9 f10 f11 f12 f13 f14 f15 f16 f17 f18 f19) (ho : d.R e W base ok v xs) (ht : e ≠ 100) : some g ≠ v.ownBlock := by
  obtain ⟨A6, c6, A7, c7, A8, c8, A9, c9, A10, c10, A11, c11, A12, c12, A13, c13, A15, c15, A16, c16, hb, hg, hr6, hr7, hr8, hr9, hr10, hr11, hr12, hr13, hr15, hr16⟩ := h
  exact Kd.R_ne ho hb ht
theorem IsS100.lt {w0 W : World} {g : Nat} {f0 : Int} {f1 : Int} {f2 : Int} {f3 : Int} {f4 : Int} {f5 : Bool} {f6 : List (S196)} {f7 : List (S198)} {f8 : List (S157)} {f9 : List Int} {f10 : List (S82)} {f11 : List (S82)} {f12 : List Int} {f13 : List (S160)} {f14 : Int} {f15 : List (S178)} {f16 : List (S178)} {f17 : Int} {f18 : Int} {f19 : Int} (h : IsS100 w0 W g f0 f1 f2 f3 f4 f5 f6 f7 f8 f9 f10 f11 f12 f13 f14 f15 f16 f17 f18 f19) : g < W.heap.size := by
  obtain ⟨A6, c6, A7, c7, A8, c8, A9, c9, A10, c10, A11, c11, A12, c12, A13, c13, A15, c15, A16, c16, hb, hg, hr6, hr7, hr8, hr9, hr10, hr11, hr12, hr13, hr15, hr16⟩ := h
  exact blk_lt hb
theorem IsS100.ge {w0 W : World} {g : Nat} {f0 : Int} {f1 : Int} {f2 : Int} {f3 : Int} {f4 : Int} {f5 : Bool} {f6 : List (S196)} {f7 : List (S198)} {f8 : List (S157)} {f9 : List Int} {f10 : List (S82)} {f11 : List (S82)} {f12 : List Int} {f13 : List (S160)} {f14 : Int} {f15 : List (S178)} {f16 : List (S178)} {f17 : Int} {f18 : Int} {f19 : Int} (h : IsS100 w0 W g f0 f1 f2 f3 f4 f5 f6 f7 f8 f9 f10 f11 f12 f13 f14 f15 f16 f17 f18 f19) : w0.heap.size ≤ g := by
  obtain ⟨A6, c6, A7, c7, A8, c8, A9, c9, A10, c10, A11, c11, A12, c12, A13, c13, A15, c15, A16, c16, hb, hg, hr6, hr7, hr8, hr9, hr10, hr11, hr12, hr13, hr15, hr16⟩ := h
  exact hg
theorem IsS100.far {w0 W : World} {g : Nat} {f0 : Int} {f1 : Int} {f2 : Int} {f3 : Int} {f4 : Int} {f5 : Bool} {f6 : List (S196)} {f7 : List (S198)} {f8 : List (S157)} {f9 : List Int} {f10 : List (S82)} {f11 : List (S82)} {f12 : List Int} {f13 : List (S160)} {f14 : Int} {f15 : List (S178)} {f16 : List (S178)} {f17 : Int} {f18 : Int} {f19 : Int} {p : Addr} (h : IsS100 w0 W g f0 f1 f2 f3 f4 f5 f6 f7 f8 f9 f10 f11 f12 f13 f14 f15 f16 f17 f18 f19) (hne : g ≠ p.block) (u : Value) : IsS100 w0 (W.setCell p u) g f0 f1 f2 f3 f4 f5 f6 f7 f8 f9 f10 f11 f12 f13 f14 f15 f16 f17 f18 f19 := by
  obtain ⟨A6, c6, A7, c7, A8, c8, A9, c9, A10, c10, A11, c11, A12, c12, A13, c13, A15, c15, A16, c16, hb, hg, hr6, hr7, hr8, hr9, hr10, hr11, hr12, hr13, hr15, hr16⟩ := h
  exact ⟨A6, c6, A7, c7, A8, c8, A9, c9, A10, c10, A11, c11, A12, c12, A13, c13, A15, c15, A16, c16, blk_far hb hne u, hg, hr6, hr7, hr8, hr9, hr10, hr11, hr12, hr13, hr15, hr16⟩
theorem cellS100_0 {W : World} {g : Nat} {A6 : Option Addr} {c6 : Nat} {A7 : Option Addr} {c7 : Nat} {A8 : Option Addr} {c8 : Nat} {A9 : Option Addr} {c9 : Nat} {A10 : Option Addr} {c10 : Nat} {A11 : Option Addr} {c11 : Nat} {A12 : Option Addr} {c12 : Nat} {A13 : Option Addr} {c13 : Nat} {A15 : Option Addr} {c15 : Nat} {A16 : Option Addr} {c16 : Nat} {f0 : Int} {f1 : Int} {f2 : Int} {f3 : Int} {f4 : Int} {f5 : Bool} {f6 : List (S196)} {f7 : List (S198)} {f8 : List (S157)} {f9 : List Int} {f10 : List (S82)} {f11 : List (S82)} {f12 : List Int} {f13 : List (S160)} {f14 : Int} {f15 : List (S178)} {f16 : List (S178)} {f17 : Int} {f18 : Int} {f19 : Int} (h : W.heap[g]? = some (.cells #[.int .i64 f0, .int .i64 f1, .int .i64 f2, .int .i64 f3, .int .i64 f4, .bool f5, .slice A6 f6.length c6, .slice A7 f7.length c7, .slice A8 f8.length c8, .slice A9 f9.length c9, .slice A10 f10.length c10, .slice A11 f11.length c11, .slice A12 f12.length c12, .slice A13 f13.length c13, .int .i64 f14, .slice A15 f15.length c15, .slice A16 f16.length c16, .int .i64 f17, .int .i64 f18, .int .i64 f19] 100 (0, 0))) : W.cell? ⟨g, 0, none⟩ = some (.int .i64 f0) := (blk_cell h 0).trans rfl
theorem IsS100.set_0 {w0 W : World} {g : Nat} {f0 : Int} {f1 : Int} {f2 : Int} {f3 : Int} {f4 : Int} {f5 : Bool} {f6 : List (S196)} {f7 : List (S198)} {f8 : List (S157)} {f9 : List Int} {f10 : List (S82)} {f11 : List (S82)} {f12 : List Int} {f13 : List (S160)} {f14 : Int} {f15 : List (S178)} {f16 : List (S178)} {f17 : Int} {f18 : Int} {f19 : Int} (h : IsS100 w0 W g f0 f1 f2 f3 f4 f5 f6 f7 f8 f9 f10 f11 f12 f13 f14 f15 f16 f17 f18 f19) (x : Int) : IsS100 w0 (W.setCell ⟨g, 0, none⟩ (.int .i64 x)) g x f1 f2 f3 f4 f5 f6 f7 f8 f9 f10 f11 f12 f13 f14 f15 f16 f17 f18 f19 := by
  obtain ⟨A6, c6, A7, c7, A8, c8, A9, c9, A10, c10, A11, c11, A12, c12, A13, c13, A15, c15, A16, c16, hb, hg, hr6, hr7, hr8, hr9, hr10, hr11, hr12, hr13, hr15, hr16⟩ := h
  exact ⟨A6, c6, A7, c7, A8, c8, A9, c9, A10, c10, A11, c11, A12, c12, A13, c13, A15, c15, A16, c16, by simpa using blk_set hb 0 (.int .i64 x), hg, hr6, hr7, hr8, hr9, hr10, hr11, hr12, hr13, hr15, hr16⟩
theorem cellS100_1 {W : World} {g : Nat} {A6 : Option Addr} {c6 : Nat} {A7 : Option Addr} {c7 : Nat} {A8 : Option Addr} {c8 : Nat} {A9 : Option Addr} {c9 : Nat} {A10 : Option Addr} {c10 : Nat} {A11 : Option Addr} {c11 : Nat} {A12 : Option Addr} {c12 : Nat} {A13 : Option Addr} {c13 : Nat} {A15 : Option Addr} {c15 : Nat} {A16 : Option Addr} {c16 : Nat} {f0 : Int} {f1 : Int} {f2 : Int} {f3 : Int} {f4 : Int} {f5 : Bool} {f6 : List (S196)} {f7 : List (S198)} {f8 : List (S157)} {f9 : List Int} {f10 : List (S82)} {f11 : List (S82)} {f12 : List Int} {f13 : List (S160)} {f14 : Int} {f15 : List (S178)} {f16 : List (S178)} {f17 : Int} {f18 : Int} {f19 : Int} (h : W.heap[g]? = some (.cells #[.int .i64 f0, .int .i64 f1, .int .i64 f2, .int .i64 f3, .int .i64 f4, .bool f5, .slice A6 f6.length c6, .slice A7 f7.length c7, .slice A8 f8.length c8, .slice A9 f9.length c9, .slice A10 f10.length c10, .slice A11 f11.length c11, .slice A12 f12.length c12, .slice A13 f13.length c13, .int .i64 f14, .slice A15 f15.length c15, .slice A16 f16.length c16, .int .i64 f17, .int .i64 f18, .int .i64 f19] 100 (0, 0))) : W.cell? ⟨g, 1, none⟩ = some (.int .i64 f1) := (blk_cell h 1).trans rfl
theorem IsS100.set_1 {w0 W : World} {g : Nat} {f0 : Int} {f1 : Int} {f2 : Int} {f3 : Int} {f4 : Int} {f5 : Bool} {f6 : List (S196)} {f7 : List (S198)} {f8 : List (S157)} {f9 : List Int} {f10 : List (S82)} {f11 : List (S82)} {f12 : List Int} {f13 : List (S160)} {f14 : Int} {f15 : List (S178)} {f16 : List (S178)} {f17 : Int} {f18 : Int} {f19 : Int} (h : IsS100 w0 W g f0 f1 f2 f3 f4 f5 f6 f7 f8 f9 f10 f11 f12 f13 f14 f15 f16 f17 f18 f19) (x : Int) : IsS100 w0 (W.setCell ⟨g, 1, none⟩ (.int .i64 x)) g f0 x f2 f3 f4 f5 f6 f7 f8 f9 f10 f11 f12 f13 f14 f15 f16 f17 f18 f19 := by
  obtain ⟨A6, c6, A7, c7, A8, c8, A9, c9, A10, c10, A11, c11, A12, c12, A13, c13, A15, c15, A16, c16, hb, hg, hr6, hr7, hr8, hr9, hr10, hr11, hr12, hr13, hr15, hr16⟩ := h
  exact ⟨A6, c6, A7, c7, A8, c8, A9, c9, A10, c10, A11, c11, A12, c12, A13, c13, A15, c15, A16, c16, by simpa using blk_set hb 1 (.int .i64 x), hg, hr6, hr7, hr8, hr9, hr10, hr11, hr12, hr13, hr15, hr16⟩
theorem cellS100_2 {W : World} {g : Nat} {A6 : Option Addr} {c6 : Nat} {A7 : Option Addr} {c7 : Nat} {A8 : Option Addr} {c8 : Nat} {A9 : Option Addr} {c9 : Nat} {A10 : Option Addr} {c10 : Nat} {A11 : Option Addr} {c11 : Nat} {A12 : Option Addr} {c12 : Nat} {A13 : Option Addr} {c13 : Nat} {A15 : Option Addr} {c15 : Nat} {A16 : Option Addr} {c16 : Nat} {f0 : Int} {f1 : Int} {f2 : Int} {f3 : Int} {f4 : Int} {f5 : Bool} {f6 : List (S196)} {f7 : List (S198)} {f8 : List (S157)} {f9 : List Int} {f10 : List (S82)} {f11 : List (S82)} {f12 : List Int} {f13 : List (S160)} {f14 : Int} {f15 : List (S178)} {f16 : List (S178)} {f17 : Int} {f18 : Int} {f19 : Int} (h : W.heap[g]? = some (.cells #[.int .i64 f0, .int .i64 f1, .int .i64 f2, .int .i64 f3, .int .i64 f4, .bool f5, .slice A6 f6.length c6, .slice A7 f7.length c7, .slice A8 f8.length c8, .slice A9 f9.length c9, .slice A10 f10.length c10, .slice A11 f11.length c11, .slice A12 f12.length c12, .slice A13 f13.length c13, .int .i64 f14, .slice A15 f15.length c15, .slice A16 f16.length c16, .int .i64 f17, .int .i64 f18, .int .i64 f19] 100 (0, 0))) : W.cell? ⟨g, 2, none⟩ = some (.int .i64 f2) := (blk_cell h 2).trans rfl
theorem IsS100.set_2 {w0 W : World} {g : Nat} {f0 : Int} {f1 : Int} {f2 : Int} {f3 : Int} {f4 : Int} {f5 : Bool} {f6 : List (S196)} {f7 : List (S198)} {f8 : List (S157)} {f9 : List Int} {f10 : List (S82)} {f11 : List (S82)} {f12 : List Int} {f13 : List (S160)} {f14 : Int} {f15 : List (S178)} {f16 : List (S178)} {f17 : Int} {f18 : Int} {f19 : Int} (h : IsS100 w0 W g f0 f1 f2 f3 f4 f5 f6 f7 f8 f9 f10 f11 f12 f13 f14 f15 f16 f17 f18 f19) (x : Int) : IsS100 w0 (W.setCell ⟨g, 2, none⟩ (.int .i64 x)) g f0 f1 x f3 f4 f5 f6 f7 f8 f9 f10 f11 f12 f13 f14 f15 f16 f17 f18 f19 := by
  obtain ⟨A6, c6, A7, c7, A8, c8, A9, c9, A10, c10, A11, c11, A12, c12, A13, c13, A15, c15, A16, c16, hb, hg, hr6, hr7, hr8, hr9, hr10, hr11, hr12, hr13, hr15, hr16⟩ := h
  exact ⟨A6, c6, A7, c7, A8, c8, A9, c9, A10, c10, A11, c11, A12, c12, A13, c13, A15, c15, A16, c16, by simpa using blk_set hb 2 (.int .i64 x), hg, hr6, hr7, hr8, hr9, hr10, hr11, hr12, hr13, hr15, hr16⟩
theorem cellS100_3 {W : World} {g : Nat} {A6 : Option Addr} {c6 : Nat} {A7 : Option Addr} {c7 : Nat} {A8 : Option Addr} {c8 : Nat} {A9 : Option Addr} {c9 : Nat} {A10 : Option Addr} {c10 : Nat} {A11 : Option Addr} {c11 : Nat} {A12 : Option Addr} {c12 : Nat} {A13 : Option Addr} {c13 : Nat} {A15 : Option Addr} {c15 : Nat} {A16 : Option Addr} {c16 : Nat} {f0 : Int} {f1 : Int} {f2 : Int} {f3 : Int} {f4 : Int} {f5 : Bool} {f6 : List (S196)} {f7 : List (S198)} {f8 : List (S157)} {f9 : List Int} {f10 : List (S82)} {f11 : List (S82)} {f12 : List Int} {f13 : List (S160)} {f14 : Int} {f15 : List (S178)} {f16 : List (S178)} {f17 : Int} {f18 : Int} {f19 : Int} (h : W.heap[g]? = some (.cells #[.int .i64 f0, .int .i64 f1, .int .i64 f2, .int .i64 f3, .int .i64 f4, .bool f5, .slice A6 f6.length c6, .slice A7 f7.length c7, .slice A8 f8.length c8, .slice A9 f9.length c9, .slice A10 f10.length c10, .slice A11 f11.length c11, .slice A12 f12.length c12, .slice A13 f13.length c13, .int .i64 f14, .slice A15 f15.length c15, .slice A16 f16.length c16, .int .i64 f17, .int .i64 f18, .int .i64 f19] 100 (0, 0))) : W.cell? ⟨g, 3, none⟩ = some (.int .i64 f3) := (blk_cell h 3).trans rfl
theorem IsS100.set_3 {w0 W : World} {g : Nat} {f0 : Int} {f1 : Int} {f2 : Int} {f3 : Int} {f4 : Int} {f5 : Bool} {f6 : List (S196)} {f7 : List (S198)} {f8 : List (S157)} {f9 : List Int} {f10 : List (S82)} {f11 : List (S82)} {f12 : List Int} {f13 : List (S160)} {f14 : Int} {f15 : List (S178)} {f16 : List (S178)} {f17 : Int} {f18 : Int} {f19 : Int} (h : IsS100 w0 W g f0 f1 f2 f3 f4 f5 f6 f7 f8 f9 f10 f11 f12 f13 f14 f15 f16 f17 f18 f19) (x : Int) : IsS100 w0 (W.setCell ⟨g, 3, none⟩ (.int .i64 x)) g f0 f1 f2 x f4 f5 f6 f7 f8 f9 f10 f11 f12 f13 f14 f15 f16 f17 f18 f19 := by
  obtain ⟨A6, c6, A7, c7, A8, c8, A9, c9, A10, c10, A11, c11, A12, c12, A13, c13, A15, c15, A16, c16, hb, hg, hr6, hr7, hr8, hr9, hr10, hr11, hr12, hr13, hr15, hr16⟩ := h
  exact ⟨A6, c6, A7, c7, A8, c8, A9, c9, A10, c10, A11, c11, A12, c12, A13, c13, A15, c15, A16, c16, by simpa using blk_set hb 3 (.int .i64 x), hg, hr6, hr7, hr8, hr9, hr10, hr11, hr12, hr13, hr15, hr16⟩
theorem cellS100_4 {W : World} {g : Nat} {A6 : Option Addr} {c6 : Nat} {A7 : Option Addr} {c7 : Nat} {A8 : Option Addr} {c8 : Nat} {A9 : Option Addr} {c9 : Nat} {A10 : Option Addr} {c10 : Nat} {A11 : Option Addr} {c11 : Nat} {A12 : Option Addr} {c12 : Nat} {A13 : Option Addr} {c13 : Nat} {A15 : Option Addr} {c15 : Nat} {A16 : Option Addr} {c16 : Nat} {f0 : Int} {f1 : Int} {f2 : Int} {f3 : Int} {f4 : Int} {f5 : Bool} {f6 : List (S196)} {f7 : List (S198)} {f8 : List (S157)} {f9 : List Int} {f10 : List (S82)} {f11 : List (S82)} {f12 : List Int} {f13 : List (S160)} {f14 : Int} {f15 : List (S178)} {f16 : List (S178)} {f17 : Int} {f18 : Int} {f19 : Int} (h : W.heap[g]? = some (.cells #[.int .i64 f0, .int .i64 f1, .int .i64 f2, .int .i64 f3, .int .i64 f4, .bool f5, .slice A6 f6.length c6, .slice A7 f7.length c7, .slice A8 f8.length c8, .slice A9 f9.length c9, .slice A10 f10.length c10, .slice A11 f11.length c11, .slice A12 f12.length c12, .slice A13 f13.length c13, .int .i64 f14, .slice A15 f15.length c15, .slice A16 f16.length c16, .int .i64 f17, .int .i64 f18, .int .i64 f19] 100 (0, 0))) : W.cell? ⟨g, 4, none⟩ = some (.int .i64 f4) := (blk_cell h 4).trans rfl
theorem IsS100.set_4 {w0 W : World} {g : Nat} {f0 : Int} {f1 : Int} {f2 : Int} {f3 : Int} {f4 : Int} {f5 : Bool} {f6 : List (S196)} {f7 : List (S198)} {f8 : List (S157)} {f9 : List Int} {f10 : List (S82)} {f11 : List (S82)} {f12 : List Int} {f13 : List (S160)} {f14 : Int} {f15 : List (S178)} {f16 : List (S178)} {f17 : Int} {f18 : Int} {f19 : Int} (h : IsS100 w0 W g f0 f1 f2 f3 f4 f5 f6 f7 f8 f9 f10 f11 f12 f13 f14 f15 f16 f17 f18 f19) (x : Int) : IsS100 w0 (W.setCell ⟨g, 4, none⟩ (.int .i64 x)) g f0 f1 f2 f3 x f5 f6 f7 f8 f9 f10 f11 f12 f13 f14 f15 f16 f17 f18 f19 := by
  obtain ⟨A6, c6, A7, c7, A8, c8, A9, c9, A10, c10, A11, c11, A12, c12, A13, c13, A15, c15, A16, c16, hb, hg, hr6, hr7, hr8, hr9, hr10, hr11, hr12, hr13, hr15, hr16⟩ := h
  exact ⟨A6, c6, A7, c7, A8, c8, A9, c9, A10, c10, A11, c11, A12, c12, A13, c13, A15, c15, A16, c16, by simpa using blk_set hb 4 (.int .i64 x), hg, hr6, hr7, hr8, hr9, hr10, hr11, hr12, hr13, hr15, hr16⟩
theorem cellS100_5 {W : World} {g : Nat} {A6 : Option Addr} {c6 : Nat} {A7 : Option Addr} {c7 : Nat} {A8 : Option Addr} {c8 : Nat} {A9 : Option Addr} {c9 : Nat} {A10 : Option Addr} {c10 : Nat} {A11 : Option Addr} {c11 : Nat} {A12 : Option Addr} {c12 : Nat} {A13 : Option Addr} {c13 : Nat} {A15 : Option Addr} {c15 : Nat} {A16 : Option Addr} {c16 : Nat} {f0 : Int} {f1 : Int} {f2 : Int} {f3 : Int} {f4 : Int} {f5 : Bool} {f6 : List (S196)} {f7 : List (S198)} {f8 : List (S157)} {f9 : List Int} {f10 : List (S82)} {f11 : List (S82)} {f12 : List Int} {f13 : List (S160)} {f14 : Int} {f15 : List (S178)} {f16 : List (S178)} {f17 : Int} {f18 : Int} {f19 : Int} (h : W.heap[g]? = some (.cells #[.int .i64 f0, .int .i64 f1, .int .i64 f2, .int .i64 f3, .int .i64 f4, .bool f5, .slice A6 f6.length c6, .slice A7 f7.length c7, .slice A8 f8.length c8, .slice A9 f9.length c9, .slice A10 f10.length c10, .slice A11 f11.length c11, .slice A12 f12.length c12, .slice A13 f13.length c13, .int .i64 f14, .slice A15 f15.length c15, .slice A16 f16.length c16, .int .i64 f17, .int .i64 f18, .int .i64 f19] 100 (0, 0))) : W.cell? ⟨g, 5, none⟩ = some (.bool f5) := (blk_cell h 5).trans rfl
theorem IsS100.set_5 {w0 W : World} {g : Nat} {f0 : Int} {f1 : Int} {f2 : Int} {f3 : Int} {f4 : Int} {f5 : Bool} {f6 : List (S196)} {f7 : List (S198)} {f8 : List (S157)} {f9 : List Int} {f10 : List (S82)} {f11 : List (S82)} {f12 : List Int} {f13 : List (S160)} {f14 : Int} {f15 : List (S178)} {f16 : List (S178)} {f17 : Int} {f18 : Int} {f19 : Int} (h : IsS100 w0 W g f0 f1 f2 f3 f4 f5 f6 f7 f8 f9 f10 f11 f12 f13 f14 f15 f16 f17 f18 f19) (x : Bool) : IsS100 w0 (W.setCell ⟨g, 5, none⟩ (.bool x)) g f0 f1 f2 f3 f4 x f6 f7 f8 f9 f10 f11 f12 f13 f14 f15 f16 f17 f18 f19 := by
  obtain ⟨A6, c6, A7, c7, A8, c8, A9, c9, A10, c10, A11, c11, A12, c12, A13, c13, A15, c15, A16, c16, hb, hg, hr6, hr7, hr8, hr9, hr10, hr11, hr12, hr13, hr15, hr16⟩ := h
  exact ⟨A6, c6, A7, c7, A8, c8, A9, c9, A10, c10, A11, c11, A12, c12, A13, c13, A15, c15, A16, c16, by simpa using blk_set hb 5 (.bool x), hg, hr6, hr7, hr8, hr9, hr10, hr11, hr12, hr13, hr15, hr16⟩
theorem cellS100_6 {W : World} {g : Nat} {A6 : Option Addr} {c6 : Nat} {A7 : Option Addr} {c7 : Nat} {A8 : Option Addr} {c8 : Nat} {A9 : Option Addr} {c9 : Nat} {A10 : Option Addr} {c10 : Nat} {A11 : Option Addr} {c11 : Nat} {A12 : Option Addr} {c12 : Nat} {A13 : Option Addr} {c13 : Nat} {A15 : Option Addr} {c15 : Nat} {A16 : Option Addr} {c16 : Nat} {f0 : Int} {f1 : Int} {f2 : Int} {f3 : Int} {f4 : Int} {f5 : Bool} {f6 : List (S196)} {f7 : List (S198)} {f8 : List (S157)} {f9 : List Int} {f10 : List (S82)} {f11 : List (S82)} {f12 : List Int} {f13 : List (S160)} {f14 : Int} {f15 : List (S178)} {f16 : List (S178)} {f17 : Int} {f18 : Int} {f19 : Int} (h : W.heap[g]? = some (.cells #[.int .i64 f0, .int .i64 f1, .int .i64 f2, .int .i64 f3, .int .i64 f4, .bool f5, .slice A6 f6.length c6, .slice A7 f7.length c7, .slice A8 f8.length c8, .slice A9 f9.length c9, .slice A10 f10.length c10, .slice A11 f11.length c11, .slice A12 f12.length c12, .slice A13 f13.length c13, .int .i64 f14, .slice A15 f15.length c15, .slice A16 f16.length c16, .int .i64 f17, .int .i64 f18, .int .i64 f19] 100 (0, 0))) : W.cell? ⟨g, 6, none⟩ = some (.slice A6 f6.length c6) := (blk_cell h 6).trans rfl
theorem cellS100_7 {W : World} {g : Nat} {A6 : Option Addr} {c6 : Nat} {A7 : Option Addr} {c7 : Nat} {A8 : Option Addr} {c8 : Nat} {A9 : Option Addr} {c9 : Nat} {A10 : Option Addr} {c10 : Nat} {A11 : Option Addr} {c11 : Nat} {A12 : Option Addr} {c12 : Nat} {A13 : Option Addr} {c13 : Nat} {A15 : Option Addr} {c15 : Nat} {A16 : Option Addr} {c16 : Nat} {f0 : Int} {f1 : Int} {f2 : Int} {f3 : Int} {f4 : Int} {f5 : Bool} {f6 : List (S196)} {f7 : List (S198)} {f8 : List (S157)} {f9 : List Int} {f10 : List (S82)} {f11 : List (S82)} {f12 : List Int} {f13 : List (S160)} {f14 : Int} {f15 : List (S178)} {f16 : List (S178)} {f17 : Int} {f18 : Int} {f19 : Int} (h : W.heap[g]? = some (.cells #[.int .i64 f0, .int .i64 f1, .int .i64 f2, .int .i64 f3, .int .i64 f4, .bool f5, .slice A6 f6.length c6, .slice A7 f7.length c7, .slice A8 f8.length c8, .slice A9 f9.length c9, .slice A10 f10.length c10, .slice A11 f11.length c11, .slice A12 f12.length c12, .slice A13 f13.length c13, .int .i64 f14, .slice A15 f15.length c15, .slice A16 f16.length c16, .int .i64 f17, .int .i64 f18, .int .i64 f19] 100 (0, 0))) : W.cell? ⟨g, 7, none⟩ = some (.slice A7 f7.length c7) := (blk_cell h 7).trans rfl
theorem cellS100_8 {W : World} {g : Nat} {A6 : Option Addr} {c6 : Nat} {A7 : Option Addr} {c7 : Nat} {A8 : Option Addr} {c8 : Nat} {A9 : Option Addr} {c9 : Nat} {A10 : Option Addr} {c10 : Nat} {A11 : Option Addr} {c11 : Nat} {A12 : Option Addr} {c12 : Nat} {A13 : Option Addr} {c13 : Nat} {A15 : Option Addr} {c15 : Nat} {A16 : Option Addr} {c16 : Nat} {f0 : Int} {f1 : Int} {f2 : Int} {f3 : Int} {f4 : Int} {f5 : Bool} {f6 : List (S196)} {f7 : List (S198)} {f8 : List (S157)} {f9 : List Int} {f10 : List (S82)} {f11 : List (S82)} {f12 : List Int} {f13 : List (S160)} {f14 : Int} {f15 : List (S178)} {f16 : List (S178)} {f17 : Int} {f18 : Int} {f19 : Int} (h : W.heap[g]? = some (.cells #[.int .i64 f0, .int .i64 f1, .int .i64 f2, .int .i64 f3, .int .i64 f4, .bool f5, .slice A6 f6.length c6, .slice A7 f7.length c7, .slice A8 f8.length c8, .slice A9 f9.length c9, .slice A10 f10.length c10, .slice A11 f11.length c11, .slice A12 f12.length c12, .slice A13 f13.length c13, .int .i64 f14, .slice A15 f15.length c15, .slice A16 f16.length c16, .int .i64 f17, .int .i64 f18, .int .i64 f19] 100 (0, 0))) : W.cell? ⟨g, 8, none⟩ = some (.slice A8 f8.length c8) := (blk_cell h 8).trans rfl
theorem cellS100_9 {W : World} {g : Nat} {A6 : Option Addr} {c6 : Nat} {A7 : Option Addr} {c7 : Nat} {A8 : Option Addr} {c8 : Nat} {A9 : Option Addr} {c9 : Nat} {A10 : Option Addr} {c10 : Nat} {A11 : Option Addr} {c11 : Nat} {A12 : Option Addr} {c12 : Nat} {A13 : Option Addr} {c13 : Nat} {A15 : Option Addr} {c15 : Nat} {A16 : Option Addr} {c16 : Nat} {f0 : Int} {f1 : Int} {f2 : Int} {f3 : Int} {f4 : Int} {f5 : Bool} {f6 : List (S196)} {f7 : List (S198)} {f8 : List (S157)} {f9 : List Int} {f10 : List (S82)} {f11 : List (S82)} {f12 : List Int} {f13 : List (S160)} {f14 : Int} {f15 : List (S178)} {f16 : List (S178)} {f17 : Int} {f18 : Int} {f19 : Int} (h : W.heap[g]? = some (.cells #[.int .i64 f0, .int .i64 f1, .int .i64 f2, .int .i64 f3, .int .i64 f4, .bool f5, .slice A6 f6.length c6, .slice A7 f7.length c7, .slice A8 f8.length c8, .slice A9 f9.length c9, .slice A10 f10.length c10, .slice A11 f11.length c11, .slice A12 f12.length c12, .slice A13 f13.length c13, .int .i64 f14, .slice A15 f15.length c15, .slice A16 f16.length c16, .int .i64 f17, .int .i64 f18, .int .i64 f19] 100 (0, 0))) : W.cell? ⟨g, 9, none⟩ = some (.slice A9 f9.length c9) := (blk_cell h 9).trans rfl
theorem cellS100_10 {W : World} {g : Nat} {A6 : Option Addr} {c6 : Nat} {A7 : Option Addr} {c7 : Nat} {A8 : Option Addr} {c8 : Nat} {A9 : Option Addr} {c9 : Nat} {A10 : Option Addr} {c10 : Nat} {A11 : Option Addr} {c11 : Nat} {A12 : Option Addr} {c12 : Nat} {A13 : Option Addr} {c13 : Nat} {A15 : Option Addr} {c15 : Nat} {A16 : Option Addr} {c16 : Nat} {f0 : Int} {f1 : Int} {f2 : Int} {f3 : Int} {f4 : Int} {f5 : Bool} {f6 : List (S196)} {f7 : List (S198)} {f8 : List (S157)} {f9 : List Int} {f10 : List (S82)} {f11 : List (S82)} {f12 : List Int} {f13 : List (S160)} {f14 : Int} {f15 : List (S178)} {f16 : List (S178)} {f17 : Int} {f18 : Int} {f19 : Int} (h : W.heap[g]? = some (.cells #[.int .i64 f0, .int .i64 f1, .int .i64 f2, .int .i64 f3, .int .i64 f4, .bool f5, .slice A6 f6.length c6, .slice A7 f7.length c7, .slice A8 f8.length c8, .slice A9 f9.length c9, .slice A10 f10.length c10, .slice A11 f11.length c11, .slice A12 f12.length c12, .slice A13 f13.length c13, .int .i64 f14, .slice A15 f15.length c15, .slice A16 f16.length c16, .int .i64 f17, .int .i64 f18, .int .i64 f19] 100 (0, 0))) : W.cell? ⟨g, 10, none⟩ = some (.slice A10 f10.length c10) := (blk_cell h 10).trans rfl
theorem cellS100_11 {W : World} {g : Nat} {A6 : Option Addr} {c6 : Nat} {A7 : Option Addr} {c7 : Nat} {A8 : Option Addr} {c8 : Nat} {A9 : Option Addr} {c9 : Nat} {A10 : Option Addr} {c10 : Nat} {A11 : Option Addr} {c11 : Nat} {A12 : Option Addr} {c12 : Nat} {A13 : Option Addr} {c13 : Nat} {A15 : Option Addr} {c15 : Nat} {A16 : Option Addr} {c16 : Nat} {f0 : Int} {f1 : Int} {f2 : Int} {f3 : Int} {f4 : Int} {f5 : Bool} {f6 : List (S196)} {f7 : List (S198)} {f8 : List (S157)} {f9 : List Int} {f10 : List (S82)} {f11 : List (S82)} {f12 : List Int} {f13 : List (S160)} {f14 : Int} {f15 : List (S178)} {f16 : List (S178)} {f17 : Int} {f18 : Int} {f19 : Int} (h : W.heap[g]? = some (.cells #[.int .i64 f0, .int .i64 f1, .int .i64 f2, .int .i64 f3, .int .i64 f4, .bool f5, .slice A6 f6.length c6, .slice A7 f7.length c7, .slice A8 f8.length c8, .slice A9 f9.length c9, .slice A10 f10.length c10, .slice A11 f11.length c11, .slice A12 f12.length c12, .slice A13 f13.length c13, .int .i64 f14, .slice A15 f15.length c15, .slice A16 f16.length c16, .int .i64 f17, .int .i64 f18, .int .i64 f19] 100 (0, 0))) : W.cell? ⟨g, 11, none⟩ = some (.slice A11 f11.length c11) := (blk_cell h 11).trans rfl
theorem cellS100_12 {W : World} {g : Nat} {A6 : Option Addr} {c6 : Nat} {A7 : Option Addr} {c7 : Nat} {A8 : Option Addr} {c8 : Nat} {A9 : Option Addr} {c9 : Nat} {A10 : Option Addr} {c10 : Nat} {A11 : Option Addr} {c11 : Nat} {A12 : Option Addr} {c12 : Nat} {A13 : Option Addr} {c13 : Nat} {A15 : Option Addr} {c15 : Nat} {A16 : Option Addr} {c16 : Nat} {f0 : Int} {f1 : Int} {f2 : Int} {f3 : Int} {f4 : Int} {f5 : Bool} {f6 : List (S196)} {f7 : List (S198)} {f8 : List (S157)} {f9 : List Int} {f10 : List (S82)} {f11 : List (S82)} {f12 : List Int} {f13 : List (S160)} {f14 : Int} {f15 : List (S178)} {f16 : List (S178)} {f17 : Int} {f18 : Int} {f19 : Int} (h : W.heap[g]? = some (.cells #[.int .i64 f0, .int .i64 f1, .int .i64 f2, .int .i64 f3, .int .i64 f4, .bool f5, .slice A6 f6.length c6, .slice A7 f7.length c7, .slice A8 f8.length c8, .slice A9 f9.length c9, .slice A10 f10.length c10, .slice A11 f11.length c11, .slice A12 f12.length c12, .slice A13 f13.length c13, .int .i64 f14, .slice A15 f15.length c15, .slice A16 f16.length c16, .int .i64 f17, .int .i64 f18, .int .i64 f19] 100 (0, 0))) : W.cell? ⟨g, 12, none⟩ = some (.slice A12 f12.length c12) := (blk_cell h 12).trans rfl
theorem cellS100_13 {W : World} {g : Nat} {A6 : Option Addr} {c6 : Nat} {A7 : Option Addr} {c7 : Nat} {A8 : Option Addr} {c8 : Nat} {A9 : Option Addr} {c9 : Nat} {A10 : Option Addr} {c10 : Nat} {A11 : Option Addr} {c11 : Nat} {A12 : Option Addr} {c12 : Nat} {A13 : Option Addr} {c13 : Nat} {A15 : Option Addr} {c15 : Nat} {A16 : Option Addr} {c16 : Nat} {f0 : Int} {f1 : Int} {f2 : Int} {f3 : Int} {f4 : Int} {f5 : Bool} {f6 : List (S196)} {f7 : List (S198)} {f8 : List (S157)} {f9 : List Int} {f10 : List (S82)} {f11 : List (S82)} {f12 : List Int} {f13 : List (S160)} {f14 : Int} {f15 : List (S178)} {f16 : List (S178)} {f17 : Int} {f18 : Int} {f19 : Int} (h : W.heap[g]? = some (.cells #[.int .i64 f0, .int .i64 f1, .int .i64 f2, .int .i64 f3, .int .i64 f4, .bool f5, .slice A6 f6.length c6, .slice A7 f7.length c7, .slice A8 f8.length c8, .slice A9 f9.length c9, .slice A10 f10.length c10, .slice A11 f11.length c11, .slice A12 f12.length c12, .slice A13 f13.length c13, .int .i64 f14, .slice A15 f15.length c15, .slice A16 f16.length c16, .int .i64 f17, .int .i64 f18, .int .i64 f19] 100 (0, 0))) : W.cell? ⟨g, 13, none⟩ = some (.slice A13 f13.length c13) := (blk_cell h 13).trans rfl
theorem cellS100_14 {W : World} {g : Nat} {A6 : Option Addr} {c6 : Nat} {A7 : Option Addr} {c7 : Nat} {A8 : Option Addr} {c8 : Nat} {A9 : Option Addr} {c9 : Nat} {A10 : Option Addr} {c10 : Nat} {A11 : Option Addr} {c11 : Nat} {A12 : Option Addr} {c12 : Nat} {A13 : Option Addr} {c13 : Nat} {A15 : Option Addr} {c15 : Nat} {A16 : Option Addr} {c16 : Nat} {f0 : Int} {f1 : Int} {f2 : Int} {f3 : Int} {f4 : Int} {f5 : Bool} {f6 : List (S196)} {f7 : List (S198)} {f8 : List (S157)} {f9 : List Int} {f10 : List (S82)} {f11 : List (S82)} {f12 : List Int} {f13 : List (S160)} {f14 : Int} {f15 : List (S178)} {f16 : List (S178)} {f17 : Int} {f18 : Int} {f19 : Int} (h : W.heap[g]? = some (.cells #[.int .i64 f0, .int .i64 f1, .int .i64 f2, .int .i64 f3, .int .i64 f4, .bool f5, .slice A6 f6.length c6, .slice A7 f7.length c7, .slice A8 f8.length c8, .slice A9 f9.length c9, .slice A10 f10.length c10, .slice A11 f11.length c11, .slice A12 f12.length c12, .slice A13 f13.length c13, .int .i64 f14, .slice A15 f15.length c15, .slice A16 f16.length c16, .int .i64 f17, .int .i64 f18, .int .i64 f19] 100 (0, 0))) : W.cell? ⟨g, 14, none⟩ = some (.int .i64 f14) := (blk_cell h 14).trans rfl
theorem IsS100.set_14 {w0 W : World} {g : Nat} {f0 : Int} {f1 : Int} {f2 : Int} {f3 : Int} {f4 : Int} {f5 : Bool} {f6 : List (S196)} {f7 : List (S198)} {f8 : List (S157)} {f9 : List Int} {f10 : List (S82)} {f11 : List (S82)} {f12 : List Int} {f13 : List (S160)} {f14 : Int} {f15 : List (S178)} {f16 : List (S178)} {f17 : Int} {f18 : Int} {f19 : Int} (h : IsS100 w0 W g f0 f1 f2 f3 f4 f5 f6 f7 f8 f9 f10 f11 f12 f13 f14 f15 f16 f17 f18 f19) (x : Int) : IsS100 w0 (W.setCell ⟨g, 14, none⟩ (.int .i64 x)) g f0 f1 f2 f3 f4 f5 f6 f7 f8 f9 f10 f11 f12 f13 x f15 f16 f17 f18 f19 := by
  obtain ⟨A6, c6, A7, c7, A8, c8, A9, c9, A10, c10, A11, c11, A12, c12, A13, c13, A15, c15, A16, c16, hb, hg, hr6, hr7, hr8, hr9, hr10, hr11, hr12, hr13, hr15, hr16⟩ := h
  exact ⟨A6, c6, A7, c7, A8, c8, A9, c9, A10, c10, A11, c11, A12, c12, A13, c13, A15, c15, A16, c16, by simpa using blk_set hb 14 (.int .i64 x), hg, hr6, hr7, hr8, hr9, hr10, hr11, hr12, hr13, hr15, hr16⟩
theorem cellS100_15 {W : World} {g : Nat} {A6 : Option Addr} {c6 : Nat} {A7 : Option Addr} {c7 : Nat} {A8 : Option Addr} {c8 : Nat} {A9 : Option Addr} {c9 : Nat} {A10 : Option Addr} {c10 : Nat} {A11 : Option Addr} {c11 : Nat} {A12 : Option Addr} {c12 : Nat} {A13 : Option Addr} {c13 : Nat} {A15 : Option Addr} {c15 : Nat} {A16 : Option Addr} {c16 : Nat} {f0 : Int} {f1 : Int} {f2 : Int} {f3 : Int} {f4 : Int} {f5 : Bool} {f6 : List (S196)} {f7 : List (S198)} {f8 : List (S157)} {f9 : List Int} {f10 : List (S82)} {f11 : List (S82)} {f12 : List Int} {f13 : List (S160)} {f14 : Int} {f15 : List (S178)} {f16 : List (S178)} {f17 : Int} {f18 : Int} {f19 : Int} (h : W.heap[g]? = some (.cells #[.int .i64 f0, .int .i64 f1, .int .i64 f2, .int .i64 f3, .int .i64 f4, .bool f5, .slice A6 f6.length c6, .slice A7 f7.length c7, .slice A8 f8.length c8, .slice A9 f9.length c9, .slice A10 f10.length c10, .slice A11 f11.length c11, .slice A12 f12.length c12, .slice A13 f13.length c13, .int .i64 f14, .slice A15 f15.length c15, .slice A16 f16.length c16, .int .i64 f17, .int .i64 f18, .int .i64 f19] 100 (0, 0))) : W.cell? ⟨g, 15, none⟩ = some (.slice A15 f15.length c15) := (blk_cell h 15).trans rfl
theorem cellS100_16 {W : World} {g : Nat} {A6 : Option Addr} {c6 : Nat} {A7 : Option Addr} {c7 : Nat} {A8 : Option Addr} {c8 : Nat} {A9 : Option Addr} {c9 : Nat} {A10 : Option Addr} {c10 : Nat} {A11 : Option Addr} {c11 : Nat} {A12 : Option Addr} {c12 : Nat} {A13 : Option Addr} {c13 : Nat} {A15 : Option Addr} {c15 : Nat} {A16 : Option Addr} {c16 : Nat} {f0 : Int} {f1 : Int} {f2 : Int} {f3 : Int} {f4 : Int} {f5 : Bool} {f6 : List (S196)} {f7 : List (S198)} {f8 : List (S157)} {f9 : List Int} {f10 : List (S82)} {f11 : List (S82)} {f12 : List Int} {f13 : List (S160)} {f14 : Int} {f15 : List (S178)} {f16 : List (S178)} {f17 : Int} {f18 : Int} {f19 : Int} (h : W.heap[g]? = some (.cells #[.int .i64 f0, .int .i64 f1, .int .i64 f2, .int .i64 f3, .int .i64 f4, .bool f5, .slice A6 f6.length c6, .slice A7 f7.length c7, .slice A8 f8.length c8, .slice A9 f9.length c9, .slice A10 f10.length c10, .slice A11 f11.length c11, .slice A12 f12.length c12, .slice A13 f13.length c13, .int .i64 f14, .slice A15 f15.length c15, .slice A16 f16.length c16, .int .i64 f17, .int .i64 f18, .int .i64 f19] 100 (0, 0))) : W.cell? ⟨g, 16, none⟩ = some (.slice A16 f16.length c16) := (blk_cell h 16).trans rfl
theorem cellS100_17 {W : World} {g : Nat} {A6 : Option Addr} {c6 : Nat} {A7 : Option Addr} {c7 : Nat} {A8 : Option Addr} {c8 : Nat} {A9 : Option Addr} {c9 : Nat} {A10 : Option Addr} {c10 : Nat} {A11 : Option Addr} {c11 : Nat} {A12 : Option Addr} {c12 : Nat} {A13 : Option Addr} {c13 : Nat} {A15 : Option Addr} {c15 : Nat} {A16 : Option Addr} {c16 : Nat} {f0 : Int} {f1 : Int} {f2 : Int} {f3 : Int} {f4 : Int} {f5 : Bool} {f6 : List (S196)} {f7 : List (S198)} {f8 : List (S157)} {f9 : List Int} {f10 : List (S82)} {f11 : List (S82)} {f12 : List Int} {f13 : List (S160)} {f14 : Int} {f15 : List (S178)} {f16 : List (S178)} {f17 : Int} {f18 : Int} {f19 : Int} (h : W.heap[g]? = some (.cells #[.int .i64 f0, .int .i64 f1, .int .i64 f2, .int .i64 f3, .int .i64 f4, .bool f5, .slice A6 f6.length c6, .slice A7 f7.length c7, .slice A8 f8.length c8, .slice A9 f9.length c9, .slice A10 f10.length c10, .slice A11 f11.length c11, .slice A12 f12.length c12, .slice A13 f13.length c13, .int .i64 f14, .slice A15 f15.length c15, .slice A16 f16.length c16, .int .i64 f17, .int .i64 f18, .int .i64 f19] 100 (0, 0))) : W.cell? ⟨g, 17, none⟩ = some (.int .i64 f17) := (blk_cell h 17).trans rfl
theorem IsS100.set_17 {w0 W : World} {g : Nat} {f0 : Int} {f1 : Int} {f2 : Int} {f3 : Int} {f4 : Int} {f5 : Bool} {f6 : List (S196)} {f7 : List (S198)} {f8 : List (S157)} {f9 : List Int} {f10 : List (S82)} {f11 : List (S82)} {f12 : List Int} {f13 : List (S160)} {f14 : Int} {f15 : List (S178)} {f16 : List (S178)} {f17 : Int} {f18 : Int} {f19 : Int} (h : IsS100 w0 W g f0 f1 f2 f3 f4 f5 f6 f7 f8 f9 f10 f11 f12 f13 f14 f15 f16 f17 f18 f19) (x : Int) : IsS100 w0 (W.setCell ⟨g, 17, none⟩ (.int .i64 x)) g f0 f1 f2 f3 f4 f5 f6 f7 f8 f9 f10 f11 f12 f13 f14 f15 f16 x f18 f19 := by
  obtain ⟨A6, c6, A7, c7, A8, c8, A9, c9, A10, c10, A11, c11, A12, c12, A13, c13, A15, c15, A16, c16, hb, hg, hr6, hr7, hr8, hr9, hr10, hr11, hr12, hr13, hr15, hr16⟩ := h
  exact ⟨A6, c6, A7, c7, A8, c8, A9, c9, A10, c10, A11, c11, A12, c12, A13, c13, A15, c15, A16, c16, by simpa using blk_set hb 17 (.int .i64 x), hg, hr6, hr7, hr8, hr9, hr10, hr11, hr12, hr13, hr15, hr16⟩
theorem cellS100_18 {W : World} {g : Nat} {A6 : Option Addr} {c6 : Nat} {A7 : Option Addr} {c7 : Nat} {A8 : Option Addr} {c8 : Nat} {A9 : Option Addr} {c9 : Nat} {A10 : Option Addr} {c10 : Nat} {A11 : Option Addr} {c11 : Nat} {A12 : Option Addr} {c12 : Nat} {A13 : Option Addr} {c13 : Nat} {A15 : Option Addr} {c15 : Nat} {A16 : Option Addr} {c16 : Nat} {f0 : Int} {f1 : Int} {f2 : Int} {f3 : Int} {f4 : Int} {f5 : Bool} {f6 : List (S196)} {f7 : List (S198)} {f8 : List (S157)} {f9 : List Int} {f10 : List (S82)} {f11 : List (S82)} {f12 : List Int} {f13 : List (S160)} {f14 : Int} {f15 : List (S178)} {f16 : List (S178)} {f17 : Int} {f18 : Int} {f19 : Int} (h : W.heap[g]? = some (.cells #[.int .i64 f0, .int .i64 f1, .int .i64 f2, .int .i64 f3, .int .i64 f4, .bool f5, .slice A6 f6.length c6, .slice A7 f7.length c7, .slice A8 f8.length c8, .slice A9 f9.length c9, .slice A10 f10.length c10, .slice A11 f11.length c11, .slice A12 f12.length c12, .slice A13 f13.length c13, .int .i64 f14, .slice A15 f15.length c15, .slice A16 f16.length c16, .int .i64 f17, .int .i64 f18, .int .i64 f19] 100 (0, 0))) : W.cell? ⟨g, 18, none⟩ = some (.int .i64 f18) := (blk_cell h 18).trans rfl
theorem IsS100.set_18 {w0 W : World} {g : Nat} {f0 : Int} {f1 : Int} {f2 : Int} {f3 : Int} {f4 : Int} {f5 : Bool} {f6 : List (S196)} {f7 : List (S198)} {f8 : List (S157)} {f9 : List Int} {f10 : List (S82)} {f11 : List (S82)} {f12 : List Int} {f13 : List (S160)} {f14 : Int} {f15 : List (S178)} {f16 : List (S178)} {f17 : Int} {f18 : Int} {f19 : Int} (h : IsS100 w0 W g f0 f1 f2 f3 f4 f5 f6 f7 f8 f9 f10 f11 f12 f13 f14 f15 f16 f17 f18 f19) (x : Int) : IsS100 w0 (W.setCell ⟨g, 18, none⟩ (.int .i64 x)) g f0 f1 f2 f3 f4 f5 f6 f7 f8 f9 f10 f11 f12 f13 f14 f15 f16 f17 x f19 := by
  obtain ⟨A6, c6, A7, c7, A8, c8, A9, c9, A10, c10, A11, c11, A12, c12, A13, c13, A15, c15, A16, c16, hb, hg, hr6, hr7, hr8, hr9, hr10, hr11, hr12, hr13, hr15, hr16⟩ := h
  exact ⟨A6, c6, A7, c7, A8, c8, A9, c9, A10, c10, A11, c11, A12, c12, A13, c13, A15, c15, A16, c16, by simpa using blk_set hb 18 (.int .i64 x), hg, hr6, hr7, hr8, hr9, hr10, hr11, hr12, hr13, hr15, hr16⟩
theorem cellS100_19 {W : World} {g : Nat} {A6 : Option Addr} {c6 : Nat} {A7 : Option Addr} {c7 : Nat} {A8 : Option Addr} {c8 : Nat} {A9 : Option Addr} {c9 : Nat} {A10 : Option Addr} {c10 : Nat} {A11 : Option Addr} {c11 : Nat} {A12 : Option Addr} {c12 : Nat} {A13 : Option Addr} {c13 : Nat} {A15 : Option Addr} {c15 : Nat} {A16 : Option Addr} {c16 : Nat} {f0 : Int} {f1 : Int} {f2 : Int} {f3 : Int} {f4 : Int} {f5 : Bool} {f6 : List (S196)} {f7 : List (S198)} {f8 : List (S157)} {f9 : List Int} {f10 : List (S82)} {f11 : List (S82)} {f12 : List Int} {f13 : List (S160)} {f14 : Int} {f15 : List (S178)} {f16 : List (S178)} {f17 : Int} {f18 : Int} {f19 : Int} (h : W.heap[g]? = some (.cells #[.int .i64 f0, .int .i64 f1, .int .i64 f2, .int .i64 f3, .int .i64 f4, .bool f5, .slice A6 f6.length c6, .slice A7 f7.length c7, .slice A8 f8.length c8, .slice A9 f9.length c9, .slice A10 f10.length c10, .slice A11 f11.length c11, .slice A12 f12.length c12, .slice A13 f13.length c13, .int .i64 f14, .slice A15 f15.length c15, .slice A16 f16.length c16, .int .i64 f17, .int .i64 f18, .int .i64 f19] 100 (0, 0))) : W.cell? ⟨g, 19, none⟩ = some (.int .i64 f19) := (blk_cell h 19).trans rfl
theorem IsS100.set_19 {w0 W : World} {g : Nat} {f0 : Int} {f1 : Int} {f2 : Int} {f3 : Int} {f4 : Int} {f5 : Bool} {f6 : List (S196)} {f7 : List (S198)} {f8 : List (S157)} {f9 : List Int} {f10 : List (S82)} {f11 : List (S82)} {f12 : List Int} {f13 : List (S160)} {f14 : Int} {f15 : List (S178)} {f16 : List (S178)} {f17 : Int} {f18 : Int} {f19 : Int} (h : IsS100 w0 W g f0 f1 f2 f3 f4 f5 f6 f7 f8 f9 f10 f11 f12 f13 f14 f15 f16 f17 f18 f19) (x : Int) : IsS100 w0 (W.setCell ⟨g, 19, none⟩ (.int .i64 x)) g f0 f1 f2 f3 f4 f5 f6 f7 f8 f9 f10 f11 f12 f13 f14 f15 f16 f17 f18 x := by
  obtain ⟨A6, c6, A7, c7, A8, c8, A9, c9, A10, c10, A11, c11, A12, c12, A13, c13, A15, c15, A16, c16, hb, hg, hr6, hr7, hr8, hr9, hr10, hr11, hr12, hr13, hr15, hr16⟩ := h
  exact ⟨A6, c6, A7, c7, A8, c8, A9, c9, A10, c10, A11, c11, A12, c12, A13, c13, A15, c15, A16, c16, by simpa using blk_set hb 19 (.int .i64 x), hg, hr6, hr7, hr8, hr9, hr10, hr11, hr12, hr13, hr15, hr16⟩
def stack_builder_keep.f (s0_0 : Int) (s0_1 : Int) (s0_2 : Int) (s0_3 : Int) (s0_4 : Int) (s0_5 : Bool) (s0_6 : List (S196)) (s0_7 : List (S198)) (s0_8 : List (S157)) (s0_9 : List Int) (s0_10 : List (S82)) (s0_11 : List (S82)) (s0_12 : List Int) (s0_13 : List (S160)) (s0_14 : Int) (s0_15 : List (S178)) (s0_16 : List (S178)) (s0_17 : Int) (s0_18 : Int) (s0_19 : Int) (a1 : Int) (a2 : Int) : Option (Int × Int × Int × Int × Int × Int × Bool × Int × Int × Int × Int) := if s0_19 = 0 then (if a2 = 0 then (some (a1, s0_0, s0_1, s0_2, s0_3, s0_4, s0_5, s0_14, s0_17, s0_18, a2)) else (some (0, s0_0, s0_1, s0_2, s0_3, s0_4, s0_5, s0_14, s0_17, s0_18, a2))) else (some (0, s0_0, s0_1, s0_2, s0_3, s0_4, s0_5, s0_14, s0_17, s0_18, s0_19))
set_option maxHeartbeats 8000000 in
set_option maxRecDepth 100000 in
theorem stack_builder_keep.calls (g : Nat) (s0_0 : Int) (s0_1 : Int) (s0_2 : Int) (s0_3 : Int) (s0_4 : Int) (s0_5 : Bool) (s0_6 : List (S196)) (s0_7 : List (S198)) (s0_8 : List (S157)) (s0_9 : List Int) (s0_10 : List (S82)) (s0_11 : List (S82)) (s0_12 : List Int) (s0_13 : List (S160)) (s0_14 : Int) (s0_15 : List (S178)) (s0_16 : List (S178)) (s0_17 : Int) (s0_18 : Int) (s0_19 : Int) (a1 : Int) (a2 : Int) (r1 : Int) (r2 : Int) (r3 : Int) (r4 : Int) (r5 : Int) (r6 : Int) (r7 : Bool) (r8 : Int) (r9 : Int) (r10 : Int) (r11 : Int) (w0 w : World) (hI : IsS100 w0 w g s0_0 s0_1 s0_2 s0_3 s0_4 s0_5 s0_6 s0_7 s0_8 s0_9 s0_10 s0_11 s0_12 s0_13 s0_14 s0_15 s0_16 s0_17 s0_18 s0_19) (hB : Below w0.heap.size w0 w) (h : stack_builder_keep.f s0_0 s0_1 s0_2 s0_3 s0_4 s0_5 s0_6 s0_7 s0_8 s0_9 s0_10 s0_11 s0_12 s0_13 s0_14 s0_15 s0_16 s0_17 s0_18 s0_19 a1 a2 = some (r1, r2, r3, r4, r5, r6, r7, r8, r9, r10, r11)) :
    Calls Try.prog 97 #[.pointer (some ⟨g, 0, none⟩), .int .i64 a1, .int .i64 a2] w fun e w' => e = .returned (.int .i64 r1) ∧ IsS100 w0 w' g r2 r3 r4 r5 r6 r7 s0_6 s0_7 s0_8 s0_9 s0_10 s0_11 s0_12 s0_13 r8 s0_15 s0_16 r9 r10 r11 ∧ Below w0.heap.size w0 w' ∧ KeepBut w w' g none := by
  have HI0 := Aside0.mk hI
  have HK := Aside0.mk (KeepBut.refl w g none)
  have HL := Aside0.mk hB.size
  clear hI
  have HW0 := Aside0.mk hB.size
  have HB := Aside0.mk hB
  clear hB
  have H : (if s0_19 = 0 then (if a2 = 0 then (some (a1, s0_0, s0_1, s0_2, s0_3, s0_4, s0_5, s0_14, s0_17, s0_18, a2)) else (some (0, s0_0, s0_1, s0_2, s0_3, s0_4, s0_5, s0_14, s0_17, s0_18, a2))) else (some (0, s0_0, s0_1, s0_2, s0_3, s0_4, s0_5, s0_14, s0_17, s0_18, s0_19))) = some (r1, r2, r3, r4, r5, r6, r7, r8, r9, r10, r11) := h
  clear h
  by_cases c4 : s0_19 = 0
  · rw [if_pos c4] at H
    have c4b0 : (s0_19 == 0) = true := beq_iff_eq.mpr c4
    have c4b1 : (s0_19 != 0) = false := bne_eq_false_iff_eq.mpr c4
    clear c4
    by_cases c5 : a2 = 0
    · rw [if_pos c5] at H
      have c5b0 : (a2 == 0) = true := beq_iff_eq.mpr c5
      have c5b1 : (a2 != 0) = false := bne_eq_false_iff_eq.mpr c5
      clear c5
      simp only [Option.some.injEq, Prod.mk.injEq] at H
      obtain ⟨rfl, rfl, rfl, rfl, rfl, rfl, rfl, rfl, rfl, rfl, rfl⟩ := H
      obtain ⟨ASz6_6, cSz6_6, ASz6_7, cSz6_7, ASz6_8, cSz6_8, ASz6_9, cSz6_9, ASz6_10, cSz6_10, ASz6_11, cSz6_11, ASz6_12, cSz6_12, ASz6_13, cSz6_13, ASz6_15, cSz6_15, ASz6_16, cSz6_16, HGz6, hgz6, HSz6_6, HSz6_7, HSz6_8, HSz6_9, HSz6_10, HSz6_11, HSz6_12, HSz6_13, HSz6_15, HSz6_16⟩ := HI0.out
      have hcz6_0 := cellS100_0 HGz6
      have hcz6_1 := cellS100_1 HGz6
      have hcz6_2 := cellS100_2 HGz6
      have hcz6_3 := cellS100_3 HGz6
      have hcz6_4 := cellS100_4 HGz6
      have hcz6_5 := cellS100_5 HGz6
      have hcz6_6 := cellS100_6 HGz6
      have hcz6_7 := cellS100_7 HGz6
      have hcz6_8 := cellS100_8 HGz6
      have hcz6_9 := cellS100_9 HGz6
      have hcz6_10 := cellS100_10 HGz6
      have hcz6_11 := cellS100_11 HGz6
      have hcz6_12 := cellS100_12 HGz6
      have hcz6_13 := cellS100_13 HGz6
      have hcz6_14 := cellS100_14 HGz6
      have hcz6_15 := cellS100_15 HGz6
      have hcz6_16 := cellS100_16 HGz6
      have hcz6_17 := cellS100_17 HGz6
      have hcz6_18 := cellS100_18 HGz6
      have hcz6_19 := cellS100_19 HGz6
      have hfz6_0 := blk_frozen HGz6 0
      have hfz6_1 := blk_frozen HGz6 1
      have hfz6_2 := blk_frozen HGz6 2
      have hfz6_3 := blk_frozen HGz6 3
      have hfz6_4 := blk_frozen HGz6 4
      have hfz6_5 := blk_frozen HGz6 5
      have hfz6_14 := blk_frozen HGz6 14
      have hfz6_17 := blk_frozen HGz6 17
      have hfz6_18 := blk_frozen HGz6 18
      have hfz6_19 := blk_frozen HGz6 19
      clear HGz6 hgz6
      go_enter Try.func97, Try.ntmps97
      go_wp2
      go_ret
      exact ⟨by first | rfl | (simp [errW_none, errW_some] <;> rfl) | (simp [*, errW_none, errW_some] <;> rfl), by repeat (first | (with_reducible first | exact HI0.out | apply IsS100.alloc | apply IsS100.drewN | apply IsS100.drew | apply IsS100.set_0 | apply IsS100.set_1 | apply IsS100.set_2 | apply IsS100.set_3 | apply IsS100.set_4 | apply IsS100.set_5 | apply IsS100.set_14 | apply IsS100.set_17 | apply IsS100.set_18 | apply IsS100.set_19) | exact HI0.out), by repeat (first | (with_reducible first | exact HB.out | apply below_alloc | apply pw_below_drewN | apply below_drew1 | refine below_set ?_ (IsS100.ge HI0.out)) | exact HB.out), by repeat (first | (with_reducible first | exact HK.out | apply KeepBut.set_ | apply keep_drewN | apply keep_drew | apply keep_alloc) | exact HK.out)⟩
    · rw [if_neg c5] at H
      have c5b0 : (a2 == 0) = false := beq_eq_false_iff_ne.mpr c5
      have c5b1 : (a2 != 0) = true := bne_iff_ne.mpr c5
      simp only [Option.some.injEq, Prod.mk.injEq] at H
      obtain ⟨rfl, rfl, rfl, rfl, rfl, rfl, rfl, rfl, rfl, rfl, rfl⟩ := H
      obtain ⟨ASz7_6, cSz7_6, ASz7_7, cSz7_7, ASz7_8, cSz7_8, ASz7_9, cSz7_9, ASz7_10, cSz7_10, ASz7_11, cSz7_11, ASz7_12, cSz7_12, ASz7_13, cSz7_13, ASz7_15, cSz7_15, ASz7_16, cSz7_16, HGz7, hgz7, HSz7_6, HSz7_7, HSz7_8, HSz7_9, HSz7_10, HSz7_11, HSz7_12, HSz7_13, HSz7_15, HSz7_16⟩ := HI0.out
      have hcz7_0 := cellS100_0 HGz7
      have hcz7_1 := cellS100_1 HGz7
      have hcz7_2 := cellS100_2 HGz7
      have hcz7_3 := cellS100_3 HGz7
      have hcz7_4 := cellS100_4 HGz7
      have hcz7_5 := cellS100_5 HGz7
      have hcz7_6 := cellS100_6 HGz7
      have hcz7_7 := cellS100_7 HGz7
      have hcz7_8 := cellS100_8 HGz7
      have hcz7_9 := cellS100_9 HGz7
      have hcz7_10 := cellS100_10 HGz7
      have hcz7_11 := cellS100_11 HGz7
      have hcz7_12 := cellS100_12 HGz7
      have hcz7_13 := cellS100_13 HGz7
      have hcz7_14 := cellS100_14 HGz7
      have hcz7_15 := cellS100_15 HGz7
      have hcz7_16 := cellS100_16 HGz7
      have hcz7_17 := cellS100_17 HGz7
      have hcz7_18 := cellS100_18 HGz7
      have hcz7_19 := cellS100_19 HGz7
      have hfz7_0 := blk_frozen HGz7 0
      have hfz7_1 := blk_frozen HGz7 1
      have hfz7_2 := blk_frozen HGz7 2
      have hfz7_3 := blk_frozen HGz7 3
      have hfz7_4 := blk_frozen HGz7 4
      have hfz7_5 := blk_frozen HGz7 5
      have hfz7_14 := blk_frozen HGz7 14
      have hfz7_17 := blk_frozen HGz7 17
      have hfz7_18 := blk_frozen HGz7 18
      have hfz7_19 := blk_frozen HGz7 19
      clear HGz7 hgz7
      go_enter Try.func97, Try.ntmps97
      go_wp2
      go_ret
      exact ⟨by first | rfl | (simp [errW_none, errW_some] <;> rfl) | (simp [*, errW_none, errW_some] <;> rfl), by repeat (first | (with_reducible first | exact HI0.out | apply IsS100.alloc | apply IsS100.drewN | apply IsS100.drew | apply IsS100.set_0 | apply IsS100.set_1 | apply IsS100.set_2 | apply IsS100.set_3 | apply IsS100.set_4 | apply IsS100.set_5 | apply IsS100.set_14 | apply IsS100.set_17 | apply IsS100.set_18 | apply IsS100.set_19) | exact HI0.out), by repeat (first | (with_reducible first | exact HB.out | apply below_alloc | apply pw_below_drewN | apply below_drew1 | refine below_set ?_ (IsS100.ge HI0.out)) | exact HB.out), by repeat (first | (with_reducible first | exact HK.out | apply KeepBut.set_ | apply keep_drewN | apply keep_drew | apply keep_alloc) | exact HK.out)⟩
  · rw [if_neg c4] at H
    have c4b0 : (s0_19 == 0) = false := beq_eq_false_iff_ne.mpr c4
    have c4b1 : (s0_19 != 0) = true := bne_iff_ne.mpr c4
    simp only [Option.some.injEq, Prod.mk.injEq] at H
    obtain ⟨rfl, rfl, rfl, rfl, rfl, rfl, rfl, rfl, rfl, rfl, rfl⟩ := H
    obtain ⟨ASz8_6, cSz8_6, ASz8_7, cSz8_7, ASz8_8, cSz8_8, ASz8_9, cSz8_9, ASz8_10, cSz8_10, ASz8_11, cSz8_11, ASz8_12, cSz8_12, ASz8_13, cSz8_13, ASz8_15, cSz8_15, ASz8_16, cSz8_16, HGz8, hgz8, HSz8_6, HSz8_7, HSz8_8, HSz8_9, HSz8_10, HSz8_11, HSz8_12, HSz8_13, HSz8_15, HSz8_16⟩ := HI0.out
    have hcz8_0 := cellS100_0 HGz8
    have hcz8_1 := cellS100_1 HGz8
    have hcz8_2 := cellS100_2 HGz8
    have hcz8_3 := cellS100_3 HGz8
    have hcz8_4 := cellS100_4 HGz8
    have hcz8_5 := cellS100_5 HGz8
    have hcz8_6 := cellS100_6 HGz8
    have hcz8_7 := cellS100_7 HGz8
    have hcz8_8 := cellS100_8 HGz8
    have hcz8_9 := cellS100_9 HGz8
    have hcz8_10 := cellS100_10 HGz8
    have hcz8_11 := cellS100_11 HGz8
    have hcz8_12 := cellS100_12 HGz8
    have hcz8_13 := cellS100_13 HGz8
    have hcz8_14 := cellS100_14 HGz8
    have hcz8_15 := cellS100_15 HGz8
    have hcz8_16 := cellS100_16 HGz8
    have hcz8_17 := cellS100_17 HGz8
    have hcz8_18 := cellS100_18 HGz8
    have hcz8_19 := cellS100_19 HGz8
    have hfz8_0 := blk_frozen HGz8 0
    have hfz8_1 := blk_frozen HGz8 1
    have hfz8_2 := blk_frozen HGz8 2
    have hfz8_3 := blk_frozen HGz8 3
    have hfz8_4 := blk_frozen HGz8 4
    have hfz8_5 := blk_frozen HGz8 5
    have hfz8_14 := blk_frozen HGz8 14
    have hfz8_17 := blk_frozen HGz8 17
    have hfz8_18 := blk_frozen HGz8 18
    have hfz8_19 := blk_frozen HGz8 19
    clear HGz8 hgz8
    go_enter Try.func97, Try.ntmps97
    go_wp2
    go_ret
    exact ⟨by first | rfl | (simp [errW_none, errW_some] <;> rfl) | (simp [*, errW_none, errW_some] <;> rfl), by repeat (first | (with_reducible first | exact HI0.out | apply IsS100.alloc | apply IsS100.drewN | apply IsS100.drew | apply IsS100.set_0 | apply IsS100.set_1 | apply IsS100.set_2 | apply IsS100.set_3 | apply IsS100.set_4 | apply IsS100.set_5 | apply IsS100.set_14 | apply IsS100.set_17 | apply IsS100.set_18 | apply IsS100.set_19) | exact HI0.out), by repeat (first | (with_reducible first | exact HB.out | apply below_alloc | apply pw_below_drewN | apply below_drew1 | refine below_set ?_ (IsS100.ge HI0.out)) | exact HB.out), by repeat (first | (with_reducible first | exact HK.out | apply KeepBut.set_ | apply keep_drewN | apply keep_drew | apply keep_alloc) | exact HK.out)⟩
end Go.Proofs.Ytbhljokhcmfgjaa.P
namespace Go.Proofs.Ytbhljokhcmfgjaa.P
open Go.RowKit Go.Proofs.YtbhljokhcmfgjaaW.PrintWords Go.Proofs.YtbhljokhcmfgjaaW.PrintLast Go.Proofs.YtbhljokhcmfgjaaW.PrintMore
set_option linter.unusedVariables false
set_option linter.unusedSimpArgs false
def stack_builder_konst.f (k : Nat) (s0_0 : Int) (s0_1 : Int) (s0_2 : Int) (s0_3 : Int) (s0_4 : Int) (s0_5 : Bool) (s0_6 : List (S196)) (s0_7 : List (S198)) (s0_8 : List (S157)) (s0_9 : List Int) (s0_10 : List (S82)) (s0_11 : List (S82)) (s0_12 : List Int) (s0_13 : List (S160)) (s0_14 : Int) (s0_15 : List (S178)) (s0_16 : List (S178)) (s0_17 : Int) (s0_18 : Int) (s0_19 : Int) (a1 : Int) : Option (Int × Int × Int × Int × Int × Int × Bool × Int × Int × Int × Int) := (style_Konst.f k s0_0 s0_1 s0_2 s0_3 s0_4 s0_5 s0_6 s0_7 s0_8 s0_9 s0_10 s0_11 s0_12 s0_13 s0_14 s0_15 s0_16 a1 s0_17 s0_18).bind fun b => stack_builder_keep.f s0_0 s0_1 s0_2 s0_3 s0_4 s0_5 s0_6 s0_7 s0_8 s0_9 s0_10 s0_11 s0_12 s0_13 s0_14 s0_15 s0_16 s0_17 s0_18 s0_19 b.1 b.2
theorem stack_builder_konst.mono : ∀ s0_0 s0_1 s0_2 s0_3 s0_4 s0_5 s0_6 s0_7 s0_8 s0_9 s0_10 s0_11 s0_12 s0_13 s0_14 s0_15 s0_16 s0_17 s0_18 s0_19 a1 k, LeO (stack_builder_konst.f k s0_0 s0_1 s0_2 s0_3 s0_4 s0_5 s0_6 s0_7 s0_8 s0_9 s0_10 s0_11 s0_12 s0_13 s0_14 s0_15 s0_16 s0_17 s0_18 s0_19 a1) (stack_builder_konst.f (k + 1) s0_0 s0_1 s0_2 s0_3 s0_4 s0_5 s0_6 s0_7 s0_8 s0_9 s0_10 s0_11 s0_12 s0_13 s0_14 s0_15 s0_16 s0_17 s0_18 s0_19 a1) := by
  intro s0_0 s0_1 s0_2 s0_3 s0_4 s0_5 s0_6 s0_7 s0_8 s0_9 s0_10 s0_11 s0_12 s0_13 s0_14 s0_15 s0_16 s0_17 s0_18 s0_19 a1 k
  unfold stack_builder_konst.f
  exact LeO.bind (style_Konst.mono s0_0 s0_1 s0_2 s0_3 s0_4 s0_5 s0_6 s0_7 s0_8 s0_9 s0_10 s0_11 s0_12 s0_13 s0_14 s0_15 s0_16 a1 s0_17 s0_18 k) (fun _ => LeO.refl _)
set_option maxRecDepth 100000 in
set_option maxHeartbeats 1000000 in
theorem keep_sharp (g : Nat) (cs : Array Value) (n e0 a2 : Int) (w : World) (hb : w.heap[g]? = some (.cells cs 100 (0, 0))) (hc : cs[19]? = some (.int .i64 e0)) :
    Calls Try.prog 97 #[.pointer (some ⟨g, 0, none⟩), .int .i64 n, .int .i64 a2] w fun e w' => e = .returned (.int .i64 (if e0 = 0 ∧ a2 = 0 then n else 0)) ∧ w' = (if e0 = 0 then w.setCell ⟨g, 19, none⟩ (.int .i64 a2) else w) := by
  have h19 := (blk_cell hb 19).trans hc
  have f19 : w.frozen? ⟨g, 19, none⟩ = false := Lib.frozen_of_heap hb 19
  by_cases h0 : e0 = 0
  · subst h0
    have hb2 := blk_set hb 19 (.int .i64 a2)
    have h19' : (w.setCell ⟨g, 19, none⟩ (.int .i64 a2)).cell? ⟨g, 19, none⟩ = some (.int .i64 a2) := by
      refine (blk_cell hb2 19).trans ?_
      have : 19 < cs.size := by
        rcases Nat.lt_or_ge 19 cs.size with h | h
        · exact h
        · simp [Array.getElem?_eq_none h] at hc
      simp [this]
    by_cases h2 : a2 = 0
    · subst h2
      go_enter Try.func97, Try.ntmps97
      go_wp2
      go_ret
      exact ⟨by simp, by simp⟩
    · have hd2 : (a2 != 0) = true := by simpa using h2
      go_enter Try.func97, Try.ntmps97
      go_wp2
      go_ret
      exact ⟨by simp [h2], by simp⟩
  · have hd1 : (e0 == 0) = false := by simpa using h0
    have hd2 : (e0 != 0) = true := by simpa using h0
    go_enter Try.func97, Try.ntmps97
    go_wp2
    go_ret
    exact ⟨by simp [h0], by simp [h0]⟩
theorem keep_sharp' (rv : Int) (g : Nat) (cs : Array Value) (n e0 a2 : Int) (w : World) (hrv : (if e0 = 0 ∧ a2 = 0 then n else 0) = rv) (hb : w.heap[g]? = some (.cells cs 100 (0, 0))) (hc : cs[19]? = some (.int .i64 e0)) :
    Calls Try.prog 97 #[.pointer (some ⟨g, 0, none⟩), .int .i64 n, .int .i64 a2] w fun e w' => e = .returned (.int .i64 rv) ∧ w' = (if e0 = 0 then w.setCell ⟨g, 19, none⟩ (.int .i64 a2) else w) := hrv ▸ keep_sharp g cs n e0 a2 w hb hc
theorem keep_val (s0_0 : Int) (s0_1 : Int) (s0_2 : Int) (s0_3 : Int) (s0_4 : Int) (s0_5 : Bool) (s0_6 : List (S196)) (s0_7 : List (S198)) (s0_8 : List (S157)) (s0_9 : List Int) (s0_10 : List (S82)) (s0_11 : List (S82)) (s0_12 : List Int) (s0_13 : List (S160)) (s0_14 : Int) (s0_15 : List (S178)) (s0_16 : List (S178)) (s0_17 : Int) (s0_18 : Int) (s0_19 : Int) (n e : Int) : stack_builder_keep.f s0_0 s0_1 s0_2 s0_3 s0_4 s0_5 s0_6 s0_7 s0_8 s0_9 s0_10 s0_11 s0_12 s0_13 s0_14 s0_15 s0_16 s0_17 s0_18 s0_19 n e = some ((if s0_19 = 0 ∧ e = 0 then n else 0), s0_0, s0_1, s0_2, s0_3, s0_4, s0_5, s0_14, s0_17, s0_18, (if s0_19 = 0 then e else s0_19)) := by
  unfold stack_builder_keep.f
  by_cases h0 : s0_19 = 0
  · by_cases h1 : e = 0
    · simp [h0, h1]
    · simp [h0, h1]
  · simp [h0]
set_option maxRecDepth 100000 in
set_option maxHeartbeats 4000000 in
theorem stack_builder_konst.calls (k : Nat) (g : Nat) (s0_0 : Int) (s0_1 : Int) (s0_2 : Int) (s0_3 : Int) (s0_4 : Int) (s0_5 : Bool) (s0_6 : List (S196)) (s0_7 : List (S198)) (s0_8 : List (S157)) (s0_9 : List Int) (s0_10 : List (S82)) (s0_11 : List (S82)) (s0_12 : List Int) (s0_13 : List (S160)) (s0_14 : Int) (s0_15 : List (S178)) (s0_16 : List (S178)) (s0_17 : Int) (s0_18 : Int) (s0_19 : Int) (a1 : Int) (r1 : Int) (r2 : Int) (r3 : Int) (r4 : Int) (r5 : Int) (r6 : Int) (r7 : Bool) (r8 : Int) (r9 : Int) (r10 : Int) (r11 : Int) (w0 w : World) (hI : IsS100 w0 w g s0_0 s0_1 s0_2 s0_3 s0_4 s0_5 s0_6 s0_7 s0_8 s0_9 s0_10 s0_11 s0_12 s0_13 s0_14 s0_15 s0_16 s0_17 s0_18 s0_19) (hB : Below w0.heap.size w0 w) (h : stack_builder_konst.f k s0_0 s0_1 s0_2 s0_3 s0_4 s0_5 s0_6 s0_7 s0_8 s0_9 s0_10 s0_11 s0_12 s0_13 s0_14 s0_15 s0_16 s0_17 s0_18 s0_19 a1 = some (r1, r2, r3, r4, r5, r6, r7, r8, r9, r10, r11)) :
    Calls Try.prog 58 #[.pointer (some ⟨g, 0, none⟩), .int .i64 a1] w fun e w' => e = .returned (.int .i64 r1) ∧ IsS100 w0 w' g r2 r3 r4 r5 r6 r7 s0_6 s0_7 s0_8 s0_9 s0_10 s0_11 s0_12 s0_13 r8 s0_15 s0_16 r9 r10 r11 ∧ Below w0.heap.size w0 w' ∧ KeepBut w w' g none := by
  have hu36 := Try.underlying63
  have hu127 := Try.underlying100
  obtain ⟨⟨n, e⟩, hK, hP⟩ := Option.bind_eq_some_iff.mp h
  replace hP : stack_builder_keep.f s0_0 s0_1 s0_2 s0_3 s0_4 s0_5 s0_6 s0_7 s0_8 s0_9 s0_10 s0_11 s0_12 s0_13 s0_14 s0_15 s0_16 s0_17 s0_18 s0_19 n e = some (r1, r2, r3, r4, r5, r6, r7, r8, r9, r10, r11) := hP
  rw [keep_val] at hP
  simp only [Option.some.injEq, Prod.mk.injEq] at hP
  obtain ⟨hr1, rfl, rfl, rfl, rfl, rfl, rfl, rfl, rfl, rfl, hrl⟩ := hP
  have HRV := Aside0.mk hr1
  have HRL := Aside0.mk hrl
  clear hr1 hrl
  have HI := Aside0.mk hI
  obtain ⟨A6, c6, A7, c7, A8, c8, A9, c9, A10, c10, A11, c11, A12, c12, A13, c13, A15, c15, A16, c16, hb, hg, hr6, hr7, hr8, hr9, hr10, hr11, hr12, hr13, hr15, hr16⟩ := hI
  have hx0 := blk_cell hb 0
  have hx1 := blk_cell hb 1
  have hx2 := blk_cell hb 2
  have hx3 := blk_cell hb 3
  have hx4 := blk_cell hb 4
  have hx5 := blk_cell hb 5
  have hx6 := blk_cell hb 6
  have hx7 := blk_cell hb 7
  have hx8 := blk_cell hb 8
  have hx9 := blk_cell hb 9
  have hx10 := blk_cell hb 10
  have hx11 := blk_cell hb 11
  have hx12 := blk_cell hb 12
  have hx13 := blk_cell hb 13
  have hx14 := blk_cell hb 14
  have hx15 := blk_cell hb 15
  have hx16 := blk_cell hb 16
  have hx17 := blk_cell hb 17
  have hx18 := blk_cell hb 18
  simp only [List.getElem?_toArray, List.getElem?_cons_zero, List.getElem?_cons_succ] at hx0 hx1 hx2 hx3 hx4 hx5 hx6 hx7 hx8 hx9 hx10 hx11 hx12 hx13 hx14 hx15 hx16 hx17 hx18
  have HR6 := Aside0.mk (Kd.C_below hr6 hB)
  have HR7 := Aside0.mk (Kd.C_below hr7 hB)
  have HR8 := Aside0.mk (Kd.C_below hr8 hB)
  have HR9 := Aside0.mk (Kd.C_below hr9 hB)
  have HR10 := Aside0.mk (Kd.C_below hr10 hB)
  have HR11 := Aside0.mk (Kd.C_below hr11 hB)
  have HR12 := Aside0.mk (Kd.C_below hr12 hB)
  have HR13 := Aside0.mk (Kd.C_below hr13 hB)
  have HR15 := Aside0.mk (Kd.C_below hr15 hB)
  have HR16 := Aside0.mk (Kd.C_below hr16 hB)
  have HB0 := Aside0.mk hB
  have HBK := Aside0.mk hb
  have HK := Aside0.mk hK
  clear hb hB hK h hr6 hr7 hr8 hr9 hr10 hr11 hr12 hr13 hr15 hr16
  by_cases h0 : s0_19 = 0
  · have h0 := Aside0.mk h0
    go_enter Try.func58, Try.ntmps58
    go_wp2_with fail
    go_region_held3 (fun w' => w'.cell? ⟨g, 0, none⟩ = some (.int .i64 s0_0) ∧ w'.cell? ⟨g, 1, none⟩ = some (.int .i64 s0_1) ∧ w'.cell? ⟨g, 2, none⟩ = some (.int .i64 s0_2) ∧ w'.cell? ⟨g, 3, none⟩ = some (.int .i64 s0_3) ∧ w'.cell? ⟨g, 4, none⟩ = some (.int .i64 s0_4) ∧ w'.cell? ⟨g, 5, none⟩ = some (.bool s0_5) ∧ w'.cell? ⟨g, 6, none⟩ = some (.slice A6 s0_6.length c6) ∧ w'.cell? ⟨g, 7, none⟩ = some (.slice A7 s0_7.length c7) ∧ w'.cell? ⟨g, 8, none⟩ = some (.slice A8 s0_8.length c8) ∧ w'.cell? ⟨g, 9, none⟩ = some (.slice A9 s0_9.length c9) ∧ w'.cell? ⟨g, 10, none⟩ = some (.slice A10 s0_10.length c10) ∧ w'.cell? ⟨g, 11, none⟩ = some (.slice A11 s0_11.length c11) ∧ w'.cell? ⟨g, 12, none⟩ = some (.slice A12 s0_12.length c12) ∧ w'.cell? ⟨g, 13, none⟩ = some (.slice A13 s0_13.length c13) ∧ w'.cell? ⟨g, 14, none⟩ = some (.int .i64 s0_14) ∧ w'.cell? ⟨g, 15, none⟩ = some (.slice A15 s0_15.length c15) ∧ w'.cell? ⟨g, 16, none⟩ = some (.slice A16 s0_16.length c16) ∧ w'.cell? ⟨g, 17, none⟩ = some (.int .i64 s0_17) ∧ w'.cell? ⟨g, 18, none⟩ = some (.int .i64 s0_18))
      (first
        | go_keep
        | (have hbk := blk_below (blk_drew HBK.out) hd1; exact ⟨by simpa using blk_cell hbk 0, by simpa using blk_cell hbk 1, by simpa using blk_cell hbk 2, by simpa using blk_cell hbk 3, by simpa using blk_cell hbk 4, by simpa using blk_cell hbk 5, by simpa using blk_cell hbk 6, by simpa using blk_cell hbk 7, by simpa using blk_cell hbk 8, by simpa using blk_cell hbk 9, by simpa using blk_cell hbk 10, by simpa using blk_cell hbk 11, by simpa using blk_cell hbk 12, by simpa using blk_cell hbk 13, by simpa using blk_cell hbk 14, by simpa using blk_cell hbk 15, by simpa using blk_cell hbk 16, by simpa using blk_cell hbk 17, by simpa using blk_cell hbk 18⟩)
        | (have hbk := blk_set (blk_below (blk_drew HBK.out) hd1) 19 (.int .i64 e); exact ⟨by simpa using blk_cell hbk 0, by simpa using blk_cell hbk 1, by simpa using blk_cell hbk 2, by simpa using blk_cell hbk 3, by simpa using blk_cell hbk 4, by simpa using blk_cell hbk 5, by simpa using blk_cell hbk 6, by simpa using blk_cell hbk 7, by simpa using blk_cell hbk 8, by simpa using blk_cell hbk 9, by simpa using blk_cell hbk 10, by simpa using blk_cell hbk 11, by simpa using blk_cell hbk 12, by simpa using blk_cell hbk 13, by simpa using blk_cell hbk 14, by simpa using blk_cell hbk 15, by simpa using blk_cell hbk 16, by simpa using blk_cell hbk 17, by simpa using blk_cell hbk 18⟩))
      (first
        | (go_at_call 31; refine (style_Konst.callsU k s0_0 s0_1 s0_2 s0_3 s0_4 s0_5 A6 c6 s0_6 A7 c7 s0_7 A8 c8 s0_8 A9 c9 s0_9 A10 c10 s0_10 A11 c11 s0_11 A12 c12 s0_12 A13 c13 s0_13 s0_14 A15 c15 s0_15 A16 c16 s0_16 a1 s0_17 s0_18 n e _ (Kd.C_drew HR6.out) (Kd.C_drew HR7.out) (Kd.C_drew HR8.out) (Kd.C_drew HR9.out) (Kd.C_drew HR10.out) (Kd.C_drew HR11.out) (Kd.C_drew HR12.out) (Kd.C_drew HR13.out) (Kd.C_drew HR15.out) (Kd.C_drew HR16.out) HK.out).mono ?_; rintro e1 w1 ⟨rfl, hd1⟩)
        | (go_at_call 97; refine (keep_sharp' r1 g #[.int .i64 s0_0, .int .i64 s0_1, .int .i64 s0_2, .int .i64 s0_3, .int .i64 s0_4, .bool s0_5, .slice A6 s0_6.length c6, .slice A7 s0_7.length c7, .slice A8 s0_8.length c8, .slice A9 s0_9.length c9, .slice A10 s0_10.length c10, .slice A11 s0_11.length c11, .slice A12 s0_12.length c12, .slice A13 s0_13.length c13, .int .i64 s0_14, .slice A15 s0_15.length c15, .slice A16 s0_16.length c16, .int .i64 s0_17, .int .i64 s0_18, .int .i64 s0_19] n s0_19 e _ HRV.out (blk_below (blk_drew HBK.out) hd1) (by rfl)).mono ?_; rintro e2 w2 ⟨rfl, hw2⟩; rw [if_pos h0.out] at hw2; subst hw2))
    have hI1 := IsS100.below (IsS100.drew HI.out) hd1
    have hB1 := below_step HB0.out.drew hd1
    have hK1 : KeepBut w _ g none := KeepBut.trans (keep_drew (KeepBut.refl w g none)) (KeepBut.of_below hd1 g none) (.inl rfl)
    go_wp2
    go_ret
    exact ⟨rfl, by rw [← HRL.out, if_pos h0.out]; exact IsS100.set_19 hI1 e, below_set hB1 (IsS100.ge hI1), KeepBut.set_ hK1 19 _⟩
  · have h0 := Aside0.mk h0
    go_enter Try.func58, Try.ntmps58
    go_wp2_with fail
    go_region_held3 (fun w' => w'.cell? ⟨g, 0, none⟩ = some (.int .i64 s0_0) ∧ w'.cell? ⟨g, 1, none⟩ = some (.int .i64 s0_1) ∧ w'.cell? ⟨g, 2, none⟩ = some (.int .i64 s0_2) ∧ w'.cell? ⟨g, 3, none⟩ = some (.int .i64 s0_3) ∧ w'.cell? ⟨g, 4, none⟩ = some (.int .i64 s0_4) ∧ w'.cell? ⟨g, 5, none⟩ = some (.bool s0_5) ∧ w'.cell? ⟨g, 6, none⟩ = some (.slice A6 s0_6.length c6) ∧ w'.cell? ⟨g, 7, none⟩ = some (.slice A7 s0_7.length c7) ∧ w'.cell? ⟨g, 8, none⟩ = some (.slice A8 s0_8.length c8) ∧ w'.cell? ⟨g, 9, none⟩ = some (.slice A9 s0_9.length c9) ∧ w'.cell? ⟨g, 10, none⟩ = some (.slice A10 s0_10.length c10) ∧ w'.cell? ⟨g, 11, none⟩ = some (.slice A11 s0_11.length c11) ∧ w'.cell? ⟨g, 12, none⟩ = some (.slice A12 s0_12.length c12) ∧ w'.cell? ⟨g, 13, none⟩ = some (.slice A13 s0_13.length c13) ∧ w'.cell? ⟨g, 14, none⟩ = some (.int .i64 s0_14) ∧ w'.cell? ⟨g, 15, none⟩ = some (.slice A15 s0_15.length c15) ∧ w'.cell? ⟨g, 16, none⟩ = some (.slice A16 s0_16.length c16) ∧ w'.cell? ⟨g, 17, none⟩ = some (.int .i64 s0_17) ∧ w'.cell? ⟨g, 18, none⟩ = some (.int .i64 s0_18))
      (first
        | go_keep
        | (have hbk := blk_below (blk_drew HBK.out) hd1; exact ⟨by simpa using blk_cell hbk 0, by simpa using blk_cell hbk 1, by simpa using blk_cell hbk 2, by simpa using blk_cell hbk 3, by simpa using blk_cell hbk 4, by simpa using blk_cell hbk 5, by simpa using blk_cell hbk 6, by simpa using blk_cell hbk 7, by simpa using blk_cell hbk 8, by simpa using blk_cell hbk 9, by simpa using blk_cell hbk 10, by simpa using blk_cell hbk 11, by simpa using blk_cell hbk 12, by simpa using blk_cell hbk 13, by simpa using blk_cell hbk 14, by simpa using blk_cell hbk 15, by simpa using blk_cell hbk 16, by simpa using blk_cell hbk 17, by simpa using blk_cell hbk 18⟩)
        | (have hbk := blk_below (blk_drew HBK.out) hd1; exact ⟨by simpa using blk_cell hbk 0, by simpa using blk_cell hbk 1, by simpa using blk_cell hbk 2, by simpa using blk_cell hbk 3, by simpa using blk_cell hbk 4, by simpa using blk_cell hbk 5, by simpa using blk_cell hbk 6, by simpa using blk_cell hbk 7, by simpa using blk_cell hbk 8, by simpa using blk_cell hbk 9, by simpa using blk_cell hbk 10, by simpa using blk_cell hbk 11, by simpa using blk_cell hbk 12, by simpa using blk_cell hbk 13, by simpa using blk_cell hbk 14, by simpa using blk_cell hbk 15, by simpa using blk_cell hbk 16, by simpa using blk_cell hbk 17, by simpa using blk_cell hbk 18⟩))
      (first
        | (go_at_call 31; refine (style_Konst.callsU k s0_0 s0_1 s0_2 s0_3 s0_4 s0_5 A6 c6 s0_6 A7 c7 s0_7 A8 c8 s0_8 A9 c9 s0_9 A10 c10 s0_10 A11 c11 s0_11 A12 c12 s0_12 A13 c13 s0_13 s0_14 A15 c15 s0_15 A16 c16 s0_16 a1 s0_17 s0_18 n e _ (Kd.C_drew HR6.out) (Kd.C_drew HR7.out) (Kd.C_drew HR8.out) (Kd.C_drew HR9.out) (Kd.C_drew HR10.out) (Kd.C_drew HR11.out) (Kd.C_drew HR12.out) (Kd.C_drew HR13.out) (Kd.C_drew HR15.out) (Kd.C_drew HR16.out) HK.out).mono ?_; rintro e1 w1 ⟨rfl, hd1⟩)
        | (go_at_call 97; refine (keep_sharp' r1 g #[.int .i64 s0_0, .int .i64 s0_1, .int .i64 s0_2, .int .i64 s0_3, .int .i64 s0_4, .bool s0_5, .slice A6 s0_6.length c6, .slice A7 s0_7.length c7, .slice A8 s0_8.length c8, .slice A9 s0_9.length c9, .slice A10 s0_10.length c10, .slice A11 s0_11.length c11, .slice A12 s0_12.length c12, .slice A13 s0_13.length c13, .int .i64 s0_14, .slice A15 s0_15.length c15, .slice A16 s0_16.length c16, .int .i64 s0_17, .int .i64 s0_18, .int .i64 s0_19] n s0_19 e _ HRV.out (blk_below (blk_drew HBK.out) hd1) (by rfl)).mono ?_; rintro e2 w2 ⟨rfl, hw2⟩; rw [if_neg h0.out] at hw2; subst hw2))
    have hI1 := IsS100.below (IsS100.drew HI.out) hd1
    have hB1 := below_step HB0.out.drew hd1
    have hK1 : KeepBut w _ g none := KeepBut.trans (keep_drew (KeepBut.refl w g none)) (KeepBut.of_below hd1 g none) (.inl rfl)
    go_wp2
    go_ret
    exact ⟨rfl, by rw [← HRL.out, if_neg h0.out]; exact hI1, hB1, hK1⟩
end Go.Proofs.Ytbhljokhcmfgjaa.P
namespace Go.Proofs.Ytbhljokhcmfgjaa.P
open Go.RowKit Go.Proofs.YtbhljokhcmfgjaaW.PrintWords Go.Proofs.YtbhljokhcmfgjaaW.PrintLast Go.Proofs.YtbhljokhcmfgjaaW.PrintMore
set_option linter.unusedVariables false
set_option linter.unusedSimpArgs false
def lens (x : S25) : Bool := [x.f1, x.f2, x.f3].all isLen
def needE : List S25 → Int → Int
  | [], e => e
  | x :: l, e => needE l (if lens x = true then e else if e = 0 then 1 else e)
def stack_builder_need.f (k : Nat) (s0_0 : Int) (s0_1 : Int) (s0_2 : Int) (s0_3 : Int) (s0_4 : Int) (s0_5 : Bool) (s0_6 : List (S196)) (s0_7 : List (S198)) (s0_8 : List (S157)) (s0_9 : List Int) (s0_10 : List (S82)) (s0_11 : List (S82)) (s0_12 : List Int) (s0_13 : List (S160)) (s0_14 : Int) (s0_15 : List (S178)) (s0_16 : List (S178)) (s0_17 : Int) (s0_18 : Int) (s0_19 : Int) (l1 : List (S25)) : Option (Int × Int × Int × Int × Int × Bool × Int × Int × Int × Int) := some (s0_0, s0_1, s0_2, s0_3, s0_4, s0_5, s0_14, s0_17, s0_18, needE l1 s0_19)
theorem stack_builder_need.mono : ∀ s0_0 s0_1 s0_2 s0_3 s0_4 s0_5 s0_6 s0_7 s0_8 s0_9 s0_10 s0_11 s0_12 s0_13 s0_14 s0_15 s0_16 s0_17 s0_18 s0_19 l1 k, LeO (stack_builder_need.f k s0_0 s0_1 s0_2 s0_3 s0_4 s0_5 s0_6 s0_7 s0_8 s0_9 s0_10 s0_11 s0_12 s0_13 s0_14 s0_15 s0_16 s0_17 s0_18 s0_19 l1) (stack_builder_need.f (k + 1) s0_0 s0_1 s0_2 s0_3 s0_4 s0_5 s0_6 s0_7 s0_8 s0_9 s0_10 s0_11 s0_12 s0_13 s0_14 s0_15 s0_16 s0_17 s0_18 s0_19 l1) := by
  intros
  exact LeO.refl _
theorem needE_drop (l : List S25) (k : Nat) (h : k < l.length) (e : Int) : needE (l.drop k) e = needE (l.drop (k + 1)) (if lens (rd_T25 l k) = true then e else if e = 0 then 1 else e) := by
  rw [List.drop_eq_getElem_cons h]
  have : rd_T25 l k = l[k] := by simp [rd_T25, List.getD_eq_getElem?_getD, h]
  rw [this]
  rfl
set_option maxRecDepth 100000 in
set_option maxHeartbeats 4000000 in
theorem stack_builder_need.calls (k : Nat) (g : Nat) (s0_0 : Int) (s0_1 : Int) (s0_2 : Int) (s0_3 : Int) (s0_4 : Int) (s0_5 : Bool) (s0_6 : List (S196)) (s0_7 : List (S198)) (s0_8 : List (S157)) (s0_9 : List Int) (s0_10 : List (S82)) (s0_11 : List (S82)) (s0_12 : List Int) (s0_13 : List (S160)) (s0_14 : Int) (s0_15 : List (S178)) (s0_16 : List (S178)) (s0_17 : Int) (s0_18 : Int) (s0_19 : Int) (A1 : Option Addr) (c1 : Nat) (l1 : List (S25)) (r1 : Int) (r2 : Int) (r3 : Int) (r4 : Int) (r5 : Int) (r6 : Bool) (r7 : Int) (r8 : Int) (r9 : Int) (r10 : Int) (w0 w : World) (hI : IsS100 w0 w g s0_0 s0_1 s0_2 s0_3 s0_4 s0_5 s0_6 s0_7 s0_8 s0_9 s0_10 s0_11 s0_12 s0_13 s0_14 s0_15 s0_16 s0_17 s0_18 s0_19) (hB : Below w0.heap.size w0 w) (hr1 : ∀ W_, KeepBut w W_ g none → Kd.C k25 W_ A1 l1.length l1) (hc1 : l1.length ≤ c1) (h : stack_builder_need.f k s0_0 s0_1 s0_2 s0_3 s0_4 s0_5 s0_6 s0_7 s0_8 s0_9 s0_10 s0_11 s0_12 s0_13 s0_14 s0_15 s0_16 s0_17 s0_18 s0_19 l1 = some (r1, r2, r3, r4, r5, r6, r7, r8, r9, r10)) :
    Calls Try.prog 60 #[.pointer (some ⟨g, 0, none⟩), .slice A1 l1.length c1] w fun e w' => e = .returned (.tuple #[]) ∧ IsS100 w0 w' g r1 r2 r3 r4 r5 r6 s0_6 s0_7 s0_8 s0_9 s0_10 s0_11 s0_12 s0_13 r7 s0_15 s0_16 r8 r9 r10 ∧ Below w0.heap.size w0 w' ∧ KeepBut w w' g none := by
  have hu39 := Try.underlying25
  unfold stack_builder_need.f at h
  simp only [Option.some.injEq, Prod.mk.injEq] at h
  obtain ⟨rfl, rfl, rfl, rfl, rfl, rfl, rfl, rfl, rfl, hrl⟩ := h
  have HRL := Aside0.mk hrl
  have hmax := Kd.C_max (hr1 w (KeepBut.refl w g none))
  have HR := Aside0.mk hr1
  have HI := Aside0.mk hI
  have HB := Aside0.mk hB
  clear hrl hr1 hI hB
  go_enter Try.func60, Try.ntmps60
  go_wp2
  go_loopw [8] (fun i wr => ∃ (kk : Nat) (e : Int), kk ≤ l1.length ∧ i = .int .i64 kk ∧ Aside0 (needE (l1.drop kk) e = needE l1 s0_19) ∧ Aside0 (IsS100 w0 wr g s0_0 s0_1 s0_2 s0_3 s0_4 s0_5 s0_6 s0_7 s0_8 s0_9 s0_10 s0_11 s0_12 s0_13 s0_14 s0_15 s0_16 s0_17 s0_18 e) ∧ Aside0 (Below w0.heap.size w0 wr) ∧ Aside0 (KeepBut w wr g none)) (fun i _ => l1.length - (intOf i).toNat)
  case atStart => exact ⟨0, s0_19, Nat.zero_le _, rfl, ⟨rfl⟩, HI, HB, ⟨KeepBut.refl w g none⟩⟩
  case round =>
    obtain ⟨kk, e, hk, rfl, HG, HI, HB, HK⟩ := hrel
    by_cases hlt : kk < l1.length
    · have hd1 : decide ((kk : Int) < (l1.length : Int)) = true := by simp; omega
      have hi0 : (0 : Int) ≤ (kk : Int) := Int.natCast_nonneg _
      have hi1 : (kk : Int) < (l1.length : Int) := by omega
      have hstep := Aside0.mk (needE_drop l1 kk hlt e)
      obtain ⟨ad, A6, c6, rfl, h0, h1, h2, h3, h4, h5, h6, hl6, hr6⟩ := at_T25 (HR.out wr HK.out) (kk : Int) hi0 hi1
      obtain ⟨x, hx⟩ : ∃ x, x = rd_T25 l1 kk := ⟨_, rfl⟩
      rw [← hx] at h0 h1 h2 h3 h4 h5 h6
      rw [← hx] at hstep
      clear hl6 hr6 hx
      simp only [Int.toNat_natCast] at h0 h1 h2 h3 h4 h5 h6
      by_cases hok : lens x = true
      · have HOK := Aside0.mk hok
        clear hok
        have HIS := Aside0.mk (fixed_Is_any (some ⟨wr.heap.size + 1, 0, none⟩) 3 [x.f1, x.f2, x.f3] ((wr.alloc (.cells #[.int .i64 x.f0, .int .i64 x.f1, .int .i64 x.f2, .int .i64 x.f3, .int .i64 x.f4, .int .i64 x.f5, .slice A6 x.f6.length c6] 25)).alloc (.cells #[.int .i64 x.f1, .int .i64 x.f2, .int .i64 x.f3] 3)) (lit3_C _ _ _ _ _ _ (by simp)) (Nat.le_refl _))
        rw [show ([x.f1, x.f2, x.f3].all isLen) = true from HOK.out] at HIS
        go_wp2_with fail
        refine HIS.out.mono ?_
        rintro e1 w1 ⟨rfl, hd⟩
        have hbl : Below wr.heap.size wr w1 := (((Below.refl _ _).alloc (Nat.le_refl _) _).alloc (by simp) _).trans (hd.below.mono (by simp; omega))
        have HI1 := Aside0.mk (IsS100.below HI.out hbl)
        have HB1 := Aside0.mk (below_step HB.out hbl)
        have HK1 := Aside0.mk (KeepBut.trans HK.out (KeepBut.of_below hbl g none) (.inl rfl))
        clear hd hbl HIS
        go_wp2
        go_roundw
        case rel => exact ⟨kk + 1, e, by omega, by go_num, ⟨by rw [← HG.out, hstep.out, if_pos HOK.out]⟩, HI1, HB1, HK1⟩
        case measure => simp [intOf] <;> omega
      · have HOK := Aside0.mk (show lens x = false by simpa using hok)
        clear hok
        have HIS := Aside0.mk (fixed_Is_any (some ⟨wr.heap.size + 1, 0, none⟩) 3 [x.f1, x.f2, x.f3] ((wr.alloc (.cells #[.int .i64 x.f0, .int .i64 x.f1, .int .i64 x.f2, .int .i64 x.f3, .int .i64 x.f4, .int .i64 x.f5, .slice A6 x.f6.length c6] 25)).alloc (.cells #[.int .i64 x.f1, .int .i64 x.f2, .int .i64 x.f3] 3)) (lit3_C _ _ _ _ _ _ (by simp)) (Nat.le_refl _))
        rw [show ([x.f1, x.f2, x.f3].all isLen) = false from HOK.out] at HIS
        go_wp2_with fail
        refine HIS.out.mono ?_
        rintro e1 w1 ⟨rfl, hd⟩
        have hbl : Below wr.heap.size wr w1 := (((Below.refl _ _).alloc (Nat.le_refl _) _).alloc (by simp) _).trans (hd.below.mono (by simp; omega))
        have HI1 := Aside0.mk (IsS100.below HI.out hbl)
        have HB1 := Aside0.mk (below_step HB.out hbl)
        have HK1 := Aside0.mk (KeepBut.trans HK.out (KeepBut.of_below hbl g none) (.inl rfl))
        clear hd hbl HIS
        go_wp2_with fail
        refine (stack_builder_keep.calls g s0_0 s0_1 s0_2 s0_3 s0_4 s0_5 s0_6 s0_7 s0_8 s0_9 s0_10 s0_11 s0_12 s0_13 s0_14 s0_15 s0_16 s0_17 s0_18 e 0 1 _ s0_0 s0_1 s0_2 s0_3 s0_4 s0_5 s0_14 s0_17 s0_18 _ w0 w1 HI1.out HB1.out (keep_val s0_0 s0_1 s0_2 s0_3 s0_4 s0_5 s0_6 s0_7 s0_8 s0_9 s0_10 s0_11 s0_12 s0_13 s0_14 s0_15 s0_16 s0_17 s0_18 e 0 1)).mono ?_
        rintro e2 w2 ⟨rfl, hi2, hb2, hk2⟩
        have HI2 := Aside0.mk hi2
        have HB2 := Aside0.mk hb2
        have HK2 := Aside0.mk (KeepBut.trans HK1.out hk2 (.inl rfl))
        clear hi2 hb2 hk2
        go_wp2
        go_roundw
        case rel => exact ⟨kk + 1, if e = 0 then 1 else e, by omega, by go_num, ⟨by rw [← HG.out, hstep.out, HOK.out]; rfl⟩, HI2, HB2, HK2⟩
        case measure => simp [intOf] <;> omega
    · obtain rfl : kk = l1.length := by omega
      have hd1 : decide ((l1.length : Int) < (l1.length : Int)) = false := by simp
      go_wp2
      go_end0
      refine ⟨rfl, ?_, HB.out, HK.out⟩
      have : needE l1 s0_19 = e := by rw [← HG.out, List.drop_of_length_le (Nat.le_refl _)]; rfl
      rw [← HRL.out, this]
      exact HI.out
end Go.Proofs.Ytbhljokhcmfgjaa.P
namespace Go.Proofs.Ytbhljokhcmfgjaa.P
open Go.RowKit Go.Proofs.YtbhljokhcmfgjaaW.PrintWords Go.Proofs.YtbhljokhcmfgjaaW.PrintLast Go.Proofs.YtbhljokhcmfgjaaW.PrintMore
attribute [local go_sem] max2_int min2_int max_two min_two max_three min_three max_four min_four   -- for this text's walks alone
set_option linter.unusedVariables false
set_option linter.unusedSimpArgs false
def stack_builder_sum.f (s0_0 : Int) (s0_1 : Int) (s0_2 : Int) (s0_3 : Int) (s0_4 : Int) (s0_5 : Bool) (s0_6 : List (S196)) (s0_7 : List (S198)) (s0_8 : List (S157)) (s0_9 : List Int) (s0_10 : List (S82)) (s0_11 : List (S82)) (s0_12 : List Int) (s0_13 : List (S160)) (s0_14 : Int) (s0_15 : List (S178)) (s0_16 : List (S178)) (s0_17 : Int) (s0_18 : Int) (s0_19 : Int) (l1 : List Int) : Option (Int × Int × Int × Int × Int × Int × Bool × Int × Int × Int × Int) := (fixed_Sum.f l1).bind fun bt181 => ((stack_builder_keep.f s0_0 s0_1 s0_2 s0_3 s0_4 s0_5 s0_6 s0_7 s0_8 s0_9 s0_10 s0_11 s0_12 s0_13 s0_14 s0_15 s0_16 s0_17 s0_18 s0_19 bt181.1 bt181.2).bind fun bt183 => (some (bt183.1, bt183.2.1, bt183.2.2.1, bt183.2.2.2.1, bt183.2.2.2.2.1, bt183.2.2.2.2.2.1, bt183.2.2.2.2.2.2.1, bt183.2.2.2.2.2.2.2.1, bt183.2.2.2.2.2.2.2.2.1, bt183.2.2.2.2.2.2.2.2.2.1, bt183.2.2.2.2.2.2.2.2.2.2)))
set_option maxHeartbeats 8000000 in
set_option maxRecDepth 100000 in
theorem stack_builder_sum.calls (g : Nat) (s0_0 : Int) (s0_1 : Int) (s0_2 : Int) (s0_3 : Int) (s0_4 : Int) (s0_5 : Bool) (s0_6 : List (S196)) (s0_7 : List (S198)) (s0_8 : List (S157)) (s0_9 : List Int) (s0_10 : List (S82)) (s0_11 : List (S82)) (s0_12 : List Int) (s0_13 : List (S160)) (s0_14 : Int) (s0_15 : List (S178)) (s0_16 : List (S178)) (s0_17 : Int) (s0_18 : Int) (s0_19 : Int) (A1 : Option Addr) (c1 : Nat) (l1 : List Int) (r1 : Int) (r2 : Int) (r3 : Int) (r4 : Int) (r5 : Int) (r6 : Int) (r7 : Bool) (r8 : Int) (r9 : Int) (r10 : Int) (r11 : Int) (w0 w : World) (hI : IsS100 w0 w g s0_0 s0_1 s0_2 s0_3 s0_4 s0_5 s0_6 s0_7 s0_8 s0_9 s0_10 s0_11 s0_12 s0_13 s0_14 s0_15 s0_16 s0_17 s0_18 s0_19) (hB : Below w0.heap.size w0 w) (hr1 : Kd.C (Kd.int .i64) w A1 l1.length l1) (hc1 : l1.length ≤ c1) (hf1 : ∀ ad, A1 = some ad → 0 < l1.length → ad.block ≠ g) (h : stack_builder_sum.f s0_0 s0_1 s0_2 s0_3 s0_4 s0_5 s0_6 s0_7 s0_8 s0_9 s0_10 s0_11 s0_12 s0_13 s0_14 s0_15 s0_16 s0_17 s0_18 s0_19 l1 = some (r1, r2, r3, r4, r5, r6, r7, r8, r9, r10, r11)) :
    Calls Try.prog 61 #[.pointer (some ⟨g, 0, none⟩), .slice A1 l1.length c1] w fun e w' => e = .returned (.int .i64 r1) ∧ IsS100 w0 w' g r2 r3 r4 r5 r6 r7 s0_6 s0_7 s0_8 s0_9 s0_10 s0_11 s0_12 s0_13 r8 s0_15 s0_16 r9 r10 r11 ∧ Below w0.heap.size w0 w' ∧ KeepBut w w' g none := by
  have HR1 := Aside0.mk hr1
  have HC1 := Aside0.mk hc1
  clear hr1 hc1
  have HI0 := Aside0.mk hI
  have HK := Aside0.mk (KeepBut.refl w g none)
  have HL := Aside0.mk hB.size
  clear hI
  have HW0 := Aside0.mk hB.size
  have HB := Aside0.mk hB
  clear hB
  have H : ((fixed_Sum.f l1).bind fun bt181 => ((stack_builder_keep.f s0_0 s0_1 s0_2 s0_3 s0_4 s0_5 s0_6 s0_7 s0_8 s0_9 s0_10 s0_11 s0_12 s0_13 s0_14 s0_15 s0_16 s0_17 s0_18 s0_19 bt181.1 bt181.2).bind fun bt183 => (some (bt183.1, bt183.2.1, bt183.2.2.1, bt183.2.2.2.1, bt183.2.2.2.2.1, bt183.2.2.2.2.2.1, bt183.2.2.2.2.2.2.1, bt183.2.2.2.2.2.2.2.1, bt183.2.2.2.2.2.2.2.2.1, bt183.2.2.2.2.2.2.2.2.2.1, bt183.2.2.2.2.2.2.2.2.2.2)))) = some (r1, r2, r3, r4, r5, r6, r7, r8, r9, r10, r11) := h
  clear h
  replace H := Option.bind_eq_some_iff.mp H
  obtain ⟨⟨t181, t182⟩, A30, H⟩ := H
  replace H : ((stack_builder_keep.f s0_0 s0_1 s0_2 s0_3 s0_4 s0_5 s0_6 s0_7 s0_8 s0_9 s0_10 s0_11 s0_12 s0_13 s0_14 s0_15 s0_16 s0_17 s0_18 s0_19 t181 t182).bind fun bt183 => (some (bt183.1, bt183.2.1, bt183.2.2.1, bt183.2.2.2.1, bt183.2.2.2.2.1, bt183.2.2.2.2.2.1, bt183.2.2.2.2.2.2.1, bt183.2.2.2.2.2.2.2.1, bt183.2.2.2.2.2.2.2.2.1, bt183.2.2.2.2.2.2.2.2.2.1, bt183.2.2.2.2.2.2.2.2.2.2))) = some (r1, r2, r3, r4, r5, r6, r7, r8, r9, r10, r11) := H
  have A3 := Aside0.mk A30
  clear A30
  replace H := Option.bind_eq_some_iff.mp H
  obtain ⟨⟨t183, t184, t185, t186, t187, t188, t189, t190, t191, t192, t193⟩, A40, H⟩ := H
  replace H : (some (t183, t184, t185, t186, t187, t188, t189, t190, t191, t192, t193)) = some (r1, r2, r3, r4, r5, r6, r7, r8, r9, r10, r11) := H
  have A4 := Aside0.mk A40
  clear A40
  simp only [Option.some.injEq, Prod.mk.injEq] at H
  obtain ⟨rfl, rfl, rfl, rfl, rfl, rfl, rfl, rfl, rfl, rfl, rfl⟩ := H
  go_enter Try.func61, Try.ntmps61
  go_wp2_with (first | ((with_reducible refine gate_callee (f := 44) rfl ?_); refine goesL_ (some 7) rfl rfl Try.func44 (by kernel_rfl) rfl #[.slice A1 l1.length c1] rfl (by (try simp only [List.map_toArray, List.map_cons, List.map_nil]); first | done | rfl | (simp only [List.length_drop, List.length_take]; rfl)) ?_; (with_reducible refine (fixed_Sum.calls _ _ l1 t181 t182 _ ?side1 ?side2 A3.out).mono ?_); (case side1 => exact Kd.C_keep 0 HR1.out (by repeat (first | (with_reducible first | exact HK.out | apply KeepBut.set_ | apply keep_drewN | apply keep_drew | apply keep_alloc) | exact HK.out)) hf1); (case side2 => exact HC1.out); rintro e w5 ⟨rfl, hb⟩; refine ⟨_, rfl, ?_⟩; have n0_ := Aside0.mk (IsS100.below (by repeat (first | (with_reducible first | exact HI0.out | apply IsS100.alloc | apply IsS100.drewN | apply IsS100.drew | apply IsS100.set_0 | apply IsS100.set_1 | apply IsS100.set_2 | apply IsS100.set_3 | apply IsS100.set_4 | apply IsS100.set_5 | apply IsS100.set_14 | apply IsS100.set_17 | apply IsS100.set_18 | apply IsS100.set_19) | exact HI0.out)) hb); have n1_ := Aside0.mk (KeepBut.trans (by repeat (first | (with_reducible first | exact HK.out | apply KeepBut.set_ | apply keep_drewN | apply keep_drew | apply keep_alloc) | exact HK.out)) (KeepBut.of_below hb g none) (.inl rfl)); have n2_ := Aside0.mk (below_step (by repeat (first | (with_reducible first | exact HB.out | apply below_alloc | apply pw_below_drewN | apply below_drew1 | refine below_set ?_ (IsS100.ge HI0.out)) | exact HB.out)) hb); clear HI0; clear HK; clear HB; have HI0 := n0_; have HK := n1_; have HB := n2_; clear n0_ n1_ n2_; (try clear hb); (try clear hb2); (try clear hk); (try clear hi)) | ((with_reducible refine gate_callee (f := 97) rfl ?_); refine goesL_ (some 10) rfl rfl Try.func97 (by kernel_rfl) rfl #[.pointer (some ⟨g, 0, none⟩), .int .i64 t181, .int .i64 t182] rfl (by (try simp only [List.map_toArray, List.map_cons, List.map_nil]); first | done | rfl | (simp only [List.length_drop, List.length_take]; rfl)) ?_; (with_reducible refine (stack_builder_keep.calls g s0_0 s0_1 s0_2 s0_3 s0_4 s0_5 s0_6 s0_7 s0_8 s0_9 s0_10 s0_11 s0_12 s0_13 s0_14 s0_15 s0_16 s0_17 s0_18 s0_19 t181 t182 t183 t184 t185 t186 t187 t188 t189 t190 t191 t192 t193 w0 _ ?side1 ?side2 A4.out).mono ?_); (case side1 => repeat (first | (with_reducible first | exact HI0.out | apply IsS100.alloc | apply IsS100.drewN | apply IsS100.drew | apply IsS100.set_0 | apply IsS100.set_1 | apply IsS100.set_2 | apply IsS100.set_3 | apply IsS100.set_4 | apply IsS100.set_5 | apply IsS100.set_14 | apply IsS100.set_17 | apply IsS100.set_18 | apply IsS100.set_19) | exact HI0.out)); (case side2 => repeat (first | (with_reducible first | exact HB.out | apply below_alloc | apply pw_below_drewN | apply below_drew1 | refine below_set ?_ (IsS100.ge HI0.out)) | exact HB.out)); rintro e w6 ⟨rfl, hi, hb, hk⟩; refine ⟨_, rfl, ?_⟩; have n0_ := Aside0.mk (KeepBut.trans (by repeat (first | (with_reducible first | exact HK.out | apply KeepBut.set_ | apply keep_drewN | apply keep_drew | apply keep_alloc) | exact HK.out)) hk (.inl rfl)); have n1_ := Aside0.mk (hb); have n2_ := Aside0.mk (hi); clear HK; clear HB; clear HI0; have HK := n0_; have HB := n1_; have HI0 := n2_; clear n0_ n1_ n2_; (try clear hb); (try clear hb2); (try clear hk); (try clear hi)))
  go_ret
  exact ⟨by first | rfl | (simp [errW_none, errW_some] <;> rfl) | (simp [*, errW_none, errW_some] <;> rfl), by repeat (first | (with_reducible first | exact HI0.out | apply IsS100.alloc | apply IsS100.drewN | apply IsS100.drew | apply IsS100.set_0 | apply IsS100.set_1 | apply IsS100.set_2 | apply IsS100.set_3 | apply IsS100.set_4 | apply IsS100.set_5 | apply IsS100.set_14 | apply IsS100.set_17 | apply IsS100.set_18 | apply IsS100.set_19) | exact HI0.out), by repeat (first | (with_reducible first | exact HB.out | apply below_alloc | apply pw_below_drewN | apply below_drew1 | refine below_set ?_ (IsS100.ge HI0.out)) | exact HB.out), by repeat (first | (with_reducible first | exact HK.out | apply KeepBut.set_ | apply keep_drewN | apply keep_drew | apply keep_alloc) | exact HK.out)⟩
end Go.Proofs.Ytbhljokhcmfgjaa.P
namespace Go.Proofs.Ytbhljokhcmfgjaa.P
open Go.RowKit Go.Proofs.YtbhljokhcmfgjaaW.PrintWords Go.Proofs.YtbhljokhcmfgjaaW.PrintLast Go.Proofs.YtbhljokhcmfgjaaW.PrintMore
attribute [local go_sem] max2_int min2_int max_two min_two max_three min_three max_four min_four   -- for this text's walks alone
set_option linter.unusedVariables false
set_option linter.unusedSimpArgs false
def stack_builder_half.f (s0_0 : Int) (s0_1 : Int) (s0_2 : Int) (s0_3 : Int) (s0_4 : Int) (s0_5 : Bool) (s0_6 : List (S196)) (s0_7 : List (S198)) (s0_8 : List (S157)) (s0_9 : List Int) (s0_10 : List (S82)) (s0_11 : List (S82)) (s0_12 : List Int) (s0_13 : List (S160)) (s0_14 : Int) (s0_15 : List (S178)) (s0_16 : List (S178)) (s0_17 : Int) (s0_18 : Int) (s0_19 : Int) (a1 : Int) : Option (Int × Int × Int × Int × Int × Int × Bool × Int × Int × Int × Int) := (fixed_Half.f a1).bind fun bt194 => ((stack_builder_keep.f s0_0 s0_1 s0_2 s0_3 s0_4 s0_5 s0_6 s0_7 s0_8 s0_9 s0_10 s0_11 s0_12 s0_13 s0_14 s0_15 s0_16 s0_17 s0_18 s0_19 bt194.1 bt194.2).bind fun bt196 => (some (bt196.1, bt196.2.1, bt196.2.2.1, bt196.2.2.2.1, bt196.2.2.2.2.1, bt196.2.2.2.2.2.1, bt196.2.2.2.2.2.2.1, bt196.2.2.2.2.2.2.2.1, bt196.2.2.2.2.2.2.2.2.1, bt196.2.2.2.2.2.2.2.2.2.1, bt196.2.2.2.2.2.2.2.2.2.2)))
set_option maxHeartbeats 8000000 in
set_option maxRecDepth 100000 in
theorem stack_builder_half.calls (g : Nat) (s0_0 : Int) (s0_1 : Int) (s0_2 : Int) (s0_3 : Int) (s0_4 : Int) (s0_5 : Bool) (s0_6 : List (S196)) (s0_7 : List (S198)) (s0_8 : List (S157)) (s0_9 : List Int) (s0_10 : List (S82)) (s0_11 : List (S82)) (s0_12 : List Int) (s0_13 : List (S160)) (s0_14 : Int) (s0_15 : List (S178)) (s0_16 : List (S178)) (s0_17 : Int) (s0_18 : Int) (s0_19 : Int) (a1 : Int) (r1 : Int) (r2 : Int) (r3 : Int) (r4 : Int) (r5 : Int) (r6 : Int) (r7 : Bool) (r8 : Int) (r9 : Int) (r10 : Int) (r11 : Int) (w0 w : World) (hI : IsS100 w0 w g s0_0 s0_1 s0_2 s0_3 s0_4 s0_5 s0_6 s0_7 s0_8 s0_9 s0_10 s0_11 s0_12 s0_13 s0_14 s0_15 s0_16 s0_17 s0_18 s0_19) (hB : Below w0.heap.size w0 w) (h : stack_builder_half.f s0_0 s0_1 s0_2 s0_3 s0_4 s0_5 s0_6 s0_7 s0_8 s0_9 s0_10 s0_11 s0_12 s0_13 s0_14 s0_15 s0_16 s0_17 s0_18 s0_19 a1 = some (r1, r2, r3, r4, r5, r6, r7, r8, r9, r10, r11)) :
    Calls Try.prog 62 #[.pointer (some ⟨g, 0, none⟩), .int .i64 a1] w fun e w' => e = .returned (.int .i64 r1) ∧ IsS100 w0 w' g r2 r3 r4 r5 r6 r7 s0_6 s0_7 s0_8 s0_9 s0_10 s0_11 s0_12 s0_13 r8 s0_15 s0_16 r9 r10 r11 ∧ Below w0.heap.size w0 w' ∧ KeepBut w w' g none := by
  have HI0 := Aside0.mk hI
  have HK := Aside0.mk (KeepBut.refl w g none)
  have HL := Aside0.mk hB.size
  clear hI
  have HW0 := Aside0.mk hB.size
  have HB := Aside0.mk hB
  clear hB
  have H : ((fixed_Half.f a1).bind fun bt194 => ((stack_builder_keep.f s0_0 s0_1 s0_2 s0_3 s0_4 s0_5 s0_6 s0_7 s0_8 s0_9 s0_10 s0_11 s0_12 s0_13 s0_14 s0_15 s0_16 s0_17 s0_18 s0_19 bt194.1 bt194.2).bind fun bt196 => (some (bt196.1, bt196.2.1, bt196.2.2.1, bt196.2.2.2.1, bt196.2.2.2.2.1, bt196.2.2.2.2.2.1, bt196.2.2.2.2.2.2.1, bt196.2.2.2.2.2.2.2.1, bt196.2.2.2.2.2.2.2.2.1, bt196.2.2.2.2.2.2.2.2.2.1, bt196.2.2.2.2.2.2.2.2.2.2)))) = some (r1, r2, r3, r4, r5, r6, r7, r8, r9, r10, r11) := h
  clear h
  replace H := Option.bind_eq_some_iff.mp H
  obtain ⟨⟨t194, t195⟩, A30, H⟩ := H
  replace H : ((stack_builder_keep.f s0_0 s0_1 s0_2 s0_3 s0_4 s0_5 s0_6 s0_7 s0_8 s0_9 s0_10 s0_11 s0_12 s0_13 s0_14 s0_15 s0_16 s0_17 s0_18 s0_19 t194 t195).bind fun bt196 => (some (bt196.1, bt196.2.1, bt196.2.2.1, bt196.2.2.2.1, bt196.2.2.2.2.1, bt196.2.2.2.2.2.1, bt196.2.2.2.2.2.2.1, bt196.2.2.2.2.2.2.2.1, bt196.2.2.2.2.2.2.2.2.1, bt196.2.2.2.2.2.2.2.2.2.1, bt196.2.2.2.2.2.2.2.2.2.2))) = some (r1, r2, r3, r4, r5, r6, r7, r8, r9, r10, r11) := H
  have A3 := Aside0.mk A30
  clear A30
  replace H := Option.bind_eq_some_iff.mp H
  obtain ⟨⟨t196, t197, t198, t199, t200, t201, t202, t203, t204, t205, t206⟩, A40, H⟩ := H
  replace H : (some (t196, t197, t198, t199, t200, t201, t202, t203, t204, t205, t206)) = some (r1, r2, r3, r4, r5, r6, r7, r8, r9, r10, r11) := H
  have A4 := Aside0.mk A40
  clear A40
  simp only [Option.some.injEq, Prod.mk.injEq] at H
  obtain ⟨rfl, rfl, rfl, rfl, rfl, rfl, rfl, rfl, rfl, rfl, rfl⟩ := H
  go_enter Try.func62, Try.ntmps62
  go_wp2_with (first | ((with_reducible refine gate_callee (f := 98) rfl ?_); refine goesL_ (some 7) rfl rfl Try.func98 (by kernel_rfl) rfl #[.int .i64 a1] rfl (by (try simp only [List.map_toArray, List.map_cons, List.map_nil]); first | done | rfl | (simp only [List.length_drop, List.length_take]; rfl)) ?_; (with_reducible refine (fixed_Half.calls a1 t194 t195 _ A3.out).mono ?_); rintro e w5 ⟨rfl, hb⟩; refine ⟨_, rfl, ?_⟩; have n0_ := Aside0.mk (IsS100.below (by repeat (first | (with_reducible first | exact HI0.out | apply IsS100.alloc | apply IsS100.drewN | apply IsS100.drew | apply IsS100.set_0 | apply IsS100.set_1 | apply IsS100.set_2 | apply IsS100.set_3 | apply IsS100.set_4 | apply IsS100.set_5 | apply IsS100.set_14 | apply IsS100.set_17 | apply IsS100.set_18 | apply IsS100.set_19) | exact HI0.out)) hb); have n1_ := Aside0.mk (KeepBut.trans (by repeat (first | (with_reducible first | exact HK.out | apply KeepBut.set_ | apply keep_drewN | apply keep_drew | apply keep_alloc) | exact HK.out)) (KeepBut.of_below hb g none) (.inl rfl)); have n2_ := Aside0.mk (below_step (by repeat (first | (with_reducible first | exact HB.out | apply below_alloc | apply pw_below_drewN | apply below_drew1 | refine below_set ?_ (IsS100.ge HI0.out)) | exact HB.out)) hb); clear HI0; clear HK; clear HB; have HI0 := n0_; have HK := n1_; have HB := n2_; clear n0_ n1_ n2_; (try clear hb); (try clear hb2); (try clear hk); (try clear hi)) | ((with_reducible refine gate_callee (f := 97) rfl ?_); refine goesL_ (some 10) rfl rfl Try.func97 (by kernel_rfl) rfl #[.pointer (some ⟨g, 0, none⟩), .int .i64 t194, .int .i64 t195] rfl (by (try simp only [List.map_toArray, List.map_cons, List.map_nil]); first | done | rfl | (simp only [List.length_drop, List.length_take]; rfl)) ?_; (with_reducible refine (stack_builder_keep.calls g s0_0 s0_1 s0_2 s0_3 s0_4 s0_5 s0_6 s0_7 s0_8 s0_9 s0_10 s0_11 s0_12 s0_13 s0_14 s0_15 s0_16 s0_17 s0_18 s0_19 t194 t195 t196 t197 t198 t199 t200 t201 t202 t203 t204 t205 t206 w0 _ ?side1 ?side2 A4.out).mono ?_); (case side1 => repeat (first | (with_reducible first | exact HI0.out | apply IsS100.alloc | apply IsS100.drewN | apply IsS100.drew | apply IsS100.set_0 | apply IsS100.set_1 | apply IsS100.set_2 | apply IsS100.set_3 | apply IsS100.set_4 | apply IsS100.set_5 | apply IsS100.set_14 | apply IsS100.set_17 | apply IsS100.set_18 | apply IsS100.set_19) | exact HI0.out)); (case side2 => repeat (first | (with_reducible first | exact HB.out | apply below_alloc | apply pw_below_drewN | apply below_drew1 | refine below_set ?_ (IsS100.ge HI0.out)) | exact HB.out)); rintro e w6 ⟨rfl, hi, hb, hk⟩; refine ⟨_, rfl, ?_⟩; have n0_ := Aside0.mk (KeepBut.trans (by repeat (first | (with_reducible first | exact HK.out | apply KeepBut.set_ | apply keep_drewN | apply keep_drew | apply keep_alloc) | exact HK.out)) hk (.inl rfl)); have n1_ := Aside0.mk (hb); have n2_ := Aside0.mk (hi); clear HK; clear HB; clear HI0; have HK := n0_; have HB := n1_; have HI0 := n2_; clear n0_ n1_ n2_; (try clear hb); (try clear hb2); (try clear hk); (try clear hi)))
  go_ret
  exact ⟨by first | rfl | (simp [errW_none, errW_some] <;> rfl) | (simp [*, errW_none, errW_some] <;> rfl), by repeat (first | (with_reducible first | exact HI0.out | apply IsS100.alloc | apply IsS100.drewN | apply IsS100.drew | apply IsS100.set_0 | apply IsS100.set_1 | apply IsS100.set_2 | apply IsS100.set_3 | apply IsS100.set_4 | apply IsS100.set_5 | apply IsS100.set_14 | apply IsS100.set_17 | apply IsS100.set_18 | apply IsS100.set_19) | exact HI0.out), by repeat (first | (with_reducible first | exact HB.out | apply below_alloc | apply pw_below_drewN | apply below_drew1 | refine below_set ?_ (IsS100.ge HI0.out)) | exact HB.out), by repeat (first | (with_reducible first | exact HK.out | apply KeepBut.set_ | apply keep_drewN | apply keep_drew | apply keep_alloc) | exact HK.out)⟩
end Go.Proofs.Ytbhljokhcmfgjaa.P
namespace Go.Proofs.Ytbhljokhcmfgjaa.P
open Go.RowKit Go.Proofs.YtbhljokhcmfgjaaW.PrintWords Go.Proofs.YtbhljokhcmfgjaaW.PrintLast Go.Proofs.YtbhljokhcmfgjaaW.PrintMore
attribute [local go_sem] max2_int min2_int max_two min_two max_three min_three max_four min_four   -- for this text's walks alone
set_option linter.unusedVariables false
set_option linter.unusedSimpArgs false
end Go.Proofs.Ytbhljokhcmfgjaa.P
namespace Go.Proofs.Ytbhljokhcmfgjaa.P
open Go.RowKit Go.Proofs.YtbhljokhcmfgjaaW.PrintWords
set_option linter.unusedVariables false
def Bd (w0 W : World) (g : Nat) (F : S63) (c z e : Int) : Prop := IsS100 w0 W g F.f0.f0 F.f0.f1 F.f0.f2 F.f0.f3 F.f0.f4 F.f0.f5 F.f1 F.f2 F.f3 F.f4.f0 F.f4.f1 F.f4.f2 F.f4.f3 F.f4.f4 F.f4.f5.f0 F.f4.f5.f1 F.f4.f5.f2 c z e
def konstV (F : S63) (k c z : Int) : Int × Int := (style_Konst.f 3 F.f0.f0 F.f0.f1 F.f0.f2 F.f0.f3 F.f0.f4 F.f0.f5 F.f1 F.f2 F.f3 F.f4.f0 F.f4.f1 F.f4.f2 F.f4.f3 F.f4.f4 F.f4.f5.f0 F.f4.f5.f1 F.f4.f5.f2 k c z).getD (0, 0)
theorem konstV_eq (F : S63) (k c z : Int) : style_Konst.f 3 F.f0.f0 F.f0.f1 F.f0.f2 F.f0.f3 F.f0.f4 F.f0.f5 F.f1 F.f2 F.f3 F.f4.f0 F.f4.f1 F.f4.f2 F.f4.f3 F.f4.f4 F.f4.f5.f0 F.f4.f5.f1 F.f4.f5.f2 k c z = some (konstV F k c z) := by
  obtain ⟨v, e, h⟩ := konst_total F.f0.f0 F.f0.f1 F.f0.f2 F.f0.f3 F.f0.f4 F.f0.f5 F.f1 F.f2 F.f3 F.f4.f0 F.f4.f1 F.f4.f2 F.f4.f3 F.f4.f4 F.f4.f5.f0 F.f4.f5.f1 F.f4.f5.f2 k c z 3 (Nat.le_refl _)
  rw [konstV, h]
  rfl
/-- What is kept: the number, and the first error. -/
def keepV (e : Int) (r : Int × Int) : Int × Int := (if e = 0 ∧ r.2 = 0 then r.1 else 0, if e = 0 then r.2 else e)
theorem bd_konst (w0 w : World) (g : Nat) (F : S63) (c z e k : Int) (hI : Bd w0 w g F c z e) (hB : Below w0.heap.size w0 w) :
    Calls Try.prog 58 #[.pointer (some ⟨g, 0, none⟩), .int .i64 k] w fun r w' => r = .returned (.int .i64 (keepV e (konstV F k c z)).1) ∧ Bd w0 w' g F c z (keepV e (konstV F k c z)).2 ∧ Below w0.heap.size w0 w' ∧ KeepBut w w' g none :=
  stack_builder_konst.calls 3 g F.f0.f0 F.f0.f1 F.f0.f2 F.f0.f3 F.f0.f4 F.f0.f5 F.f1 F.f2 F.f3 F.f4.f0 F.f4.f1 F.f4.f2 F.f4.f3 F.f4.f4 F.f4.f5.f0 F.f4.f5.f1 F.f4.f5.f2 c z e k _ F.f0.f0 F.f0.f1 F.f0.f2 F.f0.f3 F.f0.f4 F.f0.f5 F.f4.f5.f0 c z _ w0 w hI hB (by
    rw [stack_builder_konst.f, konstV_eq, Option.bind_some, keep_val]
    rfl)
theorem bd_sum (w0 w : World) (g : Nat) (F : S63) (c z e : Int) (A : Option Addr) (n : Nat) (l : List Int) (hI : Bd w0 w g F c z e) (hB : Below w0.heap.size w0 w) (hr : Kd.C (Kd.int .i64) w A l.length l) (hc : l.length ≤ n) (hf : ∀ ad, A = some ad → 0 < l.length → ad.block ≠ g) :
    Calls Try.prog 61 #[.pointer (some ⟨g, 0, none⟩), .slice A l.length n] w fun r w' => r = .returned (.int .i64 (keepV e (toldOf (sumR l))).1) ∧ Bd w0 w' g F c z (keepV e (toldOf (sumR l))).2 ∧ Below w0.heap.size w0 w' ∧ KeepBut w w' g none :=
  stack_builder_sum.calls g F.f0.f0 F.f0.f1 F.f0.f2 F.f0.f3 F.f0.f4 F.f0.f5 F.f1 F.f2 F.f3 F.f4.f0 F.f4.f1 F.f4.f2 F.f4.f3 F.f4.f4 F.f4.f5.f0 F.f4.f5.f1 F.f4.f5.f2 c z e A n l _ F.f0.f0 F.f0.f1 F.f0.f2 F.f0.f3 F.f0.f4 F.f0.f5 F.f4.f5.f0 c z _ w0 w hI hB hr hc hf (by
    rw [stack_builder_sum.f, fixed_Sum.f, Option.bind_some, keep_val]
    rfl)
theorem bd_half (w0 w : World) (g : Nat) (F : S63) (c z e n : Int) (hI : Bd w0 w g F c z e) (hB : Below w0.heap.size w0 w) :
    Calls Try.prog 62 #[.pointer (some ⟨g, 0, none⟩), .int .i64 n] w fun r w' => r = .returned (.int .i64 (keepV e (toldOf (halfR n))).1) ∧ Bd w0 w' g F c z (keepV e (toldOf (halfR n))).2 ∧ Below w0.heap.size w0 w' ∧ KeepBut w w' g none :=
  stack_builder_half.calls g F.f0.f0 F.f0.f1 F.f0.f2 F.f0.f3 F.f0.f4 F.f0.f5 F.f1 F.f2 F.f3 F.f4.f0 F.f4.f1 F.f4.f2 F.f4.f3 F.f4.f4 F.f4.f5.f0 F.f4.f5.f1 F.f4.f5.f2 c z e n _ F.f0.f0 F.f0.f1 F.f0.f2 F.f0.f3 F.f0.f4 F.f0.f5 F.f4.f5.f0 c z _ w0 w hI hB (by
    rw [stack_builder_half.f, fixed_Half.f, Option.bind_some, keep_val]
    rfl)
theorem bd_need (w0 w : World) (g : Nat) (F : S63) (c z e : Int) (A : Option Addr) (n : Nat) (l : List S25) (hI : Bd w0 w g F c z e) (hB : Below w0.heap.size w0 w) (hr : ∀ W_, KeepBut w W_ g none → Kd.C k25 W_ A l.length l) (hc : l.length ≤ n) :
    Calls Try.prog 60 #[.pointer (some ⟨g, 0, none⟩), .slice A l.length n] w fun r w' => r = .returned (.tuple #[]) ∧ Bd w0 w' g F c z (needE l e) ∧ Below w0.heap.size w0 w' ∧ KeepBut w w' g none :=
  stack_builder_need.calls 0 g F.f0.f0 F.f0.f1 F.f0.f2 F.f0.f3 F.f0.f4 F.f0.f5 F.f1 F.f2 F.f3 F.f4.f0 F.f4.f1 F.f4.f2 F.f4.f3 F.f4.f4 F.f4.f5.f0 F.f4.f5.f1 F.f4.f5.f2 c z e A n l F.f0.f0 F.f0.f1 F.f0.f2 F.f0.f3 F.f0.f4 F.f0.f5 F.f4.f5.f0 c z _ w0 w hI hB hr hc rfl
/-- A box of others, or the error that was kept. -/
def setV (e wd : Int) (l : List S41) : Int × Int × Int × Int × Int × Int × List S41 × Int := if e = 0 then setR wd l else (0, 0, 0, 0, 0, 0, [], e)
end Go.Proofs.Ytbhljokhcmfgjaa.P
namespace Go.Proofs.Ytbhljokhcmfgjaa.P
open Go.RowKit Go.Proofs.YtbhljokhcmfgjaaW.PrintWords
set_option linter.unusedSimpArgs false
def centerV (F : S63) (c z : Int) (b : S25) : Int × Int × Int × Int × Int × Int × List S41 × Int :=
  let p1 := keepV 0 (konstV F 5 c z)
  let e2 := needE [b] p1.2
  let p3 := keepV e2 (toldOf (sumR [b.f2, wrap64 (-b.f3)]))
  let p4 := keepV p3.2 (toldOf (halfR p3.1))
  let p5 := keepV p4.2 (toldOf (sumR [p1.1, wrap64 (-p4.1)]))
  setV p5.2 b.f1 [⟨0, p5.1, b⟩]
end Go.Proofs.Ytbhljokhcmfgjaa.P
namespace Go.Proofs.Ytbhljokhcmfgjaa.P
open Go.RowKit Go.Proofs.YtbhljokhcmfgjaaW.PrintWords
theorem keepV_ok {e : Int} {r : Int × Int} (h : (keepV e r).2 = 0) : e = 0 ∧ r.2 = 0 ∧ (keepV e r).1 = r.1 := by
  simp only [keepV] at h ⊢
  by_cases he : e = 0
  · rw [if_pos he] at h
    exact ⟨he, h, by rw [if_pos ⟨he, h⟩]⟩
  · rw [if_neg he] at h
    exact absurd h he
theorem needE_ok {l : List S25} : ∀ {e : Int}, needE l e = 0 → e = 0 ∧ ∀ b ∈ l, lens b = true := by
  induction l with
  | nil => intro e h; exact ⟨h, by simp⟩
  | cons x l ih =>
    intro e h
    simp only [needE] at h
    obtain ⟨h1, h2⟩ := ih h
    by_cases hx : lens x = true
    · rw [if_pos hx] at h1
      exact ⟨h1, by intro b hb; rcases List.mem_cons.1 hb with rfl | hb; exact hx; exact h2 b hb⟩
    · rw [if_neg hx] at h1
      by_cases he : e = 0
      · rw [if_pos he] at h1; simp at h1
      · rw [if_neg he] at h1; exact absurd h1 he
theorem sum2_ok {x y : Int} (h : (toldOf (sumR [x, y])).2 = 0) : isLen x = true ∧ isLen y = true ∧ isLen (x + y) = true ∧ (toldOf (sumR [x, y])).1 = x + y := by
  unfold sumR at h ⊢
  by_cases ha : [x, y].all isLen = true
  · rw [if_pos ha] at h ⊢
    simp only [List.all_cons, List.all_nil, Bool.and_true, Bool.and_eq_true] at ha
    simp only [sumGo, Int.zero_add] at h ⊢
    rw [if_pos ha.1] at h ⊢
    by_cases hs : isLen (x + y) = true
    · rw [if_pos hs] at h ⊢
      exact ⟨ha.1, ha.2, hs, by simp [toldOf, hs]⟩
    · rw [if_neg hs] at h
      simp [toldOf] at h
  · rw [if_neg ha] at h
    simp [toldOf] at h
theorem half_ok {n : Int} (h : (toldOf (halfR n)).2 = 0) : isLen n = true ∧ (toldOf (halfR n)).1 = n / 2 := by
  unfold halfR at h ⊢
  by_cases hn : isLen n = true
  · rw [if_pos hn] at h ⊢
    have : isLen (n / 2) = true := by
      obtain ⟨h1, h2⟩ := isLen_iff.1 hn
      exact isLen_iff.2 ⟨by omega, by omega⟩
    exact ⟨hn, by simp [toldOf, this]⟩
  · rw [if_neg hn] at h
    simp [toldOf] at h
theorem wrap_neg {n : Int} (h : isLen n = true) : wrap64 (-n) = -n := by
  obtain ⟨h1, h2⟩ := isLen_iff.1 h
  unfold wrap64
  omega
theorem setV_ok {e wd : Int} {l : List S41} (h : (setV e wd l).2.2.2.2.2.2.2 = 0) (hne : ∀ e', setGo l 0 0 = .error e' → e' ≠ 0) : e = 0 ∧ ∃ hh d, setV e wd l = (3, wd, hh, d, 0, 0, l, 0) := by
  unfold setV at h ⊢
  by_cases he : e = 0
  · rw [if_pos he] at h ⊢
    refine ⟨he, ?_⟩
    unfold setR at h ⊢
    cases hg : setGo l 0 0 with
    | error e' => rw [hg] at h; exact absurd h (hne e' hg)
    | ok p =>
      obtain ⟨hh, d⟩ := p
      rw [hg] at h
      simp only [setEnd] at h ⊢
      by_cases h1 : isLen wd = true
      · rw [if_pos h1] at h ⊢
        by_cases h2 : (isLen hh && isLen d) = true
        · rw [if_pos h2]; exact ⟨hh, d, rfl⟩
        · rw [if_neg h2] at h; simp at h
      · rw [if_neg h1] at h; simp at h
  · rw [if_neg he] at h
    exact absurd h he
theorem setGo_err : ∀ (l : List S41) (h d e : Int), setGo l h d = .error e → e ≠ 0
  | [], h, d, e, he => by simp [setGo] at he
  | x :: l, h, d, e, he => by
    simp only [setGo] at he
    split at he
    · exact setGo_err l _ _ e he
    · injection he with he; omega
/-- If it stands: the constant is one, all is kept, and it stands in the middle. -/
theorem center_plain (F : S63) (c z : Int) (b : S25) (h : (centerV F c z b).2.2.2.2.2.2.2 = 0) :
    (konstV F 5 c z).2 = 0 ∧ isLen b.f2 = true ∧ isLen b.f3 = true ∧ ∃ y hh d, centerV F c z b = (3, b.f1, hh, d, 0, 0, [⟨0, y, b⟩], 0) ∧ isLen y = true ∧ isLen (konstV F 5 c z).1 = true ∧ y = (konstV F 5 c z).1 - (b.f2 - b.f3) / 2 := by
  obtain ⟨h5, hh, d, hset⟩ := setV_ok h (setGo_err _ 0 0)
  obtain ⟨h4, s5, v5⟩ := keepV_ok h5
  obtain ⟨h3, s4, v4⟩ := keepV_ok h4
  obtain ⟨h2, s3, v3⟩ := keepV_ok h3
  obtain ⟨h1, hl⟩ := needE_ok h2
  obtain ⟨_, s1, v1⟩ := keepV_ok h1
  have hlb := hl b (by simp)
  simp only [lens, List.all_cons, List.all_nil, Bool.and_true, Bool.and_eq_true] at hlb
  obtain ⟨i1, i2, i3, e3⟩ := sum2_ok s3
  rw [v3, e3] at s4
  obtain ⟨j1, e4⟩ := half_ok s4
  have jh : isLen ((b.f2 + wrap64 (-b.f3)) / 2) = true := by
    obtain ⟨q1, q2⟩ := isLen_iff.1 j1
    exact isLen_iff.2 ⟨by omega, by omega⟩
  rw [v1, v4, v3, e3, e4, wrap_neg jh] at s5
  obtain ⟨k1, k2, k3, e5⟩ := sum2_ok s5
  rw [v1, v4, v3, e3, e4, wrap_neg jh] at v5
  refine ⟨s1, hlb.2.1, hlb.2.2, _, hh, d, hset, ?_, k1, ?_⟩
  · rw [v1, v4, v3, e3, e4, wrap_neg jh, v5, e5]
    exact k3
  · rw [v1, v4, v3, e3, e4, wrap_neg jh, v5, e5, wrap_neg hlb.2.2]
    rfl
end Go.Proofs.Ytbhljokhcmfgjaa.P
namespace Go.Proofs.Ytbhljokhcmfgjaa.P
open Go.RowKit Go.Proofs.YtbhljokhcmfgjaaW.PrintWords Go.Proofs.YtbhljokhcmfgjaaW.PrintMore
def eitherV (F : S63) (k c z : Int) : Int × Int := konstV F (if c < 2 then wrap64 (k + 1) else k) c z
def kidV (e w : Int) (x : S25) : Int × Int :=
  let p := keepV e (toldOf (sumR [w, wrap64 (-x.f1)]))
  keepV p.2 (toldOf (halfR p.1))
def atopMove (u d m e : Int) : Int × Int × Int :=
  if 0 < m then
    let p := keepV e (toldOf (halfR m))
    let q := keepV p.2 (toldOf (sumR [u, p.1]))
    let r := keepV q.2 (toldOf (sumR [d, wrap64 (m - p.1)]))
    (q.1, r.1, r.2)
  else (u, d, e)
abbrev BoxV := Int × Int × Int × Int × Int × Int × List S41 × Int
def atopEnd (e w u d : Int) (num den : S25) : BoxV :=
  let k1 := kidV e w num
  let k2 := kidV k1.2 w den
  setV k2.2 w [⟨k1.1, u, num⟩, ⟨k2.1, wrap64 (-d), den⟩]
def atopV (F : S63) (c z : Int) (num den : S25) : BoxV :=
  let p1 := keepV 0 (eitherV F 22 c z)
  let p2 := keepV p1.2 (eitherV F 24 c z)
  let p3 := keepV p2.2 (eitherV F 26 c z)
  let p5 := keepV (needE [num, den] p3.2) (toldOf (sumR [p1.1, wrap64 (-num.f3)]))
  let p6 := keepV p5.2 (toldOf (sumR [den.f2, wrap64 (-p2.1)]))
  let p7 := keepV p6.2 (toldOf (sumR [p5.1, wrap64 (-p6.1)]))
  let p8 := keepV p7.2 (toldOf (sumR [p3.1, wrap64 (-p7.1)]))
  let q := atopMove p1.1 p2.1 p8.1 p8.2
  atopEnd q.2.2 (mx num.f1 den.f1) q.1 q.2.1 num den
def fracEnd (e w u d t b : Int) (num den : S25) : BoxV :=
  let k1 := kidV e w num
  let k2 := kidV k1.2 w den
  setV k2.2 w [⟨k1.1, u, num⟩, ⟨0, 0, ⟨2, w, t, wrap64 (-b), 0, 0, []⟩⟩, ⟨k2.1, wrap64 (-d), den⟩]
def fracV (F : S63) (c z : Int) (num den : S25) : BoxV :=
  let a := keepV 0 (konstV F 5 c z)
  let t := keepV a.2 (konstV F 38 c z)
  let u := keepV t.2 (eitherV F 32 c z)
  let d := keepV u.2 (eitherV F 34 c z)
  let ab := keepV d.2 (eitherV F 36 c z)
  let be := keepV ab.2 (eitherV F 39 c z)
  let h := keepV (needE [num, den] be.2) (toldOf (halfR t.1))
  let bo := keepV h.2 (toldOf (sumR [a.1, wrap64 (-h.1)]))
  let tp := keepV bo.2 (toldOf (sumR [bo.1, t.1]))
  let s1 := keepV tp.2 (toldOf (sumR [tp.1, ab.1, num.f3]))
  let s2 := keepV s1.2 (toldOf (sumR [den.f2, be.1, wrap64 (-bo.1)]))
  fracEnd s2.2 (mx num.f1 den.f1) (mx u.1 s1.1) (mx d.1 s2.1) tp.1 bo.1 num den
end Go.Proofs.Ytbhljokhcmfgjaa.P
namespace Go.Proofs.Ytbhljokhcmfgjaa.P
open Go.RowKit Go.Proofs.YtbhljokhcmfgjaaW.PrintWords Go.Proofs.YtbhljokhcmfgjaaW.PrintLast Go.Proofs.YtbhljokhcmfgjaaW.PrintMore
attribute [local go_sem] max2_int min2_int max_two min_two max_three min_three max_four min_four   -- for this text's walks alone
set_option linter.unusedVariables false
set_option linter.unusedSimpArgs false
def stack_builder_either.f (k : Nat) (s0_0 : Int) (s0_1 : Int) (s0_2 : Int) (s0_3 : Int) (s0_4 : Int) (s0_5 : Bool) (s0_6 : List (S196)) (s0_7 : List (S198)) (s0_8 : List (S157)) (s0_9 : List Int) (s0_10 : List (S82)) (s0_11 : List (S82)) (s0_12 : List Int) (s0_13 : List (S160)) (s0_14 : Int) (s0_15 : List (S178)) (s0_16 : List (S178)) (s0_17 : Int) (s0_18 : Int) (s0_19 : Int) (a1 : Int) : Option (Int × Int × Int × Int × Int × Int × Bool × Int × Int × Int × Int) := if s0_17 < 2 then ((stack_builder_konst.f k s0_0 s0_1 s0_2 s0_3 s0_4 s0_5 s0_6 s0_7 s0_8 s0_9 s0_10 s0_11 s0_12 s0_13 s0_14 s0_15 s0_16 s0_17 s0_18 s0_19 (wrap64 (a1 + 1))).bind fun bt327 => (some (bt327.1, bt327.2.1, bt327.2.2.1, bt327.2.2.2.1, bt327.2.2.2.2.1, bt327.2.2.2.2.2.1, bt327.2.2.2.2.2.2.1, bt327.2.2.2.2.2.2.2.1, bt327.2.2.2.2.2.2.2.2.1, bt327.2.2.2.2.2.2.2.2.2.1, bt327.2.2.2.2.2.2.2.2.2.2))) else ((stack_builder_konst.f k s0_0 s0_1 s0_2 s0_3 s0_4 s0_5 s0_6 s0_7 s0_8 s0_9 s0_10 s0_11 s0_12 s0_13 s0_14 s0_15 s0_16 s0_17 s0_18 s0_19 a1).bind fun bt338 => (some (bt338.1, bt338.2.1, bt338.2.2.1, bt338.2.2.2.1, bt338.2.2.2.2.1, bt338.2.2.2.2.2.1, bt338.2.2.2.2.2.2.1, bt338.2.2.2.2.2.2.2.1, bt338.2.2.2.2.2.2.2.2.1, bt338.2.2.2.2.2.2.2.2.2.1, bt338.2.2.2.2.2.2.2.2.2.2)))
theorem stack_builder_either.mono : ∀ a0 a1 a2 a3 a4 a5 a6 a7 a8 a9 a10 a11 a12 a13 a14 a15 a16 a17 a18 a19 a20 k, LeO (stack_builder_either.f k a0 a1 a2 a3 a4 a5 a6 a7 a8 a9 a10 a11 a12 a13 a14 a15 a16 a17 a18 a19 a20) (stack_builder_either.f (k + 1) a0 a1 a2 a3 a4 a5 a6 a7 a8 a9 a10 a11 a12 a13 a14 a15 a16 a17 a18 a19 a20) := by
  intro a0 a1 a2 a3 a4 a5 a6 a7 a8 a9 a10 a11 a12 a13 a14 a15 a16 a17 a18 a19 a20 k
  unfold stack_builder_either.f
  repeat' first
      | (with_reducible exact stack_builder_konst.mono _ _ _ _ _ _ _ _ _ _ _ _ _ _ _ _ _ _ _ _ _ _)
      | (with_reducible exact LeO.refl _)
      | (with_reducible exact LeO.none _)
      | (with_reducible refine LeO.ite ?_ ?_)
      | (with_reducible refine LeO.bind ?_ (fun _ => ?_))
      | exact stack_builder_konst.mono _ _ _ _ _ _ _ _ _ _ _ _ _ _ _ _ _ _ _ _ _ _
      | exact LeO.none _
      | refine LeO.ite ?_ ?_
      | refine LeO.bind ?_ (fun _ => ?_)
set_option maxHeartbeats 8000000 in
set_option maxRecDepth 100000 in
theorem stack_builder_either.calls (k : Nat) (g : Nat) (s0_0 : Int) (s0_1 : Int) (s0_2 : Int) (s0_3 : Int) (s0_4 : Int) (s0_5 : Bool) (s0_6 : List (S196)) (s0_7 : List (S198)) (s0_8 : List (S157)) (s0_9 : List Int) (s0_10 : List (S82)) (s0_11 : List (S82)) (s0_12 : List Int) (s0_13 : List (S160)) (s0_14 : Int) (s0_15 : List (S178)) (s0_16 : List (S178)) (s0_17 : Int) (s0_18 : Int) (s0_19 : Int) (a1 : Int) (r1 : Int) (r2 : Int) (r3 : Int) (r4 : Int) (r5 : Int) (r6 : Int) (r7 : Bool) (r8 : Int) (r9 : Int) (r10 : Int) (r11 : Int) (w0 w : World) (hI : IsS100 w0 w g s0_0 s0_1 s0_2 s0_3 s0_4 s0_5 s0_6 s0_7 s0_8 s0_9 s0_10 s0_11 s0_12 s0_13 s0_14 s0_15 s0_16 s0_17 s0_18 s0_19) (hB : Below w0.heap.size w0 w) (h : stack_builder_either.f k s0_0 s0_1 s0_2 s0_3 s0_4 s0_5 s0_6 s0_7 s0_8 s0_9 s0_10 s0_11 s0_12 s0_13 s0_14 s0_15 s0_16 s0_17 s0_18 s0_19 a1 = some (r1, r2, r3, r4, r5, r6, r7, r8, r9, r10, r11)) :
    Calls Try.prog 59 #[.pointer (some ⟨g, 0, none⟩), .int .i64 a1] w fun e w' => e = .returned (.int .i64 r1) ∧ IsS100 w0 w' g r2 r3 r4 r5 r6 r7 s0_6 s0_7 s0_8 s0_9 s0_10 s0_11 s0_12 s0_13 r8 s0_15 s0_16 r9 r10 r11 ∧ Below w0.heap.size w0 w' ∧ KeepBut w w' g none := by
  have HI0 := Aside0.mk hI
  have HK := Aside0.mk (KeepBut.refl w g none)
  have HL := Aside0.mk hB.size
  clear hI
  have HW0 := Aside0.mk hB.size
  have HB := Aside0.mk hB
  clear hB
  have H : (if s0_17 < 2 then ((stack_builder_konst.f k s0_0 s0_1 s0_2 s0_3 s0_4 s0_5 s0_6 s0_7 s0_8 s0_9 s0_10 s0_11 s0_12 s0_13 s0_14 s0_15 s0_16 s0_17 s0_18 s0_19 (wrap64 (a1 + 1))).bind fun bt327 => (some (bt327.1, bt327.2.1, bt327.2.2.1, bt327.2.2.2.1, bt327.2.2.2.2.1, bt327.2.2.2.2.2.1, bt327.2.2.2.2.2.2.1, bt327.2.2.2.2.2.2.2.1, bt327.2.2.2.2.2.2.2.2.1, bt327.2.2.2.2.2.2.2.2.2.1, bt327.2.2.2.2.2.2.2.2.2.2))) else ((stack_builder_konst.f k s0_0 s0_1 s0_2 s0_3 s0_4 s0_5 s0_6 s0_7 s0_8 s0_9 s0_10 s0_11 s0_12 s0_13 s0_14 s0_15 s0_16 s0_17 s0_18 s0_19 a1).bind fun bt338 => (some (bt338.1, bt338.2.1, bt338.2.2.1, bt338.2.2.2.1, bt338.2.2.2.2.1, bt338.2.2.2.2.2.1, bt338.2.2.2.2.2.2.1, bt338.2.2.2.2.2.2.2.1, bt338.2.2.2.2.2.2.2.2.1, bt338.2.2.2.2.2.2.2.2.2.1, bt338.2.2.2.2.2.2.2.2.2.2)))) = some (r1, r2, r3, r4, r5, r6, r7, r8, r9, r10, r11) := h
  clear h
  by_cases c3 : s0_17 < 2
  · rw [if_pos c3] at H
    have c3b0 : decide (s0_17 < 2) = true := decide_eq_true c3
    clear c3
    replace H := Option.bind_eq_some_iff.mp H
    obtain ⟨⟨t327, t328, t329, t330, t331, t332, t333, t334, t335, t336, t337⟩, A40, H⟩ := H
    replace H : (some (t327, t328, t329, t330, t331, t332, t333, t334, t335, t336, t337)) = some (r1, r2, r3, r4, r5, r6, r7, r8, r9, r10, r11) := H
    have A4 := Aside0.mk A40
    clear A40
    simp only [Option.some.injEq, Prod.mk.injEq] at H
    obtain ⟨rfl, rfl, rfl, rfl, rfl, rfl, rfl, rfl, rfl, rfl, rfl⟩ := H
    obtain ⟨ASz5_6, cSz5_6, ASz5_7, cSz5_7, ASz5_8, cSz5_8, ASz5_9, cSz5_9, ASz5_10, cSz5_10, ASz5_11, cSz5_11, ASz5_12, cSz5_12, ASz5_13, cSz5_13, ASz5_15, cSz5_15, ASz5_16, cSz5_16, HGz5, hgz5, HSz5_6, HSz5_7, HSz5_8, HSz5_9, HSz5_10, HSz5_11, HSz5_12, HSz5_13, HSz5_15, HSz5_16⟩ := HI0.out
    have hcz5_0 := cellS100_0 HGz5
    have hcz5_1 := cellS100_1 HGz5
    have hcz5_2 := cellS100_2 HGz5
    have hcz5_3 := cellS100_3 HGz5
    have hcz5_4 := cellS100_4 HGz5
    have hcz5_5 := cellS100_5 HGz5
    have hcz5_6 := cellS100_6 HGz5
    have hcz5_7 := cellS100_7 HGz5
    have hcz5_8 := cellS100_8 HGz5
    have hcz5_9 := cellS100_9 HGz5
    have hcz5_10 := cellS100_10 HGz5
    have hcz5_11 := cellS100_11 HGz5
    have hcz5_12 := cellS100_12 HGz5
    have hcz5_13 := cellS100_13 HGz5
    have hcz5_14 := cellS100_14 HGz5
    have hcz5_15 := cellS100_15 HGz5
    have hcz5_16 := cellS100_16 HGz5
    have hcz5_17 := cellS100_17 HGz5
    have hcz5_18 := cellS100_18 HGz5
    have hcz5_19 := cellS100_19 HGz5
    have hfz5_0 := blk_frozen HGz5 0
    have hfz5_1 := blk_frozen HGz5 1
    have hfz5_2 := blk_frozen HGz5 2
    have hfz5_3 := blk_frozen HGz5 3
    have hfz5_4 := blk_frozen HGz5 4
    have hfz5_5 := blk_frozen HGz5 5
    have hfz5_14 := blk_frozen HGz5 14
    have hfz5_17 := blk_frozen HGz5 17
    have hfz5_18 := blk_frozen HGz5 18
    have hfz5_19 := blk_frozen HGz5 19
    clear HGz5 hgz5
    go_enter Try.func59, Try.ntmps59
    go_wp2_with (first | ((with_reducible refine gate_callee (f := 58) rfl ?_); refine goesL_ (some 14) rfl rfl Try.func58 (by kernel_rfl) rfl #[.pointer (some ⟨g, 0, none⟩), .int .i64 (wrap64 (a1 + 1))] rfl (by (try simp only [List.map_toArray, List.map_cons, List.map_nil]); first | done | rfl | (simp only [List.length_drop, List.length_take]; rfl)) ?_; (with_reducible refine (stack_builder_konst.calls k g s0_0 s0_1 s0_2 s0_3 s0_4 s0_5 s0_6 s0_7 s0_8 s0_9 s0_10 s0_11 s0_12 s0_13 s0_14 s0_15 s0_16 s0_17 s0_18 s0_19 (wrap64 (a1 + 1)) t327 t328 t329 t330 t331 t332 t333 t334 t335 t336 t337 w0 _ ?side1 ?side2 A4.out).mono ?_); (case side1 => repeat (first | (with_reducible first | exact HI0.out | apply IsS100.alloc | apply IsS100.drewN | apply IsS100.drew | apply IsS100.set_0 | apply IsS100.set_1 | apply IsS100.set_2 | apply IsS100.set_3 | apply IsS100.set_4 | apply IsS100.set_5 | apply IsS100.set_14 | apply IsS100.set_17 | apply IsS100.set_18 | apply IsS100.set_19) | exact HI0.out)); (case side2 => repeat (first | (with_reducible first | exact HB.out | apply below_alloc | apply pw_below_drewN | apply below_drew1 | refine below_set ?_ (IsS100.ge HI0.out)) | exact HB.out)); rintro e w6 ⟨rfl, hi, hb, hk⟩; refine ⟨_, rfl, ?_⟩; have n0_ := Aside0.mk (KeepBut.trans (by repeat (first | (with_reducible first | exact HK.out | apply KeepBut.set_ | apply keep_drewN | apply keep_drew | apply keep_alloc) | exact HK.out)) hk (.inl rfl)); have n1_ := Aside0.mk (hb); have n2_ := Aside0.mk (hi); clear HK; clear HB; clear HI0; have HK := n0_; have HB := n1_; have HI0 := n2_; clear n0_ n1_ n2_; (try clear hb); (try clear hb2); (try clear hk); (try clear hi)))
    go_ret
    exact ⟨by first | rfl | (simp [errW_none, errW_some] <;> rfl) | (simp [*, errW_none, errW_some] <;> rfl), by repeat (first | (with_reducible first | exact HI0.out | apply IsS100.alloc | apply IsS100.drewN | apply IsS100.drew | apply IsS100.set_0 | apply IsS100.set_1 | apply IsS100.set_2 | apply IsS100.set_3 | apply IsS100.set_4 | apply IsS100.set_5 | apply IsS100.set_14 | apply IsS100.set_17 | apply IsS100.set_18 | apply IsS100.set_19) | exact HI0.out), by repeat (first | (with_reducible first | exact HB.out | apply below_alloc | apply pw_below_drewN | apply below_drew1 | refine below_set ?_ (IsS100.ge HI0.out)) | exact HB.out), by repeat (first | (with_reducible first | exact HK.out | apply KeepBut.set_ | apply keep_drewN | apply keep_drew | apply keep_alloc) | exact HK.out)⟩
  · rw [if_neg c3] at H
    have c3b0 : decide (s0_17 < 2) = false := decide_eq_false c3
    clear c3
    replace H := Option.bind_eq_some_iff.mp H
    obtain ⟨⟨t338, t339, t340, t341, t342, t343, t344, t345, t346, t347, t348⟩, A70, H⟩ := H
    replace H : (some (t338, t339, t340, t341, t342, t343, t344, t345, t346, t347, t348)) = some (r1, r2, r3, r4, r5, r6, r7, r8, r9, r10, r11) := H
    have A7 := Aside0.mk A70
    clear A70
    simp only [Option.some.injEq, Prod.mk.injEq] at H
    obtain ⟨rfl, rfl, rfl, rfl, rfl, rfl, rfl, rfl, rfl, rfl, rfl⟩ := H
    obtain ⟨ASz8_6, cSz8_6, ASz8_7, cSz8_7, ASz8_8, cSz8_8, ASz8_9, cSz8_9, ASz8_10, cSz8_10, ASz8_11, cSz8_11, ASz8_12, cSz8_12, ASz8_13, cSz8_13, ASz8_15, cSz8_15, ASz8_16, cSz8_16, HGz8, hgz8, HSz8_6, HSz8_7, HSz8_8, HSz8_9, HSz8_10, HSz8_11, HSz8_12, HSz8_13, HSz8_15, HSz8_16⟩ := HI0.out
    have hcz8_0 := cellS100_0 HGz8
    have hcz8_1 := cellS100_1 HGz8
    have hcz8_2 := cellS100_2 HGz8
    have hcz8_3 := cellS100_3 HGz8
    have hcz8_4 := cellS100_4 HGz8
    have hcz8_5 := cellS100_5 HGz8
    have hcz8_6 := cellS100_6 HGz8
    have hcz8_7 := cellS100_7 HGz8
    have hcz8_8 := cellS100_8 HGz8
    have hcz8_9 := cellS100_9 HGz8
    have hcz8_10 := cellS100_10 HGz8
    have hcz8_11 := cellS100_11 HGz8
    have hcz8_12 := cellS100_12 HGz8
    have hcz8_13 := cellS100_13 HGz8
    have hcz8_14 := cellS100_14 HGz8
    have hcz8_15 := cellS100_15 HGz8
    have hcz8_16 := cellS100_16 HGz8
    have hcz8_17 := cellS100_17 HGz8
    have hcz8_18 := cellS100_18 HGz8
    have hcz8_19 := cellS100_19 HGz8
    have hfz8_0 := blk_frozen HGz8 0
    have hfz8_1 := blk_frozen HGz8 1
    have hfz8_2 := blk_frozen HGz8 2
    have hfz8_3 := blk_frozen HGz8 3
    have hfz8_4 := blk_frozen HGz8 4
    have hfz8_5 := blk_frozen HGz8 5
    have hfz8_14 := blk_frozen HGz8 14
    have hfz8_17 := blk_frozen HGz8 17
    have hfz8_18 := blk_frozen HGz8 18
    have hfz8_19 := blk_frozen HGz8 19
    clear HGz8 hgz8
    go_enter Try.func59, Try.ntmps59
    go_wp2_with (first | ((with_reducible refine gate_callee (f := 58) rfl ?_); refine goesL_ (some 14) rfl rfl Try.func58 (by kernel_rfl) rfl #[.pointer (some ⟨g, 0, none⟩), .int .i64 a1] rfl (by (try simp only [List.map_toArray, List.map_cons, List.map_nil]); first | done | rfl | (simp only [List.length_drop, List.length_take]; rfl)) ?_; (with_reducible refine (stack_builder_konst.calls k g s0_0 s0_1 s0_2 s0_3 s0_4 s0_5 s0_6 s0_7 s0_8 s0_9 s0_10 s0_11 s0_12 s0_13 s0_14 s0_15 s0_16 s0_17 s0_18 s0_19 a1 t338 t339 t340 t341 t342 t343 t344 t345 t346 t347 t348 w0 _ ?side1 ?side2 A7.out).mono ?_); (case side1 => repeat (first | (with_reducible first | exact HI0.out | apply IsS100.alloc | apply IsS100.drewN | apply IsS100.drew | apply IsS100.set_0 | apply IsS100.set_1 | apply IsS100.set_2 | apply IsS100.set_3 | apply IsS100.set_4 | apply IsS100.set_5 | apply IsS100.set_14 | apply IsS100.set_17 | apply IsS100.set_18 | apply IsS100.set_19) | exact HI0.out)); (case side2 => repeat (first | (with_reducible first | exact HB.out | apply below_alloc | apply pw_below_drewN | apply below_drew1 | refine below_set ?_ (IsS100.ge HI0.out)) | exact HB.out)); rintro e w9 ⟨rfl, hi, hb, hk⟩; refine ⟨_, rfl, ?_⟩; have n0_ := Aside0.mk (KeepBut.trans (by repeat (first | (with_reducible first | exact HK.out | apply KeepBut.set_ | apply keep_drewN | apply keep_drew | apply keep_alloc) | exact HK.out)) hk (.inl rfl)); have n1_ := Aside0.mk (hb); have n2_ := Aside0.mk (hi); clear HK; clear HB; clear HI0; have HK := n0_; have HB := n1_; have HI0 := n2_; clear n0_ n1_ n2_; (try clear hb); (try clear hb2); (try clear hk); (try clear hi)))
    go_ret
    exact ⟨by first | rfl | (simp [errW_none, errW_some] <;> rfl) | (simp [*, errW_none, errW_some] <;> rfl), by repeat (first | (with_reducible first | exact HI0.out | apply IsS100.alloc | apply IsS100.drewN | apply IsS100.drew | apply IsS100.set_0 | apply IsS100.set_1 | apply IsS100.set_2 | apply IsS100.set_3 | apply IsS100.set_4 | apply IsS100.set_5 | apply IsS100.set_14 | apply IsS100.set_17 | apply IsS100.set_18 | apply IsS100.set_19) | exact HI0.out), by repeat (first | (with_reducible first | exact HB.out | apply below_alloc | apply pw_below_drewN | apply below_drew1 | refine below_set ?_ (IsS100.ge HI0.out)) | exact HB.out), by repeat (first | (with_reducible first | exact HK.out | apply KeepBut.set_ | apply keep_drewN | apply keep_drew | apply keep_alloc) | exact HK.out)⟩
end Go.Proofs.Ytbhljokhcmfgjaa.P
namespace Go.Proofs.Ytbhljokhcmfgjaa.P
open Go.RowKit Go.Proofs.YtbhljokhcmfgjaaW.PrintWords Go.Proofs.YtbhljokhcmfgjaaW.PrintLast Go.Proofs.YtbhljokhcmfgjaaW.PrintMore
set_option linter.unusedVariables false
set_option linter.unusedSimpArgs false
theorem flat_get (sz : Nat) : ∀ (css : List (List Value)), (∀ c ∈ css, c.length = sz) → ∀ (j i : Nat) (c : List Value) (u : Value), css[j]? = some c → c[i]? = some u → css.flatten[j * sz + i]? = some u
  | [], _, j, i, c, u, h, _ => by simp at h
  | d :: css, hl, 0, i, c, u, h, hu => by
    simp only [List.getElem?_cons_zero, Option.some.injEq] at h
    subst h
    have hi : i < d.length := (List.getElem?_eq_some_iff.1 hu).1
    rw [Nat.zero_mul, Nat.zero_add, List.flatten_cons, List.getElem?_append_left hi]
    exact hu
  | d :: css, hl, j + 1, i, c, u, h, hu => by
    have hd : d.length = sz := hl d (by simp)
    rw [List.getElem?_cons_succ] at h
    have hge : d.length ≤ (j + 1) * sz + i := by rw [Nat.succ_mul]; omega
    rw [List.flatten_cons, List.getElem?_append_right hge, show (j + 1) * sz + i - d.length = j * sz + i by rw [Nat.succ_mul]; omega]
    exact flat_get sz css (fun c hc => hl c (by simp [hc])) j i c u h hu
/-- Each element's cells. -/
def Each {α : Type} (R : α → List Value → Prop) : List α → List (List Value) → Prop
  | [], [] => True
  | x :: xs, c :: css => R x c ∧ Each R xs css
  | _, _ => False
theorem Each.imp {α : Type} {R R' : α → List Value → Prop} (hR : ∀ x c, R x c → R' x c) : ∀ {xs : List α} {css : List (List Value)}, Each R xs css → Each R' xs css
  | [], [], _ => trivial
  | _ :: _, _ :: _, h => ⟨hR _ _ h.1, Each.imp hR h.2⟩
theorem Each.get {α : Type} {R : α → List Value → Prop} : ∀ {xs : List α} {css : List (List Value)}, Each R xs css → ∀ (j : Nat) (p : α), xs[j]? = some p → ∃ c, css[j]? = some c ∧ R p c
  | [], [], _, j, p, h => by simp at h
  | x :: xs, c :: css, h, 0, p, hp => by
    simp only [List.getElem?_cons_zero, Option.some.injEq] at hp
    subst hp
    exact ⟨c, rfl, h.1⟩
  | x :: xs, c :: css, h, j + 1, p, hp => by
    rw [List.getElem?_cons_succ] at hp ⊢
    exact Each.get h.2 j p hp
theorem Each.lens {α : Type} {d : Kd α} {w : World} : ∀ {xs : List α} {css : List (List Value)}, Each (d.K w) xs css → ∀ c ∈ css, c.length = d.sz
  | [], [], _, c, hc => by simp at hc
  | x :: xs, e :: css, h, c, hc => by
    rcases List.mem_cons.1 hc with rfl | hc
    · exact d.K_len h.1
    · exact Each.lens h.2 c hc
theorem row_C {α : Type} {d : Kd α} {w : World} {b : Nat} {e : TypeId} {xs : List α} {css : List (List Value)} (hK : Each (d.K w) xs css) (hb : w.heap[b]? = some (.cells css.flatten.toArray e (0, 0))) (hl : xs.length ≤ 9223372036854775807) : d.C w (some ⟨b, 0, none⟩) xs.length xs := by
  refine ⟨rfl, hl, fun _ => ⟨_, rfl, fun j p hp => ?_⟩⟩
  obtain ⟨c, hc, hk⟩ := hK.get j p hp
  refine ⟨c, d.K_len hk, hk, fun i u hu => ?_⟩
  have h := flat_get d.sz css hK.lens j i c u hc hu
  have ha : (⟨b, 0, none⟩ : Addr).add (j * d.sz + i) = ⟨b, j * d.sz + i, none⟩ := by
    unfold Addr.add
    split
    · next h => rw [h]
    · simp
  rw [ha, blk_cell hb]
  simpa using h
theorem alloc_last (w : World) (o : Obj) : (w.alloc o).heap[w.heap.size]? = some o := by
  show (w.heap.push o)[w.heap.size]? = _
  simp
theorem alloc_size (w : World) (o : Obj) : (w.alloc o).heap.size = w.heap.size + 1 := by
  show (w.heap.push o).size = _
  simp
def FontIn (w : World) (F : S63) (cs : List Value) : Prop := ∃ A6 c6, ∃ A7 c7, ∃ A8 c8, ∃ A9 c9, ∃ A10 c10, ∃ A11 c11, ∃ A12 c12, ∃ A13 c13, ∃ A15 c15, ∃ A16 c16, cs = [.int .i64 F.f0.f0, .int .i64 F.f0.f1, .int .i64 F.f0.f2, .int .i64 F.f0.f3, .int .i64 F.f0.f4, .bool F.f0.f5, .slice A6 F.f1.length c6, .slice A7 F.f2.length c7, .slice A8 F.f3.length c8, .slice A9 F.f4.f0.length c9, .slice A10 F.f4.f1.length c10, .slice A11 F.f4.f2.length c11, .slice A12 F.f4.f3.length c12, .slice A13 F.f4.f4.length c13, .int .i64 F.f4.f5.f0, .slice A15 F.f4.f5.f1.length c15, .slice A16 F.f4.f5.f2.length c16] ∧ F.f1.length ≤ c6 ∧ Kd.C k196 w A6 F.f1.length F.f1 ∧ F.f2.length ≤ c7 ∧ Kd.C k198 w A7 F.f2.length F.f2 ∧ F.f3.length ≤ c8 ∧ Kd.C k157 w A8 F.f3.length F.f3 ∧ F.f4.f0.length ≤ c9 ∧ Kd.C (Kd.int .i64) w A9 F.f4.f0.length F.f4.f0 ∧ F.f4.f1.length ≤ c10 ∧ Kd.C k82 w A10 F.f4.f1.length F.f4.f1 ∧ F.f4.f2.length ≤ c11 ∧ Kd.C k82 w A11 F.f4.f2.length F.f4.f2 ∧ F.f4.f3.length ≤ c12 ∧ Kd.C (Kd.int .i64) w A12 F.f4.f3.length F.f4.f3 ∧ F.f4.f4.length ≤ c13 ∧ Kd.C k160 w A13 F.f4.f4.length F.f4.f4 ∧ F.f4.f5.f1.length ≤ c15 ∧ Kd.C k178 w A15 F.f4.f5.f1.length F.f4.f5.f1 ∧ F.f4.f5.f2.length ≤ c16 ∧ Kd.C k178 w A16 F.f4.f5.f2.length F.f4.f5.f2
theorem FontIn.of {w : World} {F : S63} {cs : List Value} (h : k63.K w F cs) : FontIn w F cs := by
  obtain ⟨_, _, rfl, ⟨_, _, rfl, rfl, ⟨_, _, rfl, rfl, ⟨_, _, rfl, rfl, ⟨_, _, rfl, rfl, ⟨_, _, rfl, rfl, rfl⟩⟩⟩⟩⟩, ⟨_, _, rfl, ⟨A6, c6, rfl, l6, g6⟩, ⟨_, _, rfl, ⟨A7, c7, rfl, l7, g7⟩, ⟨_, _, rfl, ⟨A8, c8, rfl, l8, g8⟩, ⟨_, _, rfl, ⟨A9, c9, rfl, l9, g9⟩, ⟨_, _, rfl, ⟨A10, c10, rfl, l10, g10⟩, ⟨_, _, rfl, ⟨A11, c11, rfl, l11, g11⟩, ⟨_, _, rfl, ⟨A12, c12, rfl, l12, g12⟩, ⟨_, _, rfl, ⟨A13, c13, rfl, l13, g13⟩, ⟨_, _, rfl, rfl, ⟨_, _, rfl, ⟨A15, c15, rfl, l15, g15⟩, ⟨A16, c16, rfl, l16, g16⟩⟩⟩⟩⟩⟩⟩⟩⟩⟩⟩⟩ := h
  exact ⟨A6, c6, A7, c7, A8, c8, A9, c9, A10, c10, A11, c11, A12, c12, A13, c13, A15, c15, A16, c16, rfl, l6, g6, l7, g7, l8, g8, l9, g9, l10, g10, l11, g11, l12, g12, l13, g13, l15, g15, l16, g16⟩
theorem FontIn.heap {w W : World} {F : S63} {cs : List Value} (h : FontIn w F cs) (hb : Below w.heap.size w W) : FontIn W F cs := by
  obtain ⟨A6, c6, A7, c7, A8, c8, A9, c9, A10, c10, A11, c11, A12, c12, A13, c13, A15, c15, A16, c16, hc, l6, g6, l7, g7, l8, g8, l9, g9, l10, g10, l11, g11, l12, g12, l13, g13, l15, g15, l16, g16⟩ := h
  exact ⟨A6, c6, A7, c7, A8, c8, A9, c9, A10, c10, A11, c11, A12, c12, A13, c13, A15, c15, A16, c16, hc, l6, Kd.C_below g6 hb, l7, Kd.C_below g7 hb, l8, Kd.C_below g8 hb, l9, Kd.C_below g9 hb, l10, Kd.C_below g10 hb, l11, Kd.C_below g11 hb, l12, Kd.C_below g12 hb, l13, Kd.C_below g13 hb, l15, Kd.C_below g15 hb, l16, Kd.C_below g16 hb⟩
theorem bd_new {w W : World} {g : Nat} {F : S63} {cs : List Value} (c z : Int) (h : FontIn w F cs) (hg : W.heap[g]? = some (.cells (cs ++ [Value.int .i64 c, Value.int .i64 z, Value.int .i64 0]).toArray 100 (0, 0))) (hge : w.heap.size ≤ g) : Bd w W g F c z 0 := by
  obtain ⟨A6, c6, A7, c7, A8, c8, A9, c9, A10, c10, A11, c11, A12, c12, A13, c13, A15, c15, A16, c16, rfl, l6, g6, l7, g7, l8, g8, l9, g9, l10, g10, l11, g11, l12, g12, l13, g13, l15, g15, l16, g16⟩ := h
  exact ⟨A6, c6, A7, c7, A8, c8, A9, c9, A10, c10, A11, c11, A12, c12, A13, c13, A15, c15, A16, c16, hg, hge, g6, g7, g8, g9, g10, g11, g12, g13, g15, g16⟩
theorem box_cells {W : World} {b : Nat} {x : S25} {v : Value} {t : TypeId} (h : W.heap[b]? = some (.cells #[.int .i64 x.f0, .int .i64 x.f1, .int .i64 x.f2, .int .i64 x.f3, .int .i64 x.f4, .int .i64 x.f5, v] t (0, 0))) :
    W.cell? ⟨b, 0, none⟩ = some (.int .i64 x.f0) ∧ W.cell? ⟨b, 1, none⟩ = some (.int .i64 x.f1) ∧ W.cell? ⟨b, 2, none⟩ = some (.int .i64 x.f2) ∧ W.cell? ⟨b, 3, none⟩ = some (.int .i64 x.f3) ∧ W.cell? ⟨b, 4, none⟩ = some (.int .i64 x.f4) ∧ W.cell? ⟨b, 5, none⟩ = some (.int .i64 x.f5) ∧ W.cell? ⟨b, 6, none⟩ = some v :=
  ⟨blk_cell h 0, blk_cell h 1, blk_cell h 2, blk_cell h 3, blk_cell h 4, blk_cell h 5, blk_cell h 6⟩
theorem cells7 {W : World} {b : Nat} {v0 v1 v2 v3 v4 v5 v6 : Value} {t : TypeId} (h : W.heap[b]? = some (.cells #[v0, v1, v2, v3, v4, v5, v6] t (0, 0))) :
    W.cell? ⟨b, 0, none⟩ = some v0 ∧ W.cell? ⟨b, 1, none⟩ = some v1 ∧ W.cell? ⟨b, 2, none⟩ = some v2 ∧ W.cell? ⟨b, 3, none⟩ = some v3 ∧ W.cell? ⟨b, 4, none⟩ = some v4 ∧ W.cell? ⟨b, 5, none⟩ = some v5 ∧ W.cell? ⟨b, 6, none⟩ = some v6 :=
  ⟨blk_cell h 0, blk_cell h 1, blk_cell h 2, blk_cell h 3, blk_cell h 4, blk_cell h 5, blk_cell h 6⟩
theorem cells17 {W : World} {b : Nat} {v0 v1 v2 v3 v4 v5 v6 v7 v8 v9 v10 v11 v12 v13 v14 v15 v16 : Value} {t : TypeId} (h : W.heap[b]? = some (.cells #[v0, v1, v2, v3, v4, v5, v6, v7, v8, v9, v10, v11, v12, v13, v14, v15, v16] t (0, 0))) :
    W.cell? ⟨b, 0, none⟩ = some v0 ∧ W.cell? ⟨b, 1, none⟩ = some v1 ∧ W.cell? ⟨b, 2, none⟩ = some v2 ∧ W.cell? ⟨b, 3, none⟩ = some v3 ∧ W.cell? ⟨b, 4, none⟩ = some v4 ∧ W.cell? ⟨b, 5, none⟩ = some v5 ∧ W.cell? ⟨b, 6, none⟩ = some v6 ∧ W.cell? ⟨b, 7, none⟩ = some v7 ∧ W.cell? ⟨b, 8, none⟩ = some v8 ∧ W.cell? ⟨b, 9, none⟩ = some v9 ∧ W.cell? ⟨b, 10, none⟩ = some v10 ∧ W.cell? ⟨b, 11, none⟩ = some v11 ∧ W.cell? ⟨b, 12, none⟩ = some v12 ∧ W.cell? ⟨b, 13, none⟩ = some v13 ∧ W.cell? ⟨b, 14, none⟩ = some v14 ∧ W.cell? ⟨b, 15, none⟩ = some v15 ∧ W.cell? ⟨b, 16, none⟩ = some v16 :=
  ⟨blk_cell h 0, blk_cell h 1, blk_cell h 2, blk_cell h 3, blk_cell h 4, blk_cell h 5, blk_cell h 6, blk_cell h 7, blk_cell h 8, blk_cell h 9, blk_cell h 10, blk_cell h 11, blk_cell h 12, blk_cell h 13, blk_cell h 14, blk_cell h 15, blk_cell h 16⟩
theorem froz7 {W : World} {b : Nat} {v0 v1 v2 v3 v4 v5 v6 : Value} {t : TypeId} (h : W.heap[b]? = some (.cells #[v0, v1, v2, v3, v4, v5, v6] t (0, 0))) :
    W.frozen? ⟨b, 0, none⟩ = false ∧ W.frozen? ⟨b, 1, none⟩ = false ∧ W.frozen? ⟨b, 2, none⟩ = false ∧ W.frozen? ⟨b, 3, none⟩ = false ∧ W.frozen? ⟨b, 4, none⟩ = false ∧ W.frozen? ⟨b, 5, none⟩ = false ∧ W.frozen? ⟨b, 6, none⟩ = false :=
  ⟨blk_frozen h 0, blk_frozen h 1, blk_frozen h 2, blk_frozen h 3, blk_frozen h 4, blk_frozen h 5, blk_frozen h 6⟩
theorem far7 (w : World) {b q : Nat} (hne : b ≠ q) {v0 v1 v2 v3 v4 v5 v6 : Value} : (((((((w.setCell ⟨q, 0, none⟩ v0).setCell ⟨q, 1, none⟩ v1).setCell ⟨q, 2, none⟩ v2).setCell ⟨q, 3, none⟩ v3).setCell ⟨q, 4, none⟩ v4).setCell ⟨q, 5, none⟩ v5).setCell ⟨q, 6, none⟩ v6).heap[b]? = w.heap[b]? :=
  (Below.heap_setCell _ ⟨q, 6, none⟩ v6 b hne).trans ((Below.heap_setCell _ ⟨q, 5, none⟩ v5 b hne).trans ((Below.heap_setCell _ ⟨q, 4, none⟩ v4 b hne).trans ((Below.heap_setCell _ ⟨q, 3, none⟩ v3 b hne).trans ((Below.heap_setCell _ ⟨q, 2, none⟩ v2 b hne).trans ((Below.heap_setCell _ ⟨q, 1, none⟩ v1 b hne).trans (Below.heap_setCell _ ⟨q, 0, none⟩ v0 b hne))))))
theorem put7 {w : World} {q : Nat} {t : TypeId} {u0 u1 u2 u3 u4 u5 u6 : Value} (h : w.heap[q]? = some (.cells #[u0, u1, u2, u3, u4, u5, u6] t (0, 0))) {v0 v1 v2 v3 v4 v5 v6 : Value} : (((((((w.setCell ⟨q, 0, none⟩ v0).setCell ⟨q, 1, none⟩ v1).setCell ⟨q, 2, none⟩ v2).setCell ⟨q, 3, none⟩ v3).setCell ⟨q, 4, none⟩ v4).setCell ⟨q, 5, none⟩ v5).setCell ⟨q, 6, none⟩ v6).heap[q]? = some (.cells #[v0, v1, v2, v3, v4, v5, v6] t (0, 0)) :=
  blk_put (cs := #[v0, v1, v2, v3, v4, v5, u6]) (blk_put (cs := #[v0, v1, v2, v3, v4, u5, u6]) (blk_put (cs := #[v0, v1, v2, v3, u4, u5, u6]) (blk_put (cs := #[v0, v1, v2, u3, u4, u5, u6]) (blk_put (cs := #[v0, v1, u2, u3, u4, u5, u6]) (blk_put (cs := #[v0, u1, u2, u3, u4, u5, u6]) (blk_put (cs := #[u0, u1, u2, u3, u4, u5, u6]) (h) 0 v0 rfl) 1 v1 rfl) 2 v2 rfl) 3 v3 rfl) 4 v4 rfl) 5 v5 rfl) 6 v6 rfl
theorem bel7 {a w : World} {B q : Nat} (h : Below B a w) (hq : B ≤ q) {v0 v1 v2 v3 v4 v5 v6 : Value} : Below B a (((((((w.setCell ⟨q, 0, none⟩ v0).setCell ⟨q, 1, none⟩ v1).setCell ⟨q, 2, none⟩ v2).setCell ⟨q, 3, none⟩ v3).setCell ⟨q, 4, none⟩ v4).setCell ⟨q, 5, none⟩ v5).setCell ⟨q, 6, none⟩ v6) :=
  Below.setCell (Below.setCell (Below.setCell (Below.setCell (Below.setCell (Below.setCell (Below.setCell (h) (p := ⟨q, 0, none⟩) hq v0) (p := ⟨q, 1, none⟩) hq v1) (p := ⟨q, 2, none⟩) hq v2) (p := ⟨q, 3, none⟩) hq v3) (p := ⟨q, 4, none⟩) hq v4) (p := ⟨q, 5, none⟩) hq v5) (p := ⟨q, 6, none⟩) hq v6
theorem far9 (w : World) {b q : Nat} (hne : b ≠ q) {v0 v1 v2 v3 v4 v5 v6 v7 v8 : Value} : (((((((((w.setCell ⟨q, 0, none⟩ v0).setCell ⟨q, 1, none⟩ v1).setCell ⟨q, 2, none⟩ v2).setCell ⟨q, 3, none⟩ v3).setCell ⟨q, 4, none⟩ v4).setCell ⟨q, 5, none⟩ v5).setCell ⟨q, 6, none⟩ v6).setCell ⟨q, 7, none⟩ v7).setCell ⟨q, 8, none⟩ v8).heap[b]? = w.heap[b]? :=
  (Below.heap_setCell _ ⟨q, 8, none⟩ v8 b hne).trans ((Below.heap_setCell _ ⟨q, 7, none⟩ v7 b hne).trans ((Below.heap_setCell _ ⟨q, 6, none⟩ v6 b hne).trans ((Below.heap_setCell _ ⟨q, 5, none⟩ v5 b hne).trans ((Below.heap_setCell _ ⟨q, 4, none⟩ v4 b hne).trans ((Below.heap_setCell _ ⟨q, 3, none⟩ v3 b hne).trans ((Below.heap_setCell _ ⟨q, 2, none⟩ v2 b hne).trans ((Below.heap_setCell _ ⟨q, 1, none⟩ v1 b hne).trans (Below.heap_setCell _ ⟨q, 0, none⟩ v0 b hne))))))))
theorem put9 {w : World} {q : Nat} {t : TypeId} {u0 u1 u2 u3 u4 u5 u6 u7 u8 : Value} (h : w.heap[q]? = some (.cells #[u0, u1, u2, u3, u4, u5, u6, u7, u8] t (0, 0))) {v0 v1 v2 v3 v4 v5 v6 v7 v8 : Value} : (((((((((w.setCell ⟨q, 0, none⟩ v0).setCell ⟨q, 1, none⟩ v1).setCell ⟨q, 2, none⟩ v2).setCell ⟨q, 3, none⟩ v3).setCell ⟨q, 4, none⟩ v4).setCell ⟨q, 5, none⟩ v5).setCell ⟨q, 6, none⟩ v6).setCell ⟨q, 7, none⟩ v7).setCell ⟨q, 8, none⟩ v8).heap[q]? = some (.cells #[v0, v1, v2, v3, v4, v5, v6, v7, v8] t (0, 0)) :=
  blk_put (cs := #[v0, v1, v2, v3, v4, v5, v6, v7, u8]) (blk_put (cs := #[v0, v1, v2, v3, v4, v5, v6, u7, u8]) (blk_put (cs := #[v0, v1, v2, v3, v4, v5, u6, u7, u8]) (blk_put (cs := #[v0, v1, v2, v3, v4, u5, u6, u7, u8]) (blk_put (cs := #[v0, v1, v2, v3, u4, u5, u6, u7, u8]) (blk_put (cs := #[v0, v1, v2, u3, u4, u5, u6, u7, u8]) (blk_put (cs := #[v0, v1, u2, u3, u4, u5, u6, u7, u8]) (blk_put (cs := #[v0, u1, u2, u3, u4, u5, u6, u7, u8]) (blk_put (cs := #[u0, u1, u2, u3, u4, u5, u6, u7, u8]) (h) 0 v0 rfl) 1 v1 rfl) 2 v2 rfl) 3 v3 rfl) 4 v4 rfl) 5 v5 rfl) 6 v6 rfl) 7 v7 rfl) 8 v8 rfl
theorem bel9 {a w : World} {B q : Nat} (h : Below B a w) (hq : B ≤ q) {v0 v1 v2 v3 v4 v5 v6 v7 v8 : Value} : Below B a (((((((((w.setCell ⟨q, 0, none⟩ v0).setCell ⟨q, 1, none⟩ v1).setCell ⟨q, 2, none⟩ v2).setCell ⟨q, 3, none⟩ v3).setCell ⟨q, 4, none⟩ v4).setCell ⟨q, 5, none⟩ v5).setCell ⟨q, 6, none⟩ v6).setCell ⟨q, 7, none⟩ v7).setCell ⟨q, 8, none⟩ v8) :=
  Below.setCell (Below.setCell (Below.setCell (Below.setCell (Below.setCell (Below.setCell (Below.setCell (Below.setCell (Below.setCell (h) (p := ⟨q, 0, none⟩) hq v0) (p := ⟨q, 1, none⟩) hq v1) (p := ⟨q, 2, none⟩) hq v2) (p := ⟨q, 3, none⟩) hq v3) (p := ⟨q, 4, none⟩) hq v4) (p := ⟨q, 5, none⟩) hq v5) (p := ⟨q, 6, none⟩) hq v6) (p := ⟨q, 7, none⟩) hq v7) (p := ⟨q, 8, none⟩) hq v8
structure In (w W : World) (g : Nat) (F : S63) (c z e : Int) (L : List (Nat × Obj)) : Prop where
  bd : Bd w W g F c z e
  bel : Below w.heap.size w W
  loc : ∀ p ∈ L, W.heap[p.1]? = some p.2 ∧ p.1 ≠ g ∧ w.heap.size ≤ p.1
section
variable {w W W1 : World} {g : Nat} {F : S63} {c z e e1 : Int} {L : List (Nat × Obj)}
theorem In.ge (h : In w W g F c z e L) : w.heap.size ≤ g := IsS100.ge h.bd
theorem In.lt (h : In w W g F c z e L) : g < W.heap.size := IsS100.lt h.bd
theorem In.call (h : In w W g F c z e L) (hI : Bd w W1 g F c z e1) (hB : Below w.heap.size w W1) (hK : KeepBut W W1 g none) : In w W1 g F c z e1 L :=
  ⟨hI, hB, fun p hp => ⟨hK.blk (h.loc p hp).1 (h.loc p hp).2.1 (by simp), (h.loc p hp).2⟩⟩
theorem In.below (h : In w W g F c z e L) (hb : Below W.heap.size W W1) : In w W1 g F c z e L :=
  ⟨IsS100.below h.bd hb, below_step h.bel hb, fun p hp => ⟨blk_below (h.loc p hp).1 hb, (h.loc p hp).2⟩⟩
theorem In.alloc (h : In w W g F c z e L) (o : Obj) : In w (W.alloc o) g F c z e L := h.below ((Below.refl _ _).alloc (Nat.le_refl _) o)
theorem In.drew (h : In w W g F c z e L) : In w W.drew g F c z e L := h.below (Below.refl _ _).drew
theorem In.more (h : In w W g F c z e L) {b : Nat} {o : Obj} (hb : W.heap[b]? = some o) (hg : b ≠ g) (hw : w.heap.size ≤ b) : In w W g F c z e ((b, o) :: L) :=
  ⟨h.bd, h.bel, fun p hp => by rcases List.mem_cons.1 hp with rfl | hp; exact ⟨hb, hg, hw⟩; exact h.loc p hp⟩
theorem In.less (h : In w W g F c z e L) {M : List (Nat × Obj)} (hM : ∀ p ∈ M, p ∈ L) : In w W g F c z e M := ⟨h.bd, h.bel, fun p hp => h.loc p (hM p hp)⟩
theorem Bd.heap (h : Bd w W g F c z e) (hh : W1.heap[g]? = W.heap[g]?) : Bd w W1 g F c z e := by
  obtain ⟨A6, c6, A7, c7, A8, c8, A9, c9, A10, c10, A11, c11, A12, c12, A13, c13, A15, c15, A16, c16, hg, hr⟩ := h
  exact ⟨A6, c6, A7, c7, A8, c8, A9, c9, A10, c10, A11, c11, A12, c12, A13, c13, A15, c15, A16, c16, hh.trans hg, hr⟩
theorem In.hd {b : Nat} {o : Obj} (h : In w W g F c z e ((b, o) :: L)) : W.heap[b]? = some o := (h.loc (b, o) List.mem_cons_self).1
theorem In.tl {p : Nat × Obj} (h : In w W g F c z e (p :: L)) : In w W g F c z e L := h.less (fun q hq => List.mem_cons_of_mem _ hq)
/-- One of the call's own blocks is written. -/
theorem In.set {q : Nat} {o : Obj} (h : In w W g F c z e ((q, o) :: L)) (hh : ∀ k, k ≠ q → W1.heap[k]? = W.heap[k]?) (hB : Below w.heap.size w W1) (hL : ∀ p ∈ L, p.1 ≠ q) : In w W1 g F c z e L :=
  ⟨h.bd.heap (hh g (Ne.symm (h.loc (q, o) List.mem_cons_self).2.1)), hB, fun p hp => ⟨(hh p.1 (hL p hp)).trans (h.tl.loc p hp).1, (h.tl.loc p hp).2⟩⟩
/-- Before the builder: what is below, the blocks so far. -/
structure Pre (w W : World) (L : List (Nat × Obj)) : Prop where
  bel : Below w.heap.size w W
  loc : ∀ p ∈ L, W.heap[p.1]? = some p.2 ∧ w.heap.size ≤ p.1
theorem Pre.start (w : World) : Pre w w [] := ⟨Below.refl _ _, by simp⟩
theorem Pre.drew (h : Pre w W L) : Pre w W.drew L := ⟨h.bel.drew, h.loc⟩
theorem Pre.box (h : Pre w W L) {b : Nat} {o : Obj} (hg : b = W.heap.size) (hb : W1.heap[b]? = some o) (hB : Below W.heap.size W W1) : Pre w W1 ((b, o) :: L) :=
  ⟨below_step h.bel hB, fun p hp => by
    rcases List.mem_cons.1 hp with rfl | hp
    · exact ⟨hb, by have := h.bel.size; omega⟩
    · exact ⟨blk_below (h.loc p hp).1 hB, (h.loc p hp).2⟩⟩
theorem Pre.hd {b : Nat} {o : Obj} (h : Pre w W ((b, o) :: L)) : W.heap[b]? = some o := (h.loc (b, o) List.mem_cons_self).1
theorem Pre.tl {p : Nat × Obj} (h : Pre w W (p :: L)) : Pre w W L := ⟨h.bel, fun q hq => h.loc q (List.mem_cons_of_mem _ hq)⟩
theorem Pre.ne {b b1 : Nat} {o : Obj} (h : Pre w W ((b1, o) :: L)) (hg : b = W.heap.size) : b1 ≠ b := by
  have := blk_lt h.hd
  omega
theorem Pre.toIn {cs : List Value} (h : Pre w W L) (hF : FontIn w F cs) (hg : g = W.heap.size) (hb : W1.heap[g]? = some (.cells (cs ++ [Value.int .i64 c, Value.int .i64 z, Value.int .i64 0]).toArray 100 (0, 0))) (hB : Below W.heap.size W W1) : In w W1 g F c z 0 L :=
  ⟨bd_new c z hF hb (by have := h.bel.size; omega), below_step h.bel hB, fun p hp => ⟨blk_below (h.loc p hp).1 hB, by have := blk_lt (h.loc p hp).1; omega, (h.loc p hp).2⟩⟩
theorem konst_in (h : In w W g F c z e L) (k : Int) : Calls Try.prog 58 #[.pointer (some ⟨g, 0, none⟩), .int .i64 k] W fun r w' => r = .returned (.int .i64 (keepV e (konstV F k c z)).1) ∧ In w w' g F c z (keepV e (konstV F k c z)).2 L :=
  (bd_konst w W g F c z e k h.bd h.bel).mono fun r w' ⟨hr, hI, hB, hK⟩ => ⟨hr, h.call hI hB hK⟩
theorem half_in (h : In w W g F c z e L) (n : Int) : Calls Try.prog 62 #[.pointer (some ⟨g, 0, none⟩), .int .i64 n] W fun r w' => r = .returned (.int .i64 (keepV e (toldOf (halfR n))).1) ∧ In w w' g F c z (keepV e (toldOf (halfR n))).2 L :=
  (bd_half w W g F c z e n h.bd h.bel).mono fun r w' ⟨hr, hI, hB, hK⟩ => ⟨hr, h.call hI hB hK⟩
/-- A row of numbers that is written out, and its sum. -/
theorem sum_at (h : In w W g F c z e L) {b : Nat} {t : TypeId} (xs : List Int) (hx : xs.length ≤ 9223372036854775807) (hb : W.heap[b]? = some (.cells (encs (Value.int .i64) xs).toArray t (0, 0))) (hne : b ≠ g) : Calls Try.prog 61 #[.pointer (some ⟨g, 0, none⟩), .slice (some ⟨b, 0, none⟩) xs.length xs.length] W fun r w' => r = .returned (.int .i64 (keepV e (toldOf (sumR xs))).1) ∧ In w w' g F c z (keepV e (toldOf (sumR xs))).2 L := by
  refine (bd_sum w W g F c z e (some ⟨b, 0, none⟩) xs.length xs h.bd h.bel ?_ (Nat.le_refl _) ?_).mono fun r w' ⟨hr, hI, hB, hK⟩ => ⟨hr, h.call hI hB hK⟩
  · have hE : ∀ xs : List Int, Each ((Kd.int .i64).K W) xs (xs.map (fun x => [Value.int .i64 x])) := by
      intro xs
      induction xs with
      | nil => exact trivial
      | cons x xs ih => exact ⟨rfl, ih⟩
    have hf : ∀ xs : List Int, (xs.map (fun x => [Value.int .i64 x])).flatten = encs (Value.int .i64) xs := by
      intro xs
      induction xs with
      | nil => rfl
      | cons x xs ih => rw [List.map_cons, List.flatten_cons, ih]; rfl
    exact row_C (hE xs) (by rw [hf]; exact hb) hx
  · rintro ad had _
    injection had with had
    subst had
    exact hne
/-- W1 is W with one block more (and draws). -/
def Lit (W : World) (o : Obj) (W1 : World) : Prop := Below (W.alloc o).heap.size (W.alloc o) W1
theorem Lit.refl (W : World) (o : Obj) : Lit W o (W.alloc o) := Below.refl _ _
theorem Lit.drew (W : World) (o : Obj) : Lit W o (W.alloc o).drew := (Below.refl _ _).drew
theorem In.lit {o : Obj} (h : In w W g F c z e L) (hB : Lit W o W1) : In w W1 g F c z e L := (h.alloc o).below hB
theorem Lit.blk {o : Obj} (hB : Lit W o W1) : W1.heap[W.heap.size]? = some o := blk_below (alloc_last W o) hB
theorem Lit.size {o : Obj} (hB : Lit W o W1) : W.heap.size < W1.heap.size := by
  have h1 := Below.size hB
  rw [alloc_size] at h1
  omega
theorem sum_in {t : TypeId} {b : Nat} (xs : List Int) (hx : xs.length ≤ 9223372036854775807) (hB : Lit W (.cells (encs (Value.int .i64) xs).toArray t) W1) (h : In w W g F c z e L) (hb : b = W.heap.size) : Calls Try.prog 61 #[.pointer (some ⟨g, 0, none⟩), .slice (some ⟨b, 0, none⟩) xs.length xs.length] W1 fun r w' => r = .returned (.int .i64 (keepV e (toldOf (sumR xs))).1) ∧ In w w' g F c z (keepV e (toldOf (sumR xs))).2 L :=
  sum_at (h.lit hB) xs hx (by rw [hb]; exact hB.blk) (by rw [hb]; exact Nat.ne_of_gt h.lt)
theorem either_in (h : In w W g F c z e L) (k : Int) : Calls Try.prog 59 #[.pointer (some ⟨g, 0, none⟩), .int .i64 k] W fun r w' => r = .returned (.int .i64 (keepV e (eitherV F k c z)).1) ∧ In w w' g F c z (keepV e (eitherV F k c z)).2 L :=
  (stack_builder_either.calls 3 g F.f0.f0 F.f0.f1 F.f0.f2 F.f0.f3 F.f0.f4 F.f0.f5 F.f1 F.f2 F.f3 F.f4.f0 F.f4.f1 F.f4.f2 F.f4.f3 F.f4.f4 F.f4.f5.f0 F.f4.f5.f1 F.f4.f5.f2 c z e k _ F.f0.f0 F.f0.f1 F.f0.f2 F.f0.f3 F.f0.f4 F.f0.f5 F.f4.f5.f0 c z _ w W h.bd h.bel (by
    rw [stack_builder_either.f, eitherV]
    by_cases hc : c < 2
    · rw [if_pos hc, if_pos hc, stack_builder_konst.f, konstV_eq, Option.bind_some, keep_val, Option.bind_some]
      rfl
    · rw [if_neg hc, if_neg hc, stack_builder_konst.f, konstV_eq, Option.bind_some, keep_val, Option.bind_some]
      rfl)).mono fun r w' ⟨hr, hI, hB, hK⟩ => ⟨hr, h.call hI hB hK⟩
/-- A row of boxes that is written out. -/
theorem need_in {t : TypeId} {b : Nat} (xs : List S25) (css : List (List Value)) (hx : xs.length ≤ 9223372036854775807) (hB : Lit W (.cells css.flatten.toArray t) W1) (h : In w W g F c z e L) (hb : b = W.heap.size) (hK : Each (k25.K w) xs css) : Calls Try.prog 60 #[.pointer (some ⟨g, 0, none⟩), .slice (some ⟨b, 0, none⟩) xs.length xs.length] W1 fun r w' => r = .returned (.tuple #[]) ∧ In w w' g F c z (needE xs e) L := by
  subst hb
  have h1 := h.lit hB
  refine (bd_need w _ g F c z e (some ⟨W.heap.size, 0, none⟩) xs.length xs h1.bd h1.bel ?_ (Nat.le_refl _)).mono fun r w' ⟨hr, hI, hB, hK⟩ => ⟨hr, h1.call hI hB hK⟩
  intro W_ hk
  refine row_C (hK.imp fun x cs hx => k25_heap.K (fun k hlt => ?_) hx) (hk.blk hB.blk (Nat.ne_of_gt h.lt) (by simp)) hx
  have h2 : k < W1.heap.size := by
    have := h1.bel.size
    omega
  rw [hk.2 k h2 (by have := h.ge; omega) (by simp)]
  exact h1.bel.block k hlt
end
end Go.Proofs.Ytbhljokhcmfgjaa.P
namespace Go.Proofs.Ytbhljokhcmfgjaa.P
open Go.RowKit Go.Proofs.YtbhljokhcmfgjaaW.PrintWords Go.Proofs.YtbhljokhcmfgjaaW.PrintLast Go.Proofs.YtbhljokhcmfgjaaW.PrintMore
set_option linter.unusedVariables false
set_option linter.unusedSimpArgs false
theorem info_font : (Try.prog.info? 63).map (·.size) = some 17 := by kernel_rfl
section
variable {w W W1 : World} {g : Nat} {F : S63} {c z e e1 : Int} {L : List (Nat × Obj)}
theorem alloc_old (w : World) (o : Obj) {k : Nat} {p : Obj} (h : w.heap[k]? = some p) : (w.alloc o).heap[k]? = some p := (Below.heap_alloc w o k (blk_lt h)).trans h
set_option maxRecDepth 100000 in
set_option maxHeartbeats 4000000 in
theorem kid_in (h : In w W g F c z e L) (wd y : Int) (x : S25) (A : Option Addr) (n : Nat) : Calls Try.prog 64 #[.pointer (some ⟨g, 0, none⟩), .int .i64 wd, .int .i64 y, .agg #[.int .i64 x.f0, .int .i64 x.f1, .int .i64 x.f2, .int .i64 x.f3, .int .i64 x.f4, .int .i64 x.f5, .slice A x.f6.length n]] W fun r w' => r = .returned (.agg #[.int .i64 (kidV e wd x).1, .int .i64 y, .int .i64 x.f0, .int .i64 x.f1, .int .i64 x.f2, .int .i64 x.f3, .int .i64 x.f4, .int .i64 x.f5, .slice A x.f6.length n]) ∧ In w w' g F c z (kidV e wd x).2 L := by
  have hu39 := Try.underlying25
  have hu49 := Try.underlying41
  have hlt := h.lt
  have hsz := h.bel.size
  obtain ⟨R, hR⟩ : ∃ R, R = kidV e wd x := ⟨_, rfl⟩
  rw [← hR]
  have HR := Aside0.mk hR
  clear hR
  have hb0 := alloc_last W (.cells #[.int .i64 x.f0, .int .i64 x.f1, .int .i64 x.f2, .int .i64 x.f3, .int .i64 x.f4, .int .i64 x.f5, .slice A x.f6.length n] 25)
  have hb1 := alloc_last (W.alloc (.cells #[.int .i64 x.f0, .int .i64 x.f1, .int .i64 x.f2, .int .i64 x.f3, .int .i64 x.f4, .int .i64 x.f5, .slice A x.f6.length n] 25)) (.cells #[.int .i64 0, .int .i64 0, .int .i64 0, .int .i64 0, .int .i64 0, .int .i64 0, .int .i64 0, .int .i64 0, .slice none 0 0] 41)
  rw [alloc_size] at hb1
  have HI := Aside0.mk ((((h.alloc _).alloc _).more hb1 (by omega) (by omega)).more (alloc_old _ _ hb0) (by omega) (by omega))
  have HL := Aside0.mk (fun p (hp : p ∈ L) => (show p.1 < W.heap.size from blk_lt (h.loc p hp).1))
  clear h hb0 hb1
  go_enter Try.func64, Try.ntmps64
  go_wp2_with fail
  have hS := box_cells (In.hd HI.out)
  go_region_held3 (fun w' => w'.cell? ⟨W.heap.size, 0, none⟩ = some (.int .i64 x.f0) ∧ w'.cell? ⟨W.heap.size, 1, none⟩ = some (.int .i64 x.f1) ∧ w'.cell? ⟨W.heap.size, 2, none⟩ = some (.int .i64 x.f2) ∧ w'.cell? ⟨W.heap.size, 3, none⟩ = some (.int .i64 x.f3) ∧ w'.cell? ⟨W.heap.size, 4, none⟩ = some (.int .i64 x.f4) ∧ w'.cell? ⟨W.heap.size, 5, none⟩ = some (.int .i64 x.f5) ∧ w'.cell? ⟨W.heap.size, 6, none⟩ = some (.slice A x.f6.length n)) (first | with_reducible exact box_cells (In.hd (by with_reducible repeat (first | exact HI.out | apply In.alloc | apply In.drew))) | exact box_cells ((far9 w1 (b := W.heap.size) (q := W.heap.size + 1) (Nat.ne_of_lt (Nat.lt_succ_self _))).trans (In.hd HI.out))) (first | (go_at_call 62; refine (half_in (by with_reducible repeat (first | exact HI.out | apply In.alloc | apply In.drew)) _).mono ?_; rintro _ w1 ⟨rfl, hi⟩; replace HI := Aside0.mk hi; clear hi; have zc0 : w1.cell? ⟨W.heap.size + 1, 0, none⟩ = some (.int .i64 0) := blk_cell (In.hd (In.tl HI.out)) 0; have zf0 := blk_frozen (In.hd (In.tl HI.out)) 0; have zc1 : w1.cell? ⟨W.heap.size + 1, 1, none⟩ = some (.int .i64 0) := blk_cell (In.hd (In.tl HI.out)) 1; have zf1 := blk_frozen (In.hd (In.tl HI.out)) 1; have zc2 : w1.cell? ⟨W.heap.size + 1, 2, none⟩ = some (.int .i64 0) := blk_cell (In.hd (In.tl HI.out)) 2; have zf2 := blk_frozen (In.hd (In.tl HI.out)) 2; have zc3 : w1.cell? ⟨W.heap.size + 1, 3, none⟩ = some (.int .i64 0) := blk_cell (In.hd (In.tl HI.out)) 3; have zf3 := blk_frozen (In.hd (In.tl HI.out)) 3; have zc4 : w1.cell? ⟨W.heap.size + 1, 4, none⟩ = some (.int .i64 0) := blk_cell (In.hd (In.tl HI.out)) 4; have zf4 := blk_frozen (In.hd (In.tl HI.out)) 4; have zc5 : w1.cell? ⟨W.heap.size + 1, 5, none⟩ = some (.int .i64 0) := blk_cell (In.hd (In.tl HI.out)) 5; have zf5 := blk_frozen (In.hd (In.tl HI.out)) 5; have zc6 : w1.cell? ⟨W.heap.size + 1, 6, none⟩ = some (.int .i64 0) := blk_cell (In.hd (In.tl HI.out)) 6; have zf6 := blk_frozen (In.hd (In.tl HI.out)) 6; have zc7 : w1.cell? ⟨W.heap.size + 1, 7, none⟩ = some (.int .i64 0) := blk_cell (In.hd (In.tl HI.out)) 7; have zf7 := blk_frozen (In.hd (In.tl HI.out)) 7; have zc8 : w1.cell? ⟨W.heap.size + 1, 8, none⟩ = some (.slice none 0 0) := blk_cell (In.hd (In.tl HI.out)) 8; have zf8 := blk_frozen (In.hd (In.tl HI.out)) 8) | (go_at_call 61; simp only [i64_w]; refine (sum_in [wd, wrap64 (-x.f1)] (by simp) (by first | exact Lit.refl _ _ | exact Lit.drew _ _) (by with_reducible repeat (first | exact HI.out | apply In.alloc | apply In.drew)) (by simp)).mono ?_; rintro _ w1 ⟨rfl, hi⟩; replace HI := Aside0.mk hi; clear hi))
  go_wp2
  refine bodyPost_ret (results_cell_row rfl _ _ (W.heap.size + 1) 41 #[.int .i64 (kidV e wd x).1, .int .i64 y, .int .i64 x.f0, .int .i64 x.f1, .int .i64 x.f2, .int .i64 x.f3, .int .i64 x.f4, .int .i64 x.f5, .slice A x.f6.length n] (0, 0) _ rfl (put9 (In.hd (In.tl HI.out))) hu49 rfl (by kernel_rfl)) rfl ?_
  rw [HR.out]
  exact ⟨rfl, In.set (In.tl HI.out) (fun k hk => far9 _ hk) (bel9 HI.out.bel (by omega)) (fun p hp => by have := HL.out p hp; omega)⟩
end
end Go.Proofs.Ytbhljokhcmfgjaa.P
