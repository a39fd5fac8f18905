import Derived.Test.YtbhljokhcmfgjaaGreatK1
import Derived.BigQuiet
/- A region that draws its order, whose operations read what lies below and whose callees leave what lies below: walked ONCE, in the order of the text, over the class of all worlds that stand on w0 (Derived/Deep/Quiet.lean's theorem, at another class than the draws'). -/
set_option linter.unusedVariables false
namespace Go.Proofs.YtbhljokhcmfgjaaGreat.P
open Go.RowKit Go.Proofs.YtbhljokhcmfgjaaGreatW.PrintWords
/-- A world that stands on w0. -/
structure On (w0 : World) where
  W : World
  bel : Below w0.heap.size w0 W
theorem wp_region_on (w0 : World) {P : Program} {id : Nat} {Q : Exit → Act → World → Prop} {a : Act} {w : World} {l : List Oper} (h0 : Below w0.heap.size w0 w) (hm : P.follows .mixedOrders = true) (hB : Region.lexB .any l.toArray = true)
    (h : wpQuiet P l.toArray (fun w' => ∃ n : On w0, w' = n.W) (fun a' => ∀ w', (∃ n : On w0, w' = n.W) → Q .normal a' w') l a) : (Code.region id l.toArray true).wp P Q a w :=
  wp_region_quiet (C := fun w' => ∃ n : On w0, w' = n.W) hm hB ⟨⟨_, below_drew h0⟩, rfl⟩ (by simpa using h)
theorem Calls.on {P : Program} {f : FuncId} {args : Array Value} {w0 : World} {n : On w0} {v : Value} (h : Calls P f args n.W fun e w' => e = .returned v ∧ Below n.W.heap.size n.W w') : Calls P f args n.W fun e w'' => e = .returned v ∧ ∃ m : On w0, w'' = m.W :=
  h.mono fun _ _ ⟨he, hb⟩ => ⟨he, ⟨_, below_step n.bel hb⟩, rfl⟩
theorem On.cell {w0 : World} {a : Addr} {v : Value} (h : w0.cell? a = some v) (n : On w0) : n.W.cell? a = some v := pw_cell_below n.bel h
instance (w0 : World) : Nonempty (On w0) := ⟨⟨w0, Below.refl _ _⟩⟩
end Go.Proofs.YtbhljokhcmfgjaaGreat.P
