/-
  NARROWER THAN 'FOR EVERY INPUT', by the rows' own cells (each row's printed sentence says how): LimitDoes: loops · LimitAccents: loops.
  DERIVED. THE GIVEN ROWS OF THIS SEAT. 2 by the template 'for every input the law returns true; each argument reads behind the call as it read before'; 0 by the template 'total and deterministic' (their statements: YtbhljokhcmfgjaaGreatTotals.lean).
  GIVEN WITH THE SEED: the statements are not yours to turn. If you find one false, say at which input.
  Laid BY PROGRAM, IN A SANDBOX (cutbox-rows.mjs): the forced cells as the released guide's own fill.sh prints them over the translation 66d05da06fe4ba3a… (all of the seat's roots in one cut). By AI agents, Wed Nov 11 2026. No macro, syntax, notation, axiom, sorry.
-/
import Derived.Test.YtbhljokhcmfgjaaGreatChecked
import GoSem.Claim
import GoSem.ClaimJoined
import GoSem.ClaimMapViews
import Derived.JoinedTies
import Derived.KernelRfl
namespace Go.Proofs.YtbhljokhcmfgjaaGreat
/- THE CELL 'sum', in the pinned program and in every row, IS THE sha256 OF THE DUMP (.gsa) THAT YtbhljokhcmfgjaaGreatProg.lean LOADS. Nothing in Lean hashes anything: it is a label: what it is worth is what the hold of that sum in a sandbox is worth. -/
noncomputable def Tryz.pinned : Pinned := { name := "ytbhljokhcmfgjaagreat", sum := "66d05da06fe4ba3a7b103bff03f629215f606daf5e0fc4297e1969e8b67deb5f", checked := Tryz.checked }
namespace Rows
def none {H : Type} : Left H := { results := [], args := [] }

/-- 'vinculumlaw29.LimitDoes': WHATEVER THE INPUT: true; the input reads as it did. -/
def limitDoesSpec : ChangeSpec := { name := "limitDoes", fn := fun _ => fun
  | [d1, d2, d3, d4, d5, d6] => { results := [.lit (.bool true)], args := [d1, d2, d3, d4, d5, d6] }
  | _ => none }
def limitDoesRow : OpenClaim := { program := "ytbhljokhcmfgjaagreat", sum := "66d05da06fe4ba3a7b103bff03f629215f606daf5e0fc4297e1969e8b67deb5f", func := "vinculum/vinculumlaw29.LimitDoes", spec := "limitDoes", inPlace := ["internal/abi.NoEscape"], unfollowed := true, recurses := true, loops := true, apart := false }
def LimitDoesSaid : Prop := limitDoesRow.holds Tryz.pinned (OpenSpec.ofChange limitDoesSpec)

/-- ITS FALSE NEIGHBOUR: 'it returns false'. Refute it at one input. -/
def limitDoesWrong : ChangeSpec := { name := "limitDoes", fn := fun _ => fun
  | [d1, d2, d3, d4, d5, d6] => { results := [.lit (.bool false)], args := [d1, d2, d3, d4, d5, d6] }
  | _ => none }
def LimitDoesWrongFalsely : Prop := limitDoesRow.holds Tryz.pinned (OpenSpec.ofChange limitDoesWrong)

/-- 'vinculumlaw29.LimitAccents': WHATEVER THE INPUT: true; the input reads as it did. -/
def limitAccentsSpec : ChangeSpec := { name := "limitAccents", fn := fun _ => fun
  | [d1, d2, d3, d4, d5] => { results := [.lit (.bool true)], args := [d1, d2, d3, d4, d5] }
  | _ => none }
def limitAccentsRow : OpenClaim := { program := "ytbhljokhcmfgjaagreat", sum := "66d05da06fe4ba3a7b103bff03f629215f606daf5e0fc4297e1969e8b67deb5f", func := "vinculum/vinculumlaw29.LimitAccents", spec := "limitAccents", inPlace := ["internal/abi.NoEscape"], unfollowed := true, recurses := true, loops := true, apart := false }
def LimitAccentsSaid : Prop := limitAccentsRow.holds Tryz.pinned (OpenSpec.ofChange limitAccentsSpec)

/-- ITS FALSE NEIGHBOUR: 'it returns false'. Refute it at one input. -/
def limitAccentsWrong : ChangeSpec := { name := "limitAccents", fn := fun _ => fun
  | [d1, d2, d3, d4, d5] => { results := [.lit (.bool false)], args := [d1, d2, d3, d4, d5] }
  | _ => none }
def LimitAccentsWrongFalsely : Prop := limitAccentsRow.holds Tryz.pinned (OpenSpec.ofChange limitAccentsWrong)

/- THE SECOND FORM. 'bulk': how many values and letters a reading holds, each counted each time it is reached (what is shared counts as often as it is met; a slice's spare places count too). A statement '..UptoSaid' is the law's where the arguments, and the package variables that the reading takes, are together of bulk at most 1048576: NARROWER than '..Said'. Prove '..Said' where nothing that the law and all that it calls make is longer than what came in: it says more and counts as full. Else prove '..UptoSaid'. A law counts once. -/
mutual
def uptoBulk {H : Type} : DataW H → Nat
  | .lit (.string bytes) => bytes.length + 1
  | .lit _ => 1
  | .nil => 1
  | .ptr d => uptoBulk d + 1
  | .slice elems spare => uptoBulkAll elems + uptoBulkAll spare + 1
  | .agg parts => uptoBulkAll parts + 1
  | .iface _ d => uptoBulk d + 1
  | .map entries => uptoBulkEntries entries + 1
  | .held _ => 1
def uptoBulkAll {H : Type} : List (DataW H) → Nat
  | [] => 0
  | d :: r => uptoBulk d + uptoBulkAll r
def uptoBulkEntries {H : Type} : List (Lit × DataW H) → Nat
  | [] => 0
  | x :: r => uptoBulkEntry x + uptoBulkEntries r
def uptoBulkEntry {H : Type} : Lit × DataW H → Nat
  | (.string bytes, d) => bytes.length + uptoBulk d + 1
  | (_, d) => uptoBulk d + 1
 end
def uptoSmall : (H : Type) → List (DataW H) → Bool := fun _ ds => decide (uptoBulkAll ds ≤ 1048576)
def OpenSpec.upto (s : _root_.Go.ChangeSpec) : _root_.Go.OpenSpec := { _root_.Go.OpenSpec.ofChange s with cond := some uptoSmall }

/-- 'vinculumlaw29.LimitDoes', WHERE WHAT IT READS IS OF BULK AT MOST 1048576: true; the input reads as it did. -/
def limitDoesUptoRow : OpenClaim := { program := "ytbhljokhcmfgjaagreat", sum := "66d05da06fe4ba3a7b103bff03f629215f606daf5e0fc4297e1969e8b67deb5f", func := "vinculum/vinculumlaw29.LimitDoes", spec := "limitDoes", inPlace := ["internal/abi.NoEscape"], unfollowed := true, recurses := true, loops := true, apart := false, narrowed := true }
def LimitDoesUptoSaid : Prop := limitDoesUptoRow.holds Tryz.pinned (OpenSpec.upto limitDoesSpec)

/-- 'vinculumlaw29.LimitAccents', WHERE WHAT IT READS IS OF BULK AT MOST 1048576: true; the input reads as it did. -/
def limitAccentsUptoRow : OpenClaim := { program := "ytbhljokhcmfgjaagreat", sum := "66d05da06fe4ba3a7b103bff03f629215f606daf5e0fc4297e1969e8b67deb5f", func := "vinculum/vinculumlaw29.LimitAccents", spec := "limitAccents", inPlace := ["internal/abi.NoEscape"], unfollowed := true, recurses := true, loops := true, apart := false, narrowed := true }
def LimitAccentsUptoSaid : Prop := limitAccentsUptoRow.holds Tryz.pinned (OpenSpec.upto limitAccentsSpec)

end Rows
end Go.Proofs.YtbhljokhcmfgjaaGreat
