/-
  NARROWER THAN 'FOR EVERY INPUT', by the rows' own cells (each row's printed sentence says how): StackDoes: loops · StackMiddle: loops · StackAtop: loops · StackCenter: loops · BarRoots: loops · BarSigns: loops · BarDegrees: loops · BarDoes: loops · StackGaps: loops · BarGaps: loops.
  DERIVED. THE GIVEN ROWS OF THIS SEAT. 10 by the template 'for every input the law returns true; each argument reads behind the call as it read before'; 0 by the template 'total and deterministic' (their statements: YtjkbblnebpgpfaaTotals.lean).
  GIVEN WITH THE SEED: the statements are not yours to turn. If you find one false, say at which input.
  Laid BY PROGRAM, IN A SANDBOX (cutbox-rows.mjs): the forced cells as the released guide's own fill.sh prints them over the translation 4a4461f1788d0d73… (all of the seat's roots in one cut). By AI agents, Wed Nov 11 2026. No macro, syntax, notation, axiom, sorry.
-/
import Derived.Test.YtjkbblnebpgpfaaChecked
import GoSem.Claim
import GoSem.ClaimJoined
import GoSem.ClaimMapViews
import Derived.JoinedTies
import Derived.KernelRfl
namespace Go.Proofs.Ytjkbblnebpgpfaa
/- THE CELL 'sum', in the pinned program and in every row, IS THE sha256 OF THE DUMP (.gsa) THAT YtjkbblnebpgpfaaProg.lean LOADS. Nothing in Lean hashes anything: it is a label: what it is worth is what the hold of that sum in a sandbox is worth. -/
noncomputable def Try.pinned : Pinned := { name := "ytjkbblnebpgpfaa", sum := "4a4461f1788d0d731c2fb68c6a8ad0ca918486ef8e1be988fba644e60fb19917", checked := Try.checked }
namespace Rows
def none {H : Type} : Left H := { results := [], args := [] }

/-- 'vinculumlaw26.StackDoes': WHATEVER THE INPUT: true; the input reads as it did. -/
def stackDoesSpec : ChangeSpec := { name := "stackDoes", fn := fun _ => fun
  | [d1, d2, d3, d4, d5] => { results := [.lit (.bool true)], args := [d1, d2, d3, d4, d5] }
  | _ => none }
def stackDoesRow : OpenClaim := { program := "ytjkbblnebpgpfaa", sum := "4a4461f1788d0d731c2fb68c6a8ad0ca918486ef8e1be988fba644e60fb19917", func := "vinculum/vinculumlaw26.StackDoes", spec := "stackDoes", inPlace := ["internal/abi.NoEscape"], unfollowed := true, recurses := true, loops := true, apart := false }
def StackDoesSaid : Prop := stackDoesRow.holds Try.pinned (OpenSpec.ofChange stackDoesSpec)

/-- ITS FALSE NEIGHBOUR: 'it returns false'. Refute it at one input. -/
def stackDoesWrong : ChangeSpec := { name := "stackDoes", fn := fun _ => fun
  | [d1, d2, d3, d4, d5] => { results := [.lit (.bool false)], args := [d1, d2, d3, d4, d5] }
  | _ => none }
def StackDoesWrongFalsely : Prop := stackDoesRow.holds Try.pinned (OpenSpec.ofChange stackDoesWrong)

/-- 'vinculumlaw26.StackMiddle': WHATEVER THE INPUT: true; the input reads as it did. -/
def stackMiddleSpec : ChangeSpec := { name := "stackMiddle", fn := fun _ => fun
  | [d1, d2, d3, d4, d5] => { results := [.lit (.bool true)], args := [d1, d2, d3, d4, d5] }
  | _ => none }
def stackMiddleRow : OpenClaim := { program := "ytjkbblnebpgpfaa", sum := "4a4461f1788d0d731c2fb68c6a8ad0ca918486ef8e1be988fba644e60fb19917", func := "vinculum/vinculumlaw26.StackMiddle", spec := "stackMiddle", inPlace := ["internal/abi.NoEscape"], unfollowed := true, recurses := true, loops := true, apart := false }
def StackMiddleSaid : Prop := stackMiddleRow.holds Try.pinned (OpenSpec.ofChange stackMiddleSpec)

/-- ITS FALSE NEIGHBOUR: 'it returns false'. Refute it at one input. -/
def stackMiddleWrong : ChangeSpec := { name := "stackMiddle", fn := fun _ => fun
  | [d1, d2, d3, d4, d5] => { results := [.lit (.bool false)], args := [d1, d2, d3, d4, d5] }
  | _ => none }
def StackMiddleWrongFalsely : Prop := stackMiddleRow.holds Try.pinned (OpenSpec.ofChange stackMiddleWrong)

/-- 'vinculumlaw26.StackAtop': WHATEVER THE INPUT: true; the input reads as it did. -/
def stackAtopSpec : ChangeSpec := { name := "stackAtop", fn := fun _ => fun
  | [d1, d2, d3, d4, d5] => { results := [.lit (.bool true)], args := [d1, d2, d3, d4, d5] }
  | _ => none }
def stackAtopRow : OpenClaim := { program := "ytjkbblnebpgpfaa", sum := "4a4461f1788d0d731c2fb68c6a8ad0ca918486ef8e1be988fba644e60fb19917", func := "vinculum/vinculumlaw26.StackAtop", spec := "stackAtop", inPlace := ["internal/abi.NoEscape"], unfollowed := true, recurses := true, loops := true, apart := false }
def StackAtopSaid : Prop := stackAtopRow.holds Try.pinned (OpenSpec.ofChange stackAtopSpec)

/-- ITS FALSE NEIGHBOUR: 'it returns false'. Refute it at one input. -/
def stackAtopWrong : ChangeSpec := { name := "stackAtop", fn := fun _ => fun
  | [d1, d2, d3, d4, d5] => { results := [.lit (.bool false)], args := [d1, d2, d3, d4, d5] }
  | _ => none }
def StackAtopWrongFalsely : Prop := stackAtopRow.holds Try.pinned (OpenSpec.ofChange stackAtopWrong)

/-- 'vinculumlaw26.StackCenter': WHATEVER THE INPUT: true; the input reads as it did. -/
def stackCenterSpec : ChangeSpec := { name := "stackCenter", fn := fun _ => fun
  | [d1, d2, d3, d4] => { results := [.lit (.bool true)], args := [d1, d2, d3, d4] }
  | _ => none }
def stackCenterRow : OpenClaim := { program := "ytjkbblnebpgpfaa", sum := "4a4461f1788d0d731c2fb68c6a8ad0ca918486ef8e1be988fba644e60fb19917", func := "vinculum/vinculumlaw26.StackCenter", spec := "stackCenter", inPlace := ["internal/abi.NoEscape"], unfollowed := true, recurses := true, loops := true, apart := false }
def StackCenterSaid : Prop := stackCenterRow.holds Try.pinned (OpenSpec.ofChange stackCenterSpec)

/-- ITS FALSE NEIGHBOUR: 'it returns false'. Refute it at one input. -/
def stackCenterWrong : ChangeSpec := { name := "stackCenter", fn := fun _ => fun
  | [d1, d2, d3, d4] => { results := [.lit (.bool false)], args := [d1, d2, d3, d4] }
  | _ => none }
def StackCenterWrongFalsely : Prop := stackCenterRow.holds Try.pinned (OpenSpec.ofChange stackCenterWrong)

/-- 'vinculumlaw27.BarRoots': WHATEVER THE INPUT: true; the input reads as it did. -/
def barRootsSpec : ChangeSpec := { name := "barRoots", fn := fun _ => fun
  | [d1, d2, d3, d4, d5, d6] => { results := [.lit (.bool true)], args := [d1, d2, d3, d4, d5, d6] }
  | _ => none }
def barRootsRow : OpenClaim := { program := "ytjkbblnebpgpfaa", sum := "4a4461f1788d0d731c2fb68c6a8ad0ca918486ef8e1be988fba644e60fb19917", func := "vinculum/vinculumlaw27.BarRoots", spec := "barRoots", inPlace := ["internal/abi.NoEscape"], unfollowed := true, recurses := true, loops := true, apart := false }
def BarRootsSaid : Prop := barRootsRow.holds Try.pinned (OpenSpec.ofChange barRootsSpec)

/-- ITS FALSE NEIGHBOUR: 'it returns false'. Refute it at one input. -/
def barRootsWrong : ChangeSpec := { name := "barRoots", fn := fun _ => fun
  | [d1, d2, d3, d4, d5, d6] => { results := [.lit (.bool false)], args := [d1, d2, d3, d4, d5, d6] }
  | _ => none }
def BarRootsWrongFalsely : Prop := barRootsRow.holds Try.pinned (OpenSpec.ofChange barRootsWrong)

/-- 'vinculumlaw27.BarSigns': WHATEVER THE INPUT: true; the input reads as it did. -/
def barSignsSpec : ChangeSpec := { name := "barSigns", fn := fun _ => fun
  | [d1, d2, d3, d4, d5] => { results := [.lit (.bool true)], args := [d1, d2, d3, d4, d5] }
  | _ => none }
def barSignsRow : OpenClaim := { program := "ytjkbblnebpgpfaa", sum := "4a4461f1788d0d731c2fb68c6a8ad0ca918486ef8e1be988fba644e60fb19917", func := "vinculum/vinculumlaw27.BarSigns", spec := "barSigns", inPlace := ["internal/abi.NoEscape"], unfollowed := true, recurses := true, loops := true, apart := false }
def BarSignsSaid : Prop := barSignsRow.holds Try.pinned (OpenSpec.ofChange barSignsSpec)

/-- ITS FALSE NEIGHBOUR: 'it returns false'. Refute it at one input. -/
def barSignsWrong : ChangeSpec := { name := "barSigns", fn := fun _ => fun
  | [d1, d2, d3, d4, d5] => { results := [.lit (.bool false)], args := [d1, d2, d3, d4, d5] }
  | _ => none }
def BarSignsWrongFalsely : Prop := barSignsRow.holds Try.pinned (OpenSpec.ofChange barSignsWrong)

/-- 'vinculumlaw27.BarDegrees': WHATEVER THE INPUT: true; the input reads as it did. -/
def barDegreesSpec : ChangeSpec := { name := "barDegrees", fn := fun _ => fun
  | [d1, d2, d3, d4, d5, d6] => { results := [.lit (.bool true)], args := [d1, d2, d3, d4, d5, d6] }
  | _ => none }
def barDegreesRow : OpenClaim := { program := "ytjkbblnebpgpfaa", sum := "4a4461f1788d0d731c2fb68c6a8ad0ca918486ef8e1be988fba644e60fb19917", func := "vinculum/vinculumlaw27.BarDegrees", spec := "barDegrees", inPlace := ["internal/abi.NoEscape"], unfollowed := true, recurses := true, loops := true, apart := false }
def BarDegreesSaid : Prop := barDegreesRow.holds Try.pinned (OpenSpec.ofChange barDegreesSpec)

/-- ITS FALSE NEIGHBOUR: 'it returns false'. Refute it at one input. -/
def barDegreesWrong : ChangeSpec := { name := "barDegrees", fn := fun _ => fun
  | [d1, d2, d3, d4, d5, d6] => { results := [.lit (.bool false)], args := [d1, d2, d3, d4, d5, d6] }
  | _ => none }
def BarDegreesWrongFalsely : Prop := barDegreesRow.holds Try.pinned (OpenSpec.ofChange barDegreesWrong)

/-- 'vinculumlaw27.BarDoes': WHATEVER THE INPUT: true; the input reads as it did. -/
def barDoesSpec : ChangeSpec := { name := "barDoes", fn := fun _ => fun
  | [d1, d2, d3, d4] => { results := [.lit (.bool true)], args := [d1, d2, d3, d4] }
  | _ => none }
def barDoesRow : OpenClaim := { program := "ytjkbblnebpgpfaa", sum := "4a4461f1788d0d731c2fb68c6a8ad0ca918486ef8e1be988fba644e60fb19917", func := "vinculum/vinculumlaw27.BarDoes", spec := "barDoes", inPlace := ["internal/abi.NoEscape"], unfollowed := true, recurses := true, loops := true, apart := false }
def BarDoesSaid : Prop := barDoesRow.holds Try.pinned (OpenSpec.ofChange barDoesSpec)

/-- ITS FALSE NEIGHBOUR: 'it returns false'. Refute it at one input. -/
def barDoesWrong : ChangeSpec := { name := "barDoes", fn := fun _ => fun
  | [d1, d2, d3, d4] => { results := [.lit (.bool false)], args := [d1, d2, d3, d4] }
  | _ => none }
def BarDoesWrongFalsely : Prop := barDoesRow.holds Try.pinned (OpenSpec.ofChange barDoesWrong)

/-- 'vinculumlaw26.StackGaps': WHATEVER THE INPUT: true; the input reads as it did. -/
def stackGapsSpec : ChangeSpec := { name := "stackGaps", fn := fun _ => fun
  | [d1, d2, d3, d4, d5] => { results := [.lit (.bool true)], args := [d1, d2, d3, d4, d5] }
  | _ => none }
def stackGapsRow : OpenClaim := { program := "ytjkbblnebpgpfaa", sum := "4a4461f1788d0d731c2fb68c6a8ad0ca918486ef8e1be988fba644e60fb19917", func := "vinculum/vinculumlaw26.StackGaps", spec := "stackGaps", inPlace := ["internal/abi.NoEscape"], unfollowed := true, recurses := true, loops := true, apart := false }
def StackGapsSaid : Prop := stackGapsRow.holds Try.pinned (OpenSpec.ofChange stackGapsSpec)

/-- ITS FALSE NEIGHBOUR: 'it returns false'. Refute it at one input. -/
def stackGapsWrong : ChangeSpec := { name := "stackGaps", fn := fun _ => fun
  | [d1, d2, d3, d4, d5] => { results := [.lit (.bool false)], args := [d1, d2, d3, d4, d5] }
  | _ => none }
def StackGapsWrongFalsely : Prop := stackGapsRow.holds Try.pinned (OpenSpec.ofChange stackGapsWrong)

/-- 'vinculumlaw27.BarGaps': WHATEVER THE INPUT: true; the input reads as it did. -/
def barGapsSpec : ChangeSpec := { name := "barGaps", fn := fun _ => fun
  | [d1, d2, d3, d4] => { results := [.lit (.bool true)], args := [d1, d2, d3, d4] }
  | _ => none }
def barGapsRow : OpenClaim := { program := "ytjkbblnebpgpfaa", sum := "4a4461f1788d0d731c2fb68c6a8ad0ca918486ef8e1be988fba644e60fb19917", func := "vinculum/vinculumlaw27.BarGaps", spec := "barGaps", inPlace := ["internal/abi.NoEscape"], unfollowed := true, recurses := true, loops := true, apart := false }
def BarGapsSaid : Prop := barGapsRow.holds Try.pinned (OpenSpec.ofChange barGapsSpec)

/-- ITS FALSE NEIGHBOUR: 'it returns false'. Refute it at one input. -/
def barGapsWrong : ChangeSpec := { name := "barGaps", fn := fun _ => fun
  | [d1, d2, d3, d4] => { results := [.lit (.bool false)], args := [d1, d2, d3, d4] }
  | _ => none }
def BarGapsWrongFalsely : Prop := barGapsRow.holds Try.pinned (OpenSpec.ofChange barGapsWrong)

/- THE SECOND FORM. 'bulk': how many values and letters a reading holds, each counted each time it is reached (what is shared counts as often as it is met; a slice's spare places count too). A statement '..UptoSaid' is the law's where the arguments, and the package variables that the reading takes, are together of bulk at most 1048576: NARROWER than '..Said'. Prove '..Said' where nothing that the law and all that it calls make is longer than what came in: it says more and counts as full. Else prove '..UptoSaid'. A law counts once. -/
mutual
def uptoBulk {H : Type} : DataW H → Nat
  | .lit (.string bytes) => bytes.length + 1
  | .lit _ => 1
  | .nil => 1
  | .ptr d => uptoBulk d + 1
  | .slice elems spare => uptoBulkAll elems + uptoBulkAll spare + 1
  | .agg parts => uptoBulkAll parts + 1
  | .iface _ d => uptoBulk d + 1
  | .map entries => uptoBulkEntries entries + 1
  | .held _ => 1
def uptoBulkAll {H : Type} : List (DataW H) → Nat
  | [] => 0
  | d :: r => uptoBulk d + uptoBulkAll r
def uptoBulkEntries {H : Type} : List (Lit × DataW H) → Nat
  | [] => 0
  | x :: r => uptoBulkEntry x + uptoBulkEntries r
def uptoBulkEntry {H : Type} : Lit × DataW H → Nat
  | (.string bytes, d) => bytes.length + uptoBulk d + 1
  | (_, d) => uptoBulk d + 1
 end
def uptoSmall : (H : Type) → List (DataW H) → Bool := fun _ ds => decide (uptoBulkAll ds ≤ 1048576)
def OpenSpec.upto (s : _root_.Go.ChangeSpec) : _root_.Go.OpenSpec := { _root_.Go.OpenSpec.ofChange s with cond := some uptoSmall }

/-- 'vinculumlaw26.StackDoes', WHERE WHAT IT READS IS OF BULK AT MOST 1048576: true; the input reads as it did. -/
def stackDoesUptoRow : OpenClaim := { program := "ytjkbblnebpgpfaa", sum := "4a4461f1788d0d731c2fb68c6a8ad0ca918486ef8e1be988fba644e60fb19917", func := "vinculum/vinculumlaw26.StackDoes", spec := "stackDoes", inPlace := ["internal/abi.NoEscape"], unfollowed := true, recurses := true, loops := true, apart := false, narrowed := true }
def StackDoesUptoSaid : Prop := stackDoesUptoRow.holds Try.pinned (OpenSpec.upto stackDoesSpec)

/-- 'vinculumlaw26.StackMiddle', WHERE WHAT IT READS IS OF BULK AT MOST 1048576: true; the input reads as it did. -/
def stackMiddleUptoRow : OpenClaim := { program := "ytjkbblnebpgpfaa", sum := "4a4461f1788d0d731c2fb68c6a8ad0ca918486ef8e1be988fba644e60fb19917", func := "vinculum/vinculumlaw26.StackMiddle", spec := "stackMiddle", inPlace := ["internal/abi.NoEscape"], unfollowed := true, recurses := true, loops := true, apart := false, narrowed := true }
def StackMiddleUptoSaid : Prop := stackMiddleUptoRow.holds Try.pinned (OpenSpec.upto stackMiddleSpec)

/-- 'vinculumlaw26.StackAtop', WHERE WHAT IT READS IS OF BULK AT MOST 1048576: true; the input reads as it did. -/
def stackAtopUptoRow : OpenClaim := { program := "ytjkbblnebpgpfaa", sum := "4a4461f1788d0d731c2fb68c6a8ad0ca918486ef8e1be988fba644e60fb19917", func := "vinculum/vinculumlaw26.StackAtop", spec := "stackAtop", inPlace := ["internal/abi.NoEscape"], unfollowed := true, recurses := true, loops := true, apart := false, narrowed := true }
def StackAtopUptoSaid : Prop := stackAtopUptoRow.holds Try.pinned (OpenSpec.upto stackAtopSpec)

/-- 'vinculumlaw26.StackCenter', WHERE WHAT IT READS IS OF BULK AT MOST 1048576: true; the input reads as it did. -/
def stackCenterUptoRow : OpenClaim := { program := "ytjkbblnebpgpfaa", sum := "4a4461f1788d0d731c2fb68c6a8ad0ca918486ef8e1be988fba644e60fb19917", func := "vinculum/vinculumlaw26.StackCenter", spec := "stackCenter", inPlace := ["internal/abi.NoEscape"], unfollowed := true, recurses := true, loops := true, apart := false, narrowed := true }
def StackCenterUptoSaid : Prop := stackCenterUptoRow.holds Try.pinned (OpenSpec.upto stackCenterSpec)

/-- 'vinculumlaw27.BarRoots', WHERE WHAT IT READS IS OF BULK AT MOST 1048576: true; the input reads as it did. -/
def barRootsUptoRow : OpenClaim := { program := "ytjkbblnebpgpfaa", sum := "4a4461f1788d0d731c2fb68c6a8ad0ca918486ef8e1be988fba644e60fb19917", func := "vinculum/vinculumlaw27.BarRoots", spec := "barRoots", inPlace := ["internal/abi.NoEscape"], unfollowed := true, recurses := true, loops := true, apart := false, narrowed := true }
def BarRootsUptoSaid : Prop := barRootsUptoRow.holds Try.pinned (OpenSpec.upto barRootsSpec)

/-- 'vinculumlaw27.BarSigns', WHERE WHAT IT READS IS OF BULK AT MOST 1048576: true; the input reads as it did. -/
def barSignsUptoRow : OpenClaim := { program := "ytjkbblnebpgpfaa", sum := "4a4461f1788d0d731c2fb68c6a8ad0ca918486ef8e1be988fba644e60fb19917", func := "vinculum/vinculumlaw27.BarSigns", spec := "barSigns", inPlace := ["internal/abi.NoEscape"], unfollowed := true, recurses := true, loops := true, apart := false, narrowed := true }
def BarSignsUptoSaid : Prop := barSignsUptoRow.holds Try.pinned (OpenSpec.upto barSignsSpec)

/-- 'vinculumlaw27.BarDegrees', WHERE WHAT IT READS IS OF BULK AT MOST 1048576: true; the input reads as it did. -/
def barDegreesUptoRow : OpenClaim := { program := "ytjkbblnebpgpfaa", sum := "4a4461f1788d0d731c2fb68c6a8ad0ca918486ef8e1be988fba644e60fb19917", func := "vinculum/vinculumlaw27.BarDegrees", spec := "barDegrees", inPlace := ["internal/abi.NoEscape"], unfollowed := true, recurses := true, loops := true, apart := false, narrowed := true }
def BarDegreesUptoSaid : Prop := barDegreesUptoRow.holds Try.pinned (OpenSpec.upto barDegreesSpec)

/-- 'vinculumlaw27.BarDoes', WHERE WHAT IT READS IS OF BULK AT MOST 1048576: true; the input reads as it did. -/
def barDoesUptoRow : OpenClaim := { program := "ytjkbblnebpgpfaa", sum := "4a4461f1788d0d731c2fb68c6a8ad0ca918486ef8e1be988fba644e60fb19917", func := "vinculum/vinculumlaw27.BarDoes", spec := "barDoes", inPlace := ["internal/abi.NoEscape"], unfollowed := true, recurses := true, loops := true, apart := false, narrowed := true }
def BarDoesUptoSaid : Prop := barDoesUptoRow.holds Try.pinned (OpenSpec.upto barDoesSpec)

/-- 'vinculumlaw26.StackGaps', WHERE WHAT IT READS IS OF BULK AT MOST 1048576: true; the input reads as it did. -/
def stackGapsUptoRow : OpenClaim := { program := "ytjkbblnebpgpfaa", sum := "4a4461f1788d0d731c2fb68c6a8ad0ca918486ef8e1be988fba644e60fb19917", func := "vinculum/vinculumlaw26.StackGaps", spec := "stackGaps", inPlace := ["internal/abi.NoEscape"], unfollowed := true, recurses := true, loops := true, apart := false, narrowed := true }
def StackGapsUptoSaid : Prop := stackGapsUptoRow.holds Try.pinned (OpenSpec.upto stackGapsSpec)

/-- 'vinculumlaw27.BarGaps', WHERE WHAT IT READS IS OF BULK AT MOST 1048576: true; the input reads as it did. -/
def barGapsUptoRow : OpenClaim := { program := "ytjkbblnebpgpfaa", sum := "4a4461f1788d0d731c2fb68c6a8ad0ca918486ef8e1be988fba644e60fb19917", func := "vinculum/vinculumlaw27.BarGaps", spec := "barGaps", inPlace := ["internal/abi.NoEscape"], unfollowed := true, recurses := true, loops := true, apart := false, narrowed := true }
def BarGapsUptoSaid : Prop := barGapsUptoRow.holds Try.pinned (OpenSpec.upto barGapsSpec)

end Rows
end Go.Proofs.Ytjkbblnebpgpfaa
