/-
  NARROWER THAN 'FOR EVERY INPUT', by the rows' own cells (each row's printed sentence says how): BoxDoes: loops · BoxRight: loops · BoxLeaves: loops · BoxRows: loops · StackGaps: loops · BarGaps: loops · LimitMiddle: loops · LimitStands: loops · LimitAttach: loops · LimitGaps: loops.
  DERIVED. THE GIVEN ROWS OF THIS SEAT. 10 by the template 'for every input the law returns true; each argument reads behind the call as it read before'; 0 by the template 'total and deterministic' (their statements: YtbhljokhcmfgjaaTotals.lean).
  GIVEN WITH THE SEED: the statements are not yours to turn. If you find one false, say at which input.
  Laid BY PROGRAM, IN A SANDBOX (cutbox-rows.mjs): the forced cells as the released guide's own fill.sh prints them over the translation 21b7e0e1d885a60d… (all of the seat's roots in one cut). By AI agents, Wed Nov 11 2026. No macro, syntax, notation, axiom, sorry.
-/
import Derived.Test.YtbhljokhcmfgjaaChecked
import GoSem.Claim
import GoSem.ClaimJoined
import GoSem.ClaimMapViews
import Derived.JoinedTies
import Derived.KernelRfl
namespace Go.Proofs.Ytbhljokhcmfgjaa
/- THE CELL 'sum', in the pinned program and in every row, IS THE sha256 OF THE DUMP (.gsa) THAT YtbhljokhcmfgjaaProg.lean LOADS. Nothing in Lean hashes anything: it is a label: what it is worth is what the hold of that sum in a sandbox is worth. -/
noncomputable def Try.pinned : Pinned := { name := "ytbhljokhcmfgjaa", sum := "21b7e0e1d885a60d5b7e697c05e031462990175a8f555932cf65e62c77c605df", checked := Try.checked }
namespace Rows
def none {H : Type} : Left H := { results := [], args := [] }

/-- 'vinculumlaw23.BoxDoes': WHATEVER THE INPUT: true; the input reads as it did. -/
def boxDoesSpec : ChangeSpec := { name := "boxDoes", fn := fun _ => fun
  | [d1, d2, d3, d4] => { results := [.lit (.bool true)], args := [d1, d2, d3, d4] }
  | _ => none }
def boxDoesRow : OpenClaim := { program := "ytbhljokhcmfgjaa", sum := "21b7e0e1d885a60d5b7e697c05e031462990175a8f555932cf65e62c77c605df", func := "vinculum/vinculumlaw23.BoxDoes", spec := "boxDoes", unfollowed := true, recurses := true, loops := true, apart := false }
def BoxDoesSaid : Prop := boxDoesRow.holds Try.pinned (OpenSpec.ofChange boxDoesSpec)

/-- ITS FALSE NEIGHBOUR: 'it returns false'. Refute it at one input. -/
def boxDoesWrong : ChangeSpec := { name := "boxDoes", fn := fun _ => fun
  | [d1, d2, d3, d4] => { results := [.lit (.bool false)], args := [d1, d2, d3, d4] }
  | _ => none }
def BoxDoesWrongFalsely : Prop := boxDoesRow.holds Try.pinned (OpenSpec.ofChange boxDoesWrong)

/-- 'vinculumlaw23.BoxRight': WHATEVER THE INPUT: true; the input reads as it did. -/
def boxRightSpec : ChangeSpec := { name := "boxRight", fn := fun _ => fun
  | [d1, d2, d3] => { results := [.lit (.bool true)], args := [d1, d2, d3] }
  | _ => none }
def boxRightRow : OpenClaim := { program := "ytbhljokhcmfgjaa", sum := "21b7e0e1d885a60d5b7e697c05e031462990175a8f555932cf65e62c77c605df", func := "vinculum/vinculumlaw23.BoxRight", spec := "boxRight", unfollowed := true, recurses := true, loops := true, apart := false }
def BoxRightSaid : Prop := boxRightRow.holds Try.pinned (OpenSpec.ofChange boxRightSpec)

/-- ITS FALSE NEIGHBOUR: 'it returns false'. Refute it at one input. -/
def boxRightWrong : ChangeSpec := { name := "boxRight", fn := fun _ => fun
  | [d1, d2, d3] => { results := [.lit (.bool false)], args := [d1, d2, d3] }
  | _ => none }
def BoxRightWrongFalsely : Prop := boxRightRow.holds Try.pinned (OpenSpec.ofChange boxRightWrong)

/-- 'vinculumlaw23.BoxLeaves': WHATEVER THE INPUT: true; the input reads as it did. -/
def boxLeavesSpec : ChangeSpec := { name := "boxLeaves", fn := fun _ => fun
  | [d1, d2, d3] => { results := [.lit (.bool true)], args := [d1, d2, d3] }
  | _ => none }
def boxLeavesRow : OpenClaim := { program := "ytbhljokhcmfgjaa", sum := "21b7e0e1d885a60d5b7e697c05e031462990175a8f555932cf65e62c77c605df", func := "vinculum/vinculumlaw23.BoxLeaves", spec := "boxLeaves", unfollowed := true, recurses := true, loops := true, apart := false }
def BoxLeavesSaid : Prop := boxLeavesRow.holds Try.pinned (OpenSpec.ofChange boxLeavesSpec)

/-- ITS FALSE NEIGHBOUR: 'it returns false'. Refute it at one input. -/
def boxLeavesWrong : ChangeSpec := { name := "boxLeaves", fn := fun _ => fun
  | [d1, d2, d3] => { results := [.lit (.bool false)], args := [d1, d2, d3] }
  | _ => none }
def BoxLeavesWrongFalsely : Prop := boxLeavesRow.holds Try.pinned (OpenSpec.ofChange boxLeavesWrong)

/-- 'vinculumlaw23.BoxRows': WHATEVER THE INPUT: true; the input reads as it did. -/
def boxRowsSpec : ChangeSpec := { name := "boxRows", fn := fun _ => fun
  | [d1, d2] => { results := [.lit (.bool true)], args := [d1, d2] }
  | _ => none }
def boxRowsRow : OpenClaim := { program := "ytbhljokhcmfgjaa", sum := "21b7e0e1d885a60d5b7e697c05e031462990175a8f555932cf65e62c77c605df", func := "vinculum/vinculumlaw23.BoxRows", spec := "boxRows", unfollowed := true, recurses := true, loops := true, apart := false }
def BoxRowsSaid : Prop := boxRowsRow.holds Try.pinned (OpenSpec.ofChange boxRowsSpec)

/-- ITS FALSE NEIGHBOUR: 'it returns false'. Refute it at one input. -/
def boxRowsWrong : ChangeSpec := { name := "boxRows", fn := fun _ => fun
  | [d1, d2] => { results := [.lit (.bool false)], args := [d1, d2] }
  | _ => none }
def BoxRowsWrongFalsely : Prop := boxRowsRow.holds Try.pinned (OpenSpec.ofChange boxRowsWrong)

/-- 'vinculumlaw26.StackGaps': WHATEVER THE INPUT: true; the input reads as it did. -/
def stackGapsSpec : ChangeSpec := { name := "stackGaps", fn := fun _ => fun
  | [d1, d2, d3, d4, d5] => { results := [.lit (.bool true)], args := [d1, d2, d3, d4, d5] }
  | _ => none }
def stackGapsRow : OpenClaim := { program := "ytbhljokhcmfgjaa", sum := "21b7e0e1d885a60d5b7e697c05e031462990175a8f555932cf65e62c77c605df", func := "vinculum/vinculumlaw26.StackGaps", spec := "stackGaps", inPlace := ["internal/abi.NoEscape"], unfollowed := true, recurses := true, loops := true, apart := false }
def StackGapsSaid : Prop := stackGapsRow.holds Try.pinned (OpenSpec.ofChange stackGapsSpec)

/-- ITS FALSE NEIGHBOUR: 'it returns false'. Refute it at one input. -/
def stackGapsWrong : ChangeSpec := { name := "stackGaps", fn := fun _ => fun
  | [d1, d2, d3, d4, d5] => { results := [.lit (.bool false)], args := [d1, d2, d3, d4, d5] }
  | _ => none }
def StackGapsWrongFalsely : Prop := stackGapsRow.holds Try.pinned (OpenSpec.ofChange stackGapsWrong)

/-- 'vinculumlaw27.BarGaps': WHATEVER THE INPUT: true; the input reads as it did. -/
def barGapsSpec : ChangeSpec := { name := "barGaps", fn := fun _ => fun
  | [d1, d2, d3, d4] => { results := [.lit (.bool true)], args := [d1, d2, d3, d4] }
  | _ => none }
def barGapsRow : OpenClaim := { program := "ytbhljokhcmfgjaa", sum := "21b7e0e1d885a60d5b7e697c05e031462990175a8f555932cf65e62c77c605df", func := "vinculum/vinculumlaw27.BarGaps", spec := "barGaps", inPlace := ["internal/abi.NoEscape"], unfollowed := true, recurses := true, loops := true, apart := false }
def BarGapsSaid : Prop := barGapsRow.holds Try.pinned (OpenSpec.ofChange barGapsSpec)

/-- ITS FALSE NEIGHBOUR: 'it returns false'. Refute it at one input. -/
def barGapsWrong : ChangeSpec := { name := "barGaps", fn := fun _ => fun
  | [d1, d2, d3, d4] => { results := [.lit (.bool false)], args := [d1, d2, d3, d4] }
  | _ => none }
def BarGapsWrongFalsely : Prop := barGapsRow.holds Try.pinned (OpenSpec.ofChange barGapsWrong)

/-- 'vinculumlaw29.LimitMiddle': WHATEVER THE INPUT: true; the input reads as it did. -/
def limitMiddleSpec : ChangeSpec := { name := "limitMiddle", fn := fun _ => fun
  | [d1, d2, d3, d4, d5, d6] => { results := [.lit (.bool true)], args := [d1, d2, d3, d4, d5, d6] }
  | _ => none }
def limitMiddleRow : OpenClaim := { program := "ytbhljokhcmfgjaa", sum := "21b7e0e1d885a60d5b7e697c05e031462990175a8f555932cf65e62c77c605df", func := "vinculum/vinculumlaw29.LimitMiddle", spec := "limitMiddle", inPlace := ["internal/abi.NoEscape"], unfollowed := true, recurses := true, loops := true, apart := false }
def LimitMiddleSaid : Prop := limitMiddleRow.holds Try.pinned (OpenSpec.ofChange limitMiddleSpec)

/-- ITS FALSE NEIGHBOUR: 'it returns false'. Refute it at one input. -/
def limitMiddleWrong : ChangeSpec := { name := "limitMiddle", fn := fun _ => fun
  | [d1, d2, d3, d4, d5, d6] => { results := [.lit (.bool false)], args := [d1, d2, d3, d4, d5, d6] }
  | _ => none }
def LimitMiddleWrongFalsely : Prop := limitMiddleRow.holds Try.pinned (OpenSpec.ofChange limitMiddleWrong)

/-- 'vinculumlaw29.LimitStands': WHATEVER THE INPUT: true; the input reads as it did. -/
def limitStandsSpec : ChangeSpec := { name := "limitStands", fn := fun _ => fun
  | [d1, d2, d3, d4, d5] => { results := [.lit (.bool true)], args := [d1, d2, d3, d4, d5] }
  | _ => none }
def limitStandsRow : OpenClaim := { program := "ytbhljokhcmfgjaa", sum := "21b7e0e1d885a60d5b7e697c05e031462990175a8f555932cf65e62c77c605df", func := "vinculum/vinculumlaw29.LimitStands", spec := "limitStands", inPlace := ["internal/abi.NoEscape"], unfollowed := true, recurses := true, loops := true, apart := false }
def LimitStandsSaid : Prop := limitStandsRow.holds Try.pinned (OpenSpec.ofChange limitStandsSpec)

/-- ITS FALSE NEIGHBOUR: 'it returns false'. Refute it at one input. -/
def limitStandsWrong : ChangeSpec := { name := "limitStands", fn := fun _ => fun
  | [d1, d2, d3, d4, d5] => { results := [.lit (.bool false)], args := [d1, d2, d3, d4, d5] }
  | _ => none }
def LimitStandsWrongFalsely : Prop := limitStandsRow.holds Try.pinned (OpenSpec.ofChange limitStandsWrong)

/-- 'vinculumlaw29.LimitAttach': WHATEVER THE INPUT: true; the input reads as it did. -/
def limitAttachSpec : ChangeSpec := { name := "limitAttach", fn := fun _ => fun
  | [d1, d2, d3, d4] => { results := [.lit (.bool true)], args := [d1, d2, d3, d4] }
  | _ => none }
def limitAttachRow : OpenClaim := { program := "ytbhljokhcmfgjaa", sum := "21b7e0e1d885a60d5b7e697c05e031462990175a8f555932cf65e62c77c605df", func := "vinculum/vinculumlaw29.LimitAttach", spec := "limitAttach", inPlace := ["internal/abi.NoEscape"], unfollowed := true, recurses := true, loops := true, apart := false }
def LimitAttachSaid : Prop := limitAttachRow.holds Try.pinned (OpenSpec.ofChange limitAttachSpec)

/-- ITS FALSE NEIGHBOUR: 'it returns false'. Refute it at one input. -/
def limitAttachWrong : ChangeSpec := { name := "limitAttach", fn := fun _ => fun
  | [d1, d2, d3, d4] => { results := [.lit (.bool false)], args := [d1, d2, d3, d4] }
  | _ => none }
def LimitAttachWrongFalsely : Prop := limitAttachRow.holds Try.pinned (OpenSpec.ofChange limitAttachWrong)

/-- 'vinculumlaw29.LimitGaps': WHATEVER THE INPUT: true; the input reads as it did. -/
def limitGapsSpec : ChangeSpec := { name := "limitGaps", fn := fun _ => fun
  | [d1, d2, d3, d4, d5, d6] => { results := [.lit (.bool true)], args := [d1, d2, d3, d4, d5, d6] }
  | _ => none }
def limitGapsRow : OpenClaim := { program := "ytbhljokhcmfgjaa", sum := "21b7e0e1d885a60d5b7e697c05e031462990175a8f555932cf65e62c77c605df", func := "vinculum/vinculumlaw29.LimitGaps", spec := "limitGaps", inPlace := ["internal/abi.NoEscape"], unfollowed := true, recurses := true, loops := true, apart := false }
def LimitGapsSaid : Prop := limitGapsRow.holds Try.pinned (OpenSpec.ofChange limitGapsSpec)

/-- ITS FALSE NEIGHBOUR: 'it returns false'. Refute it at one input. -/
def limitGapsWrong : ChangeSpec := { name := "limitGaps", fn := fun _ => fun
  | [d1, d2, d3, d4, d5, d6] => { results := [.lit (.bool false)], args := [d1, d2, d3, d4, d5, d6] }
  | _ => none }
def LimitGapsWrongFalsely : Prop := limitGapsRow.holds Try.pinned (OpenSpec.ofChange limitGapsWrong)

/- THE SECOND FORM. 'bulk': how many values and letters a reading holds, each counted each time it is reached (what is shared counts as often as it is met; a slice's spare places count too). A statement '..UptoSaid' is the law's where the arguments, and the package variables that the reading takes, are together of bulk at most 1048576: NARROWER than '..Said'. Prove '..Said' where nothing that the law and all that it calls make is longer than what came in: it says more and counts as full. Else prove '..UptoSaid'. A law counts once. -/
mutual
def uptoBulk {H : Type} : DataW H → Nat
  | .lit (.string bytes) => bytes.length + 1
  | .lit _ => 1
  | .nil => 1
  | .ptr d => uptoBulk d + 1
  | .slice elems spare => uptoBulkAll elems + uptoBulkAll spare + 1
  | .agg parts => uptoBulkAll parts + 1
  | .iface _ d => uptoBulk d + 1
  | .map entries => uptoBulkEntries entries + 1
  | .held _ => 1
def uptoBulkAll {H : Type} : List (DataW H) → Nat
  | [] => 0
  | d :: r => uptoBulk d + uptoBulkAll r
def uptoBulkEntries {H : Type} : List (Lit × DataW H) → Nat
  | [] => 0
  | x :: r => uptoBulkEntry x + uptoBulkEntries r
def uptoBulkEntry {H : Type} : Lit × DataW H → Nat
  | (.string bytes, d) => bytes.length + uptoBulk d + 1
  | (_, d) => uptoBulk d + 1
 end
def uptoSmall : (H : Type) → List (DataW H) → Bool := fun _ ds => decide (uptoBulkAll ds ≤ 1048576)
def OpenSpec.upto (s : _root_.Go.ChangeSpec) : _root_.Go.OpenSpec := { _root_.Go.OpenSpec.ofChange s with cond := some uptoSmall }

/-- 'vinculumlaw23.BoxDoes', WHERE WHAT IT READS IS OF BULK AT MOST 1048576: true; the input reads as it did. -/
def boxDoesUptoRow : OpenClaim := { program := "ytbhljokhcmfgjaa", sum := "21b7e0e1d885a60d5b7e697c05e031462990175a8f555932cf65e62c77c605df", func := "vinculum/vinculumlaw23.BoxDoes", spec := "boxDoes", unfollowed := true, recurses := true, loops := true, apart := false, narrowed := true }
def BoxDoesUptoSaid : Prop := boxDoesUptoRow.holds Try.pinned (OpenSpec.upto boxDoesSpec)

/-- 'vinculumlaw23.BoxRight', WHERE WHAT IT READS IS OF BULK AT MOST 1048576: true; the input reads as it did. -/
def boxRightUptoRow : OpenClaim := { program := "ytbhljokhcmfgjaa", sum := "21b7e0e1d885a60d5b7e697c05e031462990175a8f555932cf65e62c77c605df", func := "vinculum/vinculumlaw23.BoxRight", spec := "boxRight", unfollowed := true, recurses := true, loops := true, apart := false, narrowed := true }
def BoxRightUptoSaid : Prop := boxRightUptoRow.holds Try.pinned (OpenSpec.upto boxRightSpec)

/-- 'vinculumlaw23.BoxLeaves', WHERE WHAT IT READS IS OF BULK AT MOST 1048576: true; the input reads as it did. -/
def boxLeavesUptoRow : OpenClaim := { program := "ytbhljokhcmfgjaa", sum := "21b7e0e1d885a60d5b7e697c05e031462990175a8f555932cf65e62c77c605df", func := "vinculum/vinculumlaw23.BoxLeaves", spec := "boxLeaves", unfollowed := true, recurses := true, loops := true, apart := false, narrowed := true }
def BoxLeavesUptoSaid : Prop := boxLeavesUptoRow.holds Try.pinned (OpenSpec.upto boxLeavesSpec)

/-- 'vinculumlaw23.BoxRows', WHERE WHAT IT READS IS OF BULK AT MOST 1048576: true; the input reads as it did. -/
def boxRowsUptoRow : OpenClaim := { program := "ytbhljokhcmfgjaa", sum := "21b7e0e1d885a60d5b7e697c05e031462990175a8f555932cf65e62c77c605df", func := "vinculum/vinculumlaw23.BoxRows", spec := "boxRows", unfollowed := true, recurses := true, loops := true, apart := false, narrowed := true }
def BoxRowsUptoSaid : Prop := boxRowsUptoRow.holds Try.pinned (OpenSpec.upto boxRowsSpec)

/-- 'vinculumlaw26.StackGaps', WHERE WHAT IT READS IS OF BULK AT MOST 1048576: true; the input reads as it did. -/
def stackGapsUptoRow : OpenClaim := { program := "ytbhljokhcmfgjaa", sum := "21b7e0e1d885a60d5b7e697c05e031462990175a8f555932cf65e62c77c605df", func := "vinculum/vinculumlaw26.StackGaps", spec := "stackGaps", inPlace := ["internal/abi.NoEscape"], unfollowed := true, recurses := true, loops := true, apart := false, narrowed := true }
def StackGapsUptoSaid : Prop := stackGapsUptoRow.holds Try.pinned (OpenSpec.upto stackGapsSpec)

/-- 'vinculumlaw27.BarGaps', WHERE WHAT IT READS IS OF BULK AT MOST 1048576: true; the input reads as it did. -/
def barGapsUptoRow : OpenClaim := { program := "ytbhljokhcmfgjaa", sum := "21b7e0e1d885a60d5b7e697c05e031462990175a8f555932cf65e62c77c605df", func := "vinculum/vinculumlaw27.BarGaps", spec := "barGaps", inPlace := ["internal/abi.NoEscape"], unfollowed := true, recurses := true, loops := true, apart := false, narrowed := true }
def BarGapsUptoSaid : Prop := barGapsUptoRow.holds Try.pinned (OpenSpec.upto barGapsSpec)

/-- 'vinculumlaw29.LimitMiddle', WHERE WHAT IT READS IS OF BULK AT MOST 1048576: true; the input reads as it did. -/
def limitMiddleUptoRow : OpenClaim := { program := "ytbhljokhcmfgjaa", sum := "21b7e0e1d885a60d5b7e697c05e031462990175a8f555932cf65e62c77c605df", func := "vinculum/vinculumlaw29.LimitMiddle", spec := "limitMiddle", inPlace := ["internal/abi.NoEscape"], unfollowed := true, recurses := true, loops := true, apart := false, narrowed := true }
def LimitMiddleUptoSaid : Prop := limitMiddleUptoRow.holds Try.pinned (OpenSpec.upto limitMiddleSpec)

/-- 'vinculumlaw29.LimitStands', WHERE WHAT IT READS IS OF BULK AT MOST 1048576: true; the input reads as it did. -/
def limitStandsUptoRow : OpenClaim := { program := "ytbhljokhcmfgjaa", sum := "21b7e0e1d885a60d5b7e697c05e031462990175a8f555932cf65e62c77c605df", func := "vinculum/vinculumlaw29.LimitStands", spec := "limitStands", inPlace := ["internal/abi.NoEscape"], unfollowed := true, recurses := true, loops := true, apart := false, narrowed := true }
def LimitStandsUptoSaid : Prop := limitStandsUptoRow.holds Try.pinned (OpenSpec.upto limitStandsSpec)

/-- 'vinculumlaw29.LimitAttach', WHERE WHAT IT READS IS OF BULK AT MOST 1048576: true; the input reads as it did. -/
def limitAttachUptoRow : OpenClaim := { program := "ytbhljokhcmfgjaa", sum := "21b7e0e1d885a60d5b7e697c05e031462990175a8f555932cf65e62c77c605df", func := "vinculum/vinculumlaw29.LimitAttach", spec := "limitAttach", inPlace := ["internal/abi.NoEscape"], unfollowed := true, recurses := true, loops := true, apart := false, narrowed := true }
def LimitAttachUptoSaid : Prop := limitAttachUptoRow.holds Try.pinned (OpenSpec.upto limitAttachSpec)

/-- 'vinculumlaw29.LimitGaps', WHERE WHAT IT READS IS OF BULK AT MOST 1048576: true; the input reads as it did. -/
def limitGapsUptoRow : OpenClaim := { program := "ytbhljokhcmfgjaa", sum := "21b7e0e1d885a60d5b7e697c05e031462990175a8f555932cf65e62c77c605df", func := "vinculum/vinculumlaw29.LimitGaps", spec := "limitGaps", inPlace := ["internal/abi.NoEscape"], unfollowed := true, recurses := true, loops := true, apart := false, narrowed := true }
def LimitGapsUptoSaid : Prop := limitGapsUptoRow.holds Try.pinned (OpenSpec.upto limitGapsSpec)

end Rows
end Go.Proofs.Ytbhljokhcmfgjaa
