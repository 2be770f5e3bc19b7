/-
  No cell of these rows narrows 'for every input' (looked for: loops, veiled, ifaces, maps, wideKeys, modest, calm, conditions, laid).
  DERIVED. THE GIVEN ROWS OF THIS SEAT. 7 by the template 'for every input the law returns true; each argument reads behind the call as it read before'; 0 by the template 'total and deterministic' (their statements: YtgleaefhflamnaaTotals.lean).
  GIVEN WITH THE SEED: the statements are not yours to turn. If you find one false, say at which input.
  Laid BY PROGRAM, IN A SANDBOX (cutbox-rows.mjs): the forced cells as the released guide's own fill.sh prints them over the translation 3817e7f97d28db76… (all of the seat's roots in one cut). By AI agents, Wed Nov 11 2026. No macro, syntax, notation, axiom, sorry.
-/
import Derived.Test.YtgleaefhflamnaaChecked
import GoSem.Claim
import GoSem.ClaimJoined
import GoSem.ClaimMapViews
import Derived.JoinedTies
import Derived.KernelRfl
namespace Go.Proofs.Ytgleaefhflamnaa
/- THE CELL 'sum', in the pinned program and in every row, IS THE sha256 OF THE DUMP (.gsa) THAT YtgleaefhflamnaaProg.lean LOADS. Nothing in Lean hashes anything: it is a label: what it is worth is what the hold of that sum in a sandbox is worth. -/
noncomputable def Try.pinned : Pinned := { name := "ytgleaefhflamnaa", sum := "3817e7f97d28db76eaa09b685255fef67780b67aae50a3ab9e49eb9154b63e6b", checked := Try.checked }
namespace Rows
def none {H : Type} : Left H := { results := [], args := [] }

/-- 'larchlaw18.StepsSums': WHATEVER THE INPUT: true; the input reads as it did. -/
def stepsSumsSpec : ChangeSpec := { name := "stepsSums", fn := fun _ => fun
  | [d1, d2, d3] => { results := [.lit (.bool true)], args := [d1, d2, d3] }
  | _ => none }
def stepsSumsRow : OpenClaim := { program := "ytgleaefhflamnaa", sum := "3817e7f97d28db76eaa09b685255fef67780b67aae50a3ab9e49eb9154b63e6b", func := "larch/larchlaw18.StepsSums", spec := "stepsSums", unfollowed := true, recurses := true, apart := false }
def StepsSumsSaid : Prop := stepsSumsRow.holds Try.pinned (OpenSpec.ofChange stepsSumsSpec)

/-- ITS FALSE NEIGHBOUR: 'it returns false'. Refute it at one input. -/
def stepsSumsWrong : ChangeSpec := { name := "stepsSums", fn := fun _ => fun
  | [d1, d2, d3] => { results := [.lit (.bool false)], args := [d1, d2, d3] }
  | _ => none }
def StepsSumsWrongFalsely : Prop := stepsSumsRow.holds Try.pinned (OpenSpec.ofChange stepsSumsWrong)

/-- 'larchlaw18.StepsViolations': WHATEVER THE INPUT: true; the input reads as it did. -/
def stepsViolationsSpec : ChangeSpec := { name := "stepsViolations", fn := fun _ => fun
  | [d1, d2, d3] => { results := [.lit (.bool true)], args := [d1, d2, d3] }
  | _ => none }
def stepsViolationsRow : OpenClaim := { program := "ytgleaefhflamnaa", sum := "3817e7f97d28db76eaa09b685255fef67780b67aae50a3ab9e49eb9154b63e6b", func := "larch/larchlaw18.StepsViolations", spec := "stepsViolations", unfollowed := true, recurses := true, apart := false }
def StepsViolationsSaid : Prop := stepsViolationsRow.holds Try.pinned (OpenSpec.ofChange stepsViolationsSpec)

/-- ITS FALSE NEIGHBOUR: 'it returns false'. Refute it at one input. -/
def stepsViolationsWrong : ChangeSpec := { name := "stepsViolations", fn := fun _ => fun
  | [d1, d2, d3] => { results := [.lit (.bool false)], args := [d1, d2, d3] }
  | _ => none }
def StepsViolationsWrongFalsely : Prop := stepsViolationsRow.holds Try.pinned (OpenSpec.ofChange stepsViolationsWrong)

/-- 'larchlaw18.StepsSpots': WHATEVER THE INPUT: true; the input reads as it did. -/
def stepsSpotsSpec : ChangeSpec := { name := "stepsSpots", fn := fun _ => fun
  | [d] => { results := [.lit (.bool true)], args := [d] }
  | _ => none }
def stepsSpotsRow : OpenClaim := { program := "ytgleaefhflamnaa", sum := "3817e7f97d28db76eaa09b685255fef67780b67aae50a3ab9e49eb9154b63e6b", func := "larch/larchlaw18.StepsSpots", spec := "stepsSpots", unfollowed := true, recurses := true, apart := false }
def StepsSpotsSaid : Prop := stepsSpotsRow.holds Try.pinned (OpenSpec.ofChange stepsSpotsSpec)

/-- ITS FALSE NEIGHBOUR: 'it returns false'. Refute it at one input. -/
def stepsSpotsWrong : ChangeSpec := { name := "stepsSpots", fn := fun _ => fun
  | [d] => { results := [.lit (.bool false)], args := [d] }
  | _ => none }
def StepsSpotsWrongFalsely : Prop := stepsSpotsRow.holds Try.pinned (OpenSpec.ofChange stepsSpotsWrong)

/-- 'larchlaw18.StepsMirrors': WHATEVER THE INPUT: true; the input reads as it did. -/
def stepsMirrorsSpec : ChangeSpec := { name := "stepsMirrors", fn := fun _ => fun
  | [d1, d2, d3] => { results := [.lit (.bool true)], args := [d1, d2, d3] }
  | _ => none }
def stepsMirrorsRow : OpenClaim := { program := "ytgleaefhflamnaa", sum := "3817e7f97d28db76eaa09b685255fef67780b67aae50a3ab9e49eb9154b63e6b", func := "larch/larchlaw18.StepsMirrors", spec := "stepsMirrors", unfollowed := true, recurses := true, apart := false }
def StepsMirrorsSaid : Prop := stepsMirrorsRow.holds Try.pinned (OpenSpec.ofChange stepsMirrorsSpec)

/-- ITS FALSE NEIGHBOUR: 'it returns false'. Refute it at one input. -/
def stepsMirrorsWrong : ChangeSpec := { name := "stepsMirrors", fn := fun _ => fun
  | [d1, d2, d3] => { results := [.lit (.bool false)], args := [d1, d2, d3] }
  | _ => none }
def StepsMirrorsWrongFalsely : Prop := stepsMirrorsRow.holds Try.pinned (OpenSpec.ofChange stepsMirrorsWrong)

/-- 'larchlaw18.StepsDo': WHATEVER THE INPUT: true; the input reads as it did. -/
def stepsDoSpec : ChangeSpec := { name := "stepsDo", fn := fun _ => fun
  | [d1, d2, d3] => { results := [.lit (.bool true)], args := [d1, d2, d3] }
  | _ => none }
def stepsDoRow : OpenClaim := { program := "ytgleaefhflamnaa", sum := "3817e7f97d28db76eaa09b685255fef67780b67aae50a3ab9e49eb9154b63e6b", func := "larch/larchlaw18.StepsDo", spec := "stepsDo", unfollowed := true, recurses := true, apart := false }
def StepsDoSaid : Prop := stepsDoRow.holds Try.pinned (OpenSpec.ofChange stepsDoSpec)

/-- ITS FALSE NEIGHBOUR: 'it returns false'. Refute it at one input. -/
def stepsDoWrong : ChangeSpec := { name := "stepsDo", fn := fun _ => fun
  | [d1, d2, d3] => { results := [.lit (.bool false)], args := [d1, d2, d3] }
  | _ => none }
def StepsDoWrongFalsely : Prop := stepsDoRow.holds Try.pinned (OpenSpec.ofChange stepsDoWrong)

/-- 'larchlaw18.StepsKeeps': WHATEVER THE INPUT: true; the input reads as it did. -/
def stepsKeepsSpec : ChangeSpec := { name := "stepsKeeps", fn := fun _ => fun
  | [d1, d2, d3] => { results := [.lit (.bool true)], args := [d1, d2, d3] }
  | _ => none }
def stepsKeepsRow : OpenClaim := { program := "ytgleaefhflamnaa", sum := "3817e7f97d28db76eaa09b685255fef67780b67aae50a3ab9e49eb9154b63e6b", func := "larch/larchlaw18.StepsKeeps", spec := "stepsKeeps", unfollowed := true, recurses := true, apart := false }
def StepsKeepsSaid : Prop := stepsKeepsRow.holds Try.pinned (OpenSpec.ofChange stepsKeepsSpec)

/-- ITS FALSE NEIGHBOUR: 'it returns false'. Refute it at one input. -/
def stepsKeepsWrong : ChangeSpec := { name := "stepsKeeps", fn := fun _ => fun
  | [d1, d2, d3] => { results := [.lit (.bool false)], args := [d1, d2, d3] }
  | _ => none }
def StepsKeepsWrongFalsely : Prop := stepsKeepsRow.holds Try.pinned (OpenSpec.ofChange stepsKeepsWrong)

/-- 'larchlaw18.StepsLeaves': WHATEVER THE INPUT: true; the input reads as it did. -/
def stepsLeavesSpec : ChangeSpec := { name := "stepsLeaves", fn := fun _ => fun
  | [d1, d2, d3] => { results := [.lit (.bool true)], args := [d1, d2, d3] }
  | _ => none }
def stepsLeavesRow : OpenClaim := { program := "ytgleaefhflamnaa", sum := "3817e7f97d28db76eaa09b685255fef67780b67aae50a3ab9e49eb9154b63e6b", func := "larch/larchlaw18.StepsLeaves", spec := "stepsLeaves", unfollowed := true, recurses := true, apart := false }
def StepsLeavesSaid : Prop := stepsLeavesRow.holds Try.pinned (OpenSpec.ofChange stepsLeavesSpec)

/-- ITS FALSE NEIGHBOUR: 'it returns false'. Refute it at one input. -/
def stepsLeavesWrong : ChangeSpec := { name := "stepsLeaves", fn := fun _ => fun
  | [d1, d2, d3] => { results := [.lit (.bool false)], args := [d1, d2, d3] }
  | _ => none }
def StepsLeavesWrongFalsely : Prop := stepsLeavesRow.holds Try.pinned (OpenSpec.ofChange stepsLeavesWrong)

/- THE SECOND FORM. 'bulk': how many values and letters a reading holds, each counted each time it is reached (what is shared counts as often as it is met; a slice's spare places count too). A statement '..UptoSaid' is the law's where the arguments, and the package variables that the reading takes, are together of bulk at most 1048576: NARROWER than '..Said'. Prove '..Said' where nothing that the law and all that it calls make is longer than what came in: it says more and counts as full. Else prove '..UptoSaid'. A law counts once. -/
mutual
def uptoBulk {H : Type} : DataW H → Nat
  | .lit (.string bytes) => bytes.length + 1
  | .lit _ => 1
  | .nil => 1
  | .ptr d => uptoBulk d + 1
  | .slice elems spare => uptoBulkAll elems + uptoBulkAll spare + 1
  | .agg parts => uptoBulkAll parts + 1
  | .iface _ d => uptoBulk d + 1
  | .map entries => uptoBulkEntries entries + 1
  | .held _ => 1
def uptoBulkAll {H : Type} : List (DataW H) → Nat
  | [] => 0
  | d :: r => uptoBulk d + uptoBulkAll r
def uptoBulkEntries {H : Type} : List (Lit × DataW H) → Nat
  | [] => 0
  | x :: r => uptoBulkEntry x + uptoBulkEntries r
def uptoBulkEntry {H : Type} : Lit × DataW H → Nat
  | (.string bytes, d) => bytes.length + uptoBulk d + 1
  | (_, d) => uptoBulk d + 1
 end
def uptoSmall : (H : Type) → List (DataW H) → Bool := fun _ ds => decide (uptoBulkAll ds ≤ 1048576)
def OpenSpec.upto (s : _root_.Go.ChangeSpec) : _root_.Go.OpenSpec := { _root_.Go.OpenSpec.ofChange s with cond := some uptoSmall }

/-- 'larchlaw18.StepsSums', WHERE WHAT IT READS IS OF BULK AT MOST 1048576: true; the input reads as it did. -/
def stepsSumsUptoRow : OpenClaim := { program := "ytgleaefhflamnaa", sum := "3817e7f97d28db76eaa09b685255fef67780b67aae50a3ab9e49eb9154b63e6b", func := "larch/larchlaw18.StepsSums", spec := "stepsSums", unfollowed := true, recurses := true, apart := false, narrowed := true }
def StepsSumsUptoSaid : Prop := stepsSumsUptoRow.holds Try.pinned (OpenSpec.upto stepsSumsSpec)

/-- 'larchlaw18.StepsViolations', WHERE WHAT IT READS IS OF BULK AT MOST 1048576: true; the input reads as it did. -/
def stepsViolationsUptoRow : OpenClaim := { program := "ytgleaefhflamnaa", sum := "3817e7f97d28db76eaa09b685255fef67780b67aae50a3ab9e49eb9154b63e6b", func := "larch/larchlaw18.StepsViolations", spec := "stepsViolations", unfollowed := true, recurses := true, apart := false, narrowed := true }
def StepsViolationsUptoSaid : Prop := stepsViolationsUptoRow.holds Try.pinned (OpenSpec.upto stepsViolationsSpec)

/-- 'larchlaw18.StepsSpots', WHERE WHAT IT READS IS OF BULK AT MOST 1048576: true; the input reads as it did. -/
def stepsSpotsUptoRow : OpenClaim := { program := "ytgleaefhflamnaa", sum := "3817e7f97d28db76eaa09b685255fef67780b67aae50a3ab9e49eb9154b63e6b", func := "larch/larchlaw18.StepsSpots", spec := "stepsSpots", unfollowed := true, recurses := true, apart := false, narrowed := true }
def StepsSpotsUptoSaid : Prop := stepsSpotsUptoRow.holds Try.pinned (OpenSpec.upto stepsSpotsSpec)

/-- 'larchlaw18.StepsMirrors', WHERE WHAT IT READS IS OF BULK AT MOST 1048576: true; the input reads as it did. -/
def stepsMirrorsUptoRow : OpenClaim := { program := "ytgleaefhflamnaa", sum := "3817e7f97d28db76eaa09b685255fef67780b67aae50a3ab9e49eb9154b63e6b", func := "larch/larchlaw18.StepsMirrors", spec := "stepsMirrors", unfollowed := true, recurses := true, apart := false, narrowed := true }
def StepsMirrorsUptoSaid : Prop := stepsMirrorsUptoRow.holds Try.pinned (OpenSpec.upto stepsMirrorsSpec)

/-- 'larchlaw18.StepsDo', WHERE WHAT IT READS IS OF BULK AT MOST 1048576: true; the input reads as it did. -/
def stepsDoUptoRow : OpenClaim := { program := "ytgleaefhflamnaa", sum := "3817e7f97d28db76eaa09b685255fef67780b67aae50a3ab9e49eb9154b63e6b", func := "larch/larchlaw18.StepsDo", spec := "stepsDo", unfollowed := true, recurses := true, apart := false, narrowed := true }
def StepsDoUptoSaid : Prop := stepsDoUptoRow.holds Try.pinned (OpenSpec.upto stepsDoSpec)

/-- 'larchlaw18.StepsKeeps', WHERE WHAT IT READS IS OF BULK AT MOST 1048576: true; the input reads as it did. -/
def stepsKeepsUptoRow : OpenClaim := { program := "ytgleaefhflamnaa", sum := "3817e7f97d28db76eaa09b685255fef67780b67aae50a3ab9e49eb9154b63e6b", func := "larch/larchlaw18.StepsKeeps", spec := "stepsKeeps", unfollowed := true, recurses := true, apart := false, narrowed := true }
def StepsKeepsUptoSaid : Prop := stepsKeepsUptoRow.holds Try.pinned (OpenSpec.upto stepsKeepsSpec)

/-- 'larchlaw18.StepsLeaves', WHERE WHAT IT READS IS OF BULK AT MOST 1048576: true; the input reads as it did. -/
def stepsLeavesUptoRow : OpenClaim := { program := "ytgleaefhflamnaa", sum := "3817e7f97d28db76eaa09b685255fef67780b67aae50a3ab9e49eb9154b63e6b", func := "larch/larchlaw18.StepsLeaves", spec := "stepsLeaves", unfollowed := true, recurses := true, apart := false, narrowed := true }
def StepsLeavesUptoSaid : Prop := stepsLeavesUptoRow.holds Try.pinned (OpenSpec.upto stepsLeavesSpec)

end Rows
end Go.Proofs.Ytgleaefhflamnaa
