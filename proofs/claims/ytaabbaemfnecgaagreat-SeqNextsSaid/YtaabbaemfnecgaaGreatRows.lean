/-
  No cell of these rows narrows 'for every input' (looked for: loops, veiled, ifaces, maps, wideKeys, modest, calm, conditions, laid).
  DERIVED. THE GIVEN ROWS OF THIS SEAT. 8 by the template 'for every input the law returns true; each argument reads behind the call as it read before'; 0 by the template 'total and deterministic' (their statements: YtaabbaemfnecgaaGreatTotals.lean).
  GIVEN WITH THE SEED: the statements are not yours to turn. If you find one false, say at which input.
  Laid BY PROGRAM, IN A SANDBOX (cutbox-rows.mjs): the forced cells as the released guide's own fill.sh prints them over the translation f732e68581197a99… (all of the seat's roots in one cut). By AI agents, Wed Nov 11 2026. No macro, syntax, notation, axiom, sorry.
-/
import Derived.Test.YtaabbaemfnecgaaGreatChecked
import GoSem.Claim
import GoSem.ClaimJoined
import GoSem.ClaimMapViews
import Derived.JoinedTies
import Derived.KernelRfl
namespace Go.Proofs.YtaabbaemfnecgaaGreat
/- THE CELL 'sum', in the pinned program and in every row, IS THE sha256 OF THE DUMP (.gsa) THAT YtaabbaemfnecgaaGreatProg.lean LOADS. Nothing in Lean hashes anything: it is a label: what it is worth is what the hold of that sum in a sandbox is worth. -/
noncomputable def Tryz.pinned : Pinned := { name := "ytaabbaemfnecgaagreat", sum := "f732e68581197a99f5805d43a1958a0c32eba7fb14402af341a5ed300ca3e9fe", checked := Tryz.checked }
namespace Rows
def none {H : Type} : Left H := { results := [], args := [] }

/-- 'larchlaw19.SeqDoes': WHATEVER THE INPUT: true; the input reads as it did. -/
def seqDoesSpec : ChangeSpec := { name := "seqDoes", fn := fun _ => fun
  | [d1, d2] => { results := [.lit (.bool true)], args := [d1, d2] }
  | _ => none }
def seqDoesRow : OpenClaim := { program := "ytaabbaemfnecgaagreat", sum := "f732e68581197a99f5805d43a1958a0c32eba7fb14402af341a5ed300ca3e9fe", func := "larch/larchlaw19.SeqDoes", spec := "seqDoes", inPlace := ["slices.overlaps[larch/api.Pair]"], unfollowed := true, recurses := true, apart := false }
def SeqDoesSaid : Prop := seqDoesRow.holds Tryz.pinned (OpenSpec.ofChange seqDoesSpec)

/-- ITS FALSE NEIGHBOUR: 'it returns false'. Refute it at one input. -/
def seqDoesWrong : ChangeSpec := { name := "seqDoes", fn := fun _ => fun
  | [d1, d2] => { results := [.lit (.bool false)], args := [d1, d2] }
  | _ => none }
def SeqDoesWrongFalsely : Prop := seqDoesRow.holds Tryz.pinned (OpenSpec.ofChange seqDoesWrong)

/-- 'larchlaw19.SeqNexts': WHATEVER THE INPUT: true; the input reads as it did. -/
def seqNextsSpec : ChangeSpec := { name := "seqNexts", fn := fun _ => fun
  | [d1, d2] => { results := [.lit (.bool true)], args := [d1, d2] }
  | _ => none }
def seqNextsRow : OpenClaim := { program := "ytaabbaemfnecgaagreat", sum := "f732e68581197a99f5805d43a1958a0c32eba7fb14402af341a5ed300ca3e9fe", func := "larch/larchlaw19.SeqNexts", spec := "seqNexts", inPlace := ["slices.overlaps[larch/api.Pair]"], unfollowed := true, recurses := true, apart := false }
def SeqNextsSaid : Prop := seqNextsRow.holds Tryz.pinned (OpenSpec.ofChange seqNextsSpec)

/-- ITS FALSE NEIGHBOUR: 'it returns false'. Refute it at one input. -/
def seqNextsWrong : ChangeSpec := { name := "seqNexts", fn := fun _ => fun
  | [d1, d2] => { results := [.lit (.bool false)], args := [d1, d2] }
  | _ => none }
def SeqNextsWrongFalsely : Prop := seqNextsRow.holds Tryz.pinned (OpenSpec.ofChange seqNextsWrong)

/-- 'larchlaw19.SeqCleans': WHATEVER THE INPUT: true; the input reads as it did. -/
def seqCleansSpec : ChangeSpec := { name := "seqCleans", fn := fun _ => fun
  | [d1, d2, d3] => { results := [.lit (.bool true)], args := [d1, d2, d3] }
  | _ => none }
def seqCleansRow : OpenClaim := { program := "ytaabbaemfnecgaagreat", sum := "f732e68581197a99f5805d43a1958a0c32eba7fb14402af341a5ed300ca3e9fe", func := "larch/larchlaw19.SeqCleans", spec := "seqCleans", inPlace := ["slices.overlaps[larch/api.Pair]"], unfollowed := true, recurses := true, apart := false }
def SeqCleansSaid : Prop := seqCleansRow.holds Tryz.pinned (OpenSpec.ofChange seqCleansSpec)

/-- ITS FALSE NEIGHBOUR: 'it returns false'. Refute it at one input. -/
def seqCleansWrong : ChangeSpec := { name := "seqCleans", fn := fun _ => fun
  | [d1, d2, d3] => { results := [.lit (.bool false)], args := [d1, d2, d3] }
  | _ => none }
def SeqCleansWrongFalsely : Prop := seqCleansRow.holds Tryz.pinned (OpenSpec.ofChange seqCleansWrong)

/-- 'larchlaw19.SeqRuns': WHATEVER THE INPUT: true; the input reads as it did. -/
def seqRunsSpec : ChangeSpec := { name := "seqRuns", fn := fun _ => fun
  | [d1, d2, d3] => { results := [.lit (.bool true)], args := [d1, d2, d3] }
  | _ => none }
def seqRunsRow : OpenClaim := { program := "ytaabbaemfnecgaagreat", sum := "f732e68581197a99f5805d43a1958a0c32eba7fb14402af341a5ed300ca3e9fe", func := "larch/larchlaw19.SeqRuns", spec := "seqRuns", inPlace := ["slices.overlaps[larch/api.Pair]"], unfollowed := true, recurses := true, apart := false }
def SeqRunsSaid : Prop := seqRunsRow.holds Tryz.pinned (OpenSpec.ofChange seqRunsSpec)

/-- ITS FALSE NEIGHBOUR: 'it returns false'. Refute it at one input. -/
def seqRunsWrong : ChangeSpec := { name := "seqRuns", fn := fun _ => fun
  | [d1, d2, d3] => { results := [.lit (.bool false)], args := [d1, d2, d3] }
  | _ => none }
def SeqRunsWrongFalsely : Prop := seqRunsRow.holds Tryz.pinned (OpenSpec.ofChange seqRunsWrong)

/-- 'larchlaw19.SeqApart': WHATEVER THE INPUT: true; the input reads as it did. -/
def seqApartSpec : ChangeSpec := { name := "seqApart", fn := fun _ => fun
  | [d1, d2, d3] => { results := [.lit (.bool true)], args := [d1, d2, d3] }
  | _ => none }
def seqApartRow : OpenClaim := { program := "ytaabbaemfnecgaagreat", sum := "f732e68581197a99f5805d43a1958a0c32eba7fb14402af341a5ed300ca3e9fe", func := "larch/larchlaw19.SeqApart", spec := "seqApart", inPlace := ["slices.overlaps[larch/api.Pair]"], unfollowed := true, recurses := true, apart := false }
def SeqApartSaid : Prop := seqApartRow.holds Tryz.pinned (OpenSpec.ofChange seqApartSpec)

/-- ITS FALSE NEIGHBOUR: 'it returns false'. Refute it at one input. -/
def seqApartWrong : ChangeSpec := { name := "seqApart", fn := fun _ => fun
  | [d1, d2, d3] => { results := [.lit (.bool false)], args := [d1, d2, d3] }
  | _ => none }
def SeqApartWrongFalsely : Prop := seqApartRow.holds Tryz.pinned (OpenSpec.ofChange seqApartWrong)

/-- 'larchlaw19.SeqSteps': WHATEVER THE INPUT: true; the input reads as it did. -/
def seqStepsSpec : ChangeSpec := { name := "seqSteps", fn := fun _ => fun
  | [d1, d2] => { results := [.lit (.bool true)], args := [d1, d2] }
  | _ => none }
def seqStepsRow : OpenClaim := { program := "ytaabbaemfnecgaagreat", sum := "f732e68581197a99f5805d43a1958a0c32eba7fb14402af341a5ed300ca3e9fe", func := "larch/larchlaw19.SeqSteps", spec := "seqSteps", inPlace := ["slices.overlaps[larch/api.Pair]"], unfollowed := true, recurses := true, apart := false }
def SeqStepsSaid : Prop := seqStepsRow.holds Tryz.pinned (OpenSpec.ofChange seqStepsSpec)

/-- ITS FALSE NEIGHBOUR: 'it returns false'. Refute it at one input. -/
def seqStepsWrong : ChangeSpec := { name := "seqSteps", fn := fun _ => fun
  | [d1, d2] => { results := [.lit (.bool false)], args := [d1, d2] }
  | _ => none }
def SeqStepsWrongFalsely : Prop := seqStepsRow.holds Tryz.pinned (OpenSpec.ofChange seqStepsWrong)

/-- 'larchlaw19.SeqModels': WHATEVER THE INPUT: true; the input reads as it did. -/
def seqModelsSpec : ChangeSpec := { name := "seqModels", fn := fun _ => fun
  | [d] => { results := [.lit (.bool true)], args := [d] }
  | _ => none }
def seqModelsRow : OpenClaim := { program := "ytaabbaemfnecgaagreat", sum := "f732e68581197a99f5805d43a1958a0c32eba7fb14402af341a5ed300ca3e9fe", func := "larch/larchlaw19.SeqModels", spec := "seqModels", inPlace := ["slices.overlaps[larch/api.Pair]"], unfollowed := true, recurses := true, apart := false }
def SeqModelsSaid : Prop := seqModelsRow.holds Tryz.pinned (OpenSpec.ofChange seqModelsSpec)

/-- ITS FALSE NEIGHBOUR: 'it returns false'. Refute it at one input. -/
def seqModelsWrong : ChangeSpec := { name := "seqModels", fn := fun _ => fun
  | [d] => { results := [.lit (.bool false)], args := [d] }
  | _ => none }
def SeqModelsWrongFalsely : Prop := seqModelsRow.holds Tryz.pinned (OpenSpec.ofChange seqModelsWrong)

/-- 'larchlaw19.SeqRows': WHATEVER THE INPUT: true; the input reads as it did. -/
def seqRowsSpec : ChangeSpec := { name := "seqRows", fn := fun _ => fun
  | [d1, d2] => { results := [.lit (.bool true)], args := [d1, d2] }
  | _ => none }
def seqRowsRow : OpenClaim := { program := "ytaabbaemfnecgaagreat", sum := "f732e68581197a99f5805d43a1958a0c32eba7fb14402af341a5ed300ca3e9fe", func := "larch/larchlaw19.SeqRows", spec := "seqRows", inPlace := ["slices.overlaps[larch/api.Pair]"], unfollowed := true, recurses := true, apart := false }
def SeqRowsSaid : Prop := seqRowsRow.holds Tryz.pinned (OpenSpec.ofChange seqRowsSpec)

/-- ITS FALSE NEIGHBOUR: 'it returns false'. Refute it at one input. -/
def seqRowsWrong : ChangeSpec := { name := "seqRows", fn := fun _ => fun
  | [d1, d2] => { results := [.lit (.bool false)], args := [d1, d2] }
  | _ => none }
def SeqRowsWrongFalsely : Prop := seqRowsRow.holds Tryz.pinned (OpenSpec.ofChange seqRowsWrong)

/- THE SECOND FORM. 'bulk': how many values and letters a reading holds, each counted each time it is reached (what is shared counts as often as it is met; a slice's spare places count too). A statement '..UptoSaid' is the law's where the arguments, and the package variables that the reading takes, are together of bulk at most 1048576: NARROWER than '..Said'. Prove '..Said' where nothing that the law and all that it calls make is longer than what came in: it says more and counts as full. Else prove '..UptoSaid'. A law counts once. -/
mutual
def uptoBulk {H : Type} : DataW H → Nat
  | .lit (.string bytes) => bytes.length + 1
  | .lit _ => 1
  | .nil => 1
  | .ptr d => uptoBulk d + 1
  | .slice elems spare => uptoBulkAll elems + uptoBulkAll spare + 1
  | .agg parts => uptoBulkAll parts + 1
  | .iface _ d => uptoBulk d + 1
  | .map entries => uptoBulkEntries entries + 1
  | .held _ => 1
def uptoBulkAll {H : Type} : List (DataW H) → Nat
  | [] => 0
  | d :: r => uptoBulk d + uptoBulkAll r
def uptoBulkEntries {H : Type} : List (Lit × DataW H) → Nat
  | [] => 0
  | x :: r => uptoBulkEntry x + uptoBulkEntries r
def uptoBulkEntry {H : Type} : Lit × DataW H → Nat
  | (.string bytes, d) => bytes.length + uptoBulk d + 1
  | (_, d) => uptoBulk d + 1
 end
def uptoSmall : (H : Type) → List (DataW H) → Bool := fun _ ds => decide (uptoBulkAll ds ≤ 1048576)
def OpenSpec.upto (s : _root_.Go.ChangeSpec) : _root_.Go.OpenSpec := { _root_.Go.OpenSpec.ofChange s with cond := some uptoSmall }

/-- 'larchlaw19.SeqDoes', WHERE WHAT IT READS IS OF BULK AT MOST 1048576: true; the input reads as it did. -/
def seqDoesUptoRow : OpenClaim := { program := "ytaabbaemfnecgaagreat", sum := "f732e68581197a99f5805d43a1958a0c32eba7fb14402af341a5ed300ca3e9fe", func := "larch/larchlaw19.SeqDoes", spec := "seqDoes", inPlace := ["slices.overlaps[larch/api.Pair]"], unfollowed := true, recurses := true, apart := false, narrowed := true }
def SeqDoesUptoSaid : Prop := seqDoesUptoRow.holds Tryz.pinned (OpenSpec.upto seqDoesSpec)

/-- 'larchlaw19.SeqNexts', WHERE WHAT IT READS IS OF BULK AT MOST 1048576: true; the input reads as it did. -/
def seqNextsUptoRow : OpenClaim := { program := "ytaabbaemfnecgaagreat", sum := "f732e68581197a99f5805d43a1958a0c32eba7fb14402af341a5ed300ca3e9fe", func := "larch/larchlaw19.SeqNexts", spec := "seqNexts", inPlace := ["slices.overlaps[larch/api.Pair]"], unfollowed := true, recurses := true, apart := false, narrowed := true }
def SeqNextsUptoSaid : Prop := seqNextsUptoRow.holds Tryz.pinned (OpenSpec.upto seqNextsSpec)

/-- 'larchlaw19.SeqCleans', WHERE WHAT IT READS IS OF BULK AT MOST 1048576: true; the input reads as it did. -/
def seqCleansUptoRow : OpenClaim := { program := "ytaabbaemfnecgaagreat", sum := "f732e68581197a99f5805d43a1958a0c32eba7fb14402af341a5ed300ca3e9fe", func := "larch/larchlaw19.SeqCleans", spec := "seqCleans", inPlace := ["slices.overlaps[larch/api.Pair]"], unfollowed := true, recurses := true, apart := false, narrowed := true }
def SeqCleansUptoSaid : Prop := seqCleansUptoRow.holds Tryz.pinned (OpenSpec.upto seqCleansSpec)

/-- 'larchlaw19.SeqRuns', WHERE WHAT IT READS IS OF BULK AT MOST 1048576: true; the input reads as it did. -/
def seqRunsUptoRow : OpenClaim := { program := "ytaabbaemfnecgaagreat", sum := "f732e68581197a99f5805d43a1958a0c32eba7fb14402af341a5ed300ca3e9fe", func := "larch/larchlaw19.SeqRuns", spec := "seqRuns", inPlace := ["slices.overlaps[larch/api.Pair]"], unfollowed := true, recurses := true, apart := false, narrowed := true }
def SeqRunsUptoSaid : Prop := seqRunsUptoRow.holds Tryz.pinned (OpenSpec.upto seqRunsSpec)

/-- 'larchlaw19.SeqApart', WHERE WHAT IT READS IS OF BULK AT MOST 1048576: true; the input reads as it did. -/
def seqApartUptoRow : OpenClaim := { program := "ytaabbaemfnecgaagreat", sum := "f732e68581197a99f5805d43a1958a0c32eba7fb14402af341a5ed300ca3e9fe", func := "larch/larchlaw19.SeqApart", spec := "seqApart", inPlace := ["slices.overlaps[larch/api.Pair]"], unfollowed := true, recurses := true, apart := false, narrowed := true }
def SeqApartUptoSaid : Prop := seqApartUptoRow.holds Tryz.pinned (OpenSpec.upto seqApartSpec)

/-- 'larchlaw19.SeqSteps', WHERE WHAT IT READS IS OF BULK AT MOST 1048576: true; the input reads as it did. -/
def seqStepsUptoRow : OpenClaim := { program := "ytaabbaemfnecgaagreat", sum := "f732e68581197a99f5805d43a1958a0c32eba7fb14402af341a5ed300ca3e9fe", func := "larch/larchlaw19.SeqSteps", spec := "seqSteps", inPlace := ["slices.overlaps[larch/api.Pair]"], unfollowed := true, recurses := true, apart := false, narrowed := true }
def SeqStepsUptoSaid : Prop := seqStepsUptoRow.holds Tryz.pinned (OpenSpec.upto seqStepsSpec)

/-- 'larchlaw19.SeqModels', WHERE WHAT IT READS IS OF BULK AT MOST 1048576: true; the input reads as it did. -/
def seqModelsUptoRow : OpenClaim := { program := "ytaabbaemfnecgaagreat", sum := "f732e68581197a99f5805d43a1958a0c32eba7fb14402af341a5ed300ca3e9fe", func := "larch/larchlaw19.SeqModels", spec := "seqModels", inPlace := ["slices.overlaps[larch/api.Pair]"], unfollowed := true, recurses := true, apart := false, narrowed := true }
def SeqModelsUptoSaid : Prop := seqModelsUptoRow.holds Tryz.pinned (OpenSpec.upto seqModelsSpec)

/-- 'larchlaw19.SeqRows', WHERE WHAT IT READS IS OF BULK AT MOST 1048576: true; the input reads as it did. -/
def seqRowsUptoRow : OpenClaim := { program := "ytaabbaemfnecgaagreat", sum := "f732e68581197a99f5805d43a1958a0c32eba7fb14402af341a5ed300ca3e9fe", func := "larch/larchlaw19.SeqRows", spec := "seqRows", inPlace := ["slices.overlaps[larch/api.Pair]"], unfollowed := true, recurses := true, apart := false, narrowed := true }
def SeqRowsUptoSaid : Prop := seqRowsUptoRow.holds Tryz.pinned (OpenSpec.upto seqRowsSpec)

end Rows
end Go.Proofs.YtaabbaemfnecgaaGreat
