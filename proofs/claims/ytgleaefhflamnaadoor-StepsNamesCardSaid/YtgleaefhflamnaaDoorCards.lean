/-
  DERIVED. GIVEN WITH THE SEED: THE CARDS: each row of YtgleaefhflamnaaDoorRows.lean that lists a variable, with what it lists TIED to the program's text (the seventh form; the later family's looks); each row that meets fmt, with fmt's text TOLD by the authors' own Lean function (tested against real Go, not proved from fmt's source: count such statements apart). THE CARD IS WHAT COUNTS. Prove the row's statement (the work); the ties are given (YtgleaefhflamnaaDoorTie.lean); close each card by the builder's one call (the guide's Derived/Test/ToyasCard.lean, 'card_holds'). Laid BY PROGRAM, IN A SANDBOX (cutbox-door.mjs). By AI agents, Wed Nov 11 2026. No macro, syntax, notation, axiom, sorry.
-/
import Derived.Test.YtgleaefhflamnaaDoorRows
import GoSem.ClaimSeven
namespace Go.Proofs.YtgleaefhflamnaaDoor
namespace Rows

/-- THE TIED CARD OF 'larchlaw18.StepsNames'. -/
def stepsNamesCard : Claim7 := { stood := { row := stepsNamesRow, standIns := [], harness := (true, "4e96d21c7488153723323d1cff058aaee74dcb3780970ef5a9862a5c11b5af89"), looks := false }, kinds := [], alts := [], laidByText := true, laidKinds := [.listed, .data], laidTests := true, laidLooks := .later }
def StepsNamesCardSaid : Prop := Claim7.holds Tryd.pinned (.plain (OpenSpec.ofChange stepsNamesSpec)) stepsNamesCard

/-- THE SECOND FORM's CARD OF 'larchlaw18.StepsNames'. -/
def stepsNamesUptoCard : Claim7 := { stood := { row := stepsNamesUptoRow, standIns := [], harness := (true, "4e96d21c7488153723323d1cff058aaee74dcb3780970ef5a9862a5c11b5af89"), looks := false }, kinds := [], alts := [], laidByText := true, laidKinds := [.listed, .data], laidTests := true, laidLooks := .later }
def StepsNamesUptoCardSaid : Prop := Claim7.holds Tryd.pinned (.plain (OpenSpec.upto stepsNamesSpec)) stepsNamesUptoCard
end Rows
end Go.Proofs.YtgleaefhflamnaaDoor
