/-
  DERIVED. GIVEN WITH THE SEED: THE CARDS: each row of YtgpahigmalfpdaaGreatDoorRows.lean that lists a variable, with what it lists TIED to the program's text (the seventh form; the later family's looks); each row that meets fmt, with fmt's text TOLD by the authors' own Lean function (tested against real Go, not proved from fmt's source: count such statements apart). THE CARD IS WHAT COUNTS. Prove the row's statement (the work); the ties are given (YtgpahigmalfpdaaGreatDoorTie.lean); close each card by the builder's one call (the guide's Derived/Test/ToyasCard.lean, 'card_holds'). Laid BY PROGRAM, IN A SANDBOX (cutbox-door.mjs). By AI agents, Wed Nov 11 2026. No macro, syntax, notation, axiom, sorry.
-/
import Derived.Test.YtgpahigmalfpdaaGreatDoorRows
import GoSem.ClaimSeven
namespace Go.Proofs.YtgpahigmalfpdaaGreatDoor
namespace Rows

/-- THE TIED CARD OF 'culetlaw09.MeasureInside'. -/
def measureInsideCard : Claim7 := { stood := { row := measureInsideRow, standIns := [], harness := (true, "a57342c6a1274c01ff01e75422c5df85788e2fc225f65923410d35b15f296eeb"), looks := false }, kinds := [], alts := [], laidByText := true, laidKinds := [.data, .pinned], laidTests := true, laidLooks := .later }
def MeasureInsideCardSaid : Prop := Claim7.holds Tryz.pinned (.plain (OpenSpec.ofChange measureInsideSpec)) measureInsideCard

/-- THE SECOND FORM's CARD OF 'culetlaw09.MeasureInside'. -/
def measureInsideUptoCard : Claim7 := { stood := { row := measureInsideUptoRow, standIns := [], harness := (true, "a57342c6a1274c01ff01e75422c5df85788e2fc225f65923410d35b15f296eeb"), looks := false }, kinds := [], alts := [], laidByText := true, laidKinds := [.data, .pinned], laidTests := true, laidLooks := .later }
def MeasureInsideUptoCardSaid : Prop := Claim7.holds Tryz.pinned (.plain (OpenSpec.upto measureInsideSpec)) measureInsideUptoCard
end Rows
end Go.Proofs.YtgpahigmalfpdaaGreatDoor
