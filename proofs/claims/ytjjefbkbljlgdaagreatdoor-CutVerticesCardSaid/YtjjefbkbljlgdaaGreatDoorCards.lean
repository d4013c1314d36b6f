/-
  DERIVED. GIVEN WITH THE SEED: THE CARDS: each row of YtjjefbkbljlgdaaGreatDoorRows.lean that lists a variable, with what it lists TIED to the program's text (the seventh form; the later family's looks); each row that meets fmt, with fmt's text TOLD by the authors' own Lean function (tested against real Go, not proved from fmt's source: count such statements apart). THE CARD IS WHAT COUNTS. Prove the row's statement (the work); the ties are given (YtjjefbkbljlgdaaGreatDoorTie.lean); close each card by the builder's one call (the guide's Derived/Test/ToyasCard.lean, 'card_holds'). Laid BY PROGRAM, IN A SANDBOX (cutbox-door.mjs). By AI agents, Wed Nov 11 2026. No macro, syntax, notation, axiom, sorry.
-/
import Derived.Test.YtjjefbkbljlgdaaGreatDoorRows
import GoSem.ClaimSeven
namespace Go.Proofs.YtjjefbkbljlgdaaGreatDoor
namespace Rows

/-- THE TIED CARD OF 'culetlaw08.CutPoints'. -/
def cutPointsCard : Claim7 := { stood := { row := cutPointsRow, standIns := [], harness := (true, "6fe2a46262c640df2278f75565df0513ddde9e2a29c8c244c0375ffbfd9fa455"), looks := false }, kinds := [], alts := [], laidByText := true, laidKinds := [.data, .pinned], laidTests := true, laidLooks := .later }
def CutPointsCardSaid : Prop := Claim7.holds Tryz.pinned (.plain (OpenSpec.ofChange cutPointsSpec)) cutPointsCard

/-- THE TIED CARD OF 'culetlaw08.CutOrder'. -/
def cutOrderCard : Claim7 := { stood := { row := cutOrderRow, standIns := [], harness := (true, "6fe2a46262c640df2278f75565df0513ddde9e2a29c8c244c0375ffbfd9fa455"), looks := false }, kinds := [], alts := [], laidByText := true, laidKinds := [.data, .pinned], laidTests := true, laidLooks := .later }
def CutOrderCardSaid : Prop := Claim7.holds Tryz.pinned (.plain (OpenSpec.ofChange cutOrderSpec)) cutOrderCard

/-- THE TIED CARD OF 'culetlaw08.CutOne'. -/
def cutOneCard : Claim7 := { stood := { row := cutOneRow, standIns := [], harness := (true, "6fe2a46262c640df2278f75565df0513ddde9e2a29c8c244c0375ffbfd9fa455"), looks := false }, kinds := [], alts := [], laidByText := true, laidKinds := [.data, .pinned], laidTests := true, laidLooks := .later }
def CutOneCardSaid : Prop := Claim7.holds Tryz.pinned (.plain (OpenSpec.ofChange cutOneSpec)) cutOneCard

/-- THE TIED CARD OF 'culetlaw08.CutVertices'. -/
def cutVerticesCard : Claim7 := { stood := { row := cutVerticesRow, standIns := [], harness := (true, "6fe2a46262c640df2278f75565df0513ddde9e2a29c8c244c0375ffbfd9fa455"), looks := false }, kinds := [], alts := [], laidByText := true, laidKinds := [.data, .pinned], laidTests := true, laidLooks := .later }
def CutVerticesCardSaid : Prop := Claim7.holds Tryz.pinned (.plain (OpenSpec.ofChange cutVerticesSpec)) cutVerticesCard

/-- THE SECOND FORM's CARD OF 'culetlaw08.CutPoints'. -/
def cutPointsUptoCard : Claim7 := { stood := { row := cutPointsUptoRow, standIns := [], harness := (true, "6fe2a46262c640df2278f75565df0513ddde9e2a29c8c244c0375ffbfd9fa455"), looks := false }, kinds := [], alts := [], laidByText := true, laidKinds := [.data, .pinned], laidTests := true, laidLooks := .later }
def CutPointsUptoCardSaid : Prop := Claim7.holds Tryz.pinned (.plain (OpenSpec.upto cutPointsSpec)) cutPointsUptoCard

/-- THE SECOND FORM's CARD OF 'culetlaw08.CutOrder'. -/
def cutOrderUptoCard : Claim7 := { stood := { row := cutOrderUptoRow, standIns := [], harness := (true, "6fe2a46262c640df2278f75565df0513ddde9e2a29c8c244c0375ffbfd9fa455"), looks := false }, kinds := [], alts := [], laidByText := true, laidKinds := [.data, .pinned], laidTests := true, laidLooks := .later }
def CutOrderUptoCardSaid : Prop := Claim7.holds Tryz.pinned (.plain (OpenSpec.upto cutOrderSpec)) cutOrderUptoCard

/-- THE SECOND FORM's CARD OF 'culetlaw08.CutOne'. -/
def cutOneUptoCard : Claim7 := { stood := { row := cutOneUptoRow, standIns := [], harness := (true, "6fe2a46262c640df2278f75565df0513ddde9e2a29c8c244c0375ffbfd9fa455"), looks := false }, kinds := [], alts := [], laidByText := true, laidKinds := [.data, .pinned], laidTests := true, laidLooks := .later }
def CutOneUptoCardSaid : Prop := Claim7.holds Tryz.pinned (.plain (OpenSpec.upto cutOneSpec)) cutOneUptoCard

/-- THE SECOND FORM's CARD OF 'culetlaw08.CutVertices'. -/
def cutVerticesUptoCard : Claim7 := { stood := { row := cutVerticesUptoRow, standIns := [], harness := (true, "6fe2a46262c640df2278f75565df0513ddde9e2a29c8c244c0375ffbfd9fa455"), looks := false }, kinds := [], alts := [], laidByText := true, laidKinds := [.data, .pinned], laidTests := true, laidLooks := .later }
def CutVerticesUptoCardSaid : Prop := Claim7.holds Tryz.pinned (.plain (OpenSpec.upto cutVerticesSpec)) cutVerticesUptoCard
end Rows
end Go.Proofs.YtjjefbkbljlgdaaGreatDoor
