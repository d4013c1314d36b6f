/-
  DERIVED. GIVEN WITH THE SEED: THE CARDS: each row of YthccllenbnhogaaGreatDoorRows.lean that lists a variable, with what it lists TIED to the program's text (the seventh form; the later family's looks); each row that meets fmt, with fmt's text TOLD by the authors' own Lean function (tested against real Go, not proved from fmt's source: count such statements apart). THE CARD IS WHAT COUNTS. Prove the row's statement (the work); the ties are given (YthccllenbnhogaaGreatDoorTie.lean); close each card by the builder's one call (the guide's Derived/Test/ToyasCard.lean, 'card_holds'). Laid BY PROGRAM, IN A SANDBOX (cutbox-door.mjs). By AI agents, Wed Nov 11 2026. No macro, syntax, notation, axiom, sorry.
-/
import Derived.Test.YthccllenbnhogaaGreatDoorRows
import GoSem.ClaimSeven
namespace Go.Proofs.YthccllenbnhogaaGreatDoor
namespace Rows

/-- THE TIED CARD OF 'culetlaw07.SolidOf'. -/
def solidOfCard : Claim7 := { stood := { row := solidOfRow, standIns := [], harness := (true, "8c35e40d37b6dc0963a1fe5f2f9735a85e6e5f3629c165367586884cc08b88d6"), looks := false }, kinds := [], alts := [], laidByText := true, laidKinds := [.data, .pinned], laidTests := true, laidLooks := .later }
def SolidOfCardSaid : Prop := Claim7.holds Tryz.pinned (.plain (OpenSpec.ofChange solidOfSpec)) solidOfCard

/-- THE TIED CARD OF 'culetlaw07.SolidBlock'. -/
def solidBlockCard : Claim7 := { stood := { row := solidBlockRow, standIns := [], harness := (true, "8c35e40d37b6dc0963a1fe5f2f9735a85e6e5f3629c165367586884cc08b88d6"), looks := false }, kinds := [], alts := [], laidByText := true, laidKinds := [.data, .pinned], laidTests := true, laidLooks := .later }
def SolidBlockCardSaid : Prop := Claim7.holds Tryz.pinned (.plain (OpenSpec.ofChange solidBlockSpec)) solidBlockCard

/-- THE TIED CARD OF 'culetlaw07.SolidEuler'. -/
def solidEulerCard : Claim7 := { stood := { row := solidEulerRow, standIns := [], harness := (true, "8c35e40d37b6dc0963a1fe5f2f9735a85e6e5f3629c165367586884cc08b88d6"), looks := false }, kinds := [], alts := [], laidByText := true, laidKinds := [.data, .pinned], laidTests := true, laidLooks := .later }
def SolidEulerCardSaid : Prop := Claim7.holds Tryz.pinned (.plain (OpenSpec.ofChange solidEulerSpec)) solidEulerCard

/-- THE TIED CARD OF 'culetlaw07.SolidValid'. -/
def solidValidCard : Claim7 := { stood := { row := solidValidRow, standIns := [], harness := (true, "8c35e40d37b6dc0963a1fe5f2f9735a85e6e5f3629c165367586884cc08b88d6"), looks := false }, kinds := [], alts := [], laidByText := true, laidKinds := [.data, .pinned], laidTests := true, laidLooks := .later }
def SolidValidCardSaid : Prop := Claim7.holds Tryz.pinned (.plain (OpenSpec.ofChange solidValidSpec)) solidValidCard

/-- THE TIED CARD OF 'culetlaw07.SolidConvex'. -/
def solidConvexCard : Claim7 := { stood := { row := solidConvexRow, standIns := [], harness := (true, "8c35e40d37b6dc0963a1fe5f2f9735a85e6e5f3629c165367586884cc08b88d6"), looks := false }, kinds := [], alts := [], laidByText := true, laidKinds := [.data, .pinned], laidTests := true, laidLooks := .later }
def SolidConvexCardSaid : Prop := Claim7.holds Tryz.pinned (.plain (OpenSpec.ofChange solidConvexSpec)) solidConvexCard

/-- THE TIED CARD OF 'culetlaw07.SolidEqual'. -/
def solidEqualCard : Claim7 := { stood := { row := solidEqualRow, standIns := [], harness := (true, "8c35e40d37b6dc0963a1fe5f2f9735a85e6e5f3629c165367586884cc08b88d6"), looks := false }, kinds := [], alts := [], laidByText := true, laidKinds := [.data, .pinned], laidTests := true, laidLooks := .later }
def SolidEqualCardSaid : Prop := Claim7.holds Tryz.pinned (.plain (OpenSpec.ofChange solidEqualSpec)) solidEqualCard

/-- THE TIED CARD OF 'culetlaw07.SolidPlanes'. -/
def solidPlanesCard : Claim7 := { stood := { row := solidPlanesRow, standIns := [], harness := (true, "8c35e40d37b6dc0963a1fe5f2f9735a85e6e5f3629c165367586884cc08b88d6"), looks := false }, kinds := [], alts := [], laidByText := true, laidKinds := [.data, .pinned], laidTests := true, laidLooks := .later }
def SolidPlanesCardSaid : Prop := Claim7.holds Tryz.pinned (.plain (OpenSpec.ofChange solidPlanesSpec)) solidPlanesCard

/-- THE SECOND FORM's CARD OF 'culetlaw07.SolidOf'. -/
def solidOfUptoCard : Claim7 := { stood := { row := solidOfUptoRow, standIns := [], harness := (true, "8c35e40d37b6dc0963a1fe5f2f9735a85e6e5f3629c165367586884cc08b88d6"), looks := false }, kinds := [], alts := [], laidByText := true, laidKinds := [.data, .pinned], laidTests := true, laidLooks := .later }
def SolidOfUptoCardSaid : Prop := Claim7.holds Tryz.pinned (.plain (OpenSpec.upto solidOfSpec)) solidOfUptoCard

/-- THE SECOND FORM's CARD OF 'culetlaw07.SolidBlock'. -/
def solidBlockUptoCard : Claim7 := { stood := { row := solidBlockUptoRow, standIns := [], harness := (true, "8c35e40d37b6dc0963a1fe5f2f9735a85e6e5f3629c165367586884cc08b88d6"), looks := false }, kinds := [], alts := [], laidByText := true, laidKinds := [.data, .pinned], laidTests := true, laidLooks := .later }
def SolidBlockUptoCardSaid : Prop := Claim7.holds Tryz.pinned (.plain (OpenSpec.upto solidBlockSpec)) solidBlockUptoCard

/-- THE SECOND FORM's CARD OF 'culetlaw07.SolidEuler'. -/
def solidEulerUptoCard : Claim7 := { stood := { row := solidEulerUptoRow, standIns := [], harness := (true, "8c35e40d37b6dc0963a1fe5f2f9735a85e6e5f3629c165367586884cc08b88d6"), looks := false }, kinds := [], alts := [], laidByText := true, laidKinds := [.data, .pinned], laidTests := true, laidLooks := .later }
def SolidEulerUptoCardSaid : Prop := Claim7.holds Tryz.pinned (.plain (OpenSpec.upto solidEulerSpec)) solidEulerUptoCard

/-- THE SECOND FORM's CARD OF 'culetlaw07.SolidValid'. -/
def solidValidUptoCard : Claim7 := { stood := { row := solidValidUptoRow, standIns := [], harness := (true, "8c35e40d37b6dc0963a1fe5f2f9735a85e6e5f3629c165367586884cc08b88d6"), looks := false }, kinds := [], alts := [], laidByText := true, laidKinds := [.data, .pinned], laidTests := true, laidLooks := .later }
def SolidValidUptoCardSaid : Prop := Claim7.holds Tryz.pinned (.plain (OpenSpec.upto solidValidSpec)) solidValidUptoCard

/-- THE SECOND FORM's CARD OF 'culetlaw07.SolidConvex'. -/
def solidConvexUptoCard : Claim7 := { stood := { row := solidConvexUptoRow, standIns := [], harness := (true, "8c35e40d37b6dc0963a1fe5f2f9735a85e6e5f3629c165367586884cc08b88d6"), looks := false }, kinds := [], alts := [], laidByText := true, laidKinds := [.data, .pinned], laidTests := true, laidLooks := .later }
def SolidConvexUptoCardSaid : Prop := Claim7.holds Tryz.pinned (.plain (OpenSpec.upto solidConvexSpec)) solidConvexUptoCard

/-- THE SECOND FORM's CARD OF 'culetlaw07.SolidEqual'. -/
def solidEqualUptoCard : Claim7 := { stood := { row := solidEqualUptoRow, standIns := [], harness := (true, "8c35e40d37b6dc0963a1fe5f2f9735a85e6e5f3629c165367586884cc08b88d6"), looks := false }, kinds := [], alts := [], laidByText := true, laidKinds := [.data, .pinned], laidTests := true, laidLooks := .later }
def SolidEqualUptoCardSaid : Prop := Claim7.holds Tryz.pinned (.plain (OpenSpec.upto solidEqualSpec)) solidEqualUptoCard

/-- THE SECOND FORM's CARD OF 'culetlaw07.SolidPlanes'. -/
def solidPlanesUptoCard : Claim7 := { stood := { row := solidPlanesUptoRow, standIns := [], harness := (true, "8c35e40d37b6dc0963a1fe5f2f9735a85e6e5f3629c165367586884cc08b88d6"), looks := false }, kinds := [], alts := [], laidByText := true, laidKinds := [.data, .pinned], laidTests := true, laidLooks := .later }
def SolidPlanesUptoCardSaid : Prop := Claim7.holds Tryz.pinned (.plain (OpenSpec.upto solidPlanesSpec)) solidPlanesUptoCard
end Rows
end Go.Proofs.YthccllenbnhogaaGreatDoor
