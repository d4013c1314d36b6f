/-
  DERIVED. GIVEN WITH THE SEED: THE CARDS: each row of YtmocejjfkdcgkaaGreatDoorRows.lean that lists a variable, with what it lists TIED to the program's text (the seventh form; the later family's looks); each row that meets fmt, with fmt's text TOLD by the authors' own Lean function (tested against real Go, not proved from fmt's source: count such statements apart). THE CARD IS WHAT COUNTS. Prove the row's statement (the work); the ties are given (YtmocejjfkdcgkaaGreatDoorTie.lean); close each card by the builder's one call (the guide's Derived/Test/ToyasCard.lean, 'card_holds'). Laid BY PROGRAM, IN A SANDBOX (cutbox-door.mjs). By AI agents, Wed Nov 11 2026. No macro, syntax, notation, axiom, sorry.
-/
import Derived.Test.YtmocejjfkdcgkaaGreatDoorRows
import GoSem.ClaimSeven
namespace Go.Proofs.YtmocejjfkdcgkaaGreatDoor
namespace Rows

/-- THE TIED CARD OF 'culetlaw09.MeasureWeights'. -/
def measureWeightsCard : Claim7 := { stood := { row := measureWeightsRow, standIns := [], harness := (true, "e50f4d8f87ed51751fac4ce526f3a7360e4d4c55b771a5576265ad7962f757ce"), looks := false }, kinds := [], alts := [], laidByText := true, laidKinds := [.data, .pinned], laidTests := true, laidLooks := .later }
def MeasureWeightsCardSaid : Prop := Claim7.holds Tryz.pinned (.plain (OpenSpec.ofChange measureWeightsSpec)) measureWeightsCard

/-- THE TIED CARD OF 'culetlaw09.MeasureVolume'. -/
def measureVolumeCard : Claim7 := { stood := { row := measureVolumeRow, standIns := [], harness := (true, "e50f4d8f87ed51751fac4ce526f3a7360e4d4c55b771a5576265ad7962f757ce"), looks := false }, kinds := [], alts := [], laidByText := true, laidKinds := [.data, .pinned], laidTests := true, laidLooks := .later }
def MeasureVolumeCardSaid : Prop := Claim7.holds Tryz.pinned (.plain (OpenSpec.ofChange measureVolumeSpec)) measureVolumeCard

/-- THE TIED CARD OF 'culetlaw09.MeasureClosed'. -/
def measureClosedCard : Claim7 := { stood := { row := measureClosedRow, standIns := [], harness := (true, "e50f4d8f87ed51751fac4ce526f3a7360e4d4c55b771a5576265ad7962f757ce"), looks := false }, kinds := [], alts := [], laidByText := true, laidKinds := [.data, .pinned], laidTests := true, laidLooks := .later }
def MeasureClosedCardSaid : Prop := Claim7.holds Tryz.pinned (.plain (OpenSpec.ofChange measureClosedSpec)) measureClosedCard

/-- THE TIED CARD OF 'culetlaw09.MeasureInside'. -/
def measureInsideCard : Claim7 := { stood := { row := measureInsideRow, standIns := [], harness := (true, "e50f4d8f87ed51751fac4ce526f3a7360e4d4c55b771a5576265ad7962f757ce"), looks := false }, kinds := [], alts := [], laidByText := true, laidKinds := [.data, .pinned], laidTests := true, laidLooks := .later }
def MeasureInsideCardSaid : Prop := Claim7.holds Tryz.pinned (.plain (OpenSpec.ofChange measureInsideSpec)) measureInsideCard

/-- THE SECOND FORM's CARD OF 'culetlaw09.MeasureWeights'. -/
def measureWeightsUptoCard : Claim7 := { stood := { row := measureWeightsUptoRow, standIns := [], harness := (true, "e50f4d8f87ed51751fac4ce526f3a7360e4d4c55b771a5576265ad7962f757ce"), looks := false }, kinds := [], alts := [], laidByText := true, laidKinds := [.data, .pinned], laidTests := true, laidLooks := .later }
def MeasureWeightsUptoCardSaid : Prop := Claim7.holds Tryz.pinned (.plain (OpenSpec.upto measureWeightsSpec)) measureWeightsUptoCard

/-- THE SECOND FORM's CARD OF 'culetlaw09.MeasureVolume'. -/
def measureVolumeUptoCard : Claim7 := { stood := { row := measureVolumeUptoRow, standIns := [], harness := (true, "e50f4d8f87ed51751fac4ce526f3a7360e4d4c55b771a5576265ad7962f757ce"), looks := false }, kinds := [], alts := [], laidByText := true, laidKinds := [.data, .pinned], laidTests := true, laidLooks := .later }
def MeasureVolumeUptoCardSaid : Prop := Claim7.holds Tryz.pinned (.plain (OpenSpec.upto measureVolumeSpec)) measureVolumeUptoCard

/-- THE SECOND FORM's CARD OF 'culetlaw09.MeasureClosed'. -/
def measureClosedUptoCard : Claim7 := { stood := { row := measureClosedUptoRow, standIns := [], harness := (true, "e50f4d8f87ed51751fac4ce526f3a7360e4d4c55b771a5576265ad7962f757ce"), looks := false }, kinds := [], alts := [], laidByText := true, laidKinds := [.data, .pinned], laidTests := true, laidLooks := .later }
def MeasureClosedUptoCardSaid : Prop := Claim7.holds Tryz.pinned (.plain (OpenSpec.upto measureClosedSpec)) measureClosedUptoCard

/-- THE SECOND FORM's CARD OF 'culetlaw09.MeasureInside'. -/
def measureInsideUptoCard : Claim7 := { stood := { row := measureInsideUptoRow, standIns := [], harness := (true, "e50f4d8f87ed51751fac4ce526f3a7360e4d4c55b771a5576265ad7962f757ce"), looks := false }, kinds := [], alts := [], laidByText := true, laidKinds := [.data, .pinned], laidTests := true, laidLooks := .later }
def MeasureInsideUptoCardSaid : Prop := Claim7.holds Tryz.pinned (.plain (OpenSpec.upto measureInsideSpec)) measureInsideUptoCard
end Rows
end Go.Proofs.YtmocejjfkdcgkaaGreatDoor
