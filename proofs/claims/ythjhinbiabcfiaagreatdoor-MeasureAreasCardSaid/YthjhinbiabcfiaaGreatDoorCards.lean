/-
  DERIVED. GIVEN WITH THE SEED: THE CARDS: each row of YthjhinbiabcfiaaGreatDoorRows.lean that lists a variable, with what it lists TIED to the program's text (the seventh form; the later family's looks); each row that meets fmt, with fmt's text TOLD by the authors' own Lean function (tested against real Go, not proved from fmt's source: count such statements apart). THE CARD IS WHAT COUNTS. Prove the row's statement (the work); the ties are given (YthjhinbiabcfiaaGreatDoorTie.lean); close each card by the builder's one call (the guide's Derived/Test/ToyasCard.lean, 'card_holds'). Laid BY PROGRAM, IN A SANDBOX (cutbox-door.mjs). By AI agents, Wed Nov 11 2026. No macro, syntax, notation, axiom, sorry.
-/
import Derived.Test.YthjhinbiabcfiaaGreatDoorRows
import GoSem.ClaimSeven
namespace Go.Proofs.YthjhinbiabcfiaaGreatDoor
namespace Rows

/-- THE TIED CARD OF 'culetlaw09.MeasureVolume'. -/
def measureVolumeCard : Claim7 := { stood := { row := measureVolumeRow, standIns := [], harness := (true, "fbcef3a38d9335e357967450951aa977ba242fabac79032469861f11ee02fed7"), looks := false }, kinds := [], alts := [], laidByText := true, laidKinds := [.data, .pinned], laidTests := true, laidLooks := .later }
def MeasureVolumeCardSaid : Prop := Claim7.holds Tryz.pinned (.plain (OpenSpec.ofChange measureVolumeSpec)) measureVolumeCard

/-- THE TIED CARD OF 'culetlaw09.MeasureClosed'. -/
def measureClosedCard : Claim7 := { stood := { row := measureClosedRow, standIns := [], harness := (true, "fbcef3a38d9335e357967450951aa977ba242fabac79032469861f11ee02fed7"), looks := false }, kinds := [], alts := [], laidByText := true, laidKinds := [.data, .pinned], laidTests := true, laidLooks := .later }
def MeasureClosedCardSaid : Prop := Claim7.holds Tryz.pinned (.plain (OpenSpec.ofChange measureClosedSpec)) measureClosedCard

/-- THE TIED CARD OF 'culetlaw09.MeasureAreas'. -/
def measureAreasCard : Claim7 := { stood := { row := measureAreasRow, standIns := [], harness := (true, "fbcef3a38d9335e357967450951aa977ba242fabac79032469861f11ee02fed7"), looks := false }, kinds := [], alts := [], laidByText := true, laidKinds := [.data, .pinned], laidTests := true, laidLooks := .later }
def MeasureAreasCardSaid : Prop := Claim7.holds Tryz.pinned (.plain (OpenSpec.ofChange measureAreasSpec)) measureAreasCard

/-- THE SECOND FORM's CARD OF 'culetlaw09.MeasureVolume'. -/
def measureVolumeUptoCard : Claim7 := { stood := { row := measureVolumeUptoRow, standIns := [], harness := (true, "fbcef3a38d9335e357967450951aa977ba242fabac79032469861f11ee02fed7"), looks := false }, kinds := [], alts := [], laidByText := true, laidKinds := [.data, .pinned], laidTests := true, laidLooks := .later }
def MeasureVolumeUptoCardSaid : Prop := Claim7.holds Tryz.pinned (.plain (OpenSpec.upto measureVolumeSpec)) measureVolumeUptoCard

/-- THE SECOND FORM's CARD OF 'culetlaw09.MeasureClosed'. -/
def measureClosedUptoCard : Claim7 := { stood := { row := measureClosedUptoRow, standIns := [], harness := (true, "fbcef3a38d9335e357967450951aa977ba242fabac79032469861f11ee02fed7"), looks := false }, kinds := [], alts := [], laidByText := true, laidKinds := [.data, .pinned], laidTests := true, laidLooks := .later }
def MeasureClosedUptoCardSaid : Prop := Claim7.holds Tryz.pinned (.plain (OpenSpec.upto measureClosedSpec)) measureClosedUptoCard

/-- THE SECOND FORM's CARD OF 'culetlaw09.MeasureAreas'. -/
def measureAreasUptoCard : Claim7 := { stood := { row := measureAreasUptoRow, standIns := [], harness := (true, "fbcef3a38d9335e357967450951aa977ba242fabac79032469861f11ee02fed7"), looks := false }, kinds := [], alts := [], laidByText := true, laidKinds := [.data, .pinned], laidTests := true, laidLooks := .later }
def MeasureAreasUptoCardSaid : Prop := Claim7.holds Tryz.pinned (.plain (OpenSpec.upto measureAreasSpec)) measureAreasUptoCard
end Rows
end Go.Proofs.YthjhinbiabcfiaaGreatDoor
