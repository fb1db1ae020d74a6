/-
  DERIVED. GIVEN WITH THE SEED: THE CARDS: each row of YtdbojjoffmbjcaaGreatDoorRows.lean that lists a variable, with what it lists TIED to the program's text (the seventh form; the later family's looks); each row that meets fmt, with fmt's text TOLD by the authors' own Lean function (tested against real Go, not proved from fmt's source: count such statements apart). THE CARD IS WHAT COUNTS. Prove the row's statement (the work); the ties are given (YtdbojjoffmbjcaaGreatDoorTie.lean); close each card by the builder's one call (the guide's Derived/Test/ToyasCard.lean, 'card_holds'). Laid BY PROGRAM, IN A SANDBOX (cutbox-door.mjs). By AI agents, Wed Nov 11 2026. No macro, syntax, notation, axiom, sorry.
-/
import Derived.Test.YtdbojjoffmbjcaaGreatDoorRows
import GoSem.ClaimSeven
namespace Go.Proofs.YtdbojjoffmbjcaaGreatDoor
namespace Rows

/-- THE TIED CARD OF 'apostillelaw06.CharsReads'. -/
def charsReadsCard : Claim7 := { stood := { row := charsReadsRow, standIns := [], harness := (true, "acad9c3e6940b0d0887e13e9605bc3152bf17cfc4368c278d2c06d52f8f27c20"), looks := true }, kinds := [], alts := [], laidByText := true, laidKinds := [.data, .pinned], laidTests := true, laidLooks := .later }
def CharsReadsCardSaid : Prop := Claim7.holds Tryz.pinned (.plain (OpenSpec.ofChange charsReadsSpec)) charsReadsCard

/-- THE TIED CARD OF 'apostillelaw06.CharsParts'. -/
def charsPartsCard : Claim7 := { stood := { row := charsPartsRow, standIns := [], harness := (true, "acad9c3e6940b0d0887e13e9605bc3152bf17cfc4368c278d2c06d52f8f27c20"), looks := true }, kinds := [], alts := [], laidByText := true, laidKinds := [.data, .pinned], laidTests := true, laidLooks := .later }
def CharsPartsCardSaid : Prop := Claim7.holds Tryz.pinned (.plain (OpenSpec.ofChange charsPartsSpec)) charsPartsCard

/-- THE TIED CARD OF 'apostillelaw06.CharsNumbers'. -/
def charsNumbersCard : Claim7 := { stood := { row := charsNumbersRow, standIns := [], harness := (true, "acad9c3e6940b0d0887e13e9605bc3152bf17cfc4368c278d2c06d52f8f27c20"), looks := true }, kinds := [], alts := [], laidByText := true, laidKinds := [.data, .pinned], laidTests := true, laidLooks := .later }
def CharsNumbersCardSaid : Prop := Claim7.holds Tryz.pinned (.plain (OpenSpec.ofChange charsNumbersSpec)) charsNumbersCard

/-- THE SECOND FORM's CARD OF 'apostillelaw06.CharsReads'. -/
def charsReadsUptoCard : Claim7 := { stood := { row := charsReadsUptoRow, standIns := [], harness := (true, "acad9c3e6940b0d0887e13e9605bc3152bf17cfc4368c278d2c06d52f8f27c20"), looks := true }, kinds := [], alts := [], laidByText := true, laidKinds := [.data, .pinned], laidTests := true, laidLooks := .later }
def CharsReadsUptoCardSaid : Prop := Claim7.holds Tryz.pinned (.plain (OpenSpec.upto charsReadsSpec)) charsReadsUptoCard

/-- THE SECOND FORM's CARD OF 'apostillelaw06.CharsParts'. -/
def charsPartsUptoCard : Claim7 := { stood := { row := charsPartsUptoRow, standIns := [], harness := (true, "acad9c3e6940b0d0887e13e9605bc3152bf17cfc4368c278d2c06d52f8f27c20"), looks := true }, kinds := [], alts := [], laidByText := true, laidKinds := [.data, .pinned], laidTests := true, laidLooks := .later }
def CharsPartsUptoCardSaid : Prop := Claim7.holds Tryz.pinned (.plain (OpenSpec.upto charsPartsSpec)) charsPartsUptoCard

/-- THE SECOND FORM's CARD OF 'apostillelaw06.CharsNumbers'. -/
def charsNumbersUptoCard : Claim7 := { stood := { row := charsNumbersUptoRow, standIns := [], harness := (true, "acad9c3e6940b0d0887e13e9605bc3152bf17cfc4368c278d2c06d52f8f27c20"), looks := true }, kinds := [], alts := [], laidByText := true, laidKinds := [.data, .pinned], laidTests := true, laidLooks := .later }
def CharsNumbersUptoCardSaid : Prop := Claim7.holds Tryz.pinned (.plain (OpenSpec.upto charsNumbersSpec)) charsNumbersUptoCard
end Rows
end Go.Proofs.YtdbojjoffmbjcaaGreatDoor
