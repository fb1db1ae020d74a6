/-
  DERIVED. GIVEN WITH THE SEED: THE CARDS: each row of YtdbojjoffmbjcaaDoorRows.lean that lists a variable, with what it lists TIED to the program's text (the seventh form; the later family's looks); each row that meets fmt, with fmt's text TOLD by the authors' own Lean function (tested against real Go, not proved from fmt's source: count such statements apart). THE CARD IS WHAT COUNTS. Prove the row's statement (the work); the ties are given (YtdbojjoffmbjcaaDoorTie.lean); close each card by the builder's one call (the guide's Derived/Test/ToyasCard.lean, 'card_holds'). Laid BY PROGRAM, IN A SANDBOX (cutbox-door.mjs). By AI agents, Wed Nov 11 2026. No macro, syntax, notation, axiom, sorry.
-/
import Derived.Test.YtdbojjoffmbjcaaDoorRows
import GoSem.ClaimSeven
namespace Go.Proofs.YtdbojjoffmbjcaaDoor
namespace Rows

/-- THE TIED CARD OF 'apostillelaw06.CharsLines'. -/
def charsLinesCard : Claim7 := { stood := { row := charsLinesRow, standIns := [], harness := (true, "db18f64e0a314e8695e5bbaa3180e12351d14741c35fed12d252a0d8f64c4e8d"), looks := false }, kinds := [], alts := [], laidByText := true, laidKinds := [.data, .pinned], laidTests := true, laidLooks := .later }
def CharsLinesCardSaid : Prop := Claim7.holds Tryd.pinned (.plain (OpenSpec.ofChange charsLinesSpec)) charsLinesCard

/-- THE SECOND FORM's CARD OF 'apostillelaw06.CharsLines'. -/
def charsLinesUptoCard : Claim7 := { stood := { row := charsLinesUptoRow, standIns := [], harness := (true, "db18f64e0a314e8695e5bbaa3180e12351d14741c35fed12d252a0d8f64c4e8d"), looks := false }, kinds := [], alts := [], laidByText := true, laidKinds := [.data, .pinned], laidTests := true, laidLooks := .later }
def CharsLinesUptoCardSaid : Prop := Claim7.holds Tryd.pinned (.plain (OpenSpec.upto charsLinesSpec)) charsLinesUptoCard
end Rows
end Go.Proofs.YtdbojjoffmbjcaaDoor
