/-
  DERIVED. GIVEN WITH THE SEED: THE CARDS: each row of YtkphnlnphenphaaDoorRows.lean that lists a variable, with what it lists TIED to the program's text (the seventh form; the later family's looks); each row that meets fmt, with fmt's text TOLD by the authors' own Lean function (tested against real Go, not proved from fmt's source: count such statements apart). THE CARD IS WHAT COUNTS. Prove the row's statement (the work); the ties are given (YtkphnlnphenphaaDoorTie.lean); close each card by the builder's one call (the guide's Derived/Test/ToyasCard.lean, 'card_holds'). Laid BY PROGRAM, IN A SANDBOX (cutbox-door.mjs). By AI agents, Wed Nov 11 2026. No macro, syntax, notation, axiom, sorry.
-/
import Derived.Test.YtkphnlnphenphaaDoorRows
import GoSem.ClaimSeven
namespace Go.Proofs.YtkphnlnphenphaaDoor
namespace Rows

/-- THE TIED CARD OF 'apostillelaw07.DocForms'. -/
def docFormsCard : Claim7 := { stood := { row := docFormsRow, standIns := [], harness := (true, "109a223350943c36723805e8d4c96acec907add78e95fbf53c139b5785f6a4ab"), looks := false }, kinds := [], alts := [], laidByText := true, laidKinds := [.data, .pinned], laidTests := true, laidLooks := .later }
def DocFormsCardSaid : Prop := Claim7.holds Tryd.pinned (.plain (OpenSpec.ofChange docFormsSpec)) docFormsCard

/-- THE TIED CARD OF 'apostillelaw07.DocMore'. -/
def docMoreCard : Claim7 := { stood := { row := docMoreRow, standIns := [], harness := (true, "109a223350943c36723805e8d4c96acec907add78e95fbf53c139b5785f6a4ab"), looks := false }, kinds := [], alts := [], laidByText := true, laidKinds := [.data, .pinned], laidTests := true, laidLooks := .later }
def DocMoreCardSaid : Prop := Claim7.holds Tryd.pinned (.plain (OpenSpec.ofChange docMoreSpec)) docMoreCard

/-- THE TIED CARD OF 'apostillelaw07.DocOwn'. -/
def docOwnCard : Claim7 := { stood := { row := docOwnRow, standIns := [], harness := (true, "109a223350943c36723805e8d4c96acec907add78e95fbf53c139b5785f6a4ab"), looks := false }, kinds := [], alts := [], laidByText := true, laidKinds := [.data, .pinned], laidTests := true, laidLooks := .later }
def DocOwnCardSaid : Prop := Claim7.holds Tryd.pinned (.plain (OpenSpec.ofChange docOwnSpec)) docOwnCard

/-- THE TIED CARD OF 'apostillelaw07.DocParts'. -/
def docPartsCard : Claim7 := { stood := { row := docPartsRow, standIns := [], harness := (true, "109a223350943c36723805e8d4c96acec907add78e95fbf53c139b5785f6a4ab"), looks := false }, kinds := [], alts := [], laidByText := true, laidKinds := [.data, .pinned], laidTests := true, laidLooks := .later }
def DocPartsCardSaid : Prop := Claim7.holds Tryd.pinned (.plain (OpenSpec.ofChange docPartsSpec)) docPartsCard

/-- THE TIED CARD OF 'apostillelaw07.DocTells'. -/
def docTellsCard : Claim7 := { stood := { row := docTellsRow, standIns := [], harness := (true, "109a223350943c36723805e8d4c96acec907add78e95fbf53c139b5785f6a4ab"), looks := false }, kinds := [], alts := [], laidByText := true, laidKinds := [.data, .pinned], laidTests := true, laidLooks := .later }
def DocTellsCardSaid : Prop := Claim7.holds Tryd.pinned (.plain (OpenSpec.ofChange docTellsSpec)) docTellsCard

/-- THE TIED CARD OF 'apostillelaw07.DocNil'. -/
def docNilCard : Claim7 := { stood := { row := docNilRow, standIns := [], harness := (true, "109a223350943c36723805e8d4c96acec907add78e95fbf53c139b5785f6a4ab"), looks := false }, kinds := [], alts := [], laidByText := true, laidKinds := [.data, .pinned], laidTests := true, laidLooks := .later }
def DocNilCardSaid : Prop := Claim7.holds Tryd.pinned (.plain (OpenSpec.ofChange docNilSpec)) docNilCard

/-- THE SECOND FORM's CARD OF 'apostillelaw07.DocForms'. -/
def docFormsUptoCard : Claim7 := { stood := { row := docFormsUptoRow, standIns := [], harness := (true, "109a223350943c36723805e8d4c96acec907add78e95fbf53c139b5785f6a4ab"), looks := false }, kinds := [], alts := [], laidByText := true, laidKinds := [.data, .pinned], laidTests := true, laidLooks := .later }
def DocFormsUptoCardSaid : Prop := Claim7.holds Tryd.pinned (.plain (OpenSpec.upto docFormsSpec)) docFormsUptoCard

/-- THE SECOND FORM's CARD OF 'apostillelaw07.DocMore'. -/
def docMoreUptoCard : Claim7 := { stood := { row := docMoreUptoRow, standIns := [], harness := (true, "109a223350943c36723805e8d4c96acec907add78e95fbf53c139b5785f6a4ab"), looks := false }, kinds := [], alts := [], laidByText := true, laidKinds := [.data, .pinned], laidTests := true, laidLooks := .later }
def DocMoreUptoCardSaid : Prop := Claim7.holds Tryd.pinned (.plain (OpenSpec.upto docMoreSpec)) docMoreUptoCard

/-- THE SECOND FORM's CARD OF 'apostillelaw07.DocOwn'. -/
def docOwnUptoCard : Claim7 := { stood := { row := docOwnUptoRow, standIns := [], harness := (true, "109a223350943c36723805e8d4c96acec907add78e95fbf53c139b5785f6a4ab"), looks := false }, kinds := [], alts := [], laidByText := true, laidKinds := [.data, .pinned], laidTests := true, laidLooks := .later }
def DocOwnUptoCardSaid : Prop := Claim7.holds Tryd.pinned (.plain (OpenSpec.upto docOwnSpec)) docOwnUptoCard

/-- THE SECOND FORM's CARD OF 'apostillelaw07.DocParts'. -/
def docPartsUptoCard : Claim7 := { stood := { row := docPartsUptoRow, standIns := [], harness := (true, "109a223350943c36723805e8d4c96acec907add78e95fbf53c139b5785f6a4ab"), looks := false }, kinds := [], alts := [], laidByText := true, laidKinds := [.data, .pinned], laidTests := true, laidLooks := .later }
def DocPartsUptoCardSaid : Prop := Claim7.holds Tryd.pinned (.plain (OpenSpec.upto docPartsSpec)) docPartsUptoCard

/-- THE SECOND FORM's CARD OF 'apostillelaw07.DocTells'. -/
def docTellsUptoCard : Claim7 := { stood := { row := docTellsUptoRow, standIns := [], harness := (true, "109a223350943c36723805e8d4c96acec907add78e95fbf53c139b5785f6a4ab"), looks := false }, kinds := [], alts := [], laidByText := true, laidKinds := [.data, .pinned], laidTests := true, laidLooks := .later }
def DocTellsUptoCardSaid : Prop := Claim7.holds Tryd.pinned (.plain (OpenSpec.upto docTellsSpec)) docTellsUptoCard

/-- THE SECOND FORM's CARD OF 'apostillelaw07.DocNil'. -/
def docNilUptoCard : Claim7 := { stood := { row := docNilUptoRow, standIns := [], harness := (true, "109a223350943c36723805e8d4c96acec907add78e95fbf53c139b5785f6a4ab"), looks := false }, kinds := [], alts := [], laidByText := true, laidKinds := [.data, .pinned], laidTests := true, laidLooks := .later }
def DocNilUptoCardSaid : Prop := Claim7.holds Tryd.pinned (.plain (OpenSpec.upto docNilSpec)) docNilUptoCard
end Rows
end Go.Proofs.YtkphnlnphenphaaDoor
