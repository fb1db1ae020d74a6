/-
  DERIVED. GIVEN WITH THE SEED: THE CARDS: each row of YtmjjdljhchfblaaDoorRows.lean that lists a variable, with what it lists TIED to the program's text (the seventh form; the later family's looks); each row that meets fmt, with fmt's text TOLD by the authors' own Lean function (tested against real Go, not proved from fmt's source: count such statements apart). THE CARD IS WHAT COUNTS. Prove the row's statement (the work); the ties are given (YtmjjdljhchfblaaDoorTie.lean); close each card by the builder's one call (the guide's Derived/Test/ToyasCard.lean, 'card_holds'). Laid BY PROGRAM, IN A SANDBOX (cutbox-door.mjs). By AI agents, Wed Nov 11 2026. No macro, syntax, notation, axiom, sorry.
-/
import Derived.Test.YtmjjdljhchfblaaDoorRows
import GoSem.ClaimSeven
namespace Go.Proofs.YtmjjdljhchfblaaDoor
namespace Rows

/-- THE TIED CARD OF 'apostillelaw01.UtfXml'. -/
def utfXmlCard : Claim7 := { stood := { row := utfXmlRow, standIns := [], harness := (true, "02d347e3be5bfbaca349afba323ffd1975ed45e63fe752bb00a35a15b4b9c728"), looks := false }, kinds := [], alts := [], laidByText := true, laidKinds := [.data, .pinned], laidTests := true, laidLooks := .later }
def UtfXmlCardSaid : Prop := Claim7.holds Tryd.pinned (.plain (OpenSpec.ofChange utfXmlSpec)) utfXmlCard

/-- THE TIED CARD OF 'apostillelaw01.UtfCuts'. -/
def utfCutsCard : Claim7 := { stood := { row := utfCutsRow, standIns := [], harness := (true, "02d347e3be5bfbaca349afba323ffd1975ed45e63fe752bb00a35a15b4b9c728"), looks := false }, kinds := [], alts := [], laidByText := true, laidKinds := [.data, .pinned], laidTests := true, laidLooks := .later }
def UtfCutsCardSaid : Prop := Claim7.holds Tryd.pinned (.plain (OpenSpec.ofChange utfCutsSpec)) utfCutsCard

/-- THE TIED CARD OF 'apostillelaw01.UtfWrites'. -/
def utfWritesCard : Claim7 := { stood := { row := utfWritesRow, standIns := [], harness := (true, "02d347e3be5bfbaca349afba323ffd1975ed45e63fe752bb00a35a15b4b9c728"), looks := false }, kinds := [], alts := [], laidByText := true, laidKinds := [.data, .pinned], laidTests := true, laidLooks := .later }
def UtfWritesCardSaid : Prop := Claim7.holds Tryd.pinned (.plain (OpenSpec.ofChange utfWritesSpec)) utfWritesCard

/-- THE TIED CARD OF 'apostillelaw01.UtfJoins'. -/
def utfJoinsCard : Claim7 := { stood := { row := utfJoinsRow, standIns := [], harness := (true, "02d347e3be5bfbaca349afba323ffd1975ed45e63fe752bb00a35a15b4b9c728"), looks := false }, kinds := [], alts := [], laidByText := true, laidKinds := [.data, .pinned], laidTests := true, laidLooks := .later }
def UtfJoinsCardSaid : Prop := Claim7.holds Tryd.pinned (.plain (OpenSpec.ofChange utfJoinsSpec)) utfJoinsCard

/-- THE TIED CARD OF 'apostillelaw01.UtfReads'. -/
def utfReadsCard : Claim7 := { stood := { row := utfReadsRow, standIns := [], harness := (true, "02d347e3be5bfbaca349afba323ffd1975ed45e63fe752bb00a35a15b4b9c728"), looks := false }, kinds := [], alts := [], laidByText := true, laidKinds := [.data, .pinned], laidTests := true, laidLooks := .later }
def UtfReadsCardSaid : Prop := Claim7.holds Tryd.pinned (.plain (OpenSpec.ofChange utfReadsSpec)) utfReadsCard

/-- THE TIED CARD OF 'apostillelaw05.NameStands'. -/
def nameStandsCard : Claim7 := { stood := { row := nameStandsRow, standIns := [], harness := (true, "02d347e3be5bfbaca349afba323ffd1975ed45e63fe752bb00a35a15b4b9c728"), looks := false }, kinds := [], alts := [], laidByText := true, laidKinds := [.data, .pinned], laidTests := true, laidLooks := .later }
def NameStandsCardSaid : Prop := Claim7.holds Tryd.pinned (.plain (OpenSpec.ofChange nameStandsSpec)) nameStandsCard

/-- THE TIED CARD OF 'apostillelaw05.NameIs'. -/
def nameIsCard : Claim7 := { stood := { row := nameIsRow, standIns := [], harness := (true, "02d347e3be5bfbaca349afba323ffd1975ed45e63fe752bb00a35a15b4b9c728"), looks := false }, kinds := [], alts := [], laidByText := true, laidKinds := [.data, .pinned], laidTests := true, laidLooks := .later }
def NameIsCardSaid : Prop := Claim7.holds Tryd.pinned (.plain (OpenSpec.ofChange nameIsSpec)) nameIsCard

/-- THE TIED CARD OF 'apostillelaw05.NameJoins'. -/
def nameJoinsCard : Claim7 := { stood := { row := nameJoinsRow, standIns := [], harness := (true, "02d347e3be5bfbaca349afba323ffd1975ed45e63fe752bb00a35a15b4b9c728"), looks := false }, kinds := [], alts := [], laidByText := true, laidKinds := [.data, .pinned], laidTests := true, laidLooks := .later }
def NameJoinsCardSaid : Prop := Claim7.holds Tryd.pinned (.plain (OpenSpec.ofChange nameJoinsSpec)) nameJoinsCard

/-- THE TIED CARD OF 'apostillelaw05.NameTrims'. -/
def nameTrimsCard : Claim7 := { stood := { row := nameTrimsRow, standIns := [], harness := (true, "02d347e3be5bfbaca349afba323ffd1975ed45e63fe752bb00a35a15b4b9c728"), looks := false }, kinds := [], alts := [], laidByText := true, laidKinds := [.data, .pinned], laidTests := true, laidLooks := .later }
def NameTrimsCardSaid : Prop := Claim7.holds Tryd.pinned (.plain (OpenSpec.ofChange nameTrimsSpec)) nameTrimsCard

/-- THE TIED CARD OF 'apostillelaw05.NameShorter'. -/
def nameShorterCard : Claim7 := { stood := { row := nameShorterRow, standIns := [], harness := (true, "02d347e3be5bfbaca349afba323ffd1975ed45e63fe752bb00a35a15b4b9c728"), looks := false }, kinds := [], alts := [], laidByText := true, laidKinds := [.data, .pinned], laidTests := true, laidLooks := .later }
def NameShorterCardSaid : Prop := Claim7.holds Tryd.pinned (.plain (OpenSpec.ofChange nameShorterSpec)) nameShorterCard

/-- THE SECOND FORM's CARD OF 'apostillelaw01.UtfXml'. -/
def utfXmlUptoCard : Claim7 := { stood := { row := utfXmlUptoRow, standIns := [], harness := (true, "02d347e3be5bfbaca349afba323ffd1975ed45e63fe752bb00a35a15b4b9c728"), looks := false }, kinds := [], alts := [], laidByText := true, laidKinds := [.data, .pinned], laidTests := true, laidLooks := .later }
def UtfXmlUptoCardSaid : Prop := Claim7.holds Tryd.pinned (.plain (OpenSpec.upto utfXmlSpec)) utfXmlUptoCard

/-- THE SECOND FORM's CARD OF 'apostillelaw01.UtfCuts'. -/
def utfCutsUptoCard : Claim7 := { stood := { row := utfCutsUptoRow, standIns := [], harness := (true, "02d347e3be5bfbaca349afba323ffd1975ed45e63fe752bb00a35a15b4b9c728"), looks := false }, kinds := [], alts := [], laidByText := true, laidKinds := [.data, .pinned], laidTests := true, laidLooks := .later }
def UtfCutsUptoCardSaid : Prop := Claim7.holds Tryd.pinned (.plain (OpenSpec.upto utfCutsSpec)) utfCutsUptoCard

/-- THE SECOND FORM's CARD OF 'apostillelaw01.UtfWrites'. -/
def utfWritesUptoCard : Claim7 := { stood := { row := utfWritesUptoRow, standIns := [], harness := (true, "02d347e3be5bfbaca349afba323ffd1975ed45e63fe752bb00a35a15b4b9c728"), looks := false }, kinds := [], alts := [], laidByText := true, laidKinds := [.data, .pinned], laidTests := true, laidLooks := .later }
def UtfWritesUptoCardSaid : Prop := Claim7.holds Tryd.pinned (.plain (OpenSpec.upto utfWritesSpec)) utfWritesUptoCard

/-- THE SECOND FORM's CARD OF 'apostillelaw01.UtfJoins'. -/
def utfJoinsUptoCard : Claim7 := { stood := { row := utfJoinsUptoRow, standIns := [], harness := (true, "02d347e3be5bfbaca349afba323ffd1975ed45e63fe752bb00a35a15b4b9c728"), looks := false }, kinds := [], alts := [], laidByText := true, laidKinds := [.data, .pinned], laidTests := true, laidLooks := .later }
def UtfJoinsUptoCardSaid : Prop := Claim7.holds Tryd.pinned (.plain (OpenSpec.upto utfJoinsSpec)) utfJoinsUptoCard

/-- THE SECOND FORM's CARD OF 'apostillelaw01.UtfReads'. -/
def utfReadsUptoCard : Claim7 := { stood := { row := utfReadsUptoRow, standIns := [], harness := (true, "02d347e3be5bfbaca349afba323ffd1975ed45e63fe752bb00a35a15b4b9c728"), looks := false }, kinds := [], alts := [], laidByText := true, laidKinds := [.data, .pinned], laidTests := true, laidLooks := .later }
def UtfReadsUptoCardSaid : Prop := Claim7.holds Tryd.pinned (.plain (OpenSpec.upto utfReadsSpec)) utfReadsUptoCard

/-- THE SECOND FORM's CARD OF 'apostillelaw05.NameStands'. -/
def nameStandsUptoCard : Claim7 := { stood := { row := nameStandsUptoRow, standIns := [], harness := (true, "02d347e3be5bfbaca349afba323ffd1975ed45e63fe752bb00a35a15b4b9c728"), looks := false }, kinds := [], alts := [], laidByText := true, laidKinds := [.data, .pinned], laidTests := true, laidLooks := .later }
def NameStandsUptoCardSaid : Prop := Claim7.holds Tryd.pinned (.plain (OpenSpec.upto nameStandsSpec)) nameStandsUptoCard

/-- THE SECOND FORM's CARD OF 'apostillelaw05.NameIs'. -/
def nameIsUptoCard : Claim7 := { stood := { row := nameIsUptoRow, standIns := [], harness := (true, "02d347e3be5bfbaca349afba323ffd1975ed45e63fe752bb00a35a15b4b9c728"), looks := false }, kinds := [], alts := [], laidByText := true, laidKinds := [.data, .pinned], laidTests := true, laidLooks := .later }
def NameIsUptoCardSaid : Prop := Claim7.holds Tryd.pinned (.plain (OpenSpec.upto nameIsSpec)) nameIsUptoCard

/-- THE SECOND FORM's CARD OF 'apostillelaw05.NameJoins'. -/
def nameJoinsUptoCard : Claim7 := { stood := { row := nameJoinsUptoRow, standIns := [], harness := (true, "02d347e3be5bfbaca349afba323ffd1975ed45e63fe752bb00a35a15b4b9c728"), looks := false }, kinds := [], alts := [], laidByText := true, laidKinds := [.data, .pinned], laidTests := true, laidLooks := .later }
def NameJoinsUptoCardSaid : Prop := Claim7.holds Tryd.pinned (.plain (OpenSpec.upto nameJoinsSpec)) nameJoinsUptoCard

/-- THE SECOND FORM's CARD OF 'apostillelaw05.NameTrims'. -/
def nameTrimsUptoCard : Claim7 := { stood := { row := nameTrimsUptoRow, standIns := [], harness := (true, "02d347e3be5bfbaca349afba323ffd1975ed45e63fe752bb00a35a15b4b9c728"), looks := false }, kinds := [], alts := [], laidByText := true, laidKinds := [.data, .pinned], laidTests := true, laidLooks := .later }
def NameTrimsUptoCardSaid : Prop := Claim7.holds Tryd.pinned (.plain (OpenSpec.upto nameTrimsSpec)) nameTrimsUptoCard

/-- THE SECOND FORM's CARD OF 'apostillelaw05.NameShorter'. -/
def nameShorterUptoCard : Claim7 := { stood := { row := nameShorterUptoRow, standIns := [], harness := (true, "02d347e3be5bfbaca349afba323ffd1975ed45e63fe752bb00a35a15b4b9c728"), looks := false }, kinds := [], alts := [], laidByText := true, laidKinds := [.data, .pinned], laidTests := true, laidLooks := .later }
def NameShorterUptoCardSaid : Prop := Claim7.holds Tryd.pinned (.plain (OpenSpec.upto nameShorterSpec)) nameShorterUptoCard
end Rows
end Go.Proofs.YtmjjdljhchfblaaDoor
