/-
  NARROWER THAN 'FOR EVERY INPUT', by the rows' own cells (each row's printed sentence says how): UtfXml: laid · UtfCuts: laid · UtfWrites: laid · UtfJoins: laid · UtfReads: laid · NameStands: laid · NameIs: laid · NameJoins: laid · NameTrims: laid · NameShorter: laid.
  DERIVED. THE GIVEN ROWS OF THIS SEAT. 10 by the template 'for every input the law returns true; each argument reads behind the call as it read before'; 0 by the template 'total and deterministic' (their statements: YtmjjdljhchfblaaDoorTotals.lean).
  GIVEN WITH THE SEED: the statements are not yours to turn. If you find one false, say at which input.
  Laid BY PROGRAM, IN A SANDBOX (cutbox-rows.mjs): the forced cells as the released guide's own fill.sh prints them over the translation afb9301221aa9675… (all of the seat's roots in one cut). By AI agents, Wed Nov 11 2026. No macro, syntax, notation, axiom, sorry.
-/
import Derived.Test.YtmjjdljhchfblaaDoorChecked
import GoSem.PinnedTables
import GoSem.Claim
import GoSem.ClaimJoined
import GoSem.ClaimMapViews
import Derived.JoinedTies
import Derived.KernelRfl
namespace Go.Proofs.YtmjjdljhchfblaaDoor
/- THE CELL 'sum', in the pinned program and in every row, IS THE sha256 OF THE DUMP (.gsa) THAT YtmjjdljhchfblaaDoorProg.lean LOADS. Nothing in Lean hashes anything: it is a label: what it is worth is what the hold of that sum in a sandbox is worth. -/
noncomputable def Tryd.pinned : Pinned := { name := "ytmjjdljhchfblaadoor", sum := "afb9301221aa967542d340a40667bbe52267146faf1d36ef3db558c046821f55", checked := Tryd.checked }
namespace Rows
def none {H : Type} : Left H := { results := [], args := [] }

/- WHAT THE LISTED PACKAGE-LEVEL VARIABLES READ AS WHEN THE CALL BEGINS. Each datum BY PROGRAM (the guide's laid-datum.mjs) off the statement by which the dump's own 'gosem.cut.vars' lays the variable. In a bare row this is a premise. The card (YtmjjdljhchfblaaDoorCards.lean) ties it to the program's text. -/
def laid_unicode_utf8_acceptRanges {H : Type} : DataW H := .agg [.agg [.lit (.int .u8 128), .lit (.int .u8 191)], .agg [.lit (.int .u8 160), .lit (.int .u8 191)], .agg [.lit (.int .u8 128), .lit (.int .u8 159)], .agg [.lit (.int .u8 144), .lit (.int .u8 191)], .agg [.lit (.int .u8 128), .lit (.int .u8 143)], .agg [.lit (.int .u8 0), .lit (.int .u8 0)], .agg [.lit (.int .u8 0), .lit (.int .u8 0)], .agg [.lit (.int .u8 0), .lit (.int .u8 0)], .agg [.lit (.int .u8 0), .lit (.int .u8 0)], .agg [.lit (.int .u8 0), .lit (.int .u8 0)], .agg [.lit (.int .u8 0), .lit (.int .u8 0)], .agg [.lit (.int .u8 0), .lit (.int .u8 0)], .agg [.lit (.int .u8 0), .lit (.int .u8 0)], .agg [.lit (.int .u8 0), .lit (.int .u8 0)], .agg [.lit (.int .u8 0), .lit (.int .u8 0)], .agg [.lit (.int .u8 0), .lit (.int .u8 0)]]
/-- One of Go's own tables, pinned by name: the form's constant. -/
def laid_unicode_utf8_first : DataW Unit := Go.Pinned.utf8First

/-- 'apostillelaw01.UtfXml': WHATEVER THE INPUT: true; the input reads as it did. -/
def utfXmlSpec : ChangeSpec := { name := "utfXml", fn := fun _ => fun
  | [d] => { results := [.lit (.bool true)], args := [d] }
  | _ => none }
def utfXmlRow : OpenClaim := { program := "ytmjjdljhchfblaadoor", sum := "afb9301221aa967542d340a40667bbe52267146faf1d36ef3db558c046821f55", func := "apostille/apostillelaw01.UtfXml", spec := "utfXml", named := ["unicode/utf8.first", "unicode/utf8.acceptRanges"], apart := false, laid := [("unicode/utf8.acceptRanges", laid_unicode_utf8_acceptRanges), ("unicode/utf8.first", laid_unicode_utf8_first)] }
def UtfXmlSaid : Prop := utfXmlRow.holds Tryd.pinned (OpenSpec.ofChange utfXmlSpec)

/-- ITS FALSE NEIGHBOUR: 'it returns false'. Refute it at one input. -/
def utfXmlWrong : ChangeSpec := { name := "utfXml", fn := fun _ => fun
  | [d] => { results := [.lit (.bool false)], args := [d] }
  | _ => none }
def UtfXmlWrongFalsely : Prop := utfXmlRow.holds Tryd.pinned (OpenSpec.ofChange utfXmlWrong)

/-- 'apostillelaw01.UtfCuts': WHATEVER THE INPUT: true; the input reads as it did. -/
def utfCutsSpec : ChangeSpec := { name := "utfCuts", fn := fun _ => fun
  | [d1, d2, d3] => { results := [.lit (.bool true)], args := [d1, d2, d3] }
  | _ => none }
def utfCutsRow : OpenClaim := { program := "ytmjjdljhchfblaadoor", sum := "afb9301221aa967542d340a40667bbe52267146faf1d36ef3db558c046821f55", func := "apostille/apostillelaw01.UtfCuts", spec := "utfCuts", named := ["unicode/utf8.first", "unicode/utf8.acceptRanges"], apart := false, laid := [("unicode/utf8.acceptRanges", laid_unicode_utf8_acceptRanges), ("unicode/utf8.first", laid_unicode_utf8_first)] }
def UtfCutsSaid : Prop := utfCutsRow.holds Tryd.pinned (OpenSpec.ofChange utfCutsSpec)

/-- ITS FALSE NEIGHBOUR: 'it returns false'. Refute it at one input. -/
def utfCutsWrong : ChangeSpec := { name := "utfCuts", fn := fun _ => fun
  | [d1, d2, d3] => { results := [.lit (.bool false)], args := [d1, d2, d3] }
  | _ => none }
def UtfCutsWrongFalsely : Prop := utfCutsRow.holds Tryd.pinned (OpenSpec.ofChange utfCutsWrong)

/-- 'apostillelaw01.UtfWrites': WHATEVER THE INPUT: true; the input reads as it did. -/
def utfWritesSpec : ChangeSpec := { name := "utfWrites", fn := fun _ => fun
  | [d] => { results := [.lit (.bool true)], args := [d] }
  | _ => none }
def utfWritesRow : OpenClaim := { program := "ytmjjdljhchfblaadoor", sum := "afb9301221aa967542d340a40667bbe52267146faf1d36ef3db558c046821f55", func := "apostille/apostillelaw01.UtfWrites", spec := "utfWrites", named := ["unicode/utf8.first", "unicode/utf8.acceptRanges"], apart := false, laid := [("unicode/utf8.acceptRanges", laid_unicode_utf8_acceptRanges), ("unicode/utf8.first", laid_unicode_utf8_first)] }
def UtfWritesSaid : Prop := utfWritesRow.holds Tryd.pinned (OpenSpec.ofChange utfWritesSpec)

/-- ITS FALSE NEIGHBOUR: 'it returns false'. Refute it at one input. -/
def utfWritesWrong : ChangeSpec := { name := "utfWrites", fn := fun _ => fun
  | [d] => { results := [.lit (.bool false)], args := [d] }
  | _ => none }
def UtfWritesWrongFalsely : Prop := utfWritesRow.holds Tryd.pinned (OpenSpec.ofChange utfWritesWrong)

/-- 'apostillelaw01.UtfJoins': WHATEVER THE INPUT: true; the input reads as it did. -/
def utfJoinsSpec : ChangeSpec := { name := "utfJoins", fn := fun _ => fun
  | [d1, d2] => { results := [.lit (.bool true)], args := [d1, d2] }
  | _ => none }
def utfJoinsRow : OpenClaim := { program := "ytmjjdljhchfblaadoor", sum := "afb9301221aa967542d340a40667bbe52267146faf1d36ef3db558c046821f55", func := "apostille/apostillelaw01.UtfJoins", spec := "utfJoins", named := ["unicode/utf8.first", "unicode/utf8.acceptRanges"], apart := false, laid := [("unicode/utf8.acceptRanges", laid_unicode_utf8_acceptRanges), ("unicode/utf8.first", laid_unicode_utf8_first)] }
def UtfJoinsSaid : Prop := utfJoinsRow.holds Tryd.pinned (OpenSpec.ofChange utfJoinsSpec)

/-- ITS FALSE NEIGHBOUR: 'it returns false'. Refute it at one input. -/
def utfJoinsWrong : ChangeSpec := { name := "utfJoins", fn := fun _ => fun
  | [d1, d2] => { results := [.lit (.bool false)], args := [d1, d2] }
  | _ => none }
def UtfJoinsWrongFalsely : Prop := utfJoinsRow.holds Tryd.pinned (OpenSpec.ofChange utfJoinsWrong)

/-- 'apostillelaw01.UtfReads': WHATEVER THE INPUT: true; the input reads as it did. -/
def utfReadsSpec : ChangeSpec := { name := "utfReads", fn := fun _ => fun
  | [d] => { results := [.lit (.bool true)], args := [d] }
  | _ => none }
def utfReadsRow : OpenClaim := { program := "ytmjjdljhchfblaadoor", sum := "afb9301221aa967542d340a40667bbe52267146faf1d36ef3db558c046821f55", func := "apostille/apostillelaw01.UtfReads", spec := "utfReads", named := ["unicode/utf8.first", "unicode/utf8.acceptRanges"], apart := false, laid := [("unicode/utf8.acceptRanges", laid_unicode_utf8_acceptRanges), ("unicode/utf8.first", laid_unicode_utf8_first)] }
def UtfReadsSaid : Prop := utfReadsRow.holds Tryd.pinned (OpenSpec.ofChange utfReadsSpec)

/-- ITS FALSE NEIGHBOUR: 'it returns false'. Refute it at one input. -/
def utfReadsWrong : ChangeSpec := { name := "utfReads", fn := fun _ => fun
  | [d] => { results := [.lit (.bool false)], args := [d] }
  | _ => none }
def UtfReadsWrongFalsely : Prop := utfReadsRow.holds Tryd.pinned (OpenSpec.ofChange utfReadsWrong)

/-- 'apostillelaw05.NameStands': WHATEVER THE INPUT: true; the input reads as it did. -/
def nameStandsSpec : ChangeSpec := { name := "nameStands", fn := fun _ => fun
  | [d] => { results := [.lit (.bool true)], args := [d] }
  | _ => none }
def nameStandsRow : OpenClaim := { program := "ytmjjdljhchfblaadoor", sum := "afb9301221aa967542d340a40667bbe52267146faf1d36ef3db558c046821f55", func := "apostille/apostillelaw05.NameStands", spec := "nameStands", inPlace := ["internal/bytealg.IndexByteString", "internal/bytealg.IndexString"], named := ["internal/bytealg.MaxLen", "unicode/utf8.first", "unicode/utf8.acceptRanges"], apart := false, laid := [("unicode/utf8.acceptRanges", laid_unicode_utf8_acceptRanges), ("unicode/utf8.first", laid_unicode_utf8_first)] }
def NameStandsSaid : Prop := nameStandsRow.holds Tryd.pinned (OpenSpec.ofChange nameStandsSpec)

/-- ITS FALSE NEIGHBOUR: 'it returns false'. Refute it at one input. -/
def nameStandsWrong : ChangeSpec := { name := "nameStands", fn := fun _ => fun
  | [d] => { results := [.lit (.bool false)], args := [d] }
  | _ => none }
def NameStandsWrongFalsely : Prop := nameStandsRow.holds Tryd.pinned (OpenSpec.ofChange nameStandsWrong)

/-- 'apostillelaw05.NameIs': WHATEVER THE INPUT: true; the input reads as it did. -/
def nameIsSpec : ChangeSpec := { name := "nameIs", fn := fun _ => fun
  | [d] => { results := [.lit (.bool true)], args := [d] }
  | _ => none }
def nameIsRow : OpenClaim := { program := "ytmjjdljhchfblaadoor", sum := "afb9301221aa967542d340a40667bbe52267146faf1d36ef3db558c046821f55", func := "apostille/apostillelaw05.NameIs", spec := "nameIs", inPlace := ["internal/bytealg.IndexByteString", "internal/bytealg.IndexString"], named := ["internal/bytealg.MaxLen", "unicode/utf8.first", "unicode/utf8.acceptRanges"], apart := false, laid := [("unicode/utf8.acceptRanges", laid_unicode_utf8_acceptRanges), ("unicode/utf8.first", laid_unicode_utf8_first)] }
def NameIsSaid : Prop := nameIsRow.holds Tryd.pinned (OpenSpec.ofChange nameIsSpec)

/-- ITS FALSE NEIGHBOUR: 'it returns false'. Refute it at one input. -/
def nameIsWrong : ChangeSpec := { name := "nameIs", fn := fun _ => fun
  | [d] => { results := [.lit (.bool false)], args := [d] }
  | _ => none }
def NameIsWrongFalsely : Prop := nameIsRow.holds Tryd.pinned (OpenSpec.ofChange nameIsWrong)

/-- 'apostillelaw05.NameJoins': WHATEVER THE INPUT: true; the input reads as it did. -/
def nameJoinsSpec : ChangeSpec := { name := "nameJoins", fn := fun _ => fun
  | [d1, d2, d3] => { results := [.lit (.bool true)], args := [d1, d2, d3] }
  | _ => none }
def nameJoinsRow : OpenClaim := { program := "ytmjjdljhchfblaadoor", sum := "afb9301221aa967542d340a40667bbe52267146faf1d36ef3db558c046821f55", func := "apostille/apostillelaw05.NameJoins", spec := "nameJoins", inPlace := ["internal/bytealg.IndexByteString", "internal/bytealg.IndexString"], named := ["internal/bytealg.MaxLen", "unicode/utf8.first", "unicode/utf8.acceptRanges"], apart := false, laid := [("unicode/utf8.acceptRanges", laid_unicode_utf8_acceptRanges), ("unicode/utf8.first", laid_unicode_utf8_first)] }
def NameJoinsSaid : Prop := nameJoinsRow.holds Tryd.pinned (OpenSpec.ofChange nameJoinsSpec)

/-- ITS FALSE NEIGHBOUR: 'it returns false'. Refute it at one input. -/
def nameJoinsWrong : ChangeSpec := { name := "nameJoins", fn := fun _ => fun
  | [d1, d2, d3] => { results := [.lit (.bool false)], args := [d1, d2, d3] }
  | _ => none }
def NameJoinsWrongFalsely : Prop := nameJoinsRow.holds Tryd.pinned (OpenSpec.ofChange nameJoinsWrong)

/-- 'apostillelaw05.NameTrims': WHATEVER THE INPUT: true; the input reads as it did. -/
def nameTrimsSpec : ChangeSpec := { name := "nameTrims", fn := fun _ => fun
  | [d1, d2] => { results := [.lit (.bool true)], args := [d1, d2] }
  | _ => none }
def nameTrimsRow : OpenClaim := { program := "ytmjjdljhchfblaadoor", sum := "afb9301221aa967542d340a40667bbe52267146faf1d36ef3db558c046821f55", func := "apostille/apostillelaw05.NameTrims", spec := "nameTrims", inPlace := ["internal/bytealg.IndexByteString", "internal/bytealg.IndexString"], named := ["internal/bytealg.MaxLen", "unicode/utf8.first", "unicode/utf8.acceptRanges"], apart := false, laid := [("unicode/utf8.acceptRanges", laid_unicode_utf8_acceptRanges), ("unicode/utf8.first", laid_unicode_utf8_first)] }
def NameTrimsSaid : Prop := nameTrimsRow.holds Tryd.pinned (OpenSpec.ofChange nameTrimsSpec)

/-- ITS FALSE NEIGHBOUR: 'it returns false'. Refute it at one input. -/
def nameTrimsWrong : ChangeSpec := { name := "nameTrims", fn := fun _ => fun
  | [d1, d2] => { results := [.lit (.bool false)], args := [d1, d2] }
  | _ => none }
def NameTrimsWrongFalsely : Prop := nameTrimsRow.holds Tryd.pinned (OpenSpec.ofChange nameTrimsWrong)

/-- 'apostillelaw05.NameShorter': WHATEVER THE INPUT: true; the input reads as it did. -/
def nameShorterSpec : ChangeSpec := { name := "nameShorter", fn := fun _ => fun
  | [d1, d2, d3] => { results := [.lit (.bool true)], args := [d1, d2, d3] }
  | _ => none }
def nameShorterRow : OpenClaim := { program := "ytmjjdljhchfblaadoor", sum := "afb9301221aa967542d340a40667bbe52267146faf1d36ef3db558c046821f55", func := "apostille/apostillelaw05.NameShorter", spec := "nameShorter", inPlace := ["internal/bytealg.IndexByteString", "internal/bytealg.IndexString"], named := ["internal/bytealg.MaxLen", "unicode/utf8.first", "unicode/utf8.acceptRanges"], apart := false, laid := [("unicode/utf8.acceptRanges", laid_unicode_utf8_acceptRanges), ("unicode/utf8.first", laid_unicode_utf8_first)] }
def NameShorterSaid : Prop := nameShorterRow.holds Tryd.pinned (OpenSpec.ofChange nameShorterSpec)

/-- ITS FALSE NEIGHBOUR: 'it returns false'. Refute it at one input. -/
def nameShorterWrong : ChangeSpec := { name := "nameShorter", fn := fun _ => fun
  | [d1, d2, d3] => { results := [.lit (.bool false)], args := [d1, d2, d3] }
  | _ => none }
def NameShorterWrongFalsely : Prop := nameShorterRow.holds Tryd.pinned (OpenSpec.ofChange nameShorterWrong)

/- THE SECOND FORM. 'bulk': how many values and letters a reading holds, each counted each time it is reached (what is shared counts as often as it is met; a slice's spare places count too). A statement '..UptoSaid' is the law's where the arguments, and the package variables that the reading takes, are together of bulk at most 1048576: NARROWER than '..Said'. Prove '..Said' where nothing that the law and all that it calls make is longer than what came in: it says more and counts as full. Else prove '..UptoSaid'. A law counts once. -/
mutual
def uptoBulk {H : Type} : DataW H → Nat
  | .lit (.string bytes) => bytes.length + 1
  | .lit _ => 1
  | .nil => 1
  | .ptr d => uptoBulk d + 1
  | .slice elems spare => uptoBulkAll elems + uptoBulkAll spare + 1
  | .agg parts => uptoBulkAll parts + 1
  | .iface _ d => uptoBulk d + 1
  | .map entries => uptoBulkEntries entries + 1
  | .held _ => 1
def uptoBulkAll {H : Type} : List (DataW H) → Nat
  | [] => 0
  | d :: r => uptoBulk d + uptoBulkAll r
def uptoBulkEntries {H : Type} : List (Lit × DataW H) → Nat
  | [] => 0
  | x :: r => uptoBulkEntry x + uptoBulkEntries r
def uptoBulkEntry {H : Type} : Lit × DataW H → Nat
  | (.string bytes, d) => bytes.length + uptoBulk d + 1
  | (_, d) => uptoBulk d + 1
 end
def uptoSmall : (H : Type) → List (DataW H) → Bool := fun _ ds => decide (uptoBulkAll ds ≤ 1048576)
def OpenSpec.upto (s : _root_.Go.ChangeSpec) : _root_.Go.OpenSpec := { _root_.Go.OpenSpec.ofChange s with cond := some uptoSmall }

/-- 'apostillelaw01.UtfXml', WHERE WHAT IT READS IS OF BULK AT MOST 1048576: true; the input reads as it did. -/
def utfXmlUptoRow : OpenClaim := { program := "ytmjjdljhchfblaadoor", sum := "afb9301221aa967542d340a40667bbe52267146faf1d36ef3db558c046821f55", func := "apostille/apostillelaw01.UtfXml", spec := "utfXml", named := ["unicode/utf8.first", "unicode/utf8.acceptRanges"], apart := false, laid := [("unicode/utf8.acceptRanges", laid_unicode_utf8_acceptRanges), ("unicode/utf8.first", laid_unicode_utf8_first)], narrowed := true }
def UtfXmlUptoSaid : Prop := utfXmlUptoRow.holds Tryd.pinned (OpenSpec.upto utfXmlSpec)

/-- 'apostillelaw01.UtfCuts', WHERE WHAT IT READS IS OF BULK AT MOST 1048576: true; the input reads as it did. -/
def utfCutsUptoRow : OpenClaim := { program := "ytmjjdljhchfblaadoor", sum := "afb9301221aa967542d340a40667bbe52267146faf1d36ef3db558c046821f55", func := "apostille/apostillelaw01.UtfCuts", spec := "utfCuts", named := ["unicode/utf8.first", "unicode/utf8.acceptRanges"], apart := false, laid := [("unicode/utf8.acceptRanges", laid_unicode_utf8_acceptRanges), ("unicode/utf8.first", laid_unicode_utf8_first)], narrowed := true }
def UtfCutsUptoSaid : Prop := utfCutsUptoRow.holds Tryd.pinned (OpenSpec.upto utfCutsSpec)

/-- 'apostillelaw01.UtfWrites', WHERE WHAT IT READS IS OF BULK AT MOST 1048576: true; the input reads as it did. -/
def utfWritesUptoRow : OpenClaim := { program := "ytmjjdljhchfblaadoor", sum := "afb9301221aa967542d340a40667bbe52267146faf1d36ef3db558c046821f55", func := "apostille/apostillelaw01.UtfWrites", spec := "utfWrites", named := ["unicode/utf8.first", "unicode/utf8.acceptRanges"], apart := false, laid := [("unicode/utf8.acceptRanges", laid_unicode_utf8_acceptRanges), ("unicode/utf8.first", laid_unicode_utf8_first)], narrowed := true }
def UtfWritesUptoSaid : Prop := utfWritesUptoRow.holds Tryd.pinned (OpenSpec.upto utfWritesSpec)

/-- 'apostillelaw01.UtfJoins', WHERE WHAT IT READS IS OF BULK AT MOST 1048576: true; the input reads as it did. -/
def utfJoinsUptoRow : OpenClaim := { program := "ytmjjdljhchfblaadoor", sum := "afb9301221aa967542d340a40667bbe52267146faf1d36ef3db558c046821f55", func := "apostille/apostillelaw01.UtfJoins", spec := "utfJoins", named := ["unicode/utf8.first", "unicode/utf8.acceptRanges"], apart := false, laid := [("unicode/utf8.acceptRanges", laid_unicode_utf8_acceptRanges), ("unicode/utf8.first", laid_unicode_utf8_first)], narrowed := true }
def UtfJoinsUptoSaid : Prop := utfJoinsUptoRow.holds Tryd.pinned (OpenSpec.upto utfJoinsSpec)

/-- 'apostillelaw01.UtfReads', WHERE WHAT IT READS IS OF BULK AT MOST 1048576: true; the input reads as it did. -/
def utfReadsUptoRow : OpenClaim := { program := "ytmjjdljhchfblaadoor", sum := "afb9301221aa967542d340a40667bbe52267146faf1d36ef3db558c046821f55", func := "apostille/apostillelaw01.UtfReads", spec := "utfReads", named := ["unicode/utf8.first", "unicode/utf8.acceptRanges"], apart := false, laid := [("unicode/utf8.acceptRanges", laid_unicode_utf8_acceptRanges), ("unicode/utf8.first", laid_unicode_utf8_first)], narrowed := true }
def UtfReadsUptoSaid : Prop := utfReadsUptoRow.holds Tryd.pinned (OpenSpec.upto utfReadsSpec)

/-- 'apostillelaw05.NameStands', WHERE WHAT IT READS IS OF BULK AT MOST 1048576: true; the input reads as it did. -/
def nameStandsUptoRow : OpenClaim := { program := "ytmjjdljhchfblaadoor", sum := "afb9301221aa967542d340a40667bbe52267146faf1d36ef3db558c046821f55", func := "apostille/apostillelaw05.NameStands", spec := "nameStands", inPlace := ["internal/bytealg.IndexByteString", "internal/bytealg.IndexString"], named := ["internal/bytealg.MaxLen", "unicode/utf8.first", "unicode/utf8.acceptRanges"], apart := false, laid := [("unicode/utf8.acceptRanges", laid_unicode_utf8_acceptRanges), ("unicode/utf8.first", laid_unicode_utf8_first)], narrowed := true }
def NameStandsUptoSaid : Prop := nameStandsUptoRow.holds Tryd.pinned (OpenSpec.upto nameStandsSpec)

/-- 'apostillelaw05.NameIs', WHERE WHAT IT READS IS OF BULK AT MOST 1048576: true; the input reads as it did. -/
def nameIsUptoRow : OpenClaim := { program := "ytmjjdljhchfblaadoor", sum := "afb9301221aa967542d340a40667bbe52267146faf1d36ef3db558c046821f55", func := "apostille/apostillelaw05.NameIs", spec := "nameIs", inPlace := ["internal/bytealg.IndexByteString", "internal/bytealg.IndexString"], named := ["internal/bytealg.MaxLen", "unicode/utf8.first", "unicode/utf8.acceptRanges"], apart := false, laid := [("unicode/utf8.acceptRanges", laid_unicode_utf8_acceptRanges), ("unicode/utf8.first", laid_unicode_utf8_first)], narrowed := true }
def NameIsUptoSaid : Prop := nameIsUptoRow.holds Tryd.pinned (OpenSpec.upto nameIsSpec)

/-- 'apostillelaw05.NameJoins', WHERE WHAT IT READS IS OF BULK AT MOST 1048576: true; the input reads as it did. -/
def nameJoinsUptoRow : OpenClaim := { program := "ytmjjdljhchfblaadoor", sum := "afb9301221aa967542d340a40667bbe52267146faf1d36ef3db558c046821f55", func := "apostille/apostillelaw05.NameJoins", spec := "nameJoins", inPlace := ["internal/bytealg.IndexByteString", "internal/bytealg.IndexString"], named := ["internal/bytealg.MaxLen", "unicode/utf8.first", "unicode/utf8.acceptRanges"], apart := false, laid := [("unicode/utf8.acceptRanges", laid_unicode_utf8_acceptRanges), ("unicode/utf8.first", laid_unicode_utf8_first)], narrowed := true }
def NameJoinsUptoSaid : Prop := nameJoinsUptoRow.holds Tryd.pinned (OpenSpec.upto nameJoinsSpec)

/-- 'apostillelaw05.NameTrims', WHERE WHAT IT READS IS OF BULK AT MOST 1048576: true; the input reads as it did. -/
def nameTrimsUptoRow : OpenClaim := { program := "ytmjjdljhchfblaadoor", sum := "afb9301221aa967542d340a40667bbe52267146faf1d36ef3db558c046821f55", func := "apostille/apostillelaw05.NameTrims", spec := "nameTrims", inPlace := ["internal/bytealg.IndexByteString", "internal/bytealg.IndexString"], named := ["internal/bytealg.MaxLen", "unicode/utf8.first", "unicode/utf8.acceptRanges"], apart := false, laid := [("unicode/utf8.acceptRanges", laid_unicode_utf8_acceptRanges), ("unicode/utf8.first", laid_unicode_utf8_first)], narrowed := true }
def NameTrimsUptoSaid : Prop := nameTrimsUptoRow.holds Tryd.pinned (OpenSpec.upto nameTrimsSpec)

/-- 'apostillelaw05.NameShorter', WHERE WHAT IT READS IS OF BULK AT MOST 1048576: true; the input reads as it did. -/
def nameShorterUptoRow : OpenClaim := { program := "ytmjjdljhchfblaadoor", sum := "afb9301221aa967542d340a40667bbe52267146faf1d36ef3db558c046821f55", func := "apostille/apostillelaw05.NameShorter", spec := "nameShorter", inPlace := ["internal/bytealg.IndexByteString", "internal/bytealg.IndexString"], named := ["internal/bytealg.MaxLen", "unicode/utf8.first", "unicode/utf8.acceptRanges"], apart := false, laid := [("unicode/utf8.acceptRanges", laid_unicode_utf8_acceptRanges), ("unicode/utf8.first", laid_unicode_utf8_first)], narrowed := true }
def NameShorterUptoSaid : Prop := nameShorterUptoRow.holds Tryd.pinned (OpenSpec.upto nameShorterSpec)

end Rows
end Go.Proofs.YtmjjdljhchfblaaDoor
