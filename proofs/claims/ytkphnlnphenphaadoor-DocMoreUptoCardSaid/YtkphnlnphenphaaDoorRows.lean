/-
  NARROWER THAN 'FOR EVERY INPUT', by the rows' own cells (each row's printed sentence says how): DocForms: laid · DocMore: laid · DocOwn: laid · DocParts: laid · DocTells: laid · DocNil: laid.
  DERIVED. THE GIVEN ROWS OF THIS SEAT. 6 by the template 'for every input the law returns true; each argument reads behind the call as it read before'; 0 by the template 'total and deterministic' (their statements: YtkphnlnphenphaaDoorTotals.lean).
  GIVEN WITH THE SEED: the statements are not yours to turn. If you find one false, say at which input.
  Laid BY PROGRAM, IN A SANDBOX (cutbox-rows.mjs): the forced cells as the released guide's own fill.sh prints them over the translation ca98f442eafeedd6… (all of the seat's roots in one cut). By AI agents, Wed Nov 11 2026. No macro, syntax, notation, axiom, sorry.
-/
import Derived.Test.YtkphnlnphenphaaDoorChecked
import GoSem.PinnedTables
import GoSem.Claim
import GoSem.ClaimJoined
import GoSem.ClaimMapViews
import Derived.JoinedTies
import Derived.KernelRfl
namespace Go.Proofs.YtkphnlnphenphaaDoor
/- THE CELL 'sum', in the pinned program and in every row, IS THE sha256 OF THE DUMP (.gsa) THAT YtkphnlnphenphaaDoorProg.lean LOADS. Nothing in Lean hashes anything: it is a label: what it is worth is what the hold of that sum in a sandbox is worth. -/
noncomputable def Tryd.pinned : Pinned := { name := "ytkphnlnphenphaadoor", sum := "ca98f442eafeedd671c9dcdb3846f1ad616156968650055b7a1249ac5b1bd77d", checked := Tryd.checked }
namespace Rows
def none {H : Type} : Left H := { results := [], args := [] }

/- WHAT THE LISTED PACKAGE-LEVEL VARIABLES READ AS WHEN THE CALL BEGINS. Each datum BY PROGRAM (the guide's laid-datum.mjs) off the statement by which the dump's own 'gosem.cut.vars' lays the variable. In a bare row this is a premise. The card (YtkphnlnphenphaaDoorCards.lean) ties it to the program's text. -/
def laid_unicode_utf8_acceptRanges {H : Type} : DataW H := .agg [.agg [.lit (.int .u8 128), .lit (.int .u8 191)], .agg [.lit (.int .u8 160), .lit (.int .u8 191)], .agg [.lit (.int .u8 128), .lit (.int .u8 159)], .agg [.lit (.int .u8 144), .lit (.int .u8 191)], .agg [.lit (.int .u8 128), .lit (.int .u8 143)], .agg [.lit (.int .u8 0), .lit (.int .u8 0)], .agg [.lit (.int .u8 0), .lit (.int .u8 0)], .agg [.lit (.int .u8 0), .lit (.int .u8 0)], .agg [.lit (.int .u8 0), .lit (.int .u8 0)], .agg [.lit (.int .u8 0), .lit (.int .u8 0)], .agg [.lit (.int .u8 0), .lit (.int .u8 0)], .agg [.lit (.int .u8 0), .lit (.int .u8 0)], .agg [.lit (.int .u8 0), .lit (.int .u8 0)], .agg [.lit (.int .u8 0), .lit (.int .u8 0)], .agg [.lit (.int .u8 0), .lit (.int .u8 0)], .agg [.lit (.int .u8 0), .lit (.int .u8 0)]]
/-- One of Go's own tables, pinned by name: the form's constant. -/
def laid_unicode_utf8_first : DataW Unit := Go.Pinned.utf8First

/-- 'apostillelaw07.DocForms': WHATEVER THE INPUT: true; the input reads as it did. -/
def docFormsSpec : ChangeSpec := { name := "docForms", fn := fun _ => fun
  | [d] => { results := [.lit (.bool true)], args := [d] }
  | _ => none }
def docFormsRow : OpenClaim := { program := "ytkphnlnphenphaadoor", sum := "ca98f442eafeedd671c9dcdb3846f1ad616156968650055b7a1249ac5b1bd77d", func := "apostille/apostillelaw07.DocForms", spec := "docForms", inPlace := ["internal/bytealg.IndexByteString", "internal/bytealg.IndexString"], unfollowed := true, recurses := true, named := ["unicode/utf8.first", "unicode/utf8.acceptRanges", "internal/bytealg.MaxLen"], apart := false, laid := [("unicode/utf8.acceptRanges", laid_unicode_utf8_acceptRanges), ("unicode/utf8.first", laid_unicode_utf8_first)] }
def DocFormsSaid : Prop := docFormsRow.holds Tryd.pinned (OpenSpec.ofChange docFormsSpec)

/-- ITS FALSE NEIGHBOUR: 'it returns false'. Refute it at one input. -/
def docFormsWrong : ChangeSpec := { name := "docForms", fn := fun _ => fun
  | [d] => { results := [.lit (.bool false)], args := [d] }
  | _ => none }
def DocFormsWrongFalsely : Prop := docFormsRow.holds Tryd.pinned (OpenSpec.ofChange docFormsWrong)

/-- 'apostillelaw07.DocMore': WHATEVER THE INPUT: true; the input reads as it did. -/
def docMoreSpec : ChangeSpec := { name := "docMore", fn := fun _ => fun
  | [d1, d2] => { results := [.lit (.bool true)], args := [d1, d2] }
  | _ => none }
def docMoreRow : OpenClaim := { program := "ytkphnlnphenphaadoor", sum := "ca98f442eafeedd671c9dcdb3846f1ad616156968650055b7a1249ac5b1bd77d", func := "apostille/apostillelaw07.DocMore", spec := "docMore", inPlace := ["internal/bytealg.IndexByteString", "internal/bytealg.IndexString"], unfollowed := true, recurses := true, named := ["unicode/utf8.first", "unicode/utf8.acceptRanges", "internal/bytealg.MaxLen"], apart := false, laid := [("unicode/utf8.acceptRanges", laid_unicode_utf8_acceptRanges), ("unicode/utf8.first", laid_unicode_utf8_first)] }
def DocMoreSaid : Prop := docMoreRow.holds Tryd.pinned (OpenSpec.ofChange docMoreSpec)

/-- ITS FALSE NEIGHBOUR: 'it returns false'. Refute it at one input. -/
def docMoreWrong : ChangeSpec := { name := "docMore", fn := fun _ => fun
  | [d1, d2] => { results := [.lit (.bool false)], args := [d1, d2] }
  | _ => none }
def DocMoreWrongFalsely : Prop := docMoreRow.holds Tryd.pinned (OpenSpec.ofChange docMoreWrong)

/-- 'apostillelaw07.DocOwn': WHATEVER THE INPUT: true; the input reads as it did. -/
def docOwnSpec : ChangeSpec := { name := "docOwn", fn := fun _ => fun
  | [d] => { results := [.lit (.bool true)], args := [d] }
  | _ => none }
def docOwnRow : OpenClaim := { program := "ytkphnlnphenphaadoor", sum := "ca98f442eafeedd671c9dcdb3846f1ad616156968650055b7a1249ac5b1bd77d", func := "apostille/apostillelaw07.DocOwn", spec := "docOwn", inPlace := ["internal/bytealg.IndexByteString", "internal/bytealg.IndexString"], unfollowed := true, recurses := true, named := ["unicode/utf8.first", "unicode/utf8.acceptRanges", "internal/bytealg.MaxLen"], apart := false, laid := [("unicode/utf8.acceptRanges", laid_unicode_utf8_acceptRanges), ("unicode/utf8.first", laid_unicode_utf8_first)] }
def DocOwnSaid : Prop := docOwnRow.holds Tryd.pinned (OpenSpec.ofChange docOwnSpec)

/-- ITS FALSE NEIGHBOUR: 'it returns false'. Refute it at one input. -/
def docOwnWrong : ChangeSpec := { name := "docOwn", fn := fun _ => fun
  | [d] => { results := [.lit (.bool false)], args := [d] }
  | _ => none }
def DocOwnWrongFalsely : Prop := docOwnRow.holds Tryd.pinned (OpenSpec.ofChange docOwnWrong)

/-- 'apostillelaw07.DocParts': WHATEVER THE INPUT: true; the input reads as it did. -/
def docPartsSpec : ChangeSpec := { name := "docParts", fn := fun _ => fun
  | [d1, d2] => { results := [.lit (.bool true)], args := [d1, d2] }
  | _ => none }
def docPartsRow : OpenClaim := { program := "ytkphnlnphenphaadoor", sum := "ca98f442eafeedd671c9dcdb3846f1ad616156968650055b7a1249ac5b1bd77d", func := "apostille/apostillelaw07.DocParts", spec := "docParts", inPlace := ["internal/bytealg.IndexByteString", "internal/bytealg.IndexString"], unfollowed := true, recurses := true, named := ["unicode/utf8.first", "unicode/utf8.acceptRanges", "internal/bytealg.MaxLen"], apart := false, laid := [("unicode/utf8.acceptRanges", laid_unicode_utf8_acceptRanges), ("unicode/utf8.first", laid_unicode_utf8_first)] }
def DocPartsSaid : Prop := docPartsRow.holds Tryd.pinned (OpenSpec.ofChange docPartsSpec)

/-- ITS FALSE NEIGHBOUR: 'it returns false'. Refute it at one input. -/
def docPartsWrong : ChangeSpec := { name := "docParts", fn := fun _ => fun
  | [d1, d2] => { results := [.lit (.bool false)], args := [d1, d2] }
  | _ => none }
def DocPartsWrongFalsely : Prop := docPartsRow.holds Tryd.pinned (OpenSpec.ofChange docPartsWrong)

/-- 'apostillelaw07.DocTells': WHATEVER THE INPUT: true; the input reads as it did. -/
def docTellsSpec : ChangeSpec := { name := "docTells", fn := fun _ => fun
  | [d1, d2] => { results := [.lit (.bool true)], args := [d1, d2] }
  | _ => none }
def docTellsRow : OpenClaim := { program := "ytkphnlnphenphaadoor", sum := "ca98f442eafeedd671c9dcdb3846f1ad616156968650055b7a1249ac5b1bd77d", func := "apostille/apostillelaw07.DocTells", spec := "docTells", inPlace := ["internal/bytealg.IndexByteString", "internal/bytealg.IndexString"], unfollowed := true, recurses := true, named := ["unicode/utf8.first", "unicode/utf8.acceptRanges", "internal/bytealg.MaxLen"], apart := false, laid := [("unicode/utf8.acceptRanges", laid_unicode_utf8_acceptRanges), ("unicode/utf8.first", laid_unicode_utf8_first)] }
def DocTellsSaid : Prop := docTellsRow.holds Tryd.pinned (OpenSpec.ofChange docTellsSpec)

/-- ITS FALSE NEIGHBOUR: 'it returns false'. Refute it at one input. -/
def docTellsWrong : ChangeSpec := { name := "docTells", fn := fun _ => fun
  | [d1, d2] => { results := [.lit (.bool false)], args := [d1, d2] }
  | _ => none }
def DocTellsWrongFalsely : Prop := docTellsRow.holds Tryd.pinned (OpenSpec.ofChange docTellsWrong)

/-- 'apostillelaw07.DocNil': WHATEVER THE INPUT: true; the input reads as it did. -/
def docNilSpec : ChangeSpec := { name := "docNil", fn := fun _ => fun
  | [d] => { results := [.lit (.bool true)], args := [d] }
  | _ => none }
def docNilRow : OpenClaim := { program := "ytkphnlnphenphaadoor", sum := "ca98f442eafeedd671c9dcdb3846f1ad616156968650055b7a1249ac5b1bd77d", func := "apostille/apostillelaw07.DocNil", spec := "docNil", inPlace := ["internal/bytealg.IndexByteString", "internal/bytealg.IndexString"], unfollowed := true, recurses := true, named := ["unicode/utf8.first", "unicode/utf8.acceptRanges", "internal/bytealg.MaxLen"], apart := false, laid := [("unicode/utf8.acceptRanges", laid_unicode_utf8_acceptRanges), ("unicode/utf8.first", laid_unicode_utf8_first)] }
def DocNilSaid : Prop := docNilRow.holds Tryd.pinned (OpenSpec.ofChange docNilSpec)

/-- ITS FALSE NEIGHBOUR: 'it returns false'. Refute it at one input. -/
def docNilWrong : ChangeSpec := { name := "docNil", fn := fun _ => fun
  | [d] => { results := [.lit (.bool false)], args := [d] }
  | _ => none }
def DocNilWrongFalsely : Prop := docNilRow.holds Tryd.pinned (OpenSpec.ofChange docNilWrong)

/- THE SECOND FORM. 'bulk': how many values and letters a reading holds, each counted each time it is reached (what is shared counts as often as it is met; a slice's spare places count too). A statement '..UptoSaid' is the law's where the arguments, and the package variables that the reading takes, are together of bulk at most 1048576: NARROWER than '..Said'. Prove '..Said' where nothing that the law and all that it calls make is longer than what came in: it says more and counts as full. Else prove '..UptoSaid'. A law counts once. -/
mutual
def uptoBulk {H : Type} : DataW H → Nat
  | .lit (.string bytes) => bytes.length + 1
  | .lit _ => 1
  | .nil => 1
  | .ptr d => uptoBulk d + 1
  | .slice elems spare => uptoBulkAll elems + uptoBulkAll spare + 1
  | .agg parts => uptoBulkAll parts + 1
  | .iface _ d => uptoBulk d + 1
  | .map entries => uptoBulkEntries entries + 1
  | .held _ => 1
def uptoBulkAll {H : Type} : List (DataW H) → Nat
  | [] => 0
  | d :: r => uptoBulk d + uptoBulkAll r
def uptoBulkEntries {H : Type} : List (Lit × DataW H) → Nat
  | [] => 0
  | x :: r => uptoBulkEntry x + uptoBulkEntries r
def uptoBulkEntry {H : Type} : Lit × DataW H → Nat
  | (.string bytes, d) => bytes.length + uptoBulk d + 1
  | (_, d) => uptoBulk d + 1
 end
def uptoSmall : (H : Type) → List (DataW H) → Bool := fun _ ds => decide (uptoBulkAll ds ≤ 1048576)
def OpenSpec.upto (s : _root_.Go.ChangeSpec) : _root_.Go.OpenSpec := { _root_.Go.OpenSpec.ofChange s with cond := some uptoSmall }

/-- 'apostillelaw07.DocForms', WHERE WHAT IT READS IS OF BULK AT MOST 1048576: true; the input reads as it did. -/
def docFormsUptoRow : OpenClaim := { program := "ytkphnlnphenphaadoor", sum := "ca98f442eafeedd671c9dcdb3846f1ad616156968650055b7a1249ac5b1bd77d", func := "apostille/apostillelaw07.DocForms", spec := "docForms", inPlace := ["internal/bytealg.IndexByteString", "internal/bytealg.IndexString"], unfollowed := true, recurses := true, named := ["unicode/utf8.first", "unicode/utf8.acceptRanges", "internal/bytealg.MaxLen"], apart := false, laid := [("unicode/utf8.acceptRanges", laid_unicode_utf8_acceptRanges), ("unicode/utf8.first", laid_unicode_utf8_first)], narrowed := true }
def DocFormsUptoSaid : Prop := docFormsUptoRow.holds Tryd.pinned (OpenSpec.upto docFormsSpec)

/-- 'apostillelaw07.DocMore', WHERE WHAT IT READS IS OF BULK AT MOST 1048576: true; the input reads as it did. -/
def docMoreUptoRow : OpenClaim := { program := "ytkphnlnphenphaadoor", sum := "ca98f442eafeedd671c9dcdb3846f1ad616156968650055b7a1249ac5b1bd77d", func := "apostille/apostillelaw07.DocMore", spec := "docMore", inPlace := ["internal/bytealg.IndexByteString", "internal/bytealg.IndexString"], unfollowed := true, recurses := true, named := ["unicode/utf8.first", "unicode/utf8.acceptRanges", "internal/bytealg.MaxLen"], apart := false, laid := [("unicode/utf8.acceptRanges", laid_unicode_utf8_acceptRanges), ("unicode/utf8.first", laid_unicode_utf8_first)], narrowed := true }
def DocMoreUptoSaid : Prop := docMoreUptoRow.holds Tryd.pinned (OpenSpec.upto docMoreSpec)

/-- 'apostillelaw07.DocOwn', WHERE WHAT IT READS IS OF BULK AT MOST 1048576: true; the input reads as it did. -/
def docOwnUptoRow : OpenClaim := { program := "ytkphnlnphenphaadoor", sum := "ca98f442eafeedd671c9dcdb3846f1ad616156968650055b7a1249ac5b1bd77d", func := "apostille/apostillelaw07.DocOwn", spec := "docOwn", inPlace := ["internal/bytealg.IndexByteString", "internal/bytealg.IndexString"], unfollowed := true, recurses := true, named := ["unicode/utf8.first", "unicode/utf8.acceptRanges", "internal/bytealg.MaxLen"], apart := false, laid := [("unicode/utf8.acceptRanges", laid_unicode_utf8_acceptRanges), ("unicode/utf8.first", laid_unicode_utf8_first)], narrowed := true }
def DocOwnUptoSaid : Prop := docOwnUptoRow.holds Tryd.pinned (OpenSpec.upto docOwnSpec)

/-- 'apostillelaw07.DocParts', WHERE WHAT IT READS IS OF BULK AT MOST 1048576: true; the input reads as it did. -/
def docPartsUptoRow : OpenClaim := { program := "ytkphnlnphenphaadoor", sum := "ca98f442eafeedd671c9dcdb3846f1ad616156968650055b7a1249ac5b1bd77d", func := "apostille/apostillelaw07.DocParts", spec := "docParts", inPlace := ["internal/bytealg.IndexByteString", "internal/bytealg.IndexString"], unfollowed := true, recurses := true, named := ["unicode/utf8.first", "unicode/utf8.acceptRanges", "internal/bytealg.MaxLen"], apart := false, laid := [("unicode/utf8.acceptRanges", laid_unicode_utf8_acceptRanges), ("unicode/utf8.first", laid_unicode_utf8_first)], narrowed := true }
def DocPartsUptoSaid : Prop := docPartsUptoRow.holds Tryd.pinned (OpenSpec.upto docPartsSpec)

/-- 'apostillelaw07.DocTells', WHERE WHAT IT READS IS OF BULK AT MOST 1048576: true; the input reads as it did. -/
def docTellsUptoRow : OpenClaim := { program := "ytkphnlnphenphaadoor", sum := "ca98f442eafeedd671c9dcdb3846f1ad616156968650055b7a1249ac5b1bd77d", func := "apostille/apostillelaw07.DocTells", spec := "docTells", inPlace := ["internal/bytealg.IndexByteString", "internal/bytealg.IndexString"], unfollowed := true, recurses := true, named := ["unicode/utf8.first", "unicode/utf8.acceptRanges", "internal/bytealg.MaxLen"], apart := false, laid := [("unicode/utf8.acceptRanges", laid_unicode_utf8_acceptRanges), ("unicode/utf8.first", laid_unicode_utf8_first)], narrowed := true }
def DocTellsUptoSaid : Prop := docTellsUptoRow.holds Tryd.pinned (OpenSpec.upto docTellsSpec)

/-- 'apostillelaw07.DocNil', WHERE WHAT IT READS IS OF BULK AT MOST 1048576: true; the input reads as it did. -/
def docNilUptoRow : OpenClaim := { program := "ytkphnlnphenphaadoor", sum := "ca98f442eafeedd671c9dcdb3846f1ad616156968650055b7a1249ac5b1bd77d", func := "apostille/apostillelaw07.DocNil", spec := "docNil", inPlace := ["internal/bytealg.IndexByteString", "internal/bytealg.IndexString"], unfollowed := true, recurses := true, named := ["unicode/utf8.first", "unicode/utf8.acceptRanges", "internal/bytealg.MaxLen"], apart := false, laid := [("unicode/utf8.acceptRanges", laid_unicode_utf8_acceptRanges), ("unicode/utf8.first", laid_unicode_utf8_first)], narrowed := true }
def DocNilUptoSaid : Prop := docNilUptoRow.holds Tryd.pinned (OpenSpec.upto docNilSpec)

end Rows
end Go.Proofs.YtkphnlnphenphaaDoor
