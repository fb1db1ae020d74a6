/-
  No cell of these rows narrows 'for every input' (looked for: loops, veiled, ifaces, maps, wideKeys, modest, calm, conditions, laid).
  DERIVED. THE GIVEN ROWS OF THIS SEAT. 8 by the template 'for every input the law returns true; each argument reads behind the call as it read before'; 0 by the template 'total and deterministic' (their statements: YtcmhbepfolibgaaTotals.lean).
  GIVEN WITH THE SEED: the statements are not yours to turn. If you find one false, say at which input.
  Laid BY PROGRAM, IN A SANDBOX (cutbox-rows.mjs): the forced cells as the released guide's own fill.sh prints them over the translation 280dae804b3e2467… (all of the seat's roots in one cut). By AI agents, Wed Nov 11 2026. No macro, syntax, notation, axiom, sorry.
-/
import Derived.Test.YtcmhbepfolibgaaChecked
import GoSem.Claim
import GoSem.ClaimJoined
import GoSem.ClaimMapViews
import Derived.JoinedTies
import Derived.KernelRfl
namespace Go.Proofs.Ytcmhbepfolibgaa
/- THE CELL 'sum', in the pinned program and in every row, IS THE sha256 OF THE DUMP (.gsa) THAT YtcmhbepfolibgaaProg.lean LOADS. Nothing in Lean hashes anything: it is a label: what it is worth is what the hold of that sum in a sandbox is worth. -/
noncomputable def Try.pinned : Pinned := { name := "ytcmhbepfolibgaa", sum := "280dae804b3e2467897deb079d3f507ccb8f6135d911c5ecf18b1265c5ba469a", checked := Try.checked }
namespace Rows
def none {H : Type} : Left H := { results := [], args := [] }

/-- 'apostillelaw02.ShaSums': WHATEVER THE INPUT: true; the input reads as it did. -/
def shaSumsSpec : ChangeSpec := { name := "shaSums", fn := fun _ => fun
  | [d1, d2, d3] => { results := [.lit (.bool true)], args := [d1, d2, d3] }
  | _ => none }
def shaSumsRow : OpenClaim := { program := "ytcmhbepfolibgaa", sum := "280dae804b3e2467897deb079d3f507ccb8f6135d911c5ecf18b1265c5ba469a", func := "apostille/apostillelaw02.ShaSums", spec := "shaSums", apart := false }
def ShaSumsSaid : Prop := shaSumsRow.holds Try.pinned (OpenSpec.ofChange shaSumsSpec)

/-- ITS FALSE NEIGHBOUR: 'it returns false'. Refute it at one input. -/
def shaSumsWrong : ChangeSpec := { name := "shaSums", fn := fun _ => fun
  | [d1, d2, d3] => { results := [.lit (.bool false)], args := [d1, d2, d3] }
  | _ => none }
def ShaSumsWrongFalsely : Prop := shaSumsRow.holds Try.pinned (OpenSpec.ofChange shaSumsWrong)

/-- 'apostillelaw02.ShaLong': WHATEVER THE INPUT: true; the input reads as it did. -/
def shaLongSpec : ChangeSpec := { name := "shaLong", fn := fun _ => fun
  | [d1, d2] => { results := [.lit (.bool true)], args := [d1, d2] }
  | _ => none }
def shaLongRow : OpenClaim := { program := "ytcmhbepfolibgaa", sum := "280dae804b3e2467897deb079d3f507ccb8f6135d911c5ecf18b1265c5ba469a", func := "apostille/apostillelaw02.ShaLong", spec := "shaLong", apart := false }
def ShaLongSaid : Prop := shaLongRow.holds Try.pinned (OpenSpec.ofChange shaLongSpec)

/-- ITS FALSE NEIGHBOUR: 'it returns false'. Refute it at one input. -/
def shaLongWrong : ChangeSpec := { name := "shaLong", fn := fun _ => fun
  | [d1, d2] => { results := [.lit (.bool false)], args := [d1, d2] }
  | _ => none }
def ShaLongWrongFalsely : Prop := shaLongRow.holds Try.pinned (OpenSpec.ofChange shaLongWrong)

/-- 'apostillelaw02.ShaOwn': WHATEVER THE INPUT: true; the input reads as it did. -/
def shaOwnSpec : ChangeSpec := { name := "shaOwn", fn := fun _ => fun
  | [d1, d2] => { results := [.lit (.bool true)], args := [d1, d2] }
  | _ => none }
def shaOwnRow : OpenClaim := { program := "ytcmhbepfolibgaa", sum := "280dae804b3e2467897deb079d3f507ccb8f6135d911c5ecf18b1265c5ba469a", func := "apostille/apostillelaw02.ShaOwn", spec := "shaOwn", apart := false }
def ShaOwnSaid : Prop := shaOwnRow.holds Try.pinned (OpenSpec.ofChange shaOwnSpec)

/-- ITS FALSE NEIGHBOUR: 'it returns false'. Refute it at one input. -/
def shaOwnWrong : ChangeSpec := { name := "shaOwn", fn := fun _ => fun
  | [d1, d2] => { results := [.lit (.bool false)], args := [d1, d2] }
  | _ => none }
def ShaOwnWrongFalsely : Prop := shaOwnRow.holds Try.pinned (OpenSpec.ofChange shaOwnWrong)

/-- 'apostillelaw02.ShaDigits': WHATEVER THE INPUT: true; the input reads as it did. -/
def shaDigitsSpec : ChangeSpec := { name := "shaDigits", fn := fun _ => fun
  | [d] => { results := [.lit (.bool true)], args := [d] }
  | _ => none }
def shaDigitsRow : OpenClaim := { program := "ytcmhbepfolibgaa", sum := "280dae804b3e2467897deb079d3f507ccb8f6135d911c5ecf18b1265c5ba469a", func := "apostille/apostillelaw02.ShaDigits", spec := "shaDigits", apart := false }
def ShaDigitsSaid : Prop := shaDigitsRow.holds Try.pinned (OpenSpec.ofChange shaDigitsSpec)

/-- ITS FALSE NEIGHBOUR: 'it returns false'. Refute it at one input. -/
def shaDigitsWrong : ChangeSpec := { name := "shaDigits", fn := fun _ => fun
  | [d] => { results := [.lit (.bool false)], args := [d] }
  | _ => none }
def ShaDigitsWrongFalsely : Prop := shaDigitsRow.holds Try.pinned (OpenSpec.ofChange shaDigitsWrong)

/-- 'apostillelaw03.MacSums': WHATEVER THE INPUT: true; the input reads as it did. -/
def macSumsSpec : ChangeSpec := { name := "macSums", fn := fun _ => fun
  | [d1, d2, d3] => { results := [.lit (.bool true)], args := [d1, d2, d3] }
  | _ => none }
def macSumsRow : OpenClaim := { program := "ytcmhbepfolibgaa", sum := "280dae804b3e2467897deb079d3f507ccb8f6135d911c5ecf18b1265c5ba469a", func := "apostille/apostillelaw03.MacSums", spec := "macSums", inPlace := ["slices.overlaps[[]byte]"], apart := false }
def MacSumsSaid : Prop := macSumsRow.holds Try.pinned (OpenSpec.ofChange macSumsSpec)

/-- ITS FALSE NEIGHBOUR: 'it returns false'. Refute it at one input. -/
def macSumsWrong : ChangeSpec := { name := "macSums", fn := fun _ => fun
  | [d1, d2, d3] => { results := [.lit (.bool false)], args := [d1, d2, d3] }
  | _ => none }
def MacSumsWrongFalsely : Prop := macSumsRow.holds Try.pinned (OpenSpec.ofChange macSumsWrong)

/-- 'apostillelaw03.MacKeys': WHATEVER THE INPUT: true; the input reads as it did. -/
def macKeysSpec : ChangeSpec := { name := "macKeys", fn := fun _ => fun
  | [d1, d2, d3] => { results := [.lit (.bool true)], args := [d1, d2, d3] }
  | _ => none }
def macKeysRow : OpenClaim := { program := "ytcmhbepfolibgaa", sum := "280dae804b3e2467897deb079d3f507ccb8f6135d911c5ecf18b1265c5ba469a", func := "apostille/apostillelaw03.MacKeys", spec := "macKeys", inPlace := ["slices.overlaps[[]byte]"], apart := false }
def MacKeysSaid : Prop := macKeysRow.holds Try.pinned (OpenSpec.ofChange macKeysSpec)

/-- ITS FALSE NEIGHBOUR: 'it returns false'. Refute it at one input. -/
def macKeysWrong : ChangeSpec := { name := "macKeys", fn := fun _ => fun
  | [d1, d2, d3] => { results := [.lit (.bool false)], args := [d1, d2, d3] }
  | _ => none }
def MacKeysWrongFalsely : Prop := macKeysRow.holds Try.pinned (OpenSpec.ofChange macKeysWrong)

/-- 'apostillelaw03.MacEquals': WHATEVER THE INPUT: true; the input reads as it did. -/
def macEqualsSpec : ChangeSpec := { name := "macEquals", fn := fun _ => fun
  | [d1, d2, d3] => { results := [.lit (.bool true)], args := [d1, d2, d3] }
  | _ => none }
def macEqualsRow : OpenClaim := { program := "ytcmhbepfolibgaa", sum := "280dae804b3e2467897deb079d3f507ccb8f6135d911c5ecf18b1265c5ba469a", func := "apostille/apostillelaw03.MacEquals", spec := "macEquals", inPlace := ["slices.overlaps[[]byte]"], apart := false }
def MacEqualsSaid : Prop := macEqualsRow.holds Try.pinned (OpenSpec.ofChange macEqualsSpec)

/-- ITS FALSE NEIGHBOUR: 'it returns false'. Refute it at one input. -/
def macEqualsWrong : ChangeSpec := { name := "macEquals", fn := fun _ => fun
  | [d1, d2, d3] => { results := [.lit (.bool false)], args := [d1, d2, d3] }
  | _ => none }
def MacEqualsWrongFalsely : Prop := macEqualsRow.holds Try.pinned (OpenSpec.ofChange macEqualsWrong)

/-- 'apostillelaw03.MacNests': WHATEVER THE INPUT: true; the input reads as it did. -/
def macNestsSpec : ChangeSpec := { name := "macNests", fn := fun _ => fun
  | [d1, d2] => { results := [.lit (.bool true)], args := [d1, d2] }
  | _ => none }
def macNestsRow : OpenClaim := { program := "ytcmhbepfolibgaa", sum := "280dae804b3e2467897deb079d3f507ccb8f6135d911c5ecf18b1265c5ba469a", func := "apostille/apostillelaw03.MacNests", spec := "macNests", inPlace := ["slices.overlaps[[]byte]"], apart := false }
def MacNestsSaid : Prop := macNestsRow.holds Try.pinned (OpenSpec.ofChange macNestsSpec)

/-- ITS FALSE NEIGHBOUR: 'it returns false'. Refute it at one input. -/
def macNestsWrong : ChangeSpec := { name := "macNests", fn := fun _ => fun
  | [d1, d2] => { results := [.lit (.bool false)], args := [d1, d2] }
  | _ => none }
def MacNestsWrongFalsely : Prop := macNestsRow.holds Try.pinned (OpenSpec.ofChange macNestsWrong)

/- THE SECOND FORM. 'bulk': how many values and letters a reading holds, each counted each time it is reached (what is shared counts as often as it is met; a slice's spare places count too). A statement '..UptoSaid' is the law's where the arguments, and the package variables that the reading takes, are together of bulk at most 1048576: NARROWER than '..Said'. Prove '..Said' where nothing that the law and all that it calls make is longer than what came in: it says more and counts as full. Else prove '..UptoSaid'. A law counts once. -/
mutual
def uptoBulk {H : Type} : DataW H → Nat
  | .lit (.string bytes) => bytes.length + 1
  | .lit _ => 1
  | .nil => 1
  | .ptr d => uptoBulk d + 1
  | .slice elems spare => uptoBulkAll elems + uptoBulkAll spare + 1
  | .agg parts => uptoBulkAll parts + 1
  | .iface _ d => uptoBulk d + 1
  | .map entries => uptoBulkEntries entries + 1
  | .held _ => 1
def uptoBulkAll {H : Type} : List (DataW H) → Nat
  | [] => 0
  | d :: r => uptoBulk d + uptoBulkAll r
def uptoBulkEntries {H : Type} : List (Lit × DataW H) → Nat
  | [] => 0
  | x :: r => uptoBulkEntry x + uptoBulkEntries r
def uptoBulkEntry {H : Type} : Lit × DataW H → Nat
  | (.string bytes, d) => bytes.length + uptoBulk d + 1
  | (_, d) => uptoBulk d + 1
 end
def uptoSmall : (H : Type) → List (DataW H) → Bool := fun _ ds => decide (uptoBulkAll ds ≤ 1048576)
def OpenSpec.upto (s : _root_.Go.ChangeSpec) : _root_.Go.OpenSpec := { _root_.Go.OpenSpec.ofChange s with cond := some uptoSmall }

/-- 'apostillelaw02.ShaSums', WHERE WHAT IT READS IS OF BULK AT MOST 1048576: true; the input reads as it did. -/
def shaSumsUptoRow : OpenClaim := { program := "ytcmhbepfolibgaa", sum := "280dae804b3e2467897deb079d3f507ccb8f6135d911c5ecf18b1265c5ba469a", func := "apostille/apostillelaw02.ShaSums", spec := "shaSums", apart := false, narrowed := true }
def ShaSumsUptoSaid : Prop := shaSumsUptoRow.holds Try.pinned (OpenSpec.upto shaSumsSpec)

/-- 'apostillelaw02.ShaLong', WHERE WHAT IT READS IS OF BULK AT MOST 1048576: true; the input reads as it did. -/
def shaLongUptoRow : OpenClaim := { program := "ytcmhbepfolibgaa", sum := "280dae804b3e2467897deb079d3f507ccb8f6135d911c5ecf18b1265c5ba469a", func := "apostille/apostillelaw02.ShaLong", spec := "shaLong", apart := false, narrowed := true }
def ShaLongUptoSaid : Prop := shaLongUptoRow.holds Try.pinned (OpenSpec.upto shaLongSpec)

/-- 'apostillelaw02.ShaOwn', WHERE WHAT IT READS IS OF BULK AT MOST 1048576: true; the input reads as it did. -/
def shaOwnUptoRow : OpenClaim := { program := "ytcmhbepfolibgaa", sum := "280dae804b3e2467897deb079d3f507ccb8f6135d911c5ecf18b1265c5ba469a", func := "apostille/apostillelaw02.ShaOwn", spec := "shaOwn", apart := false, narrowed := true }
def ShaOwnUptoSaid : Prop := shaOwnUptoRow.holds Try.pinned (OpenSpec.upto shaOwnSpec)

/-- 'apostillelaw02.ShaDigits', WHERE WHAT IT READS IS OF BULK AT MOST 1048576: true; the input reads as it did. -/
def shaDigitsUptoRow : OpenClaim := { program := "ytcmhbepfolibgaa", sum := "280dae804b3e2467897deb079d3f507ccb8f6135d911c5ecf18b1265c5ba469a", func := "apostille/apostillelaw02.ShaDigits", spec := "shaDigits", apart := false, narrowed := true }
def ShaDigitsUptoSaid : Prop := shaDigitsUptoRow.holds Try.pinned (OpenSpec.upto shaDigitsSpec)

/-- 'apostillelaw03.MacSums', WHERE WHAT IT READS IS OF BULK AT MOST 1048576: true; the input reads as it did. -/
def macSumsUptoRow : OpenClaim := { program := "ytcmhbepfolibgaa", sum := "280dae804b3e2467897deb079d3f507ccb8f6135d911c5ecf18b1265c5ba469a", func := "apostille/apostillelaw03.MacSums", spec := "macSums", inPlace := ["slices.overlaps[[]byte]"], apart := false, narrowed := true }
def MacSumsUptoSaid : Prop := macSumsUptoRow.holds Try.pinned (OpenSpec.upto macSumsSpec)

/-- 'apostillelaw03.MacKeys', WHERE WHAT IT READS IS OF BULK AT MOST 1048576: true; the input reads as it did. -/
def macKeysUptoRow : OpenClaim := { program := "ytcmhbepfolibgaa", sum := "280dae804b3e2467897deb079d3f507ccb8f6135d911c5ecf18b1265c5ba469a", func := "apostille/apostillelaw03.MacKeys", spec := "macKeys", inPlace := ["slices.overlaps[[]byte]"], apart := false, narrowed := true }
def MacKeysUptoSaid : Prop := macKeysUptoRow.holds Try.pinned (OpenSpec.upto macKeysSpec)

/-- 'apostillelaw03.MacEquals', WHERE WHAT IT READS IS OF BULK AT MOST 1048576: true; the input reads as it did. -/
def macEqualsUptoRow : OpenClaim := { program := "ytcmhbepfolibgaa", sum := "280dae804b3e2467897deb079d3f507ccb8f6135d911c5ecf18b1265c5ba469a", func := "apostille/apostillelaw03.MacEquals", spec := "macEquals", inPlace := ["slices.overlaps[[]byte]"], apart := false, narrowed := true }
def MacEqualsUptoSaid : Prop := macEqualsUptoRow.holds Try.pinned (OpenSpec.upto macEqualsSpec)

/-- 'apostillelaw03.MacNests', WHERE WHAT IT READS IS OF BULK AT MOST 1048576: true; the input reads as it did. -/
def macNestsUptoRow : OpenClaim := { program := "ytcmhbepfolibgaa", sum := "280dae804b3e2467897deb079d3f507ccb8f6135d911c5ecf18b1265c5ba469a", func := "apostille/apostillelaw03.MacNests", spec := "macNests", inPlace := ["slices.overlaps[[]byte]"], apart := false, narrowed := true }
def MacNestsUptoSaid : Prop := macNestsUptoRow.holds Try.pinned (OpenSpec.upto macNestsSpec)

end Rows
end Go.Proofs.Ytcmhbepfolibgaa
