/-
  No cell of these rows narrows 'for every input' (looked for: loops, veiled, ifaces, maps, wideKeys, modest, calm, conditions, laid).
  DERIVED. THE GIVEN ROWS OF THIS SEAT. 5 by the template 'for every input the law returns true; each argument reads behind the call as it read before'; 0 by the template 'total and deterministic' (their statements: YteimmdkhplhpcaaTotals.lean).
  GIVEN WITH THE SEED: the statements are not yours to turn. If you find one false, say at which input.
  Laid BY PROGRAM, IN A SANDBOX (cutbox-rows.mjs): the forced cells as the released guide's own fill.sh prints them over the translation e64e5903094ff86a… (all of the seat's roots in one cut). By AI agents, Wed Nov 11 2026. No macro, syntax, notation, axiom, sorry.
-/
import Derived.Test.YteimmdkhplhpcaaChecked
import GoSem.Claim
import GoSem.ClaimJoined
import GoSem.ClaimMapViews
import Derived.JoinedTies
import Derived.KernelRfl
namespace Go.Proofs.Yteimmdkhplhpcaa
/- THE CELL 'sum', in the pinned program and in every row, IS THE sha256 OF THE DUMP (.gsa) THAT YteimmdkhplhpcaaProg.lean LOADS. Nothing in Lean hashes anything: it is a label: what it is worth is what the hold of that sum in a sandbox is worth. -/
noncomputable def Try.pinned : Pinned := { name := "yteimmdkhplhpcaa", sum := "e64e5903094ff86a8a548316131366d94e2395d594da6283e74b9335ae4516ed", checked := Try.checked }
namespace Rows
def none {H : Type} : Left H := { results := [], args := [] }

/-- 'apostillelaw04.BaseEncodes': WHATEVER THE INPUT: true; the input reads as it did. -/
def baseEncodesSpec : ChangeSpec := { name := "baseEncodes", fn := fun _ => fun
  | [d1, d2] => { results := [.lit (.bool true)], args := [d1, d2] }
  | _ => none }
def baseEncodesRow : OpenClaim := { program := "yteimmdkhplhpcaa", sum := "e64e5903094ff86a8a548316131366d94e2395d594da6283e74b9335ae4516ed", func := "apostille/apostillelaw04.BaseEncodes", spec := "baseEncodes", inPlace := ["internal/bytealg.IndexByteString", "internal/bytealg.IndexString", "internal/abi.NoEscape"], named := ["internal/bytealg.MaxLen"], apart := false }
def BaseEncodesSaid : Prop := baseEncodesRow.holds Try.pinned (OpenSpec.ofChange baseEncodesSpec)

/-- ITS FALSE NEIGHBOUR: 'it returns false'. Refute it at one input. -/
def baseEncodesWrong : ChangeSpec := { name := "baseEncodes", fn := fun _ => fun
  | [d1, d2] => { results := [.lit (.bool false)], args := [d1, d2] }
  | _ => none }
def BaseEncodesWrongFalsely : Prop := baseEncodesRow.holds Try.pinned (OpenSpec.ofChange baseEncodesWrong)

/-- 'apostillelaw04.BaseDecodes': WHATEVER THE INPUT: true; the input reads as it did. -/
def baseDecodesSpec : ChangeSpec := { name := "baseDecodes", fn := fun _ => fun
  | [d] => { results := [.lit (.bool true)], args := [d] }
  | _ => none }
def baseDecodesRow : OpenClaim := { program := "yteimmdkhplhpcaa", sum := "e64e5903094ff86a8a548316131366d94e2395d594da6283e74b9335ae4516ed", func := "apostille/apostillelaw04.BaseDecodes", spec := "baseDecodes", inPlace := ["internal/bytealg.IndexByteString", "internal/bytealg.IndexString", "internal/abi.NoEscape"], named := ["internal/bytealg.MaxLen"], apart := false }
def BaseDecodesSaid : Prop := baseDecodesRow.holds Try.pinned (OpenSpec.ofChange baseDecodesSpec)

/-- ITS FALSE NEIGHBOUR: 'it returns false'. Refute it at one input. -/
def baseDecodesWrong : ChangeSpec := { name := "baseDecodes", fn := fun _ => fun
  | [d] => { results := [.lit (.bool false)], args := [d] }
  | _ => none }
def BaseDecodesWrongFalsely : Prop := baseDecodesRow.holds Try.pinned (OpenSpec.ofChange baseDecodesWrong)

/-- 'apostillelaw04.BaseOnly': WHATEVER THE INPUT: true; the input reads as it did. -/
def baseOnlySpec : ChangeSpec := { name := "baseOnly", fn := fun _ => fun
  | [d] => { results := [.lit (.bool true)], args := [d] }
  | _ => none }
def baseOnlyRow : OpenClaim := { program := "yteimmdkhplhpcaa", sum := "e64e5903094ff86a8a548316131366d94e2395d594da6283e74b9335ae4516ed", func := "apostille/apostillelaw04.BaseOnly", spec := "baseOnly", inPlace := ["internal/bytealg.IndexByteString", "internal/bytealg.IndexString", "internal/abi.NoEscape"], named := ["internal/bytealg.MaxLen"], apart := false }
def BaseOnlySaid : Prop := baseOnlyRow.holds Try.pinned (OpenSpec.ofChange baseOnlySpec)

/-- ITS FALSE NEIGHBOUR: 'it returns false'. Refute it at one input. -/
def baseOnlyWrong : ChangeSpec := { name := "baseOnly", fn := fun _ => fun
  | [d] => { results := [.lit (.bool false)], args := [d] }
  | _ => none }
def BaseOnlyWrongFalsely : Prop := baseOnlyRow.holds Try.pinned (OpenSpec.ofChange baseOnlyWrong)

/-- 'apostillelaw04.BaseBlanks': WHATEVER THE INPUT: true; the input reads as it did. -/
def baseBlanksSpec : ChangeSpec := { name := "baseBlanks", fn := fun _ => fun
  | [d1, d2, d3] => { results := [.lit (.bool true)], args := [d1, d2, d3] }
  | _ => none }
def baseBlanksRow : OpenClaim := { program := "yteimmdkhplhpcaa", sum := "e64e5903094ff86a8a548316131366d94e2395d594da6283e74b9335ae4516ed", func := "apostille/apostillelaw04.BaseBlanks", spec := "baseBlanks", inPlace := ["internal/bytealg.IndexByteString", "internal/bytealg.IndexString", "internal/abi.NoEscape"], named := ["internal/bytealg.MaxLen"], apart := false }
def BaseBlanksSaid : Prop := baseBlanksRow.holds Try.pinned (OpenSpec.ofChange baseBlanksSpec)

/-- ITS FALSE NEIGHBOUR: 'it returns false'. Refute it at one input. -/
def baseBlanksWrong : ChangeSpec := { name := "baseBlanks", fn := fun _ => fun
  | [d1, d2, d3] => { results := [.lit (.bool false)], args := [d1, d2, d3] }
  | _ => none }
def BaseBlanksWrongFalsely : Prop := baseBlanksRow.holds Try.pinned (OpenSpec.ofChange baseBlanksWrong)

/-- 'apostillelaw04.BaseLong': WHATEVER THE INPUT: true; the input reads as it did. -/
def baseLongSpec : ChangeSpec := { name := "baseLong", fn := fun _ => fun
  | [d] => { results := [.lit (.bool true)], args := [d] }
  | _ => none }
def baseLongRow : OpenClaim := { program := "yteimmdkhplhpcaa", sum := "e64e5903094ff86a8a548316131366d94e2395d594da6283e74b9335ae4516ed", func := "apostille/apostillelaw04.BaseLong", spec := "baseLong", inPlace := ["internal/bytealg.IndexByteString", "internal/bytealg.IndexString", "internal/abi.NoEscape"], named := ["internal/bytealg.MaxLen"], apart := false }
def BaseLongSaid : Prop := baseLongRow.holds Try.pinned (OpenSpec.ofChange baseLongSpec)

/-- ITS FALSE NEIGHBOUR: 'it returns false'. Refute it at one input. -/
def baseLongWrong : ChangeSpec := { name := "baseLong", fn := fun _ => fun
  | [d] => { results := [.lit (.bool false)], args := [d] }
  | _ => none }
def BaseLongWrongFalsely : Prop := baseLongRow.holds Try.pinned (OpenSpec.ofChange baseLongWrong)

/- THE SECOND FORM. 'bulk': how many values and letters a reading holds, each counted each time it is reached (what is shared counts as often as it is met; a slice's spare places count too). A statement '..UptoSaid' is the law's where the arguments, and the package variables that the reading takes, are together of bulk at most 1048576: NARROWER than '..Said'. Prove '..Said' where nothing that the law and all that it calls make is longer than what came in: it says more and counts as full. Else prove '..UptoSaid'. A law counts once. -/
mutual
def uptoBulk {H : Type} : DataW H → Nat
  | .lit (.string bytes) => bytes.length + 1
  | .lit _ => 1
  | .nil => 1
  | .ptr d => uptoBulk d + 1
  | .slice elems spare => uptoBulkAll elems + uptoBulkAll spare + 1
  | .agg parts => uptoBulkAll parts + 1
  | .iface _ d => uptoBulk d + 1
  | .map entries => uptoBulkEntries entries + 1
  | .held _ => 1
def uptoBulkAll {H : Type} : List (DataW H) → Nat
  | [] => 0
  | d :: r => uptoBulk d + uptoBulkAll r
def uptoBulkEntries {H : Type} : List (Lit × DataW H) → Nat
  | [] => 0
  | x :: r => uptoBulkEntry x + uptoBulkEntries r
def uptoBulkEntry {H : Type} : Lit × DataW H → Nat
  | (.string bytes, d) => bytes.length + uptoBulk d + 1
  | (_, d) => uptoBulk d + 1
 end
def uptoSmall : (H : Type) → List (DataW H) → Bool := fun _ ds => decide (uptoBulkAll ds ≤ 1048576)
def OpenSpec.upto (s : _root_.Go.ChangeSpec) : _root_.Go.OpenSpec := { _root_.Go.OpenSpec.ofChange s with cond := some uptoSmall }

/-- 'apostillelaw04.BaseEncodes', WHERE WHAT IT READS IS OF BULK AT MOST 1048576: true; the input reads as it did. -/
def baseEncodesUptoRow : OpenClaim := { program := "yteimmdkhplhpcaa", sum := "e64e5903094ff86a8a548316131366d94e2395d594da6283e74b9335ae4516ed", func := "apostille/apostillelaw04.BaseEncodes", spec := "baseEncodes", inPlace := ["internal/bytealg.IndexByteString", "internal/bytealg.IndexString", "internal/abi.NoEscape"], named := ["internal/bytealg.MaxLen"], apart := false, narrowed := true }
def BaseEncodesUptoSaid : Prop := baseEncodesUptoRow.holds Try.pinned (OpenSpec.upto baseEncodesSpec)

/-- 'apostillelaw04.BaseDecodes', WHERE WHAT IT READS IS OF BULK AT MOST 1048576: true; the input reads as it did. -/
def baseDecodesUptoRow : OpenClaim := { program := "yteimmdkhplhpcaa", sum := "e64e5903094ff86a8a548316131366d94e2395d594da6283e74b9335ae4516ed", func := "apostille/apostillelaw04.BaseDecodes", spec := "baseDecodes", inPlace := ["internal/bytealg.IndexByteString", "internal/bytealg.IndexString", "internal/abi.NoEscape"], named := ["internal/bytealg.MaxLen"], apart := false, narrowed := true }
def BaseDecodesUptoSaid : Prop := baseDecodesUptoRow.holds Try.pinned (OpenSpec.upto baseDecodesSpec)

/-- 'apostillelaw04.BaseOnly', WHERE WHAT IT READS IS OF BULK AT MOST 1048576: true; the input reads as it did. -/
def baseOnlyUptoRow : OpenClaim := { program := "yteimmdkhplhpcaa", sum := "e64e5903094ff86a8a548316131366d94e2395d594da6283e74b9335ae4516ed", func := "apostille/apostillelaw04.BaseOnly", spec := "baseOnly", inPlace := ["internal/bytealg.IndexByteString", "internal/bytealg.IndexString", "internal/abi.NoEscape"], named := ["internal/bytealg.MaxLen"], apart := false, narrowed := true }
def BaseOnlyUptoSaid : Prop := baseOnlyUptoRow.holds Try.pinned (OpenSpec.upto baseOnlySpec)

/-- 'apostillelaw04.BaseBlanks', WHERE WHAT IT READS IS OF BULK AT MOST 1048576: true; the input reads as it did. -/
def baseBlanksUptoRow : OpenClaim := { program := "yteimmdkhplhpcaa", sum := "e64e5903094ff86a8a548316131366d94e2395d594da6283e74b9335ae4516ed", func := "apostille/apostillelaw04.BaseBlanks", spec := "baseBlanks", inPlace := ["internal/bytealg.IndexByteString", "internal/bytealg.IndexString", "internal/abi.NoEscape"], named := ["internal/bytealg.MaxLen"], apart := false, narrowed := true }
def BaseBlanksUptoSaid : Prop := baseBlanksUptoRow.holds Try.pinned (OpenSpec.upto baseBlanksSpec)

/-- 'apostillelaw04.BaseLong', WHERE WHAT IT READS IS OF BULK AT MOST 1048576: true; the input reads as it did. -/
def baseLongUptoRow : OpenClaim := { program := "yteimmdkhplhpcaa", sum := "e64e5903094ff86a8a548316131366d94e2395d594da6283e74b9335ae4516ed", func := "apostille/apostillelaw04.BaseLong", spec := "baseLong", inPlace := ["internal/bytealg.IndexByteString", "internal/bytealg.IndexString", "internal/abi.NoEscape"], named := ["internal/bytealg.MaxLen"], apart := false, narrowed := true }
def BaseLongUptoSaid : Prop := baseLongUptoRow.holds Try.pinned (OpenSpec.upto baseLongSpec)

end Rows
end Go.Proofs.Yteimmdkhplhpcaa
