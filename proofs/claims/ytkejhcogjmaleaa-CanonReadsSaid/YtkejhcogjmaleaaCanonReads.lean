/- The statement 'CanonReads' holds: for every input the law returns true, and each argument reads afterwards as it read before. Conditions: none beyond the row's own. The lines of the row's step follow the kit's shell for laws. -/
import Derived.Test.YtkejhcogjmaleaaRows
import Derived.Test.YtkejhcogjmaleaaCanf
import Derived.WalkKit
import Derived.ProofKit
import Derived.OpenShut
import Derived.ShutString
import Derived.ChangeOld
import Derived.Below
namespace Go.Proofs.Ytkejhcogjmaleaa.lawCanonReads
open Go.ChangeShapes Go.WideShapes Go.ChangeAt Go.RowKit
open Go.ChangeMaps (open_string shut_string)
set_option linter.unusedVariables false
theorem own : ownKnob Try.prog.godebug = none := by kernel_rfl
theorem laidOut : laidOutB Try.prog = true := by kernel_rfl
set_option maxRecDepth 100000 in
theorem lifted (os : Os) (started : os.Started) (H : Type) (enc : TypeId × Value → H) :
    ReturnsInHanded {} Try.checked os 3 .any (Rows.canonReadsSpec.pre6 enc Try.prog Try.f3 Rows.canonReadsRow.domain false) (Rows.canonReadsSpec.post enc Try.prog Try.f3 false true false false) := by
  refine returnsInHanded_of_change (C := Try.checked) own started (by kernel_rfl) Try.func3
    (ChangeSpec.witness6 (enc := enc) (C := Try.checked) false ⟨#[], #[.string ByteArray.empty], []⟩ 60 (by kernel_rfl) (by kernel_rfl) (by kernel_rfl) (by kernel_rfl)) ?_
  intro W base args ds gs before hval0 hW hcnd _
  have hval : ∀ (j : Nat) t v, Try.f3.params[j]? = some t → args[j]? = some v → Value.okWide Try.prog W .any base t v := hval0
  have hW' := hW
  obtain ⟨p, q, hA0, hV, rfl, hfz, hnd⟩ := hW
  have hA : DataW.TrodAll enc Try.prog W 0 (fun _ => true) true Try.f3.params.toList args.toList ds p := hA0
  rw [Try.params3] at hA hval
  obtain ⟨v0, vs0, d0, ds0, p0, q0, hargs, rfl, rfl, h0, r0⟩ := trodAll_cons hA
  obtain ⟨rfl, rfl, rfl⟩ := trodAll_nil r0
  obtain rfl : args = #[v0] := by cases args; simp_all
  obtain ⟨rfl, rfl⟩ := trodVars_none hV
  have k0 := h0
  have lt0 : ∀ x ∈ p0, x.block < W.heap.size := by obtain ⟨m, hm⟩ := k0; exact DataW.trod_lt m _ _ _ hm
  obtain ⟨s0, rfl⟩ := okWide_string Try.underlying9 (hval 0 9 v0 rfl rfl)
  have ws0 : s0.size ≤ maxLen := by obtain ⟨fuel, hf⟩ := h0; obtain ⟨z, hz, _, hw⟩ := DataW.trod_string Try.underlying9 hf; simp [Value.cells] at hz; subst hz; exact hw
  have rp0 : Go.Av.RepP (Go.Av.cellsOf W) (.str s0) (.string s0) := .str _
  clear hA0 hval0
  have hlaw := Go.Av.Fn.law (P := Try.prog) (f := 3) (args := [.str s0]) (w := W) (Go.Av.Can.reads_law s0 ws0) (Go.Proofs.Ytkejhcogjmaleaa.noVars W) (vs := (#[(.string s0)] : Array Value).toList) rfl (by
    intro i hi
    match i, hi with
    | 0, _ => exact rp0
    | m + 1, h => exact absurd h (by simp))
  refine hlaw.mono fun e W' ⟨he, bel⟩ => ?_
  subst he
  exact ⟨_, rfl, _, _, _, [], _, [], hW', trodAll_mk1 (shut_bool Try.underlying4 _), (trodAll_cons_mk (Below.trod laidOut (by kernel_rfl) (of_decide_eq_true (by kernel_rfl)) k0 bel lt0) trodAll_mk0), rfl, bel.frame _, fun h => by cases h⟩
theorem over : Rows.canonReadsRow.holds Try.pinned (OpenSpec.ofChange Rows.canonReadsSpec) :=
  OpenClaim.holds_of_wide 3 Try.f3 rfl rfl rfl rfl rfl rfl rfl ⟨rfl, rfl, rfl, rfl, rfl⟩ rfl rfl rfl rfl rfl (by kernel_rfl) Try.func3 (by kernel_rfl)
    (of_decide_eq_true (by kernel_rfl)) (by unfold Func.isWrapper; first | (rw [if_pos (by decide +kernel)]; kernel_rfl) | (rw [if_neg (by decide +kernel)]; exact ⟨rfl, rfl⟩))
    (fun os started H enc _ => lifted os started H enc)

theorem proved : Rows.CanonReadsSaid := over
#print axioms proved
end Go.Proofs.Ytkejhcogjmaleaa.lawCanonReads
