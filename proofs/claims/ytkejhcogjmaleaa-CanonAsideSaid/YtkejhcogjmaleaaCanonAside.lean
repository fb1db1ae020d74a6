/- The statement 'CanonAside' holds: for every input the law returns true, and each argument reads afterwards as it read before. Conditions: none beyond the row's own. The lines of the row's step follow the kit's shell for laws. -/
import Derived.Test.YtkejhcogjmaleaaRows
import Derived.Test.YtkejhcogjmaleaaCan
import Derived.WalkKit
import Derived.ProofKit
import Derived.OpenShut
import Derived.ShutString
import Derived.ChangeOld
import Derived.Below
import Derived.SizedLaws
namespace Go.Proofs.Ytkejhcogjmaleaa.lawCanonAside
open Go.ChangeShapes Go.WideShapes Go.ChangeAt Go.RowKit
open Go.ChangeMaps (open_string shut_string)
set_option linter.unusedVariables false
theorem own : ownKnob Try.prog.godebug = none := by kernel_rfl
theorem laidOut : laidOutB Try.prog = true := by kernel_rfl
set_option maxRecDepth 100000 in
theorem lifted (os : Os) (started : os.Started) (H : Type) (enc : TypeId × Value → H) :
    ReturnsInHanded {} Try.checked os 6 .any (Rows.canonAsideSpec.pre6 enc Try.prog Try.f6 Rows.canonAsideRow.domain false) (Rows.canonAsideSpec.post enc Try.prog Try.f6 false true false false) := by
  refine returnsInHanded_of_change_sized (C := Try.checked) own started (by kernel_rfl) Try.func6
    (ChangeSpec.witness6 (enc := enc) (C := Try.checked) false ⟨#[], #[.int .i64 0, .string ByteArray.empty, .string ByteArray.empty], []⟩ 60 (by kernel_rfl) (by kernel_rfl) (by kernel_rfl) (by kernel_rfl)) ?_
  intro W base args ds gs before hval0 hW hcnd hz0 _
  have hval : ∀ (j : Nat) t v, Try.f6.params[j]? = some t → args[j]? = some v → Value.okWide Try.prog W .any base t v := hval0
  have hW' := hW
  obtain ⟨p, q, hA0, hV, rfl, hfz, hnd⟩ := hW
  have hA : DataW.TrodAll enc Try.prog W 0 (fun _ => true) true Try.f6.params.toList args.toList ds p := hA0
  have hz : (DataW.weightsEach Try.prog (Try.f6.params.toList ++ []) (ds ++ gs)).all (· ≤ reachBytes) = true := hz0
  rw [Try.params6] at hA hval hz
  obtain ⟨v0, vs0, d0, ds0, p0, q0, hargs, rfl, rfl, h0, r0⟩ := trodAll_cons hA
  obtain ⟨v1, vs1, d1, ds1, p1, q1, rfl, rfl, rfl, h1, r1⟩ := trodAll_cons r0
  obtain ⟨v2, vs2, d2, ds2, p2, q2, rfl, rfl, rfl, h2, r2⟩ := trodAll_cons r1
  obtain ⟨rfl, rfl, rfl⟩ := trodAll_nil r2
  obtain rfl : args = #[v0, v1, v2] := by cases args; simp_all
  obtain ⟨rfl, rfl⟩ := trodVars_none hV
  have k0 := h0
  have lt0 : ∀ x ∈ p0, x.block < W.heap.size := by obtain ⟨m, hm⟩ := k0; exact DataW.trod_lt m _ _ _ hm
  obtain ⟨a0, rfl, rfl, rfl, w0⟩ := open_int Try.underlying3 (hval 0 3 v0 rfl rfl) h0
  have rp0 : Go.Av.RepP (Go.Av.cellsOf W) (.int .i64 a0) (.int .i64 a0) := .int _ _
  have k1 := h1
  have lt1 : ∀ x ∈ p1, x.block < W.heap.size := by obtain ⟨m, hm⟩ := k1; exact DataW.trod_lt m _ _ _ hm
  obtain ⟨s1, rfl⟩ := okWide_string Try.underlying9 (hval 1 9 v1 rfl rfl)
  have ws1 : s1.size ≤ reachBytes := by
    obtain ⟨z, ez, ed, _, _⟩ := open_string Try.underlying9 (hval 1 9 _ rfl rfl) h1
    obtain rfl := Value.string.inj ez
    have := sized_string hz (j := 1) (t := 9) rfl (by rw [ed]; rfl)
    rwa [Array.length_toList] at this
  have rp1 : Go.Av.RepP (Go.Av.cellsOf W) (.str s1) (.string s1) := .str _
  have k2 := h2
  have lt2 : ∀ x ∈ p2, x.block < W.heap.size := by obtain ⟨m, hm⟩ := k2; exact DataW.trod_lt m _ _ _ hm
  obtain ⟨s2, rfl⟩ := okWide_string Try.underlying9 (hval 2 9 v2 rfl rfl)
  have ws2 : s2.size ≤ reachBytes := by
    obtain ⟨z, ez, ed, _, _⟩ := open_string Try.underlying9 (hval 2 9 _ rfl rfl) h2
    obtain rfl := Value.string.inj ez
    have := sized_string hz (j := 2) (t := 9) rfl (by rw [ed]; rfl)
    rwa [Array.length_toList] at this
  have rp2 : Go.Av.RepP (Go.Av.cellsOf W) (.str s2) (.string s2) := .str _
  clear hA0 hval0
  have hlaw := Go.Av.Fn.law (P := Try.prog) (f := 6) (args := [.int .i64 a0, .str s1, .str s2]) (w := W) (Go.Av.Can.aside_law a0 w0 s1 ws1 s2 ws2) (Go.Proofs.Ytkejhcogjmaleaa.noVars W) (vs := (#[(.int .i64 a0), (.string s1), (.string s2)] : Array Value).toList) rfl (by
    intro i hi
    match i, hi with
    | 0, _ => exact rp0
    | 1, _ => exact rp1
    | 2, _ => exact rp2
    | m + 3, h => exact absurd h (by simp))
  refine hlaw.mono fun e W' ⟨he, bel⟩ => ?_
  subst he
  exact ⟨_, rfl, _, _, _, [], _, [], hW', trodAll_mk1 (shut_bool Try.underlying4 _), (trodAll_cons_mk (Below.trod laidOut (by kernel_rfl) (of_decide_eq_true (by kernel_rfl)) k0 bel lt0) (trodAll_cons_mk (Below.trod laidOut (by kernel_rfl) (of_decide_eq_true (by kernel_rfl)) k1 bel lt1) (trodAll_cons_mk (Below.trod laidOut (by kernel_rfl) (of_decide_eq_true (by kernel_rfl)) k2 bel lt2) trodAll_mk0))), rfl, bel.frame _, fun h => by cases h⟩
theorem over : Rows.canonAsideRow.holds Try.pinned (OpenSpec.ofChange Rows.canonAsideSpec) :=
  OpenClaim.holds_of_wide 6 Try.f6 rfl rfl rfl rfl rfl rfl rfl ⟨rfl, rfl, rfl, rfl, rfl⟩ rfl rfl rfl rfl rfl (by kernel_rfl) Try.func6 (by kernel_rfl)
    (of_decide_eq_true (by kernel_rfl)) (by unfold Func.isWrapper; first | (rw [if_pos (by decide +kernel)]; kernel_rfl) | (rw [if_neg (by decide +kernel)]; exact ⟨rfl, rfl⟩))
    (fun os started H enc _ => lifted os started H enc)

theorem proved : Rows.CanonAsideSaid := over
#print axioms proved
end Go.Proofs.Ytkejhcogjmaleaa.lawCanonAside
