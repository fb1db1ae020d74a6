/- The walks of this seat's functions, and what is known of what they reckon (Nest). Conditions: those that each theorem names. -/
import Derived.Test.YtcmhbepfolibgaaMac

section
set_option linter.unusedVariables false
set_option linter.unusedSimpArgs false
set_option linter.unusedSectionVars false
namespace Go.Av

/-! ## An operation that all others leave alone goes first -/
section
variable [Tables] {P : Program} {ops : Array Oper} {K : St → Prop}
theorem gstep_noB {o : Oper} {σ : St} (h : gstep P ops o σ fun _ => False) : False := by
  rw [gstep_iff] at h
  rcases h with ⟨_, v, h', _, hf⟩ | ⟨_, hf⟩ <;> exact hf
def hoistOkB (P : Program) (ops : Array Oper) (listed : Array Bool) (i : Nat) : Bool :=
  match ops[i]? with
  | none => false
  | some oi => !listed.getD i true && (oi.after.toList.all fun e => !Region.binds .any e || listed.getD e.on false) &&
    (List.range ops.size).all fun j => j == i || listed.getD j true || match ops[j]? with
      | some oj => (oj.after.toList.any fun e => Region.binds .any e && e.on == i) || indep P ops oi oj
      | none => false
theorem hoistB {i : Nat} {oi : Oper} (hi : ops[i]? = some oi) : ∀ (fuel : Nat) (listed : Array Bool) (σ : St), listed.getD i true = false → (∀ e ∈ oi.after, Region.binds .any e = true → listed.getD e.on false = true) →
    (∀ j oj, ops[j]? = some oj → j ≠ i → listed.getD j true = false → (∃ e ∈ oj.after, Region.binds .any e = true ∧ e.on = i) ∨ indep P ops oi oj = true) → gstep P ops oi σ (aAny P ops K fuel (listed.setIfInBounds i true)) → aAny P ops K (fuel + 1) listed σ := by
  intro fuel
  induction fuel with
  | zero =>
    intro listed σ h0 ha hind h
    have hr : i ∈ Region.ready .any ops listed := mem_ready.2 ⟨h0, oi, hi, ha⟩
    refine ⟨fun e => by rw [e] at hr; simp at hr, fun j hj oj hoj => ?_⟩
    by_cases hji : j = i
    · subst hji; rw [hi] at hoj; simp only [Option.some.injEq] at hoj; subst hoj; exact h
    · exfalso
      obtain ⟨g0, o', ho', g1⟩ := mem_ready.1 hj
      rw [hoj] at ho'; simp only [Option.some.injEq] at ho'; subst ho'
      refine gstep_noB (gstep_mono h fun σ' hh => ?_)
      have : j ∈ Region.ready .any ops (listed.setIfInBounds i true) := mem_ready.2 ⟨by rw [getD_set_ne true (Ne.symm hji)]; exact g0, oj, hoj, fun e he hb => getD_set_true (g1 e he hb)⟩
      rw [hh.1] at this; simp at this
  | succ fuel ih =>
    intro listed σ h0 ha hind h
    have hr : i ∈ Region.ready .any ops listed := mem_ready.2 ⟨h0, oi, hi, ha⟩
    refine ⟨fun e => by rw [e] at hr; simp at hr, fun j hj oj hoj => ?_⟩
    by_cases hji : j = i
    · subst hji; rw [hi] at hoj; simp only [Option.some.injEq] at hoj; subst hoj; exact h
    · obtain ⟨g0, o', ho', g1⟩ := mem_ready.1 hj
      rw [hoj] at ho'; simp only [Option.some.injEq] at ho'; subst ho'
      have h1 : gstep P ops oi σ fun σ' => gstep P ops oj σ' (aAny P ops K fuel ((listed.setIfInBounds i true).setIfInBounds j true)) := by
        refine gstep_mono h fun σ' hh => ?_
        exact hh.2 j (mem_ready.2 ⟨by rw [getD_set_ne true (Ne.symm hji)]; exact g0, oj, hoj, fun e he hb => getD_set_true (g1 e he hb)⟩) oj hoj
      have hij : indep P ops oi oj = true := by
        rcases hind j oj hoj hji g0 with ⟨e, he, hb, hei⟩ | h
        · have h2 := g1 e he hb
          rw [hei] at h2
          have hlt : i < listed.size := by
            rcases Nat.lt_or_ge i listed.size with h3 | h3
            · exact h3
            · rw [Array.getD_eq_getD_getElem?, Array.getElem?_eq_none h3] at h2; simp at h2
          simp [Array.getD_eq_getD_getElem?, hlt] at h2 h0
          rw [h2] at h0; simp at h0
        · exact h
      refine gstep_mono (gstep_swap hij h1) fun σ' hh => ?_
      refine ih _ _ (by rw [getD_set_ne true hji]; exact h0) (fun e he hb => getD_set_true (ha e he hb)) (fun k ok hok hki hkl => hind k ok hok hki ?_) ?_
      · by_cases hkj : j = k
        · subst hkj; exact g0
        · rw [getD_set_ne true hkj] at hkl; exact hkl
      · rw [show (listed.setIfInBounds j true).setIfInBounds i true = (listed.setIfInBounds i true).setIfInBounds j true from Array.setIfInBounds_comm _ _ hji]; exact hh
theorem aAny_hoistB (i : Nat) {fuel : Nat} {listed : Array Bool} {σ : St} (hok : hoistOkB P ops listed i = true) (h : eachOf P ops σ (fun _ => aAny P ops K fuel (listed.setIfInBounds i true)) [i]) : aAny P ops K (fuel + 1) listed σ := by
  unfold hoistOkB at hok
  split at hok
  · simp at hok
  · rename_i oi hi
    simp only [Bool.and_eq_true, Bool.not_eq_true', List.all_eq_true, List.mem_range] at hok
    obtain ⟨⟨h0, h1⟩, h2⟩ := hok
    refine hoistB hi fuel listed σ h0 (fun e he hb => ?_) (fun j oj hj hji hl => ?_) ?_
    · have := h1 e (by simpa using he)
      simpa [hb] using this
    · have := h2 j (Array.getElem?_eq_some_iff.1 hj).1
      rw [hj] at this
      simp only [hl, Bool.or_false, Bool.or_eq_true, beq_iff_eq, hji, false_or, List.any_eq_true, Bool.and_eq_true] at this
      rcases this with ⟨e, he, hb, hei⟩ | h
      · exact .inl ⟨e, by simpa using he, hb, hei⟩
      · exact .inr h
    · simp only [eachOf, hi] at h
      have := runE_asteps _ _ _ (h.1 _ rfl)
      simpa only [asteps] using this
end
end Go.Av
end

section
set_option linter.unusedSimpArgs false
set_option linter.unusedVariables false
open Go Go.Av Go.Proofs
namespace Go.Av.Sha
/-! ### MacNests -/
def fillM (D : List (BitVec 8)) (x : BitVec 8) (k : Nat) : List (BitVec 8) := (D.take k).map (· ^^^ x) ++ z64.drop k
theorem fillM_len (D : List (BitVec 8)) (x : BitVec 8) (k : Nat) (h : D.length = 64) : (fillM D x k).length = 64 := by simp [fillM, z64_len, h]; omega
theorem fillM_zero (D : List (BitVec 8)) (x : BitVec 8) : fillM D x 0 = z64 := by simp [fillM]
theorem fillM_succ (D : List (BitVec 8)) (x : BitVec 8) (k : Nat) (h : D.length = 64) (hk : k < 64) : (fillM D x k).set k (D.getD k 0#8 ^^^ x) = fillM D x (k + 1) := by
  have hl : ((D.take k).map (· ^^^ x)).length = k := by simp; omega
  have hz := z64_len
  have hd : z64.drop k = z64.getD k 0#8 :: z64.drop (k + 1) := by
    rw [List.drop_eq_getElem_cons (by omega), List.getD_eq_getElem?_getD, List.getElem?_eq_getElem (by omega)]; rfl
  have hk2 : k < D.length := by omega
  unfold fillM
  rw [List.set_append_right _ _ (by omega), hl, Nat.sub_self, hd, List.set_cons_zero, List.take_succ_eq_append_getElem hk2, List.map_append, List.append_assoc]
  simp [List.getD_eq_getElem?_getD, hk2]
theorem fillM_end (D : List (BitVec 8)) (x : BitVec 8) (h : D.length = 64) : fillM D x 64 = xorTo D x 64 := by
  unfold fillM xorTo
  rw [List.drop_eq_nil_of_le (by rw [z64_len]; omega), List.drop_eq_nil_of_le (by omega)]
theorem pad_get (key : List (BitVec 8)) (k : Nat) : (key ++ List.replicate (64 - key.length) 0#8).getD k 0#8 = if k < key.length then key.getD k 0#8 else 0#8 := by
  simp only [List.getD_eq_getElem?_getD]
  split
  · rename_i h; rw [List.getElem?_append_left h]
  · rename_i h
    rw [List.getElem?_append_right (by omega), List.getElem?_replicate]
    split <;> rfl
set_option maxHeartbeats 10000000 in
theorem macnests_ct (nk nb : Bool) (key b : List (BitVec 8)) : Fn Try.prog 10 [.sl (bl key) nk, .sl (bl b) nb] [.p (.bool true)] := by
  refine Fn.of_body Try.func10 rfl ?_
  by_cases h1 : 64 < (key.length : Int)
  · repeat (first | ((with_reducible first | refine callK_at 16 ?_); refine callK_p ?_; simp (maxSteps := 1000000) (disch := refine hold_ ?_; first | (simp [h1, -List.getD_eq_getElem?_getD]; done) | omega) [h1, -List.getD_eq_getElem?_getD]; (first | refine callK1_of (Fn.ct mawake_ct Try.call16) ?_); (try simp (maxSteps := 1000000) (disch := refine hold_ ?_; first | (simp [h1, -List.getD_eq_getElem?_getD]; done) | omega) [h1, -List.getD_eq_getElem?_getD]); try first | (with_reducible refine zZ ?_) | subst hK_) | ((first | (with_reducible first | refine zP fun K_ hK_ => ?_ | refine zQ fun K_ hK_ => ?_ | refine zT ?_ | refine zU ?_ | refine zV ?_ | refine zW ?_ | refine zX ?_ | refine zY ?_) | ((with_reducible first | refine zR ?_ ?_ fun K_ hK_ => ?_ | refine zS ?_ ?_ fun K_ hK_ => ?_); (focus kernel_rfl); (focus kernel_rfl))); first | (simp (maxSteps := 1000000) (disch := refine hold_ ?_; first | (simp [h1, -List.getD_eq_getElem?_getD]; done) | omega) [h1, -List.getD_eq_getElem?_getD]; try first | (with_reducible refine zZ ?_) | subst hK_) | subst hK_) | (with_reducible first | refine zA ?_ | refine zB ?_ | refine zC ?_ | refine zD ?_ | refine zE ?_ | refine zF ?_ | refine zG ?_ | refine zH ?_ | refine zI ?_ | refine zJ ?_ | refine zK ?_ | refine zL ?_ | refine zM ?_ | refine zN ?_ | refine zO ?_) | ((with_reducible refine yG ?_ ?_); (focus decide)) | ((with_reducible refine yA ?_); refine yB rfl ?_; (with_reducible first | refine yC ?_ | refine yD ?_)))
    simp (maxSteps := 1000000) (disch := refine hold_ ?_; first | (simp [-List.getD_eq_getElem?_getD]; done) | omega) [-List.getD_eq_getElem?_getD]
  by_cases h2 : 200 < (b.length : Int)
  · repeat (first | ((with_reducible first | refine callK_at 16 ?_); refine callK_p ?_; simp (maxSteps := 1000000) (disch := refine hold_ ?_; first | (simp [h1, h2, -List.getD_eq_getElem?_getD]; done) | omega) [h1, h2, -List.getD_eq_getElem?_getD]; (first | refine callK1_of (Fn.ct mawake_ct Try.call16) ?_); (try simp (maxSteps := 1000000) (disch := refine hold_ ?_; first | (simp [h1, h2, -List.getD_eq_getElem?_getD]; done) | omega) [h1, h2, -List.getD_eq_getElem?_getD]); try first | (with_reducible refine zZ ?_) | subst hK_) | ((first | (with_reducible first | refine zP fun K_ hK_ => ?_ | refine zQ fun K_ hK_ => ?_ | refine zT ?_ | refine zU ?_ | refine zV ?_ | refine zW ?_ | refine zX ?_ | refine zY ?_) | ((with_reducible first | refine zR ?_ ?_ fun K_ hK_ => ?_ | refine zS ?_ ?_ fun K_ hK_ => ?_); (focus kernel_rfl); (focus kernel_rfl))); first | (simp (maxSteps := 1000000) (disch := refine hold_ ?_; first | (simp [h1, h2, -List.getD_eq_getElem?_getD]; done) | omega) [h1, h2, -List.getD_eq_getElem?_getD]; try first | (with_reducible refine zZ ?_) | subst hK_) | subst hK_) | (with_reducible first | refine zA ?_ | refine zB ?_ | refine zC ?_ | refine zD ?_ | refine zE ?_ | refine zF ?_ | refine zG ?_ | refine zH ?_ | refine zI ?_ | refine zJ ?_ | refine zK ?_ | refine zL ?_ | refine zM ?_ | refine zN ?_ | refine zO ?_) | ((with_reducible refine yG ?_ ?_); (focus decide)) | ((with_reducible refine yA ?_); refine yB rfl ?_; (with_reducible first | refine yC ?_ | refine yD ?_)))
    simp (maxSteps := 1000000) (disch := refine hold_ ?_; first | (simp [-List.getD_eq_getElem?_getD]; done) | omega) [-List.getD_eq_getElem?_getD]
  have hz : zero32.length = 32 := rfl
  have h64 := z64_len
  have hD : (key ++ List.replicate (64 - key.length) 0#8).length = 64 := by simp; omega
  have hg := pad_get key
  have hM : macL key b = shaL (padM key 0x5C#8 ++ shaL (padM key 0x36#8 ++ b)) := by unfold macL; rw [keyM_le key (by omega)]
  have hI : fillM (key ++ List.replicate (64 - key.length) 0#8) 0x36#8 64 = padM key 0x36#8 := fillM_end _ _ hD
  have hO : fillM (key ++ List.replicate (64 - key.length) 0#8) 0x5C#8 64 = padM key 0x5C#8 := fillM_end _ _ hD
  have c18 := of_one nk nb false key b (by omega) (by omega)
  have hAl := padM_len key 0x36#8 (by omega)
  have hBl := padM_len key 0x5C#8 (by omega)
  have hSl := shaL_len (padM key 0x36#8 ++ b)
  have hMl := macL_len key b
  have c13 := sum_two false nb (padM key 0x36#8) b (by omega) false
  have c14 := sum_two false false (padM key 0x5C#8) (shaL (padM key 0x36#8 ++ b)) (by omega) false
  rw [← hM] at c14
  clear hM
  generalize macL key b = M at *
  generalize shaL (padM key 0x36#8 ++ b) = S at *
  generalize padM key 0x36#8 = A at *
  generalize padM key 0x5C#8 = B at *
  generalize key ++ List.replicate (64 - key.length) 0#8 = D at *
  have hT : S.take 32 = S := List.take_of_length_le (by omega)
  have hTA : A.take 64 = A := List.take_of_length_le (by omega)
  have hTB : B.take 64 = B := List.take_of_length_le (by omega)
  repeat (first | (with_reducible refine Go.Av.AW.halt 3 ?_) | ((with_reducible first | refine callK_at 16 ?_); refine callK_p ?_; simp (maxSteps := 1000000) (disch := refine hold_ ?_; first | (simp [h1, h2, h64, -List.getD_eq_getElem?_getD]; done) | omega) [h1, h2, h64, -List.getD_eq_getElem?_getD]; (first | refine callK1_of (Fn.ct mawake_ct Try.call16) ?_); (try simp (maxSteps := 1000000) (disch := refine hold_ ?_; first | (simp [h1, h2, h64, -List.getD_eq_getElem?_getD]; done) | omega) [h1, h2, h64, -List.getD_eq_getElem?_getD]); try first | (with_reducible refine zZ ?_) | subst hK_) | ((first | (with_reducible first | refine zP fun K_ hK_ => ?_ | refine zQ fun K_ hK_ => ?_ | refine zT ?_ | refine zU ?_ | refine zV ?_ | refine zW ?_ | refine zX ?_ | refine zY ?_) | ((with_reducible first | refine zR ?_ ?_ fun K_ hK_ => ?_ | refine zS ?_ ?_ fun K_ hK_ => ?_); (focus kernel_rfl); (focus kernel_rfl))); first | (simp (maxSteps := 1000000) (disch := refine hold_ ?_; first | (simp [h1, h2, h64, -List.getD_eq_getElem?_getD]; done) | omega) [h1, h2, h64, -List.getD_eq_getElem?_getD]; try first | (with_reducible refine zZ ?_) | subst hK_) | subst hK_) | (with_reducible first | refine zA ?_ | refine zB ?_ | refine zC ?_ | refine zD ?_ | refine zE ?_ | refine zF ?_ | refine zG ?_ | refine zH ?_ | refine zI ?_ | refine zJ ?_ | refine zK ?_ | refine zL ?_ | refine zM ?_ | refine zN ?_ | refine zO ?_) | ((with_reducible refine yG ?_ ?_); (focus decide)) | ((with_reducible refine yA ?_); refine yB rfl ?_; (with_reducible first | refine yC ?_ | refine yD ?_)))
  unfold Halt
  refine AW.drawAnyAt 3 4 #[false, false, false, false] (by kernel_rfl) ?_ ?_ fun K0 hK0 => ?_
  · rfl
  · rfl
  repeat' (first | refine Go.Av.aAny_end (by decide +kernel) ?_ | refine Go.Av.aAny_step [0, 1] (by decide +kernel) (by decide) ⟨fun K1 h1 => ?_, fun K1 h1 => ?_, trivial⟩ | refine Go.Av.aAny_step [1, 2] (by decide +kernel) (by decide) ⟨fun K1 h1 => ?_, fun K1 h1 => ?_, trivial⟩ | refine Go.Av.aAny_step [0] (by decide +kernel) (by decide) ⟨fun K1 h1 => ?_, trivial⟩ | refine Go.Av.aAny_step [1] (by decide +kernel) (by decide) ⟨fun K1 h1 => ?_, trivial⟩ | refine Go.Av.aAny_step [2] (by decide +kernel) (by decide) ⟨fun K1 h1 => ?_, trivial⟩ | refine Go.Av.aAny_step [3] (by decide +kernel) (by decide) ⟨fun K1 h1 => ?_, trivial⟩ | (simp (maxSteps := 1000000) (disch := refine hold_ ?_; first | (simp [-List.getD_eq_getElem?_getD]; done) | omega) [-List.getD_eq_getElem?_getD]; subst h1; dsimp only; simp only [List.setIfInBounds_toArray, List.set_cons_zero, List.set_cons_succ]))
  all_goals (
    subst hK0
    repeat (first | ((first | (with_reducible first | refine zP fun K_ hK_ => ?_ | refine zQ fun K_ hK_ => ?_ | refine zT ?_ | refine zU ?_ | refine zV ?_ | refine zW ?_ | refine zX ?_ | refine zY ?_) | ((with_reducible first | refine zR ?_ ?_ fun K_ hK_ => ?_ | refine zS ?_ ?_ fun K_ hK_ => ?_); (focus kernel_rfl); (focus kernel_rfl))); first | (simp (maxSteps := 1000000) (disch := refine hold_ ?_; first | (simp [h64, -List.getD_eq_getElem?_getD]; done) | omega) [h64, -List.getD_eq_getElem?_getD]; try first | (with_reducible refine zZ ?_) | subst hK_) | subst hK_) | (with_reducible first | refine zA ?_ | refine zB ?_ | refine zC ?_ | refine zD ?_ | refine zE ?_ | refine zF ?_ | refine zG ?_ | refine zH ?_ | refine zI ?_ | refine zJ ?_ | refine zK ?_ | refine zL ?_ | refine zM ?_ | refine zN ?_ | refine zO ?_) | ((with_reducible refine yG ?_ ?_); (focus decide)) | ((with_reducible refine yA ?_); refine yB rfl ?_; (with_reducible first | refine yC ?_ | refine yD ?_)))
    refine AW.iter (true :: true :: false :: false :: false :: true :: true :: false :: false :: false :: false :: false :: false :: false :: false :: false :: false :: false :: false :: false :: false :: false :: false :: false :: false :: false :: true :: true :: false :: false :: false :: false :: false :: false :: false :: false :: false :: false :: false :: false :: false :: false :: false :: false :: false :: false :: false :: false :: false :: false :: false :: false :: false :: false :: false :: false :: false :: false :: false :: false :: false :: false :: []) 64 (fun k => ⟨(.p (.sl (bl key) nk) :: .p (.sl (bl b) nb) :: V.junk :: V.junk :: V.junk :: .own 23 0 0 64 64 :: .own 24 0 0 64 64 :: V.junk :: V.junk :: V.junk :: V.junk :: V.junk :: V.junk :: V.junk :: V.junk :: V.junk :: V.junk :: V.junk :: V.junk :: V.junk :: V.junk :: V.junk :: V.junk :: V.junk :: V.junk :: V.junk :: .p (.int .i64 64) :: .p (.int .i64 k) :: V.junk :: V.junk :: V.junk :: V.junk :: V.junk :: V.junk :: V.junk :: V.junk :: V.junk :: V.junk :: V.junk :: V.junk :: V.junk :: V.junk :: V.junk :: V.junk :: V.junk :: V.junk :: V.junk :: V.junk :: V.junk :: V.junk :: V.junk :: V.junk :: V.junk :: V.junk :: V.junk :: V.junk :: V.junk :: V.junk :: V.junk :: V.junk :: V.junk :: V.junk :: []), ⟨[(23, 0, .row (bl (fillM D 0x36#8 k))), (24, 0, .row (bl (fillM D 0x5C#8 k)))], []⟩⟩) ?_ ?_
    · simp (maxSteps := 1000000) (disch := refine hold_ ?_; first | (simp [fillM_zero, -List.getD_eq_getElem?_getD]; done) | omega) [fillM_zero, -List.getD_eq_getElem?_getD]
    intro k hk
    have e0 : IntKind.i64.wrap ((k : Int) + 1) = k + 1 := wrap_i64 _ (by omega) (by omega)
    have e1 := fillM_len D 0x36#8 k hD
    have e2 := fillM_len D 0x5C#8 k hD
    repeat (first | ((first | (with_reducible first | refine zP fun K_ hK_ => ?_ | refine zQ fun K_ hK_ => ?_ | refine zT ?_ | refine zU ?_ | refine zV ?_ | refine zW ?_ | refine zX ?_ | refine zY ?_) | ((with_reducible first | refine zR ?_ ?_ fun K_ hK_ => ?_ | refine zS ?_ ?_ fun K_ hK_ => ?_); (focus kernel_rfl); (focus kernel_rfl))); first | (simp (maxSteps := 1000000) (disch := refine hold_ ?_; first | (simp [e0, -List.getD_eq_getElem?_getD]; done) | omega) [e0, -List.getD_eq_getElem?_getD]; try first | (with_reducible refine zZ ?_) | subst hK_) | subst hK_) | (with_reducible first | refine zA ?_ | refine zB ?_ | refine zC ?_ | refine zD ?_ | refine zE ?_ | refine zF ?_ | refine zG ?_ | refine zH ?_ | refine zI ?_ | refine zJ ?_ | refine zK ?_ | refine zL ?_ | refine zM ?_ | refine zN ?_ | refine zO ?_) | ((with_reducible refine yG ?_ ?_); (focus decide)) | ((with_reducible refine yA ?_); refine yB rfl ?_; (with_reducible first | refine yC ?_ | refine yD ?_)))
    first | refine AW.condD rfl (fun hc => ?_) (fun hc => ?_) | refine AW.cond rfl (fun hc => ?_) (fun hc => ?_)
    · have hk2 : k < 64 := by omega
      have e3 := fillM_succ D 0x36#8 k hD hk2
      have e4 := fillM_succ D 0x5C#8 k hD hk2
      have hgk := hg k
      by_cases hkl : k < key.length
      · rw [if_pos hkl] at hgk
        rw [hgk] at e3 e4
        have x1 := int_xor8 (key.getD k 0#8) 0x36#8
        have x2 := int_xor8 (key.getD k 0#8) 0x5C#8
        rw [show ub 0x36#8 = 54 from rfl] at x1
        rw [show ub 0x5C#8 = 92 from rfl] at x2
        repeat (first | ((first | (with_reducible first | refine zP fun K_ hK_ => ?_ | refine zQ fun K_ hK_ => ?_ | refine zT ?_ | refine zU ?_ | refine zV ?_ | refine zW ?_ | refine zX ?_ | refine zY ?_) | ((with_reducible first | refine zR ?_ ?_ fun K_ hK_ => ?_ | refine zS ?_ ?_ fun K_ hK_ => ?_); (focus kernel_rfl); (focus kernel_rfl))); first | (simp (maxSteps := 1000000) (disch := refine hold_ ?_; first | (simp [e0, e1, e2, hkl, hk2, x1, x2, -List.getD_eq_getElem?_getD]; done) | omega) [e0, e1, e2, hkl, hk2, x1, x2, -List.getD_eq_getElem?_getD]; try first | (with_reducible refine zZ ?_) | subst hK_) | subst hK_) | (with_reducible first | refine zA ?_ | refine zB ?_ | refine zC ?_ | refine zD ?_ | refine zE ?_ | refine zF ?_ | refine zG ?_ | refine zH ?_ | refine zI ?_ | refine zJ ?_ | refine zK ?_ | refine zL ?_ | refine zM ?_ | refine zN ?_ | refine zO ?_) | ((with_reducible refine yG ?_ ?_); (focus decide)) | ((with_reducible refine yA ?_); refine yB rfl ?_; (with_reducible first | refine yC ?_ | refine yD ?_)))
        refine ⟨hk2, ?_⟩
        simp (maxSteps := 1000000) (disch := refine hold_ ?_; first | (simp [e3, e4, -List.getD_eq_getElem?_getD]; done) | omega) [e3, e4, -List.getD_eq_getElem?_getD]
      · rw [if_neg hkl] at hgk
        rw [hgk] at e3 e4
        have x1 : intBin .xor .u8 0 54 = some (.int .u8 (ub (0#8 ^^^ 0x36#8))) := int_xor8 0#8 0x36#8
        have x2 : intBin .xor .u8 0 92 = some (.int .u8 (ub (0#8 ^^^ 0x5C#8))) := int_xor8 0#8 0x5C#8
        generalize 0#8 ^^^ 0x36#8 = X1 at *
        generalize 0#8 ^^^ 0x5C#8 = X2 at *
        repeat (first | ((first | (with_reducible first | refine zP fun K_ hK_ => ?_ | refine zQ fun K_ hK_ => ?_ | refine zT ?_ | refine zU ?_ | refine zV ?_ | refine zW ?_ | refine zX ?_ | refine zY ?_) | ((with_reducible first | refine zR ?_ ?_ fun K_ hK_ => ?_ | refine zS ?_ ?_ fun K_ hK_ => ?_); (focus kernel_rfl); (focus kernel_rfl))); first | (simp (maxSteps := 1000000) (disch := refine hold_ ?_; first | (simp [e0, e1, e2, hkl, hk2, x1, x2, -List.getD_eq_getElem?_getD]; done) | omega) [e0, e1, e2, hkl, hk2, x1, x2, -List.getD_eq_getElem?_getD]; try first | (with_reducible refine zZ ?_) | subst hK_) | subst hK_) | (with_reducible first | refine zA ?_ | refine zB ?_ | refine zC ?_ | refine zD ?_ | refine zE ?_ | refine zF ?_ | refine zG ?_ | refine zH ?_ | refine zI ?_ | refine zJ ?_ | refine zK ?_ | refine zL ?_ | refine zM ?_ | refine zN ?_ | refine zO ?_) | ((with_reducible refine yG ?_ ?_); (focus decide)) | ((with_reducible refine yA ?_); refine yB rfl ?_; (with_reducible first | refine yC ?_ | refine yD ?_)))
        refine ⟨hk2, ?_⟩
        simp (maxSteps := 1000000) (disch := refine hold_ ?_; first | (simp [e3, e4, -List.getD_eq_getElem?_getD]; done) | omega) [e3, e4, -List.getD_eq_getElem?_getD]
    · have hk2 : k = 64 := by omega
      subst hk2
      rw [hI, hO]
      rw [hI] at e1
      rw [hO] at e2
      repeat (first | ((with_reducible refine Go.Av.AW.freezeAt 12 23 ?_ ?_ fun K_ hK_ => ?_); (focus decide); (focus (simp; done)); simp (maxSteps := 1000000) (disch := refine hold_ ?_; first | (simp [-ownSl, Go.Av.ownSl_bl, e0, hz, hSl, hMl, hT, hTA, hTB, hAl, hBl, -List.getD_eq_getElem?_getD]; done) | omega) [-ownSl, Go.Av.ownSl_bl, e0, hz, hSl, hMl, hT, hTA, hTB, hAl, hBl, -List.getD_eq_getElem?_getD]; subst hK_) | ((with_reducible refine Go.Av.AW.freezeAt 13 24 ?_ ?_ fun K_ hK_ => ?_); (focus decide); (focus (simp; done)); simp (maxSteps := 1000000) (disch := refine hold_ ?_; first | (simp [-ownSl, Go.Av.ownSl_bl, e0, hz, hSl, hMl, hT, hTA, hTB, hAl, hBl, -List.getD_eq_getElem?_getD]; done) | omega) [-ownSl, Go.Av.ownSl_bl, e0, hz, hSl, hMl, hT, hTA, hTB, hAl, hBl, -List.getD_eq_getElem?_getD]; subst hK_) | ((with_reducible refine Go.Av.AW.freezeAt 13 9 ?_ ?_ fun K_ hK_ => ?_); (focus decide); (focus (simp; done)); simp (maxSteps := 1000000) (disch := refine hold_ ?_; first | (simp [-ownSl, Go.Av.ownSl_bl, e0, hz, hSl, hMl, hT, hTA, hTB, hAl, hBl, -List.getD_eq_getElem?_getD]; done) | omega) [-ownSl, Go.Av.ownSl_bl, e0, hz, hSl, hMl, hT, hTA, hTB, hAl, hBl, -List.getD_eq_getElem?_getD]; subst hK_) | (with_reducible refine Go.Av.AW.halt 13 ?_) | ((with_reducible first | refine callK_at 13 ?_); refine callK_p ?_; simp (maxSteps := 1000000) (disch := refine hold_ ?_; first | (simp [e0, hz, hSl, hMl, hT, hTA, hTB, hAl, hBl, -List.getD_eq_getElem?_getD]; done) | omega) [e0, hz, hSl, hMl, hT, hTA, hTB, hAl, hBl, -List.getD_eq_getElem?_getD]; (first | refine callK1_of (Fn.ct c13 Try.call13) ?_); (try simp (maxSteps := 1000000) (disch := refine hold_ ?_; first | (simp [e0, hz, hSl, hMl, hT, hTA, hTB, hAl, hBl, -List.getD_eq_getElem?_getD]; done) | omega) [e0, hz, hSl, hMl, hT, hTA, hTB, hAl, hBl, -List.getD_eq_getElem?_getD]); try first | (with_reducible refine zZ ?_) | subst hK_) | ((first | (with_reducible first | refine zP fun K_ hK_ => ?_ | refine zQ fun K_ hK_ => ?_ | refine zT ?_ | refine zU ?_ | refine zV ?_ | refine zW ?_ | refine zX ?_ | refine zY ?_) | ((with_reducible first | refine zR ?_ ?_ fun K_ hK_ => ?_ | refine zS ?_ ?_ fun K_ hK_ => ?_); (focus kernel_rfl); (focus kernel_rfl))); first | (simp (maxSteps := 1000000) (disch := refine hold_ ?_; first | (simp [e0, hz, hSl, hMl, hT, hTA, hTB, hAl, hBl, -List.getD_eq_getElem?_getD]; done) | omega) [e0, hz, hSl, hMl, hT, hTA, hTB, hAl, hBl, -List.getD_eq_getElem?_getD]; try first | (with_reducible refine zZ ?_) | subst hK_) | subst hK_) | (with_reducible first | refine zA ?_ | refine zB ?_ | refine zC ?_ | refine zD ?_ | refine zE ?_ | refine zF ?_ | refine zG ?_ | refine zH ?_ | refine zI ?_ | refine zJ ?_ | refine zK ?_ | refine zL ?_ | refine zM ?_ | refine zN ?_ | refine zO ?_) | ((with_reducible refine yG ?_ ?_); (focus decide)) | ((with_reducible refine yA ?_); refine yB rfl ?_; (with_reducible first | refine yC ?_ | refine yD ?_)))
      unfold Halt
      refine AW.drawAnyAt 13 10 #[false, false, false, false, false, false, false, false, false, false] (by kernel_rfl) ?_ ?_ fun K0 hK0 => ?_
      · rfl
      · rfl
      iterate 30 (all_goals try (first | refine Go.Av.aAny_end (by decide +kernel) ?_ | refine Go.Av.aAny_hoistB 0 (by decide +kernel) ⟨fun K1 h1 => ?_, trivial⟩ | refine Go.Av.aAny_hoistB 1 (by decide +kernel) ⟨fun K1 h1 => ?_, trivial⟩ | refine Go.Av.aAny_hoistB 4 (by decide +kernel) ⟨fun K1 h1 => ?_, trivial⟩ | refine Go.Av.aAny_hoistB 5 (by decide +kernel) ⟨fun K1 h1 => ?_, trivial⟩ | refine Go.Av.aAny_step [2, 6] (by decide +kernel) (by decide) ⟨fun K1 h1 => ?_, fun K1 h1 => ?_, trivial⟩ | refine Go.Av.aAny_step [3, 6] (by decide +kernel) (by decide) ⟨fun K1 h1 => ?_, fun K1 h1 => ?_, trivial⟩ | refine Go.Av.aAny_step [2] (by decide +kernel) (by decide) ⟨fun K1 h1 => ?_, trivial⟩ | refine Go.Av.aAny_step [3] (by decide +kernel) (by decide) ⟨fun K1 h1 => ?_, trivial⟩ | refine Go.Av.aAny_step [6] (by decide +kernel) (by decide) ⟨fun K1 h1 => ?_, trivial⟩ | refine Go.Av.aAny_step [7] (by decide +kernel) (by decide) ⟨fun K1 h1 => ?_, trivial⟩ | refine Go.Av.aAny_step [8] (by decide +kernel) (by decide) ⟨fun K1 h1 => ?_, trivial⟩ | refine Go.Av.aAny_step [9] (by decide +kernel) (by decide) ⟨fun K1 h1 => ?_, trivial⟩ | (refine Go.Av.callK_p ?_; simp (maxSteps := 1000000) (disch := refine hold_ ?_; first | (simp [e0, hz, hSl, hMl, hT, hTA, hTB, hAl, hBl, -List.getD_eq_getElem?_getD]; done) | omega) [e0, hz, hSl, hMl, hT, hTA, hTB, hAl, hBl, -List.getD_eq_getElem?_getD]; first | refine Go.Av.callK1_of (Fn.ct c18 Try.call18) ?_ | refine Go.Av.callK1_of (Fn.ct c14 Try.call13) ?_; simp (maxSteps := 1000000) (disch := refine hold_ ?_; first | (simp [e0, hz, hSl, hMl, hT, hTA, hTB, hAl, hBl, -List.getD_eq_getElem?_getD]; done) | omega) [e0, hz, hSl, hMl, hT, hTA, hTB, hAl, hBl, -List.getD_eq_getElem?_getD]) | ((try simp (maxSteps := 1000000) (disch := refine hold_ ?_; first | (simp [e0, hz, hSl, hMl, hT, hTA, hTB, hAl, hBl, -List.getD_eq_getElem?_getD]; done) | omega) [e0, hz, hSl, hMl, hT, hTA, hTB, hAl, hBl, -List.getD_eq_getElem?_getD]); subst h1; dsimp only; try simp only [List.setIfInBounds_toArray, List.set_cons_zero, List.set_cons_succ])))
      all_goals (
        subst hK0
        repeat (first | ((first | (with_reducible first | refine zP fun K_ hK_ => ?_ | refine zQ fun K_ hK_ => ?_ | refine zT ?_ | refine zU ?_ | refine zV ?_ | refine zW ?_ | refine zX ?_ | refine zY ?_) | ((with_reducible first | refine zR ?_ ?_ fun K_ hK_ => ?_ | refine zS ?_ ?_ fun K_ hK_ => ?_); (focus kernel_rfl); (focus kernel_rfl))); first | (simp (maxSteps := 1000000) (disch := refine hold_ ?_; first | (simp [-List.getD_eq_getElem?_getD]; done) | omega) [-List.getD_eq_getElem?_getD]; try first | (with_reducible refine zZ ?_) | subst hK_) | subst hK_) | (with_reducible first | refine zA ?_ | refine zB ?_ | refine zC ?_ | refine zD ?_ | refine zE ?_ | refine zF ?_ | refine zG ?_ | refine zH ?_ | refine zI ?_ | refine zJ ?_ | refine zK ?_ | refine zL ?_ | refine zM ?_ | refine zN ?_ | refine zO ?_) | ((with_reducible refine yG ?_ ?_); (focus decide)) | ((with_reducible refine yA ?_); refine yB rfl ?_; (with_reducible first | refine yC ?_ | refine yD ?_)))
        simp (maxSteps := 1000000) (disch := refine hold_ ?_; first | (simp [hMl, -List.getD_eq_getElem?_getD]; done) | omega) [hMl, -List.getD_eq_getElem?_getD]))
theorem macnests_law (a : List (BitVec 8)) (na : Bool) (_ : a.length ≤ maxLen) (b : List (BitVec 8)) (nb : Bool) (_ : b.length ≤ maxLen) : Fn Try.prog 10 [.sl (bl a) na, .sl (bl b) nb] [.p (.bool true)] := macnests_ct na nb a b
end Go.Av.Sha
end
