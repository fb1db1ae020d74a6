/- The walks of this seat's functions, and what is known of what they reckon (Docg). Conditions: those that each theorem names. -/
import Derived.Test.YtkphnlnphenphaaDoorDocb
import Derived.Deep.Slices
import Derived.Test.YtkphnlnphenphaaDoorRows
section
set_option linter.unusedSimpArgs false
set_option linter.unusedVariables false
set_option linter.unusedSectionVars false
open Go Go.Av Go.Proofs
namespace Go.Av.Doc
variable [ML]
theorem end_no (l : List Nd) (e : List Int) (top : Int) (n : Int) (h : hasB l n = false) : Fn Tryd.prog 22 [docP l e top, .int .i64 n] [.p (.int .i64 0)] := by
  have k := has_ct l e top n
  rw [h] at k
  generalize docP l e top = D at *
  refine Fn.of_body Tryd.func22 rfl ?_
  repeat (first | ((with_reducible first | refine callK_at 36 ?_); refine callK_p ?_; simp (maxSteps := 1000000) (disch := refine hold_ ?_; first | (simp [-List.getD_eq_getElem?_getD]; done) | omega) [-List.getD_eq_getElem?_getD]; (first | refine callK1_of (Fn.ct k Tryd.call36) ?_); (try simp (maxSteps := 1000000) (disch := refine hold_ ?_; first | (simp [-List.getD_eq_getElem?_getD]; done) | omega) [-List.getD_eq_getElem?_getD]); try first | (with_reducible refine zZ ?_) | subst hK_) | ((first | (with_reducible first | refine zP fun K_ hK_ => ?_ | refine zQ fun K_ hK_ => ?_ | refine zT ?_ | refine zU ?_ | refine zV ?_ | refine zW ?_ | refine zX ?_ | refine zY ?_) | ((with_reducible first | refine zR ?_ ?_ fun K_ hK_ => ?_ | refine zS ?_ ?_ fun K_ hK_ => ?_); (focus kernel_rfl); (focus kernel_rfl))); first | (simp (maxSteps := 1000000) (disch := refine hold_ ?_; first | (simp [-List.getD_eq_getElem?_getD]; done) | omega) [-List.getD_eq_getElem?_getD]; try first | (with_reducible refine zZ ?_) | subst hK_) | subst hK_) | (with_reducible first | refine zA ?_ | refine zB ?_ | refine zC ?_ | refine zD ?_ | refine zE ?_ | refine zF ?_ | refine zG ?_ | refine zH ?_ | refine zI ?_ | refine zJ ?_ | refine zK ?_ | refine zL ?_ | refine zM ?_ | refine zN ?_ | refine zO ?_) | ((with_reducible refine yG ?_ ?_); (focus decide)) | ((with_reducible refine yA ?_); refine yB rfl ?_; (with_reducible first | refine yC ?_ | refine yD ?_)))
  all_goals simp (maxSteps := 1000000) (disch := refine hold_ ?_; first | (simp [-List.getD_eq_getElem?_getD]; done) | omega) [-List.getD_eq_getElem?_getD]
theorem ints_ct (l : List Int) (n1 n2 : Bool) (h : l.length ≤ 4000000) : Fn Tryd.prog 25 [.sl (.ints .i64 l) n1, .sl (.ints .i64 l) n2] [.p (.bool true)] := by
  refine Fn.of_body Tryd.func25 rfl ?_
  repeat (first | ((first | (with_reducible first | refine zP fun K_ hK_ => ?_ | refine zQ fun K_ hK_ => ?_ | refine zT ?_ | refine zU ?_ | refine zV ?_ | refine zW ?_ | refine zX ?_ | refine zY ?_) | ((with_reducible first | refine zR ?_ ?_ fun K_ hK_ => ?_ | refine zS ?_ ?_ fun K_ hK_ => ?_); (focus kernel_rfl); (focus kernel_rfl))); first | (simp (maxSteps := 1000000) (disch := refine hold_ ?_; first | (simp [-List.getD_eq_getElem?_getD]; done) | omega) [-List.getD_eq_getElem?_getD]; try first | (with_reducible refine zZ ?_) | subst hK_) | subst hK_) | (with_reducible first | refine zA ?_ | refine zB ?_ | refine zC ?_ | refine zD ?_ | refine zE ?_ | refine zF ?_ | refine zG ?_ | refine zH ?_ | refine zI ?_ | refine zJ ?_ | refine zK ?_ | refine zL ?_ | refine zM ?_ | refine zN ?_ | refine zO ?_) | ((with_reducible refine yG ?_ ?_); (focus decide)) | ((with_reducible refine yA ?_); refine yB rfl ?_; (with_reducible first | refine yC ?_ | refine yD ?_)))
  refine AW.iter (true :: true :: false :: false :: false :: false :: false :: false :: false :: false :: false :: false :: true :: true :: false :: false :: false :: false :: false :: false :: false :: false :: false :: false :: false :: false :: []) l.length (fun k => ⟨(.p (.sl (.ints .i64 l) n1) :: .p (.sl (.ints .i64 l) n2) :: V.junk :: V.junk :: V.junk :: V.junk :: V.junk :: V.junk :: V.junk :: V.junk :: V.junk :: V.junk :: .p (.int .i64 l.length) :: .p (.int .i64 k) :: V.junk :: V.junk :: V.junk :: V.junk :: V.junk :: V.junk :: V.junk :: V.junk :: V.junk :: V.junk :: V.junk :: V.junk :: []), ⟨[], []⟩⟩) ?_ ?_
  · simp (maxSteps := 1000000) (disch := refine hold_ ?_; first | (simp [-List.getD_eq_getElem?_getD]; done) | omega) [-List.getD_eq_getElem?_getD]
  intro k hk
  have e1 := wrap_succ k _ hk (Nat.le_trans h (by decide))
  by_cases hkm : k < l.length
  · have hkz : (k : Int) < l.length := by omega
    repeat (first | ((first | (with_reducible first | refine zP fun K_ hK_ => ?_ | refine zQ fun K_ hK_ => ?_ | refine zT ?_ | refine zU ?_ | refine zV ?_ | refine zW ?_ | refine zX ?_ | refine zY ?_) | ((with_reducible first | refine zR ?_ ?_ fun K_ hK_ => ?_ | refine zS ?_ ?_ fun K_ hK_ => ?_); (focus kernel_rfl); (focus kernel_rfl))); first | (simp (maxSteps := 1000000) (disch := refine hold_ ?_; first | (simp [hkm, hkz, e1, -List.getD_eq_getElem?_getD]; done) | omega) [hkm, hkz, e1, -List.getD_eq_getElem?_getD]; try first | (with_reducible refine zZ ?_) | subst hK_) | subst hK_) | (with_reducible first | refine zA ?_ | refine zB ?_ | refine zC ?_ | refine zD ?_ | refine zE ?_ | refine zF ?_ | refine zG ?_ | refine zH ?_ | refine zI ?_ | refine zJ ?_ | refine zK ?_ | refine zL ?_ | refine zM ?_ | refine zN ?_ | refine zO ?_) | ((with_reducible refine yG ?_ ?_); (focus decide)) | ((with_reducible refine yA ?_); refine yB rfl ?_; (with_reducible first | refine yC ?_ | refine yD ?_)))
    refine ⟨hkm, ?_⟩
    simp (maxSteps := 1000000) (disch := refine hold_ ?_; first | (simp [-List.getD_eq_getElem?_getD]; done) | omega) [-List.getD_eq_getElem?_getD]
  have hkz : ¬ (k : Int) < l.length := by omega
  repeat (first | ((first | (with_reducible first | refine zP fun K_ hK_ => ?_ | refine zQ fun K_ hK_ => ?_ | refine zT ?_ | refine zU ?_ | refine zV ?_ | refine zW ?_ | refine zX ?_ | refine zY ?_) | ((with_reducible first | refine zR ?_ ?_ fun K_ hK_ => ?_ | refine zS ?_ ?_ fun K_ hK_ => ?_); (focus kernel_rfl); (focus kernel_rfl))); first | (simp (maxSteps := 1000000) (disch := refine hold_ ?_; first | (simp [hkz, -List.getD_eq_getElem?_getD]; done) | omega) [hkz, -List.getD_eq_getElem?_getD]; try first | (with_reducible refine zZ ?_) | subst hK_) | subst hK_) | (with_reducible first | refine zA ?_ | refine zB ?_ | refine zC ?_ | refine zD ?_ | refine zE ?_ | refine zF ?_ | refine zG ?_ | refine zH ?_ | refine zI ?_ | refine zJ ?_ | refine zK ?_ | refine zL ?_ | refine zM ?_ | refine zN ?_ | refine zO ?_) | ((with_reducible refine yG ?_ ?_); (focus decide)) | ((with_reducible refine yA ?_); refine yB rfl ?_; (with_reducible first | refine yC ?_ | refine yD ?_)))
  all_goals (try simp (maxSteps := 1000000) (disch := refine hold_ ?_; first | (simp [-List.getD_eq_getElem?_getD]; done) | omega) [-List.getD_eq_getElem?_getD])
theorem same_ct (l : List Nd) (n1 n2 : Bool) (h : l.length ≤ 4000000) (hok : ∀ x ∈ l, okN x) : Fn Tryd.prog 19 [.sl (ndR l) n1, .sl (ndR l) n2] [.p (.bool true)] := by
  refine Fn.of_body Tryd.func19 rfl ?_
  repeat (first | ((first | (with_reducible first | refine zP fun K_ hK_ => ?_ | refine zQ fun K_ hK_ => ?_ | refine zT ?_ | refine zU ?_ | refine zV ?_ | refine zW ?_ | refine zX ?_ | refine zY ?_) | ((with_reducible first | refine zR ?_ ?_ fun K_ hK_ => ?_ | refine zS ?_ ?_ fun K_ hK_ => ?_); (focus kernel_rfl); (focus kernel_rfl))); first | (simp (maxSteps := 1000000) (disch := refine hold_ ?_; first | (simp [-List.getD_eq_getElem?_getD]; done) | omega) [-List.getD_eq_getElem?_getD]; try first | (with_reducible refine zZ ?_) | subst hK_) | subst hK_) | (with_reducible first | refine zA ?_ | refine zB ?_ | refine zC ?_ | refine zD ?_ | refine zE ?_ | refine zF ?_ | refine zG ?_ | refine zH ?_ | refine zI ?_ | refine zJ ?_ | refine zK ?_ | refine zL ?_ | refine zM ?_ | refine zN ?_ | refine zO ?_) | ((with_reducible refine yG ?_ ?_); (focus decide)) | ((with_reducible refine yA ?_); refine yB rfl ?_; (with_reducible first | refine yC ?_ | refine yD ?_)))
  refine AW.iter (true :: true :: false :: false :: false :: false :: false :: false :: false :: false :: false :: false :: true :: true :: false :: false :: false :: false :: false :: false :: false :: false :: false :: false :: false :: false :: false :: []) l.length (fun k => ⟨(.p (.sl (ndR l) n1) :: .p (.sl (ndR l) n2) :: V.junk :: V.junk :: V.junk :: V.junk :: V.junk :: V.junk :: V.junk :: V.junk :: V.junk :: V.junk :: .p (.int .i64 l.length) :: .p (.int .i64 k) :: V.junk :: V.junk :: V.junk :: V.junk :: V.junk :: V.junk :: V.junk :: V.junk :: V.junk :: V.junk :: V.junk :: V.junk :: V.junk :: []), ⟨[], []⟩⟩) ?_ ?_
  · simp (maxSteps := 1000000) (disch := refine hold_ ?_; first | (simp [-List.getD_eq_getElem?_getD]; done) | omega) [-List.getD_eq_getElem?_getD]
  intro k hk
  have e1 := wrap_succ k _ hk (Nat.le_trans h (by decide))
  by_cases hkm : k < l.length
  · have hkz : (k : Int) < l.length := by omega
    have he := ndR_elem l k hkm
    have k24 := one2_ct (l.getD k default) (hok _ (by rw [List.getD_eq_getElem?_getD, List.getElem?_eq_getElem hkm]; exact List.getElem_mem hkm))
    generalize ndP (l.getD k default) = X at *
    repeat (first | ((with_reducible first | refine callK_at 24 ?_); refine callK_p ?_; simp (maxSteps := 1000000) (disch := refine hold_ ?_; first | (simp [hkm, hkz, he, e1, -List.getD_eq_getElem?_getD]; done) | omega) [hkm, hkz, he, e1, -List.getD_eq_getElem?_getD]; (first | refine callK1_of (Fn.ct k24 Tryd.call24) ?_); (try simp (maxSteps := 1000000) (disch := refine hold_ ?_; first | (simp [hkm, hkz, he, e1, -List.getD_eq_getElem?_getD]; done) | omega) [hkm, hkz, he, e1, -List.getD_eq_getElem?_getD]); try first | (with_reducible refine zZ ?_) | subst hK_) | ((first | (with_reducible first | refine zP fun K_ hK_ => ?_ | refine zQ fun K_ hK_ => ?_ | refine zT ?_ | refine zU ?_ | refine zV ?_ | refine zW ?_ | refine zX ?_ | refine zY ?_) | ((with_reducible first | refine zR ?_ ?_ fun K_ hK_ => ?_ | refine zS ?_ ?_ fun K_ hK_ => ?_); (focus kernel_rfl); (focus kernel_rfl))); first | (simp (maxSteps := 1000000) (disch := refine hold_ ?_; first | (simp [hkm, hkz, he, e1, -List.getD_eq_getElem?_getD]; done) | omega) [hkm, hkz, he, e1, -List.getD_eq_getElem?_getD]; try first | (with_reducible refine zZ ?_) | subst hK_) | subst hK_) | (with_reducible first | refine zA ?_ | refine zB ?_ | refine zC ?_ | refine zD ?_ | refine zE ?_ | refine zF ?_ | refine zG ?_ | refine zH ?_ | refine zI ?_ | refine zJ ?_ | refine zK ?_ | refine zL ?_ | refine zM ?_ | refine zN ?_ | refine zO ?_) | ((with_reducible refine yG ?_ ?_); (focus decide)) | ((with_reducible refine yA ?_); refine yB rfl ?_; (with_reducible first | refine yC ?_ | refine yD ?_)))
    refine ⟨hkm, ?_⟩
    simp (maxSteps := 1000000) (disch := refine hold_ ?_; first | (simp [-List.getD_eq_getElem?_getD]; done) | omega) [-List.getD_eq_getElem?_getD]
  have hkz : ¬ (k : Int) < l.length := by omega
  repeat (first | ((first | (with_reducible first | refine zP fun K_ hK_ => ?_ | refine zQ fun K_ hK_ => ?_ | refine zT ?_ | refine zU ?_ | refine zV ?_ | refine zW ?_ | refine zX ?_ | refine zY ?_) | ((with_reducible first | refine zR ?_ ?_ fun K_ hK_ => ?_ | refine zS ?_ ?_ fun K_ hK_ => ?_); (focus kernel_rfl); (focus kernel_rfl))); first | (simp (maxSteps := 1000000) (disch := refine hold_ ?_; first | (simp [hkz, -List.getD_eq_getElem?_getD]; done) | omega) [hkz, -List.getD_eq_getElem?_getD]; try first | (with_reducible refine zZ ?_) | subst hK_) | subst hK_) | (with_reducible first | refine zA ?_ | refine zB ?_ | refine zC ?_ | refine zD ?_ | refine zE ?_ | refine zF ?_ | refine zG ?_ | refine zH ?_ | refine zI ?_ | refine zJ ?_ | refine zK ?_ | refine zL ?_ | refine zM ?_ | refine zN ?_ | refine zO ?_) | ((with_reducible refine yG ?_ ?_); (focus decide)) | ((with_reducible refine yA ?_); refine yB rfl ?_; (with_reducible first | refine yC ?_ | refine yD ?_)))
  all_goals (try simp (maxSteps := 1000000) (disch := refine hold_ ?_; first | (simp [-List.getD_eq_getElem?_getD]; done) | omega) [-List.getD_eq_getElem?_getD])
end Go.Av.Doc
end
section
set_option linter.unusedSimpArgs false
set_option linter.unusedVariables false
set_option linter.unusedSectionVars false
open Go Go.Av Go.Proofs
namespace Go.Av.Doc
variable [ML]
def cntT (l : List Nd) : Nat → Nat
  | 0 => 0
  | n + 1 => cntT l n + if 0 < n ∧ isTop l n = true then 1 else 0
theorem top_cnt (l : List Nd) : ∀ n, 0 < topN l n ↔ 0 < cntT l n
  | 0 => by simp [topN, cntT]
  | n + 1 => by
    have := top_cnt l n
    unfold topN cntT
    by_cases h : 0 < n ∧ isTop l n = true
    · rw [if_pos h, if_pos h]; omega
    · rw [if_neg h, if_neg h]; omega
theorem cntT_mono (l : List Nd) : ∀ n m, n ≤ m → cntT l n ≤ cntT l m
  | n, 0, h => by obtain rfl : n = 0 := by omega
                  exact Nat.le_refl _
  | n, m + 1, h => by
    by_cases e : n = m + 1
    · subst e; exact Nat.le_refl _
    · have := cntT_mono l n m (by omega)
      show _ ≤ cntT l m + _
      omega
def allN (l : List Nd) : Bool := allB (fun j => nodeB l (j + 1)) (l.length - 1)
def formdB (l : List Nd) : Bool := !(l.length == 0) && (rootB (nd l 0) && (allN l && (cntT l l.length == 1)))
theorem chk_formd (l : List Nd) : (chkV l).2 = formdB l := by
  unfold chkV formdB
  by_cases hz : l.length = 0
  · rw [hz]; simp
  have eb : (l.length == 0) = false := beq_eq_false_iff_ne.2 hz
  rw [eb]
  cases hR : rootB (nd l 0) with
  | false => simp
  | true =>
    simp only [Bool.not_false, Bool.true_and]
    have key : allS l = (allN l && decide (cntT l l.length ≤ 1)) := by
      rw [Bool.eq_iff_iff, Bool.and_eq_true, decide_eq_true_iff]
      unfold allS allN
      rw [allB_iff, allB_iff]
      constructor
      · intro h
        refine ⟨fun k hk => step_node (h k hk), ?_⟩
        have : ∀ n, n ≤ l.length → cntT l n ≤ 1 := by
          intro n
          induction n with
          | zero => intro _; simp [cntT]
          | succ n ih =>
            intro hn
            have h1 := ih (by omega)
            unfold cntT
            by_cases hc : 0 < n ∧ isTop l n = true
            · rw [if_pos hc]
              have hs := h (n - 1) (by omega)
              rw [show n - 1 + 1 = n by omega] at hs
              unfold stepB at hs
              rw [Bool.and_eq_true, hc.2] at hs
              have : ¬ 0 < topN l n := by simpa using hs.2
              rw [top_cnt] at this
              omega
            · rw [if_neg hc]; omega
        exact this _ (Nat.le_refl _)
      · rintro ⟨h, hc⟩ k hk
        unfold stepB
        rw [h k hk, Bool.true_and]
        cases hT : isTop l (k + 1) with
        | false => rfl
        | true =>
          have h1 : cntT l (k + 2) = cntT l (k + 1) + 1 := by rw [cntT, if_pos ⟨by omega, hT⟩]
          have h2 := cntT_mono l (k + 2) l.length (by omega)
          have h3 : ¬ 0 < topN l (k + 1) := by rw [top_cnt]; omega
          rw [decide_eq_false h3]; rfl
    rw [key]
    cases hN : allN l with
    | false => simp
    | true =>
      simp only [Bool.true_and]
      have ht := top_cnt l l.length
      by_cases h1 : cntT l l.length ≤ 1
      · rw [decide_eq_true h1, if_pos rfl]
        by_cases h0 : 0 < topN l l.length
        · have h2 : (cntT l l.length == 1) = true := beq_iff_eq.2 (by have := ht.1 h0; omega)
          rw [h2]; exact decide_eq_true h0
        · have h2 : (cntT l l.length == 1) = false := beq_eq_false_iff_ne.2 (by
            have : ¬ 0 < cntT l l.length := fun h => h0 (ht.2 h)
            omega)
          rw [h2]; exact decide_eq_false h0
      · have h2 : (cntT l l.length == 1) = false := beq_eq_false_iff_ne.2 (by omega)
        rw [decide_eq_false h1, h2]; rfl
theorem of_bad (l : List Nd) (nl : Bool) (hl : l.length ≤ 4000000) (hok : ∀ x ∈ l, okN x) (h : formdB l = false) : Fn Tryd.prog 11 [.sl (ndR l) nl] [.p .ptr0, .p (.int .i64 2)] := by
  have k29 := check_ct l nl hl hok
  rw [chk_formd, h] at k29
  generalize ((chkV l).1 : Int) = t at *
  refine Fn.of_body Tryd.func11 rfl ?_
  repeat (first | ((with_reducible first | refine callK_at 29 ?_); refine callK_p ?_; simp (maxSteps := 1000000) (disch := refine hold_ ?_; first | (simp [-List.getD_eq_getElem?_getD]; done) | omega) [-List.getD_eq_getElem?_getD]; (first | refine callK1_of (Fn.ct k29 Tryd.call29) ?_); (try simp (maxSteps := 1000000) (disch := refine hold_ ?_; first | (simp [-List.getD_eq_getElem?_getD]; done) | omega) [-List.getD_eq_getElem?_getD]); try first | (with_reducible refine zZ ?_) | subst hK_) | ((first | (with_reducible first | refine zP fun K_ hK_ => ?_ | refine zQ fun K_ hK_ => ?_ | refine zT ?_ | refine zU ?_ | refine zV ?_ | refine zW ?_ | refine zX ?_ | refine zY ?_) | ((with_reducible first | refine zR ?_ ?_ fun K_ hK_ => ?_ | refine zS ?_ ?_ fun K_ hK_ => ?_); (focus kernel_rfl); (focus kernel_rfl))); first | (simp (maxSteps := 1000000) (disch := refine hold_ ?_; first | (simp [-List.getD_eq_getElem?_getD]; done) | omega) [-List.getD_eq_getElem?_getD]; try first | (with_reducible refine zZ ?_) | subst hK_) | subst hK_) | (with_reducible first | refine zA ?_ | refine zB ?_ | refine zC ?_ | refine zD ?_ | refine zE ?_ | refine zF ?_ | refine zG ?_ | refine zH ?_ | refine zI ?_ | refine zJ ?_ | refine zK ?_ | refine zL ?_ | refine zM ?_ | refine zN ?_ | refine zO ?_) | ((with_reducible refine yG ?_ ?_); (focus decide)) | ((with_reducible refine yA ?_); refine yB rfl ?_; (with_reducible first | refine yC ?_ | refine yD ?_)))
  all_goals (try simp (maxSteps := 1000000) (disch := refine hold_ ?_; first | (simp [-List.getD_eq_getElem?_getD]; done) | omega) [-List.getD_eq_getElem?_getD])
theorem formd_pOk (l : List Nd) (h : formdB l = true) : 0 < l.length ∧ pOk l l.length := by
  unfold formdB at h
  rw [Bool.and_eq_true, Bool.and_eq_true, Bool.and_eq_true] at h
  obtain ⟨h1, h2, h3, _⟩ := h
  have h0 : 0 < l.length := by
    rcases Nat.eq_zero_or_pos l.length with e | e
    · rw [e] at h1; cases h1
    · exact e
  have ha : (nd l 0).a = -1 := by
    unfold rootB at h2
    rw [Bool.and_eq_true, Bool.and_eq_true] at h2
    simpa using h2.2.1
  have := pOk_of ha (l.length - 1) fun j hj => node_stand (allB_iff.1 h3 j hj)
  rw [show l.length - 1 + 1 = l.length by omega] at this
  exact ⟨h0, this⟩
theorem of_lim (l : List Nd) (nl : Bool) (hl : l.length ≤ 4000000) (hok : ∀ x ∈ l, okN x) (h : formdB l = true) (hw : withB l = false) : Fn Tryd.prog 11 [.sl (ndR l) nl] [.p .ptr0, .p (.int .i64 3)] := by
  have k29 := check_ct l nl hl hok
  rw [chk_formd, h] at k29
  have k30 := within_ct l nl (formd_pOk l h).2 hl hok
  rw [hw] at k30
  generalize ((chkV l).1 : Int) = t at *
  refine Fn.of_body Tryd.func11 rfl ?_
  repeat (first | ((with_reducible first | refine callK_at 29 ?_ | refine callK_at 30 ?_); refine callK_p ?_; simp (maxSteps := 1000000) (disch := refine hold_ ?_; first | (simp [-List.getD_eq_getElem?_getD]; done) | omega) [-List.getD_eq_getElem?_getD]; (first | ((with_reducible refine k1_at 29 ?_); refine callK1_of (Fn.ct k29 Tryd.call29) ?_) | ((with_reducible refine k1_at 30 ?_); refine callK1_of (Fn.ct k30 Tryd.call30) ?_)); (try simp (maxSteps := 1000000) (disch := refine hold_ ?_; first | (simp [-List.getD_eq_getElem?_getD]; done) | omega) [-List.getD_eq_getElem?_getD]); try first | (with_reducible refine zZ ?_) | subst hK_) | ((first | (with_reducible first | refine zP fun K_ hK_ => ?_ | refine zQ fun K_ hK_ => ?_ | refine zT ?_ | refine zU ?_ | refine zV ?_ | refine zW ?_ | refine zX ?_ | refine zY ?_) | ((with_reducible first | refine zR ?_ ?_ fun K_ hK_ => ?_ | refine zS ?_ ?_ fun K_ hK_ => ?_); (focus kernel_rfl); (focus kernel_rfl))); first | (simp (maxSteps := 1000000) (disch := refine hold_ ?_; first | (simp [-List.getD_eq_getElem?_getD]; done) | omega) [-List.getD_eq_getElem?_getD]; try first | (with_reducible refine zZ ?_) | subst hK_) | subst hK_) | (with_reducible first | refine zA ?_ | refine zB ?_ | refine zC ?_ | refine zD ?_ | refine zE ?_ | refine zF ?_ | refine zG ?_ | refine zH ?_ | refine zI ?_ | refine zJ ?_ | refine zK ?_ | refine zL ?_ | refine zM ?_ | refine zN ?_ | refine zO ?_) | ((with_reducible refine yG ?_ ?_); (focus decide)) | ((with_reducible refine yA ?_); refine yB rfl ?_; (with_reducible first | refine yC ?_ | refine yD ?_)))
  all_goals (try simp (maxSteps := 1000000) (disch := refine hold_ ?_; first | (simp [-List.getD_eq_getElem?_getD]; done) | omega) [-List.getD_eq_getElem?_getD])
theorem of_ok (l : List Nd) (nl : Bool) (hl : l.length ≤ 4000000) (hok : ∀ x ∈ l, okN x) (h : formdB l = true) (hw : withB l = true) : Fn Tryd.prog 11 [.sl (ndR l) nl] [.p (docP l (endR l l.length) (topN l l.length : Nat)), .p (.int .i64 0)] := by
  obtain ⟨h0, hp⟩ := formd_pOk l h
  have hc : chkV l = (topN l l.length, true) := by
    have h2 := chk_formd l
    rw [h] at h2
    unfold chkV at h2 ⊢
    split at h2
    · rename_i hh; rw [if_pos hh]; simp only at h2; rw [h2]
    · cases h2
  exact of_ct l nl hl hok _ h0 hc hp hw
end Go.Av.Doc
end
section
set_option linter.unusedSimpArgs false
set_option linter.unusedVariables false
set_option linter.unusedSectionVars false
open Go Go.Av Go.Proofs
namespace Go.Av.Doc
variable [ML]
structure Stood (l : List Nd) : Prop where
  p : pOk l l.length
  s : ∀ k, 0 < k → k < l.length → ab l (nd l k).a ((k : Int) - 1) = true
theorem formd_stood (l : List Nd) (h : formdB l = true) : Stood l := by
  refine ⟨(formd_pOk l h).2, fun k h0 hk => ?_⟩
  unfold formdB at h
  rw [Bool.and_eq_true, Bool.and_eq_true, Bool.and_eq_true] at h
  have := allB_iff.1 h.2.2.1 (k - 1) (by omega)
  rw [show k - 1 + 1 = k by omega] at this
  have := node_stand this
  unfold standB at this
  rw [Bool.and_eq_true] at this
  exact this.1
def pn (l : List Nd) (k : Nat) : Nat := (nd l k).a.toNat
theorem pn_eq {l : List Nd} (h : Stood l) {k : Nat} (h0 : 0 < k) (hk : k < l.length) : (nd l k).a = pn l k ∧ pn l k < k := by
  have := h.p.2 k h0 hk
  unfold pn; omega
def up (l : List Nd) (a k : Nat) : Prop := ab l a k = true
theorem up_self (l : List Nd) (k : Nat) : up l k k := ab_self l k (by omega)
theorem up_step {l : List Nd} (h : Stood l) {a k : Nat} (h0 : 0 < k) (hk : k < l.length) : up l a k ↔ a = k ∨ up l a (pn l k) := by
  unfold up
  by_cases e : a = k
  · subst e; simp [ab_self]
  · have := ab_up h.p (show (0 : Int) ≤ k by omega) (show (k : Int) < l.length by omega) (show (a : Int) ≠ k by omega)
    rw [this, Int.toNat_natCast, (pn_eq h h0 hk).1]; simp [e]
theorem up_zero {l : List Nd} (h : Stood l) {a : Nat} (h0 : 0 < l.length) : up l a 0 ↔ a = 0 := by
  unfold up
  by_cases e : a = 0
  · subst e; simp [ab_self]
  · have := ab_up h.p (show (0 : Int) ≤ 0 by omega) (show (0 : Int) < l.length by omega) (show (a : Int) ≠ 0 by omega)
    rw [show ((0 : Nat) : Int) = 0 from rfl, this]
    rw [show (nd l (Int.toNat 0)).a = -1 from h.p.1, ab_neg l a (-1) (by omega)]; simp [e]
theorem up_le {l : List Nd} (h : Stood l) : ∀ (k a : Nat), k < l.length → up l a k → a ≤ k := by
  intro k
  induction k using Nat.strongRecOn with
  | ind k ih =>
    intro a hk hu
    by_cases h0 : 0 < k
    · rcases (up_step h h0 hk).1 hu with e | e
      · omega
      · have := (pn_eq h h0 hk).2
        have := ih _ this a (by omega) e
        omega
    · obtain rfl : k = 0 := by omega
      have := (up_zero h (by omega)).1 hu
      omega
theorem up_trans {l : List Nd} (h : Stood l) : ∀ (k a b : Nat), k < l.length → up l a b → up l b k → up l a k := by
  intro k
  induction k using Nat.strongRecOn with
  | ind k ih =>
    intro a b hk hab hbk
    by_cases e : b = k
    · subst e; exact hab
    · by_cases h0 : 0 < k
      · rcases (up_step h h0 hk).1 hbk with e' | e'
        · exact absurd e' e
        · have hp := (pn_eq h h0 hk).2
          exact (up_step h h0 hk).2 (.inr (ih _ hp a b (by omega) hab e'))
      · obtain rfl : k = 0 := by omega
        exact absurd ((up_zero h (by omega)).1 hbk) e
theorem up_anti {l : List Nd} (h : Stood l) {a b : Nat} (ha : a < l.length) (hb : b < l.length) (h1 : up l a b) (h2 : up l b a) : a = b := by
  have := up_le h b a hb h1
  have := up_le h a b ha h2
  omega
theorem up_comp {l : List Nd} (h : Stood l) : ∀ (k a b : Nat), k < l.length → up l a k → up l b k → up l a b ∨ up l b a := by
  intro k
  induction k using Nat.strongRecOn with
  | ind k ih =>
    intro a b hk ha hb
    by_cases h0 : 0 < k
    · rcases (up_step h h0 hk).1 ha with e | ea
      · subst e; exact .inr hb
      · rcases (up_step h h0 hk).1 hb with e | eb
        · subst e; exact .inl ha
        · have hp := (pn_eq h h0 hk).2
          exact ih _ hp a b (by omega) ea eb
    · obtain rfl : k = 0 := by omega
      have e1 := (up_zero h (by omega)).1 ha
      have e2 := (up_zero h (by omega)).1 hb
      subst e1; subst e2; exact .inl (up_self l 0)
theorem up_prev {l : List Nd} (h : Stood l) {a k : Nat} (hk : k < l.length) (hak : a < k) (hu : up l a k) : up l a (k - 1) := by
  have h0 : 0 < k := by omega
  rcases (up_step h h0 hk).1 hu with e | e
  · omega
  · have hs := h.s k h0 hk
    rw [(pn_eq h h0 hk).1, show (k : Int) - 1 = (k - 1 : Nat) by omega] at hs
    exact up_trans h (k - 1) a _ (by omega) e hs
theorem up_mid {l : List Nd} (h : Stood l) {a : Nat} : ∀ (d k : Nat), k < l.length → k - a = d → a ≤ k → up l a k → ∀ j, a ≤ j → j ≤ k → up l a j := by
  intro d
  induction d with
  | zero => intro k hk hd hak hu j h1 h2
            obtain rfl : j = k := by omega
            exact hu
  | succ d ih =>
    intro k hk hd hak hu j h1 h2
    by_cases e : j = k
    · subst e; exact hu
    · exact ih (k - 1) (by omega) (by omega) (by omega) (up_prev h hk (by omega) hu) j h1 (by omega)
def enF (l : List Nd) (a : Nat) : Nat → Nat
  | 0 => 0
  | k + 1 => if ab l a k = true then k + 1 else enF l a k
def en (l : List Nd) (a : Nat) : Nat := enF l a l.length
theorem enF_spec (l : List Nd) (a : Nat) : ∀ k, enF l a k ≤ k ∧ (∀ j, j < k → up l a j → j < enF l a k) ∧ (0 < enF l a k → up l a (enF l a k - 1))
  | 0 => ⟨Nat.le_refl _, fun j h => absurd h (Nat.not_lt_zero _), fun h => absurd h (Nat.lt_irrefl _)⟩
  | k + 1 => by
    obtain ⟨h1, h2, h3⟩ := enF_spec l a k
    unfold enF
    by_cases e : ab l a k = true
    · rw [if_pos e]
      exact ⟨Nat.le_refl _, fun j hj _ => hj, fun _ => e⟩
    · rw [if_neg e]
      refine ⟨by omega, fun j hj hu => ?_, h3⟩
      by_cases ej : j = k
      · subst ej; exact absurd hu e
      · exact h2 j (by omega) hu
theorem en_iff {l : List Nd} (h : Stood l) {a k : Nat} (ha : a < l.length) (hk : k < l.length) : up l a k ↔ a ≤ k ∧ k < en l a := by
  obtain ⟨h1, h2, h3⟩ := enF_spec l a l.length
  change en l a ≤ _ at h1
  change ∀ j, j < l.length → up l a j → j < en l a at h2
  change 0 < en l a → up l a (en l a - 1) at h3
  constructor
  · intro hu; exact ⟨up_le h k a hk hu, h2 k hk hu⟩
  · rintro ⟨h4, h5⟩
    have h6 := h3 (by omega)
    exact up_mid h _ (en l a - 1) (by omega) rfl (by omega) h6 k h4 (by omega)
theorem en_le (l : List Nd) (a : Nat) : en l a ≤ l.length := (enF_spec l a l.length).1
theorem en_gt {l : List Nd} {a : Nat} (ha : a < l.length) : a < en l a := (enF_spec l a l.length).2.1 a ha (up_self l a)
theorem en_child {l : List Nd} (h : Stood l) {c : Nat} (h0 : 0 < c) (hc : c < l.length) : en l c ≤ en l (pn l c) ∧ c < en l (pn l c) := by
  have hp := (pn_eq h h0 hc).2
  have hu : up l (pn l c) c := (up_step h h0 hc).2 (.inr (up_self l _))
  have h1 := en_gt hc
  have h2 := en_le l c
  have h3 : up l c (en l c - 1) := (en_iff h hc (by omega)).2 ⟨by omega, by omega⟩
  have h4 := up_trans h (en l c - 1) _ _ (by omega) hu h3
  have h5 := (en_iff h (show pn l c < l.length by omega) (by omega)).1 h4
  have h6 := (en_iff h (show pn l c < l.length by omega) hc).1 hu
  omega
theorem en_next {l : List Nd} (h : Stood l) {c n : Nat} (h0 : 0 < c) (hc : c < l.length) (hn : pn l c = n) (hlt : en l c < en l n) :
    pn l (en l c) = n ∧ en l c < l.length := by
  have hp := (pn_eq h h0 hc).2
  have hnl : n < l.length := by omega
  have h1 := en_gt hc
  have hjl : en l c < l.length := by have := en_le l n; omega
  refine ⟨?_, hjl⟩
  generalize hj : en l c = j at *
  have hnj : up l n j := (en_iff h hnl hjl).2 ⟨by omega, hlt⟩
  have hj0 : 0 < j := by omega
  have hcj : ¬ up l c j := fun hu => by have := (en_iff h hc hjl).1 hu; omega
  rcases (up_step h hj0 hjl).1 hnj with e | e
  · omega
  have hpj := (pn_eq h hj0 hjl).2
  have hs := h.s j hj0 hjl
  rw [(pn_eq h hj0 hjl).1, show (j : Int) - 1 = (j - 1 : Nat) by omega] at hs
  have hs' : up l (pn l j) (j - 1) := hs
  have hcj1 : up l c (j - 1) := (en_iff h hc (by omega)).2 ⟨by omega, by omega⟩
  rcases up_comp h (j - 1) _ _ (by omega) hcj1 hs' with e1 | e1
  · exact absurd ((up_step h hj0 hjl).2 (.inr e1)) hcj
  · rcases (up_step h h0 hc).1 e1 with e2 | e2
    · exact absurd ((up_step h hj0 hjl).2 (.inr (by rw [e2]; exact up_self l c))) hcj
    · rw [hn] at e2
      exact up_anti h (by omega) hnl e2 e
theorem en_first {l : List Nd} (h : Stood l) {n : Nat} (hn : n < l.length) (hlt : n + 1 < en l n) : pn l (n + 1) = n ∧ n + 1 < l.length := by
  have h2 := en_le l n
  have hl : n + 1 < l.length := by omega
  refine ⟨?_, hl⟩
  have hu : up l n (n + 1) := (en_iff h hn hl).2 ⟨by omega, hlt⟩
  rcases (up_step h (by omega) hl).1 hu with e | e
  · omega
  · have hp := (pn_eq h (show 0 < n + 1 by omega) hl).2
    have := up_le h (pn l (n + 1)) n (by omega) e
    omega
end Go.Av.Doc
end
section
set_option linter.unusedSimpArgs false
set_option linter.unusedVariables false
set_option linter.unusedSectionVars false
open Go Go.Av Go.Proofs
namespace Go.Av.Doc
variable [ML]
def cm (l : List Nd) (m : Nat) : Nat → Nat
  | 0 => 0
  | i + 1 => if 0 < l.length - 1 - i ∧ pn l (l.length - 1 - i) = m then max (en l (l.length - 1 - i)) (cm l m i) else cm l m i
theorem cm_ge (l : List Nd) (m : Nat) : ∀ i, i ≤ l.length → ∀ c, 0 < c → l.length - i ≤ c → c < l.length → pn l c = m → en l c ≤ cm l m i
  | 0, _, c, _, h1, h2, _ => by omega
  | i + 1, hi, c, h0, h1, h2, hp => by
    have ih := cm_ge l m i (by omega)
    unfold cm
    by_cases e : c = l.length - 1 - i
    · subst e; rw [if_pos ⟨h0, hp⟩]; omega
    · have := ih c h0 (by omega) h2 hp
      split <;> omega
theorem cm_le (l : List Nd) (m B : Nat) : ∀ i, i ≤ l.length → (∀ c, 0 < c → l.length - i ≤ c → c < l.length → pn l c = m → en l c ≤ B) → cm l m i ≤ B
  | 0, _, _ => Nat.zero_le _
  | i + 1, hi, h => by
    have ih := cm_le l m B i (by omega) fun c h0 h1 h2 hp => h c h0 (by omega) h2 hp
    unfold cm
    by_cases e : 0 < l.length - 1 - i ∧ pn l (l.length - 1 - i) = m
    · rw [if_pos e]
      have := h (l.length - 1 - i) e.1 (by omega) (by omega) e.2
      omega
    · rw [if_neg e]; exact ih
theorem last_child {l : List Nd} (h : Stood l) {j : Nat} : ∀ (d c : Nat), en l j - en l c = d → 0 < c → c < l.length → pn l c = j → ∃ c', j < c' ∧ c' < l.length ∧ pn l c' = j ∧ en l c' = en l j := by
  intro d
  induction d using Nat.strongRecOn with
  | ind d ih =>
    intro c hd h0 hc hp
    have h1 := en_child h h0 hc
    rw [hp] at h1
    have hj := (pn_eq h h0 hc).2
    by_cases e : en l c = en l j
    · exact ⟨c, by omega, hc, hp, e⟩
    · obtain ⟨q1, q2⟩ := en_next h h0 hc hp (by omega)
      have h2 := en_gt hc
      have h3 := en_gt q2
      exact ih (en l j - en l (en l c)) (by omega) (en l c) rfl (by omega) q2 q1
theorem en_rec {l : List Nd} (h : Stood l) {j : Nat} (hj : j < l.length) : max (j + 1) (cm l j (l.length - 1 - j)) = en l j := by
  have h1 := en_gt hj
  have hle : cm l j (l.length - 1 - j) ≤ en l j := cm_le l j _ _ (by omega) fun c h0 _ hc hp => by
    have := (en_child h h0 hc).1; rw [hp] at this; exact this
  by_cases e : en l j = j + 1
  · omega
  · obtain ⟨q1, q2⟩ := en_first h hj (by omega)
    obtain ⟨c, c1, c2, c3, c4⟩ := last_child h _ (j + 1) rfl (by omega) q2 q1
    have := cm_ge l j (l.length - 1 - j) (by omega) c (by omega) (by omega) c2 c3
    omega
def eF (l : List Nd) (i m : Nat) : Int := if l.length - i ≤ m then (en l m : Nat) else (cm l m i : Nat)
theorem endR_tab {l : List Nd} (h : Stood l) : ∀ i, i ≤ l.length → endR l i = tabL (eF l i) l.length
  | 0, _ => by
    show List.replicate _ _ = _
    rw [tabL_rep]
    exact tabL_ext _ _ _ fun m hm => by unfold eF; rw [if_neg (by omega)]; rfl
  | i + 1, hi => by
    rw [endR, endR_tab h i (by omega)]
    obtain ⟨j, hj⟩ : ∃ j : Nat, l.length - 1 - i = j := ⟨_, rfl⟩
    have hjl : j < l.length := by omega
    rw [hj]
    have hi' : l.length - 1 - j = i := by omega
    have hgj : (tabL (eF l i) l.length).getD j 0 = (cm l j i : Nat) := by rw [tabL_get _ _ _ hjl]; unfold eF; rw [if_neg (by omega)]
    have hrec := en_rec h hjl
    rw [hi'] at hrec
    have hmx : mx ((cm l j i : Nat) : Int) ((j : Int) + 1) = (en l j : Nat) := by unfold mx; split <;> omega
    unfold updE
    rw [hgj, hmx]
    by_cases h0 : 0 < j
    · obtain ⟨p1, p2⟩ := pn_eq h h0 hjl
      rw [p1, if_pos (by omega), Int.toNat_natCast]
      have h1 : (tabL (eF l i) l.length).set j ((en l j : Nat) : Int) = tabL (fun m => if m = j then (en l j : Nat) else eF l i m) l.length :=
        tabL_set _ _ _ _ _ (if_pos rfl) fun m hm hne => if_neg hne
      rw [h1]
      have hgp : (tabL (fun m => if m = j then ((en l j : Nat) : Int) else eF l i m) l.length).getD (pn l j) 0 = (cm l (pn l j) i : Nat) := by
        rw [tabL_get _ _ _ (by omega), if_neg (by omega)]; unfold eF; rw [if_neg (by omega)]
      rw [hgp]
      have hm2 : mx ((cm l (pn l j) i : Nat) : Int) ((en l j : Nat) : Int) = (cm l (pn l j) (i + 1) : Nat) := by
        rw [cm, hj, if_pos ⟨h0, rfl⟩]; unfold mx; split <;> omega
      rw [hm2]
      refine tabL_set _ _ _ _ _ ?_ fun m hm hne => ?_
      · unfold eF; rw [if_neg (by omega)]
      · unfold eF
        by_cases e : m = j
        · subst e; rw [if_pos (by omega), if_pos rfl]
        · rw [if_neg e]
          by_cases e2 : l.length - i ≤ m
          · rw [if_pos (by omega), if_pos e2]
          · rw [if_neg (by omega), if_neg e2, cm, hj, if_neg (by rintro ⟨_, e3⟩; exact hne e3.symm)]
    · obtain rfl : j = 0 := by omega
      rw [h.p.1, if_neg (by omega)]
      refine tabL_set _ _ _ _ _ ?_ fun m hm hne => ?_
      · unfold eF; rw [if_pos (by omega)]
      · unfold eF; rw [if_pos (by omega), if_pos (by omega)]
theorem endR_get {l : List Nd} (h : Stood l) {m : Nat} (hm : m < l.length) : (endR l l.length).getD m 0 = (en l m : Nat) := by
  rw [endR_tab h _ (Nat.le_refl _), tabL_get _ _ _ hm]; unfold eF; rw [if_pos (by omega)]
end Go.Av.Doc
end
section
set_option linter.unusedSimpArgs false
set_option linter.unusedVariables false
set_option linter.unusedSectionVars false
open Go Go.Av Go.Proofs
namespace Go.Av.Doc
variable [ML]
theorem node_ct (l : List Nd) (e : List Int) (top : Int) (n : Nat) (h : n < l.length) (hok : ∀ x ∈ l, okN x) : Fn Tryd.prog 18 [docP l e top, .int .i64 n] [.p (ndP (nd l n))] := by
  have k := has_ct l e top n
  have hb : hasB l n = true := by unfold hasB; simp [h]
  rw [hb] at k
  have he := nd_elem l n h
  have k31 := clone_ct (nd l n) (hok _ (mem_getD l n default h))
  have hz : (n : Int) < l.length := by omega
  unfold ndP at *
  generalize nd l n = x at *
  refine Fn.of_body Tryd.func18 rfl ?_
  unfold docP at *
  repeat (first | ((with_reducible first | refine callK_at 36 ?_ | refine callK_at 31 ?_); refine callK_p ?_; simp (maxSteps := 1000000) (disch := refine hold_ ?_; first | (simp [h, hz, he, -List.getD_eq_getElem?_getD]; done) | omega) [h, hz, he, -List.getD_eq_getElem?_getD]; (first | ((with_reducible refine k1_at 36 ?_); refine callK1_of (Fn.ct k Tryd.call36) ?_) | ((with_reducible refine k1_at 31 ?_); refine callK1_of (Fn.ct k31 Tryd.call31) ?_)); (try simp (maxSteps := 1000000) (disch := refine hold_ ?_; first | (simp [h, hz, he, -List.getD_eq_getElem?_getD]; done) | omega) [h, hz, he, -List.getD_eq_getElem?_getD]); try first | (with_reducible refine zZ ?_) | subst hK_) | ((first | (with_reducible first | refine zP fun K_ hK_ => ?_ | refine zQ fun K_ hK_ => ?_ | refine zT ?_ | refine zU ?_ | refine zV ?_ | refine zW ?_ | refine zX ?_ | refine zY ?_) | ((with_reducible first | refine zR ?_ ?_ fun K_ hK_ => ?_ | refine zS ?_ ?_ fun K_ hK_ => ?_); (focus kernel_rfl); (focus kernel_rfl))); first | (simp (maxSteps := 1000000) (disch := refine hold_ ?_; first | (simp [h, hz, he, -List.getD_eq_getElem?_getD]; done) | omega) [h, hz, he, -List.getD_eq_getElem?_getD]; try first | (with_reducible refine zZ ?_) | subst hK_) | subst hK_) | (with_reducible first | refine zA ?_ | refine zB ?_ | refine zC ?_ | refine zD ?_ | refine zE ?_ | refine zF ?_ | refine zG ?_ | refine zH ?_ | refine zI ?_ | refine zJ ?_ | refine zK ?_ | refine zL ?_ | refine zM ?_ | refine zN ?_ | refine zO ?_) | ((with_reducible refine yG ?_ ?_); (focus decide)) | ((with_reducible refine yA ?_); refine yB rfl ?_; (with_reducible first | refine yC ?_ | refine yD ?_)))
  all_goals (try simp (maxSteps := 1000000) (disch := refine hold_ ?_; first | (simp [-List.getD_eq_getElem?_getD]; done) | omega) [-List.getD_eq_getElem?_getD])
def kdF (l : List Nd) (e : Nat) : Nat → Nat → List Nat
  | 0, _ => []
  | f + 1, m => if m < e then m :: kdF l e f (en l m) else []
def kidsL (l : List Nd) (n : Nat) : List Nat := kdF l (en l n) l.length (n + 1)
def itE (l : List Nd) : Nat → Nat → Nat
  | 0, m => m
  | k + 1, m => itE l k (en l m)
theorem itE_succ (l : List Nd) : ∀ k m, itE l (k + 1) m = en l (itE l k m)
  | 0, m => rfl
  | k + 1, m => by rw [itE, itE_succ l k (en l m)]; rfl
theorem kd_spec {l : List Nd} (h : Stood l) {n : Nat} (hn : n < l.length) : ∀ f m, en l n - m ≤ f → n < m → m ≤ en l n → (m < en l n → pn l m = n) →
    (∀ k, k < (kdF l (en l n) f m).length → (kdF l (en l n) f m).getD k 0 = itE l k m ∧ itE l k m < en l n ∧ pn l (itE l k m) = n ∧ n < itE l k m) ∧ itE l (kdF l (en l n) f m).length m = en l n
  | 0, m, h1, h2, h3, h4 => by
    refine ⟨fun k hk => by simp [kdF] at hk, ?_⟩
    show m = en l n
    omega
  | f + 1, m, h1, h2, h3, h4 => by
    unfold kdF
    by_cases e : m < en l n
    · rw [if_pos e]
      have hl := en_le l n
      have hp := h4 e
      have c1 := en_child h (show 0 < m by omega) (show m < l.length by omega)
      rw [hp] at c1
      have c2 := en_gt (show m < l.length by omega)
      obtain ⟨i1, i2⟩ := kd_spec h hn f (en l m) (by omega) (by omega) c1.1 fun hlt => (en_next h (by omega) (by omega) hp hlt).1
      refine ⟨fun k hk => ?_, ?_⟩
      · cases k with
        | zero => exact ⟨rfl, e, hp, h2⟩
        | succ k =>
          have := i1 k (by simpa using hk)
          simpa [itE] using this
      · simpa [itE] using i2
    · rw [if_neg e]
      refine ⟨fun k hk => by simp at hk, ?_⟩
      show m = en l n
      omega
theorem kids_spec {l : List Nd} (h : Stood l) {n : Nat} (hn : n < l.length) :
    (∀ k, k < (kidsL l n).length → (kidsL l n).getD k 0 = itE l k (n + 1) ∧ itE l k (n + 1) < en l n ∧ pn l (itE l k (n + 1)) = n ∧ n < itE l k (n + 1)) ∧ itE l (kidsL l n).length (n + 1) = en l n := by
  have h1 := en_gt hn
  have h2 := en_le l n
  exact kd_spec h hn l.length (n + 1) (by omega) (by omega) (by omega) fun hlt => (en_first h hn hlt).1
def kidsI (l : List Nd) (n : Nat) : List Int := (kidsL l n).map fun k : Nat => (k : Int)
theorem app_ints (o : List Int) (m : Int) : appRow (.ints .i64 o) (.ints .i64 [m]) = some (.ints .i64 (o ++ [m])) := by rfl
set_option maxHeartbeats 4000000 in
theorem kids_ct {l : List Nd} (h : Stood l) (hl : l.length ≤ 4000000) (top : Int) (n : Nat) (hn : n < l.length) :
    Fn Tryd.prog 21 [docP l (endR l l.length) top, .int .i64 n] [.p (.sl (.ints .i64 (kidsI l n)) (kidsI l n == []))] 1 := by
  refine FnG.rowRes (t := 0) (v := 0) ?_
  have k := has_ct l (endR l l.length) top n
  have hb : hasB l n = true := by unfold hasB; simp [hn]
  rw [hb] at k
  have hlen := endR_len l l.length
  have hget := fun m hm => endR_get h (m := m) hm
  have w1 : IntKind.i64.wrap ((n : Int) + 1) = ((n + 1 : Nat) : Int) := wrap_succ n l.length (by omega) (by omega)
  have henl := en_le l n
  have hen := en_gt hn
  have hgn := hget n hn
  have hK : kidsI l n = [] ++ (kdF l (en l n) l.length (n + 1)).map fun k : Nat => (k : Int) := rfl
  generalize kidsI l n = R at *
  generalize hE : endR l l.length = E at *
  refine Fn.of_body Tryd.func21 rfl ?_
  unfold docP at *
  repeat (first | ((with_reducible first | refine callK_at 36 ?_); refine callK_p ?_; simp (maxSteps := 1000000) (disch := refine hold_ ?_; first | (simp [w1, -List.getD_eq_getElem?_getD]; done) | omega) [w1, -List.getD_eq_getElem?_getD]; (first | refine callK1_of (Fn.ct k Tryd.call36) ?_); (try simp (maxSteps := 1000000) (disch := refine hold_ ?_; first | (simp [w1, -List.getD_eq_getElem?_getD]; done) | omega) [w1, -List.getD_eq_getElem?_getD]); try first | (with_reducible refine zZ ?_) | subst hK_) | ((first | (with_reducible first | refine zP fun K_ hK_ => ?_ | refine zQ fun K_ hK_ => ?_ | refine zT ?_ | refine zU ?_ | refine zV ?_ | refine zW ?_ | refine zX ?_ | refine zY ?_) | ((with_reducible first | refine zR ?_ ?_ fun K_ hK_ => ?_ | refine zS ?_ ?_ fun K_ hK_ => ?_); (focus kernel_rfl); (focus kernel_rfl))); first | (simp (maxSteps := 1000000) (disch := refine hold_ ?_; first | (simp [w1, -List.getD_eq_getElem?_getD]; done) | omega) [w1, -List.getD_eq_getElem?_getD]; try first | (with_reducible refine zZ ?_) | subst hK_) | subst hK_) | (with_reducible first | refine zA ?_ | refine zB ?_ | refine zC ?_ | refine zD ?_ | refine zE ?_ | refine zF ?_ | refine zG ?_ | refine zH ?_ | refine zI ?_ | refine zJ ?_ | refine zK ?_ | refine zL ?_ | refine zM ?_ | refine zN ?_ | refine zO ?_) | ((with_reducible refine yG ?_ ?_); (focus decide)) | ((with_reducible refine yA ?_); refine yB rfl ?_; (with_reducible first | refine yC ?_ | refine yD ?_)))
  refine AW.nilRow 5 (.ints .i64 []) 5 _ rfl rfl ?_
  refine AW.iterI (τ := ⟨(.p (.eptr (.vals 3 [.agg (.vals 1 [.sl (ndR l) false, .sl (.ints .i64 E) false, .int .i64 top])]) 0 0) :: .p (.int .i64 n) :: V.junk :: V.junk :: V.junk :: .row (.ints .i64 []) 0 0 true :: .p (.int .i64 (n + 1 : Nat)) :: V.junk :: V.junk :: V.junk :: V.junk :: V.junk :: V.junk :: V.junk :: V.junk :: V.junk :: V.junk :: V.junk :: V.junk :: V.junk :: V.junk :: V.junk :: V.junk :: V.junk :: V.junk :: V.junk :: V.junk :: V.junk :: V.junk :: V.junk :: V.junk :: V.junk :: V.junk :: V.junk :: []), ⟨[], [(0, 0)]⟩⟩) (true :: true :: false :: false :: false :: true :: true :: false :: false :: false :: false :: false :: false :: false :: false :: false :: false :: false :: false :: false :: false :: false :: false :: false :: false :: false :: false :: false :: false :: false :: false :: false :: false :: false :: []) l.length
    (fun f σ => ∃ (o : List Int) (m : Nat), n < m ∧ en l n - m ≤ f ∧ o.length ≤ m ∧ R = o ++ (kdF l (en l n) f m).map (fun k : Nat => (k : Int)) ∧ σ = ⟨(.p (.eptr (.vals 3 [.agg (.vals 1 [.sl (ndR l) false, .sl (.ints .i64 E) false, .int .i64 top])]) 0 0) :: .p (.int .i64 n) :: V.junk :: V.junk :: V.junk :: .row (.ints .i64 o) 0 0 (o == []) :: .p (.int .i64 m) :: V.junk :: V.junk :: V.junk :: V.junk :: V.junk :: V.junk :: V.junk :: V.junk :: V.junk :: V.junk :: V.junk :: V.junk :: V.junk :: V.junk :: V.junk :: V.junk :: V.junk :: V.junk :: V.junk :: V.junk :: V.junk :: V.junk :: V.junk :: V.junk :: V.junk :: V.junk :: V.junk :: []), ⟨[], [(0, 0)]⟩⟩) ?_ ⟨[], n + 1, by omega, by omega, by simp, hK, rfl⟩ ?_
  · simp (maxSteps := 1000000) (disch := refine hold_ ?_; first | (simp [-List.getD_eq_getElem?_getD]; done) | omega) [-List.getD_eq_getElem?_getD]
  clear hK w1
  rintro f σ ⟨o, m, hnm, hf, hol, hR, rfl⟩
  have hnE : n < E.length := by omega
  have hnz : (n : Int) < E.length := by omega
  by_cases hm : m < en l n
  · obtain ⟨g, rfl⟩ : ∃ g, f = g + 1 := ⟨f - 1, by omega⟩
    have hmz : (m : Int) < (en l n : Nat) := by omega
    have hmE : m < E.length := by omega
    have hmEz : (m : Int) < E.length := by omega
    have hgm := hget m (by omega)
    have c2 := en_gt (show m < l.length by omega)
    unfold kdF at hR
    rw [if_pos hm] at hR
    have ha := app_ints o m
    have hob : o.length + 1 ≤ 4000000 := by omega
    have hne : (o ++ [(m : Int)] == []) = false := by cases o <;> rfl
    have hlo : (o ++ [(m : Int)]).length ≤ 4000000 := by simp; omega
    have hR' : R = (o ++ [(m : Int)]) ++ (kdF l (en l n) g (en l m)).map (fun k : Nat => (k : Int)) := by rw [hR]; simp
    have hol' : (o ++ [(m : Int)]).length ≤ en l m := by simp; omega
    have hem : en l n - en l m ≤ g := by omega
    have hnm' : n < en l m := by omega
    have hoz : (o ++ [(m : Int)]).length * 8 ≤ 140737488355328 := by omega
    clear hR hget
    generalize hob2 : (o == []) = ob at *
    generalize o ++ [(m : Int)] = o2 at *
    generalize en l m = m2 at *
    repeat (first | ((first | (with_reducible first | refine zP fun K_ hK_ => ?_ | refine zQ fun K_ hK_ => ?_ | refine zT ?_ | refine zU ?_ | refine zV ?_ | refine zW ?_ | refine zX ?_ | refine zY ?_) | ((with_reducible first | refine zR ?_ ?_ fun K_ hK_ => ?_ | refine zS ?_ ?_ fun K_ hK_ => ?_); (focus kernel_rfl); (focus kernel_rfl))); first | (simp (maxSteps := 1000000) (disch := refine hold_ ?_; first | (simp [hnE, hnz, hgn, hm, hmz, hmE, hmEz, hgm, ha, hob, hlo, hoz, -List.getD_eq_getElem?_getD]; done) | omega) [hnE, hnz, hgn, hm, hmz, hmE, hmEz, hgm, ha, hob, hlo, hoz, -List.getD_eq_getElem?_getD]; try first | (with_reducible refine zZ ?_) | subst hK_) | subst hK_) | (with_reducible first | refine zA ?_ | refine zB ?_ | refine zC ?_ | refine zD ?_ | refine zE ?_ | refine zF ?_ | refine zG ?_ | refine zH ?_ | refine zI ?_ | refine zJ ?_ | refine zK ?_ | refine zL ?_ | refine zM ?_ | refine zN ?_ | refine zO ?_) | ((with_reducible refine yG ?_ ?_); (focus decide)) | ((with_reducible refine yA ?_); refine yB rfl ?_; (with_reducible first | refine yC ?_ | refine yD ?_)))
    refine ⟨g, ⟨(.p (.eptr (.vals 3 [.agg (.vals 1 [.sl (ndR l) false, .sl (.ints .i64 E) false, .int .i64 top])]) 0 0) :: .p (.int .i64 n) :: V.junk :: V.junk :: V.junk :: .row (.ints .i64 o2) 0 0 (o2 == []) :: .p (.int .i64 m2) :: V.junk :: V.junk :: V.junk :: V.junk :: V.junk :: V.junk :: V.junk :: V.junk :: V.junk :: V.junk :: V.junk :: V.junk :: V.junk :: V.junk :: V.junk :: V.junk :: V.junk :: V.junk :: V.junk :: V.junk :: V.junk :: V.junk :: V.junk :: V.junk :: V.junk :: V.junk :: V.junk :: []), ⟨[], [(0, 0)]⟩⟩, by omega, ?_, o2, m2, hnm', hem, hol', hR', rfl⟩
    rw [hne]
    simp (maxSteps := 1000000) (disch := refine hold_ ?_; first | (simp [-List.getD_eq_getElem?_getD]; done) | omega) [-List.getD_eq_getElem?_getD]
  · have hmz : ¬ (m : Int) < (en l n : Nat) := by omega
    have hR' : R = o := by
      rw [hR]
      cases f with
      | zero => simp [kdF]
      | succ f => unfold kdF; rw [if_neg hm]; simp
    subst hR'
    generalize en l n = N at *
    repeat (first | ((first | (with_reducible first | refine zP fun K_ hK_ => ?_ | refine zQ fun K_ hK_ => ?_ | refine zT ?_ | refine zU ?_ | refine zV ?_ | refine zW ?_ | refine zX ?_ | refine zY ?_) | ((with_reducible first | refine zR ?_ ?_ fun K_ hK_ => ?_ | refine zS ?_ ?_ fun K_ hK_ => ?_); (focus kernel_rfl); (focus kernel_rfl))); first | (simp (maxSteps := 1000000) (disch := refine hold_ ?_; first | (simp [hnE, hnz, hgn, hm, hmz, -List.getD_eq_getElem?_getD]; done) | omega) [hnE, hnz, hgn, hm, hmz, -List.getD_eq_getElem?_getD]; try first | (with_reducible refine zZ ?_) | subst hK_) | subst hK_) | (with_reducible first | refine zA ?_ | refine zB ?_ | refine zC ?_ | refine zD ?_ | refine zE ?_ | refine zF ?_ | refine zG ?_ | refine zH ?_ | refine zI ?_ | refine zJ ?_ | refine zK ?_ | refine zL ?_ | refine zM ?_ | refine zN ?_ | refine zO ?_) | ((with_reducible refine yG ?_ ?_); (focus decide)) | ((with_reducible refine yA ?_); refine yB rfl ?_; (with_reducible first | refine yC ?_ | refine yD ?_)))
    all_goals (try simp (maxSteps := 1000000) (disch := refine hold_ ?_; first | (simp [-List.getD_eq_getElem?_getD]; done) | omega) [-List.getD_eq_getElem?_getD])
end Go.Av.Doc
end
section
set_option linter.unusedSimpArgs false
set_option linter.unusedVariables false
set_option linter.unusedSectionVars false
open Go Go.Av Go.Proofs
namespace Go.Av.Doc
variable [ML]
theorem endE_ct {l : List Nd} (h : Stood l) (top : Int) (m : Nat) (hm : m < l.length) : Fn Tryd.prog 22 [docP l (endR l l.length) top, .int .i64 m] [.p (.int .i64 (en l m : Nat))] := by
  have k := end_ct l (endR l l.length) top m hm (endR_len l _)
  rw [endR_get h hm] at k; exact k
set_option maxRecDepth 8000 in
set_option maxHeartbeats 8000000 in
theorem parts_law (l : List Nd) (nl : Bool) (hl : l.length ≤ 4000000) (hok : ∀ x ∈ l, okN x) (n : Int) (_ : (Lit.int .i64 n).wf = true) : Fn Tryd.prog 6 [.sl (ndR l) nl, .int .i64 n] [.p (.bool true)] := by
  have k10 := few_ct l nl 30 hl
  cases hF : fewB l 30 with
  | false =>
    rw [hF] at k10
    refine Fn.of_body Tryd.func6 rfl ?_
    repeat (first | ((with_reducible first | refine callK_at 9 ?_ | refine callK_at 10 ?_); refine callK_p ?_; simp (maxSteps := 1000000) (disch := refine hold_ ?_; first | (simp [-List.getD_eq_getElem?_getD]; done) | omega) [-List.getD_eq_getElem?_getD]; (first | ((with_reducible refine k1_at 9 ?_); refine callK1_of (Fn.ct awake_ct Tryd.call9) ?_) | ((with_reducible refine k1_at 10 ?_); refine callK1_of (Fn.ct k10 Tryd.call10) ?_)); (try simp (maxSteps := 1000000) (disch := refine hold_ ?_; first | (simp [-List.getD_eq_getElem?_getD]; done) | omega) [-List.getD_eq_getElem?_getD]); try first | (with_reducible refine zZ ?_) | subst hK_) | ((first | (with_reducible first | refine zP fun K_ hK_ => ?_ | refine zQ fun K_ hK_ => ?_ | refine zT ?_ | refine zU ?_ | refine zV ?_ | refine zW ?_ | refine zX ?_ | refine zY ?_) | ((with_reducible first | refine zR ?_ ?_ fun K_ hK_ => ?_ | refine zS ?_ ?_ fun K_ hK_ => ?_); (focus kernel_rfl); (focus kernel_rfl))); first | (simp (maxSteps := 1000000) (disch := refine hold_ ?_; first | (simp [-List.getD_eq_getElem?_getD]; done) | omega) [-List.getD_eq_getElem?_getD]; try first | (with_reducible refine zZ ?_) | subst hK_) | subst hK_) | (with_reducible first | refine zA ?_ | refine zB ?_ | refine zC ?_ | refine zD ?_ | refine zE ?_ | refine zF ?_ | refine zG ?_ | refine zH ?_ | refine zI ?_ | refine zJ ?_ | refine zK ?_ | refine zL ?_ | refine zM ?_ | refine zN ?_ | refine zO ?_) | ((with_reducible refine yG ?_ ?_); (focus decide)) | ((with_reducible refine yA ?_); refine yB rfl ?_; (with_reducible first | refine yC ?_ | refine yD ?_)))
    all_goals (try simp (maxSteps := 1000000) (disch := refine hold_ ?_; first | (simp [-List.getD_eq_getElem?_getD]; done) | omega) [-List.getD_eq_getElem?_getD])
  | true =>
  rw [hF] at k10
  cases hD : formdB l with
  | false =>
    have k11 := of_bad l nl hl hok hD
    refine Fn.of_body Tryd.func6 rfl ?_
    repeat (first | ((with_reducible first | refine callK_at 9 ?_ | refine callK_at 10 ?_ | refine callK_at 11 ?_); refine callK_p ?_; simp (maxSteps := 1000000) (disch := refine hold_ ?_; first | (simp [-List.getD_eq_getElem?_getD]; done) | omega) [-List.getD_eq_getElem?_getD]; (first | ((with_reducible refine k1_at 9 ?_); refine callK1_of (Fn.ct awake_ct Tryd.call9) ?_) | ((with_reducible refine k1_at 10 ?_); refine callK1_of (Fn.ct k10 Tryd.call10) ?_) | ((with_reducible refine k1_at 11 ?_); refine callK1_of (Fn.ct k11 Tryd.call11) ?_)); (try simp (maxSteps := 1000000) (disch := refine hold_ ?_; first | (simp [-List.getD_eq_getElem?_getD]; done) | omega) [-List.getD_eq_getElem?_getD]); try first | (with_reducible refine zZ ?_) | subst hK_) | ((first | (with_reducible first | refine zP fun K_ hK_ => ?_ | refine zQ fun K_ hK_ => ?_ | refine zT ?_ | refine zU ?_ | refine zV ?_ | refine zW ?_ | refine zX ?_ | refine zY ?_) | ((with_reducible first | refine zR ?_ ?_ fun K_ hK_ => ?_ | refine zS ?_ ?_ fun K_ hK_ => ?_); (focus kernel_rfl); (focus kernel_rfl))); first | (simp (maxSteps := 1000000) (disch := refine hold_ ?_; first | (simp [-List.getD_eq_getElem?_getD]; done) | omega) [-List.getD_eq_getElem?_getD]; try first | (with_reducible refine zZ ?_) | subst hK_) | subst hK_) | (with_reducible first | refine zA ?_ | refine zB ?_ | refine zC ?_ | refine zD ?_ | refine zE ?_ | refine zF ?_ | refine zG ?_ | refine zH ?_ | refine zI ?_ | refine zJ ?_ | refine zK ?_ | refine zL ?_ | refine zM ?_ | refine zN ?_ | refine zO ?_) | ((with_reducible refine yG ?_ ?_); (focus decide)) | ((with_reducible refine yA ?_); refine yB rfl ?_; (with_reducible first | refine yC ?_ | refine yD ?_)))
    all_goals (try simp (maxSteps := 1000000) (disch := refine hold_ ?_; first | (simp [-List.getD_eq_getElem?_getD]; done) | omega) [-List.getD_eq_getElem?_getD])
  | true =>
  cases hW : withB l with
  | false =>
    have k11 := of_lim l nl hl hok hD hW
    refine Fn.of_body Tryd.func6 rfl ?_
    repeat (first | ((with_reducible first | refine callK_at 9 ?_ | refine callK_at 10 ?_ | refine callK_at 11 ?_); refine callK_p ?_; simp (maxSteps := 1000000) (disch := refine hold_ ?_; first | (simp [-List.getD_eq_getElem?_getD]; done) | omega) [-List.getD_eq_getElem?_getD]; (first | ((with_reducible refine k1_at 9 ?_); refine callK1_of (Fn.ct awake_ct Tryd.call9) ?_) | ((with_reducible refine k1_at 10 ?_); refine callK1_of (Fn.ct k10 Tryd.call10) ?_) | ((with_reducible refine k1_at 11 ?_); refine callK1_of (Fn.ct k11 Tryd.call11) ?_)); (try simp (maxSteps := 1000000) (disch := refine hold_ ?_; first | (simp [-List.getD_eq_getElem?_getD]; done) | omega) [-List.getD_eq_getElem?_getD]); try first | (with_reducible refine zZ ?_) | subst hK_) | ((first | (with_reducible first | refine zP fun K_ hK_ => ?_ | refine zQ fun K_ hK_ => ?_ | refine zT ?_ | refine zU ?_ | refine zV ?_ | refine zW ?_ | refine zX ?_ | refine zY ?_) | ((with_reducible first | refine zR ?_ ?_ fun K_ hK_ => ?_ | refine zS ?_ ?_ fun K_ hK_ => ?_); (focus kernel_rfl); (focus kernel_rfl))); first | (simp (maxSteps := 1000000) (disch := refine hold_ ?_; first | (simp [-List.getD_eq_getElem?_getD]; done) | omega) [-List.getD_eq_getElem?_getD]; try first | (with_reducible refine zZ ?_) | subst hK_) | subst hK_) | (with_reducible first | refine zA ?_ | refine zB ?_ | refine zC ?_ | refine zD ?_ | refine zE ?_ | refine zF ?_ | refine zG ?_ | refine zH ?_ | refine zI ?_ | refine zJ ?_ | refine zK ?_ | refine zL ?_ | refine zM ?_ | refine zN ?_ | refine zO ?_) | ((with_reducible refine yG ?_ ?_); (focus decide)) | ((with_reducible refine yA ?_); refine yB rfl ?_; (with_reducible first | refine yC ?_ | refine yD ?_)))
    all_goals (try simp (maxSteps := 1000000) (disch := refine hold_ ?_; first | (simp [-List.getD_eq_getElem?_getD]; done) | omega) [-List.getD_eq_getElem?_getD])
  | true =>
  have k11 := of_ok l nl hl hok hD hW
  have hS := formd_stood l hD
  by_cases h0 : n < 0
  · generalize docP l (endR l l.length) (topN l l.length : Nat) = D at *
    refine Fn.of_body Tryd.func6 rfl ?_
    repeat (first | ((with_reducible first | refine callK_at 9 ?_ | refine callK_at 10 ?_ | refine callK_at 11 ?_); refine callK_p ?_; simp (maxSteps := 1000000) (disch := refine hold_ ?_; first | (simp [h0, -List.getD_eq_getElem?_getD]; done) | omega) [h0, -List.getD_eq_getElem?_getD]; (first | ((with_reducible refine k1_at 9 ?_); refine callK1_of (Fn.ct awake_ct Tryd.call9) ?_) | ((with_reducible refine k1_at 10 ?_); refine callK1_of (Fn.ct k10 Tryd.call10) ?_) | ((with_reducible refine k1_at 11 ?_); refine callK1_of (Fn.ct k11 Tryd.call11) ?_)); (try simp (maxSteps := 1000000) (disch := refine hold_ ?_; first | (simp [h0, -List.getD_eq_getElem?_getD]; done) | omega) [h0, -List.getD_eq_getElem?_getD]); try first | (with_reducible refine zZ ?_) | subst hK_) | ((first | (with_reducible first | refine zP fun K_ hK_ => ?_ | refine zQ fun K_ hK_ => ?_ | refine zT ?_ | refine zU ?_ | refine zV ?_ | refine zW ?_ | refine zX ?_ | refine zY ?_) | ((with_reducible first | refine zR ?_ ?_ fun K_ hK_ => ?_ | refine zS ?_ ?_ fun K_ hK_ => ?_); (focus kernel_rfl); (focus kernel_rfl))); first | (simp (maxSteps := 1000000) (disch := refine hold_ ?_; first | (simp [h0, -List.getD_eq_getElem?_getD]; done) | omega) [h0, -List.getD_eq_getElem?_getD]; try first | (with_reducible refine zZ ?_) | subst hK_) | subst hK_) | (with_reducible first | refine zA ?_ | refine zB ?_ | refine zC ?_ | refine zD ?_ | refine zE ?_ | refine zF ?_ | refine zG ?_ | refine zH ?_ | refine zI ?_ | refine zJ ?_ | refine zK ?_ | refine zL ?_ | refine zM ?_ | refine zN ?_ | refine zO ?_) | ((with_reducible refine yG ?_ ?_); (focus decide)) | ((with_reducible refine yA ?_); refine yB rfl ?_; (with_reducible first | refine yC ?_ | refine yD ?_)))
    all_goals (try simp (maxSteps := 1000000) (disch := refine hold_ ?_; first | (simp [-List.getD_eq_getElem?_getD]; done) | omega) [-List.getD_eq_getElem?_getD])
  by_cases h1 : (l.length : Int) ≤ n
  · generalize docP l (endR l l.length) (topN l l.length : Nat) = D at *
    refine Fn.of_body Tryd.func6 rfl ?_
    repeat (first | ((with_reducible first | refine callK_at 9 ?_ | refine callK_at 10 ?_ | refine callK_at 11 ?_); refine callK_p ?_; simp (maxSteps := 1000000) (disch := refine hold_ ?_; first | (simp [h0, h1, -List.getD_eq_getElem?_getD]; done) | omega) [h0, h1, -List.getD_eq_getElem?_getD]; (first | ((with_reducible refine k1_at 9 ?_); refine callK1_of (Fn.ct awake_ct Tryd.call9) ?_) | ((with_reducible refine k1_at 10 ?_); refine callK1_of (Fn.ct k10 Tryd.call10) ?_) | ((with_reducible refine k1_at 11 ?_); refine callK1_of (Fn.ct k11 Tryd.call11) ?_)); (try simp (maxSteps := 1000000) (disch := refine hold_ ?_; first | (simp [h0, h1, -List.getD_eq_getElem?_getD]; done) | omega) [h0, h1, -List.getD_eq_getElem?_getD]); try first | (with_reducible refine zZ ?_) | subst hK_) | ((first | (with_reducible first | refine zP fun K_ hK_ => ?_ | refine zQ fun K_ hK_ => ?_ | refine zT ?_ | refine zU ?_ | refine zV ?_ | refine zW ?_ | refine zX ?_ | refine zY ?_) | ((with_reducible first | refine zR ?_ ?_ fun K_ hK_ => ?_ | refine zS ?_ ?_ fun K_ hK_ => ?_); (focus kernel_rfl); (focus kernel_rfl))); first | (simp (maxSteps := 1000000) (disch := refine hold_ ?_; first | (simp [h0, h1, -List.getD_eq_getElem?_getD]; done) | omega) [h0, h1, -List.getD_eq_getElem?_getD]; try first | (with_reducible refine zZ ?_) | subst hK_) | subst hK_) | (with_reducible first | refine zA ?_ | refine zB ?_ | refine zC ?_ | refine zD ?_ | refine zE ?_ | refine zF ?_ | refine zG ?_ | refine zH ?_ | refine zI ?_ | refine zJ ?_ | refine zK ?_ | refine zL ?_ | refine zM ?_ | refine zN ?_ | refine zO ?_) | ((with_reducible refine yG ?_ ?_); (focus decide)) | ((with_reducible refine yA ?_); refine yB rfl ?_; (with_reducible first | refine yC ?_ | refine yD ?_)))
    all_goals (try simp (maxSteps := 1000000) (disch := refine hold_ ?_; first | (simp [-List.getD_eq_getElem?_getD]; done) | omega) [-List.getD_eq_getElem?_getD])
  obtain ⟨q, rfl⟩ : ∃ q : Nat, n = q := ⟨n.toNat, by omega⟩
  have hq : q < l.length := by omega
  have k21 := kids_ct hS hl (topN l l.length : Nat) q hq
  have k22 := fun m hm => endE_ct hS (topN l l.length : Nat) m hm
  have k18 := fun m hm => node_ct l (endR l l.length) (topN l l.length : Nat) m hm hok
  have hsp := kids_spec hS hq
  have hKl : (kidsI l q).length = (kidsL l q).length := by simp [kidsI]
  have hKg : ∀ k, k < (kidsL l q).length → (kidsI l q).getD k 0 = (((kidsL l q).getD k 0 : Nat) : Int) := fun k hk => by
    unfold kidsI; simp [List.getD_eq_getElem?_getD, hk]
  have hkl2 : (kidsL l q).length ≤ l.length := by
    have : ∀ f m, (kdF l (en l q) f m).length ≤ f := by
      intro f
      induction f with
      | zero => intro m; simp [kdF]
      | succ f ih => intro m; unfold kdF; split; have := ih (en l m); simp; omega; simp
    exact this _ _
  have w1 := wrap_succ q l.length (by omega) (by omega)
  have henq := en_le l q
  generalize kidsI l q = K at *
  generalize hknl : (K == []) = knl at *
  generalize docP l (endR l l.length) (topN l l.length : Nat) = D at *
  refine Fn.of_body Tryd.func6 rfl ?_
  have k22q := k22 q hq
  repeat (first | ((with_reducible first | refine callK_at 9 ?_ | refine callK_at 10 ?_ | refine callK_at 11 ?_ | refine callK_at 21 ?_); refine callK_p ?_; simp (maxSteps := 1000000) (disch := refine hold_ ?_; first | (simp [h0, h1, w1, -List.getD_eq_getElem?_getD]; done) | omega) [h0, h1, w1, -List.getD_eq_getElem?_getD]; (first | ((with_reducible refine k1_at 9 ?_); refine callK1_of (Fn.ct awake_ct Tryd.call9) ?_) | ((with_reducible refine k1_at 10 ?_); refine callK1_of (Fn.ct k10 Tryd.call10) ?_) | ((with_reducible refine k1_at 11 ?_); refine callK1_of (Fn.ct k11 Tryd.call11) ?_) | ((with_reducible refine k1_at 21 ?_); refine callK1_of (Fn.ct k21 Tryd.call21) ?_)); (try simp (maxSteps := 1000000) (disch := refine hold_ ?_; first | (simp [h0, h1, w1, -List.getD_eq_getElem?_getD]; done) | omega) [h0, h1, w1, -List.getD_eq_getElem?_getD]); try first | (with_reducible refine zZ ?_) | subst hK_) | ((first | (with_reducible first | refine zP fun K_ hK_ => ?_ | refine zQ fun K_ hK_ => ?_ | refine zT ?_ | refine zU ?_ | refine zV ?_ | refine zW ?_ | refine zX ?_ | refine zY ?_) | ((with_reducible first | refine zR ?_ ?_ fun K_ hK_ => ?_ | refine zS ?_ ?_ fun K_ hK_ => ?_); (focus kernel_rfl); (focus kernel_rfl))); first | (simp (maxSteps := 1000000) (disch := refine hold_ ?_; first | (simp [h0, h1, w1, -List.getD_eq_getElem?_getD]; done) | omega) [h0, h1, w1, -List.getD_eq_getElem?_getD]; try first | (with_reducible refine zZ ?_) | subst hK_) | subst hK_) | (with_reducible first | refine zA ?_ | refine zB ?_ | refine zC ?_ | refine zD ?_ | refine zE ?_ | refine zF ?_ | refine zG ?_ | refine zH ?_ | refine zI ?_ | refine zJ ?_ | refine zK ?_ | refine zL ?_ | refine zM ?_ | refine zN ?_ | refine zO ?_) | ((with_reducible refine yG ?_ ?_); (focus decide)) | ((with_reducible refine yA ?_); refine yB rfl ?_; (with_reducible first | refine yC ?_ | refine yD ?_)))
  refine AW.iter (false :: true :: false :: false :: false :: true :: false :: true :: true :: false :: false :: false :: false :: false :: false :: false :: false :: false :: false :: false :: false :: false :: false :: false :: false :: false :: false :: false :: false :: false :: false :: false :: false :: false :: false :: false :: false :: false :: false :: false :: false :: false :: false :: false :: false :: false :: false :: true :: true :: false :: false :: false :: false :: false :: false :: false :: false :: false :: false :: false :: false :: false :: false :: false :: false :: false :: false :: false :: false :: false :: false :: false :: false :: false :: false :: false :: false :: []) (kidsL l q).length (fun k => ⟨(V.junk :: .p (.int .i64 q) :: V.junk :: V.junk :: V.junk :: .p D :: V.junk :: .p (.int .i64 (itE l k (q + 1))) :: .p (.sl (.ints .i64 K) knl) :: V.junk :: V.junk :: V.junk :: V.junk :: V.junk :: V.junk :: V.junk :: V.junk :: V.junk :: V.junk :: V.junk :: V.junk :: V.junk :: V.junk :: V.junk :: V.junk :: V.junk :: V.junk :: V.junk :: V.junk :: V.junk :: V.junk :: V.junk :: V.junk :: V.junk :: V.junk :: V.junk :: V.junk :: V.junk :: V.junk :: V.junk :: V.junk :: V.junk :: V.junk :: V.junk :: V.junk :: V.junk :: V.junk :: .p (.int .i64 K.length) :: .p (.int .i64 k) :: V.junk :: V.junk :: V.junk :: V.junk :: V.junk :: V.junk :: V.junk :: V.junk :: V.junk :: V.junk :: V.junk :: V.junk :: V.junk :: V.junk :: V.junk :: V.junk :: V.junk :: V.junk :: V.junk :: V.junk :: V.junk :: V.junk :: V.junk :: V.junk :: V.junk :: V.junk :: V.junk :: V.junk :: []), ⟨[], []⟩⟩) ?_ ?_
  · (unfold itE; simp (maxSteps := 1000000) (disch := refine hold_ ?_; first | (simp [-List.getD_eq_getElem?_getD]; done) | omega) [-List.getD_eq_getElem?_getD])
  clear k11 k10 k21 w1
  intro k hk
  have e0 := wrap_succ k l.length (by omega) (by omega)
  by_cases hkm : k < (kidsL l q).length
  · have hkK : k < K.length := by omega
    have hkz : (k : Int) < K.length := by omega
    obtain ⟨s1, s2, s3, s4⟩ := hsp.1 k hkm
    have hg := hKg k hkm
    rw [s1] at hg
    have hs4 := itE_succ l k (q + 1)
    generalize itE l (k + 1) (q + 1) = m2 at *
    generalize itE l k (q + 1) = m at *
    subst hs4
    have hml : m < l.length := by omega
    have hm0 : 0 < m := by omega
    have hpa := (pn_eq hS hm0 hml).1
    rw [s3] at hpa
    have k18m := k18 m hml
    have k22m := k22 m hml
    have hNd : ndP (nd l m) = .agg (.vals 1 [.int .i64 (nd l m).k, .int .i64 q, .str (txt (nd l m).p), .str (txt (nd l m).l), .str (txt (nd l m).u), .str (txt (nd l m).t), .sl (dcR (nd l m).ds) (nd l m).dn, .sl (atR (nd l m).ms) (nd l m).mn]) := by rw [← hpa]; rfl
    rw [hNd] at k18m
    clear hsp hKg k18 k22 hNd hpa
    generalize nd l m = x at *
    repeat (first | ((with_reducible first | refine callK_at 18 ?_ | refine callK_at 22 ?_); refine callK_p ?_; simp (maxSteps := 1000000) (disch := refine hold_ ?_; first | (simp [hkK, hkz, hg, e0, -List.getD_eq_getElem?_getD]; done) | omega) [hkK, hkz, hg, e0, -List.getD_eq_getElem?_getD]; (first | ((with_reducible refine k1_at 18 ?_); refine callK1_of (Fn.ct k18m Tryd.call18) ?_) | ((with_reducible refine k1_at 22 ?_); refine callK1_of (Fn.ct k22m Tryd.call22) ?_)); (try simp (maxSteps := 1000000) (disch := refine hold_ ?_; first | (simp [hkK, hkz, hg, e0, -List.getD_eq_getElem?_getD]; done) | omega) [hkK, hkz, hg, e0, -List.getD_eq_getElem?_getD]); try first | (with_reducible refine zZ ?_) | subst hK_) | ((first | (with_reducible first | refine zP fun K_ hK_ => ?_ | refine zQ fun K_ hK_ => ?_ | refine zT ?_ | refine zU ?_ | refine zV ?_ | refine zW ?_ | refine zX ?_ | refine zY ?_) | ((with_reducible first | refine zR ?_ ?_ fun K_ hK_ => ?_ | refine zS ?_ ?_ fun K_ hK_ => ?_); (focus kernel_rfl); (focus kernel_rfl))); first | (simp (maxSteps := 1000000) (disch := refine hold_ ?_; first | (simp [hkK, hkz, hg, e0, -List.getD_eq_getElem?_getD]; done) | omega) [hkK, hkz, hg, e0, -List.getD_eq_getElem?_getD]; try first | (with_reducible refine zZ ?_) | subst hK_) | subst hK_) | (with_reducible first | refine zA ?_ | refine zB ?_ | refine zC ?_ | refine zD ?_ | refine zE ?_ | refine zF ?_ | refine zG ?_ | refine zH ?_ | refine zI ?_ | refine zJ ?_ | refine zK ?_ | refine zL ?_ | refine zM ?_ | refine zN ?_ | refine zO ?_) | ((with_reducible refine yG ?_ ?_); (focus decide)) | ((with_reducible refine yA ?_); refine yB rfl ?_; (with_reducible first | refine yC ?_ | refine yD ?_)))
    refine ⟨hkm, ?_⟩
    simp (maxSteps := 1000000) (disch := refine hold_ ?_; first | (simp [-List.getD_eq_getElem?_getD]; done) | omega) [-List.getD_eq_getElem?_getD]
  · have hkz : ¬ (k : Int) < K.length := by omega
    have hkl : k = (kidsL l q).length := by omega
    have hfin : itE l k (q + 1) = en l q := by rw [hkl]; exact hsp.2
    rw [hfin]
    repeat (first | ((with_reducible first | refine callK_at 22 ?_); refine callK_p ?_; simp (maxSteps := 1000000) (disch := refine hold_ ?_; first | (simp [hkz, -List.getD_eq_getElem?_getD]; done) | omega) [hkz, -List.getD_eq_getElem?_getD]; (first | refine callK1_of (Fn.ct k22q Tryd.call22) ?_); (try simp (maxSteps := 1000000) (disch := refine hold_ ?_; first | (simp [hkz, -List.getD_eq_getElem?_getD]; done) | omega) [hkz, -List.getD_eq_getElem?_getD]); try first | (with_reducible refine zZ ?_) | subst hK_) | ((first | (with_reducible first | refine zP fun K_ hK_ => ?_ | refine zQ fun K_ hK_ => ?_ | refine zT ?_ | refine zU ?_ | refine zV ?_ | refine zW ?_ | refine zX ?_ | refine zY ?_) | ((with_reducible first | refine zR ?_ ?_ fun K_ hK_ => ?_ | refine zS ?_ ?_ fun K_ hK_ => ?_); (focus kernel_rfl); (focus kernel_rfl))); first | (simp (maxSteps := 1000000) (disch := refine hold_ ?_; first | (simp [hkz, -List.getD_eq_getElem?_getD]; done) | omega) [hkz, -List.getD_eq_getElem?_getD]; try first | (with_reducible refine zZ ?_) | subst hK_) | subst hK_) | (with_reducible first | refine zA ?_ | refine zB ?_ | refine zC ?_ | refine zD ?_ | refine zE ?_ | refine zF ?_ | refine zG ?_ | refine zH ?_ | refine zI ?_ | refine zJ ?_ | refine zK ?_ | refine zL ?_ | refine zM ?_ | refine zN ?_ | refine zO ?_) | ((with_reducible refine yG ?_ ?_); (focus decide)) | ((with_reducible refine yA ?_); refine yB rfl ?_; (with_reducible first | refine yC ?_ | refine yD ?_)))
    all_goals (try simp (maxSteps := 1000000) (disch := refine hold_ ?_; first | (simp [-List.getD_eq_getElem?_getD]; done) | omega) [-List.getD_eq_getElem?_getD])
end Go.Av.Doc
end
section
set_option linter.unusedSimpArgs false
set_option linter.unusedVariables false
set_option linter.unusedSectionVars false
open Go Go.Av Go.Proofs
namespace Go.Av.Doc
variable [ML]
theorem rend_ct (l : List Nd) (nl : Bool) (hl : l.length ≤ 4000000) (hp : pOk l l.length) (n : Nat) (hn : n < l.length) : Fn Tryd.prog 14 [.sl (ndR l) nl, .int .i64 n] [.p (.int .i64 (en l n : Nat))] := by
  have hnz : (n : Int) < l.length := by omega
  have hn0 : (0 : Int) ≤ n := by omega
  unfold en
  refine Fn.of_body Tryd.func14 rfl ?_
  repeat (first | ((first | (with_reducible first | refine zP fun K_ hK_ => ?_ | refine zQ fun K_ hK_ => ?_ | refine zT ?_ | refine zU ?_ | refine zV ?_ | refine zW ?_ | refine zX ?_ | refine zY ?_) | ((with_reducible first | refine zR ?_ ?_ fun K_ hK_ => ?_ | refine zS ?_ ?_ fun K_ hK_ => ?_); (focus kernel_rfl); (focus kernel_rfl))); first | (simp (maxSteps := 1000000) (disch := refine hold_ ?_; first | (simp [-List.getD_eq_getElem?_getD]; done) | omega) [-List.getD_eq_getElem?_getD]; try first | (with_reducible refine zZ ?_) | subst hK_) | subst hK_) | (with_reducible first | refine zA ?_ | refine zB ?_ | refine zC ?_ | refine zD ?_ | refine zE ?_ | refine zF ?_ | refine zG ?_ | refine zH ?_ | refine zI ?_ | refine zJ ?_ | refine zK ?_ | refine zL ?_ | refine zM ?_ | refine zN ?_ | refine zO ?_) | ((with_reducible refine yG ?_ ?_); (focus decide)) | ((with_reducible refine yA ?_); refine yB rfl ?_; (with_reducible first | refine yC ?_ | refine yD ?_)))
  refine AW.iter (true :: true :: false :: false :: false :: true :: false :: false :: true :: true :: false :: false :: false :: false :: false :: false :: false :: false :: false :: false :: false :: false :: false :: false :: false :: false :: false :: false :: false :: false :: []) l.length (fun k => ⟨(.p (.sl (ndR l) nl) :: .p (.int .i64 n) :: V.junk :: V.junk :: V.junk :: .p (.int .i64 (enF l n k : Nat)) :: V.junk :: V.junk :: .p (.int .i64 l.length) :: .p (.int .i64 k) :: V.junk :: V.junk :: V.junk :: V.junk :: V.junk :: V.junk :: V.junk :: V.junk :: V.junk :: V.junk :: V.junk :: V.junk :: V.junk :: V.junk :: V.junk :: V.junk :: V.junk :: V.junk :: V.junk :: V.junk :: []), ⟨[], []⟩⟩) ?_ ?_
  · (unfold enF; simp (maxSteps := 1000000) (disch := refine hold_ ?_; first | (simp [-List.getD_eq_getElem?_getD]; done) | omega) [-List.getD_eq_getElem?_getD])
  intro k hk
  have e0 := wrap_succ k l.length hk (by omega)
  by_cases hkm : k < l.length
  · have hkz : (k : Int) < l.length := by omega
    have k34 := above_ct l nl n k l.length hp (Nat.le_refl _) (by omega) (by omega)
    have hE : enF l n (k + 1) = if ab l n k = true then k + 1 else enF l n k := rfl
    generalize enF l n (k + 1) = E1 at *
    generalize enF l n k = E0 at *
    generalize ab l n k = A at *
    subst hE
    cases A
    all_goals
      repeat (first | ((with_reducible first | refine callK_at 34 ?_); refine callK_p ?_; simp (maxSteps := 1000000) (disch := refine hold_ ?_; first | (simp [hkm, hkz, hnz, hn, hn0, e0, -List.getD_eq_getElem?_getD]; done) | omega) [hkm, hkz, hnz, hn, hn0, e0, -List.getD_eq_getElem?_getD]; (first | refine callK1_of (Fn.ct k34 Tryd.call34) ?_); (try simp (maxSteps := 1000000) (disch := refine hold_ ?_; first | (simp [hkm, hkz, hnz, hn, hn0, e0, -List.getD_eq_getElem?_getD]; done) | omega) [hkm, hkz, hnz, hn, hn0, e0, -List.getD_eq_getElem?_getD]); try first | (with_reducible refine zZ ?_) | subst hK_) | ((first | (with_reducible first | refine zP fun K_ hK_ => ?_ | refine zQ fun K_ hK_ => ?_ | refine zT ?_ | refine zU ?_ | refine zV ?_ | refine zW ?_ | refine zX ?_ | refine zY ?_) | ((with_reducible first | refine zR ?_ ?_ fun K_ hK_ => ?_ | refine zS ?_ ?_ fun K_ hK_ => ?_); (focus kernel_rfl); (focus kernel_rfl))); first | (simp (maxSteps := 1000000) (disch := refine hold_ ?_; first | (simp [hkm, hkz, hnz, hn, hn0, e0, -List.getD_eq_getElem?_getD]; done) | omega) [hkm, hkz, hnz, hn, hn0, e0, -List.getD_eq_getElem?_getD]; try first | (with_reducible refine zZ ?_) | subst hK_) | subst hK_) | (with_reducible first | refine zA ?_ | refine zB ?_ | refine zC ?_ | refine zD ?_ | refine zE ?_ | refine zF ?_ | refine zG ?_ | refine zH ?_ | refine zI ?_ | refine zJ ?_ | refine zK ?_ | refine zL ?_ | refine zM ?_ | refine zN ?_ | refine zO ?_) | ((with_reducible refine yG ?_ ?_); (focus decide)) | ((with_reducible refine yA ?_); refine yB rfl ?_; (with_reducible first | refine yC ?_ | refine yD ?_)))
      refine ⟨hkm, ?_⟩
      simp (maxSteps := 1000000) (disch := refine hold_ ?_; first | (simp [-List.getD_eq_getElem?_getD]; done) | omega) [-List.getD_eq_getElem?_getD]
  · have hkz : ¬ (k : Int) < l.length := by omega
    obtain rfl : k = l.length := by omega
    generalize enF l n l.length = E0 at *
    repeat (first | ((first | (with_reducible first | refine zP fun K_ hK_ => ?_ | refine zQ fun K_ hK_ => ?_ | refine zT ?_ | refine zU ?_ | refine zV ?_ | refine zW ?_ | refine zX ?_ | refine zY ?_) | ((with_reducible first | refine zR ?_ ?_ fun K_ hK_ => ?_ | refine zS ?_ ?_ fun K_ hK_ => ?_); (focus kernel_rfl); (focus kernel_rfl))); first | (simp (maxSteps := 1000000) (disch := refine hold_ ?_; first | (simp [hkz, -List.getD_eq_getElem?_getD]; done) | omega) [hkz, -List.getD_eq_getElem?_getD]; try first | (with_reducible refine zZ ?_) | subst hK_) | subst hK_) | (with_reducible first | refine zA ?_ | refine zB ?_ | refine zC ?_ | refine zD ?_ | refine zE ?_ | refine zF ?_ | refine zG ?_ | refine zH ?_ | refine zI ?_ | refine zJ ?_ | refine zK ?_ | refine zL ?_ | refine zM ?_ | refine zN ?_ | refine zO ?_) | ((with_reducible refine yG ?_ ?_); (focus decide)) | ((with_reducible refine yA ?_); refine yB rfl ?_; (with_reducible first | refine yC ?_ | refine yD ?_)))
    all_goals (try simp (maxSteps := 1000000) (disch := refine hold_ ?_; first | (simp [-List.getD_eq_getElem?_getD]; done) | omega) [-List.getD_eq_getElem?_getD])
def rk (l : List Nd) (n : Nat) : Nat → List Nat
  | 0 => []
  | k + 1 => if 0 < k ∧ (nd l k).a = n then rk l n k ++ [k] else rk l n k
theorem rk_len (l : List Nd) (n : Nat) : ∀ k, (rk l n k).length ≤ k
  | 0 => Nat.le_refl _
  | k + 1 => by
    have := rk_len l n k
    unfold rk; split
    · simp; omega
    · omega
theorem rk_skip (l : List Nd) (n : Nat) : ∀ d a, (∀ j, a ≤ j → j < a + d → ¬ (0 < j ∧ (nd l j).a = n)) → rk l n (a + d) = rk l n a
  | 0, a, _ => rfl
  | d + 1, a, h => by
    rw [← Nat.add_assoc, rk, if_neg (h (a + d) (by omega) (by omega))]
    exact rk_skip l n d a fun j h1 h2 => h j h1 (by omega)
theorem rk_kd {l : List Nd} (h : Stood l) {n : Nat} (hn : n < l.length) : ∀ f m, en l n - m ≤ f → n < m → m ≤ en l n → (m < en l n → pn l m = n) → rk l n l.length = rk l n m ++ kdF l (en l n) f m := by
  have tail : rk l n l.length = rk l n (en l n) := by
    have hle := en_le l n
    have := rk_skip l n (l.length - en l n) (en l n) fun j h1 h2 ⟨h3, h4⟩ => by
      have hj : j < l.length := by omega
      have hp := (pn_eq h h3 hj).1
      have : pn l j = n := by omega
      have := (en_child h h3 hj).2
      rw [‹pn l j = n›] at this; omega
    rw [show en l n + (l.length - en l n) = l.length by omega] at this
    exact this
  intro f
  induction f with
  | zero =>
    intro m h1 h2 h3 h4
    obtain rfl : m = en l n := by omega
    simp [kdF, tail]
  | succ f ih =>
    intro m h1 h2 h3 h4
    unfold kdF
    by_cases e : m < en l n
    · rw [if_pos e]
      have hl := en_le l n
      have hm : m < l.length := by omega
      have hp := h4 e
      have hpa := (pn_eq h (show 0 < m by omega) hm).1
      have c1 := en_child h (show 0 < m by omega) hm
      rw [hp] at c1 hpa
      have c2 := en_gt hm
      have hstep : rk l n (m + 1) = rk l n m ++ [m] := by rw [rk, if_pos ⟨by omega, hpa⟩]
      have hskip := rk_skip l n (en l m - (m + 1)) (m + 1) fun j h5 h6 ⟨h7, h8⟩ => by
        have hj : j < l.length := by have := en_le l m; omega
        have hmj : up l m j := (en_iff h hm hj).2 ⟨by omega, by omega⟩
        rcases (up_step h h7 hj).1 hmj with e1 | e1
        · omega
        · have h9 := (pn_eq h h7 hj)
          have := up_le h (pn l j) m (by omega) e1
          omega
      rw [show m + 1 + (en l m - (m + 1)) = en l m by omega, hstep] at hskip
      rw [ih (en l m) (by omega) (by omega) c1.1 fun hlt => (en_next h (by omega) hm hp hlt).1, hskip]
      simp
    · rw [if_neg e]
      obtain rfl : m = en l n := by omega
      simp [tail]
theorem rk_kids {l : List Nd} (h : Stood l) {n : Nat} (hn : n < l.length) : rk l n l.length = kidsL l n := by
  have h1 := en_gt hn
  have h2 := en_le l n
  rw [rk_kd h hn l.length (n + 1) (by omega) (by omega) (by omega) fun hlt => (en_first h hn hlt).1]
  have h3 : rk l n (n + 1) = [] := by
    have := rk_skip l n (n + 1) 0 fun j h5 h6 ⟨h7, h8⟩ => by
      have := (pn_eq h h7 (show j < l.length by omega))
      omega
    rw [Nat.zero_add] at this
    exact this
  rw [h3]; rfl
set_option maxHeartbeats 4000000 in
theorem rkids_ct {l : List Nd} (h : Stood l) (nl : Bool) (hl : l.length ≤ 4000000) (n : Nat) (hn : n < l.length) :
    Fn Tryd.prog 26 [.sl (ndR l) nl, .int .i64 n] [.p (.sl (.ints .i64 (kidsI l n)) (kidsI l n == []))] 1 := by
  refine FnG.rowRes (t := 0) (v := 0) ?_
  have hK : kidsI l n = (rk l n l.length).map fun k : Nat => (k : Int) := by rw [rk_kids h hn]; rfl
  rw [hK]
  have hrl := rk_len l n
  refine Fn.of_body Tryd.func26 rfl ?_
  repeat (first | ((first | (with_reducible first | refine zP fun K_ hK_ => ?_ | refine zQ fun K_ hK_ => ?_ | refine zT ?_ | refine zU ?_ | refine zV ?_ | refine zW ?_ | refine zX ?_ | refine zY ?_) | ((with_reducible first | refine zR ?_ ?_ fun K_ hK_ => ?_ | refine zS ?_ ?_ fun K_ hK_ => ?_); (focus kernel_rfl); (focus kernel_rfl))); first | (simp (maxSteps := 1000000) (disch := refine hold_ ?_; first | (simp [-List.getD_eq_getElem?_getD]; done) | omega) [-List.getD_eq_getElem?_getD]; try first | (with_reducible refine zZ ?_) | subst hK_) | subst hK_) | (with_reducible first | refine zA ?_ | refine zB ?_ | refine zC ?_ | refine zD ?_ | refine zE ?_ | refine zF ?_ | refine zG ?_ | refine zH ?_ | refine zI ?_ | refine zJ ?_ | refine zK ?_ | refine zL ?_ | refine zM ?_ | refine zN ?_ | refine zO ?_) | ((with_reducible refine yG ?_ ?_); (focus decide)) | ((with_reducible refine yA ?_); refine yB rfl ?_; (with_reducible first | refine yC ?_ | refine yD ?_)))
  refine AW.nilRow 5 (.ints .i64 []) 5 _ rfl rfl ?_
  refine AW.iter (true :: true :: false :: false :: false :: true :: false :: false :: true :: true :: false :: false :: false :: false :: false :: false :: false :: false :: false :: false :: false :: false :: false :: false :: false :: false :: false :: false :: false :: []) l.length (fun k => ⟨(.p (.sl (ndR l) nl) :: .p (.int .i64 n) :: V.junk :: V.junk :: V.junk :: .row (.ints .i64 ((rk l n k).map fun k : Nat => (k : Int))) 0 0 ((rk l n k).map (fun k : Nat => (k : Int)) == []) :: V.junk :: V.junk :: .p (.int .i64 l.length) :: .p (.int .i64 k) :: V.junk :: V.junk :: V.junk :: V.junk :: V.junk :: V.junk :: V.junk :: V.junk :: V.junk :: V.junk :: V.junk :: V.junk :: V.junk :: V.junk :: V.junk :: V.junk :: V.junk :: V.junk :: V.junk :: []), ⟨[], [(0, 0)]⟩⟩) ?_ ?_
  · (unfold rk; simp (maxSteps := 1000000) (disch := refine hold_ ?_; first | (simp [-List.getD_eq_getElem?_getD]; done) | omega) [-List.getD_eq_getElem?_getD])
  intro k hk
  have e0 := wrap_succ k l.length hk (by omega)
  by_cases hkm : k < l.length
  · have hkz : (k : Int) < l.length := by omega
    have he := nd_elem l k hkm
    unfold ndP at he
    have hR : rk l n (k + 1) = if 0 < k ∧ (nd l k).a = n then rk l n k ++ [k] else rk l n k := rfl
    have hol := hrl k
    by_cases h0 : 0 < k
    · have h0z : (0 : Int) < k := by omega
      cases hB : ((nd l k).a == (n : Int)) with
      | true =>
        rw [if_pos ⟨h0, by simpa using hB⟩] at hR
        rw [hR, List.map_append]
        have ha := app_ints ((rk l n k).map fun k : Nat => (k : Int)) k
        have hne : (((rk l n k).map fun k : Nat => (k : Int)) ++ ([k].map fun k : Nat => (k : Int)) == []) = false := by cases (rk l n k).map (fun k : Nat => (k : Int)) <;> rfl
        rw [hne]
        have hlo : (((rk l n k).map fun k : Nat => (k : Int)) ++ ([k].map fun k : Nat => (k : Int))).length * 8 ≤ 140737488355328 := by simp; omega
        change ((((rk l n k).map fun k : Nat => (k : Int)) ++ [(k : Int)]).length * 8 ≤ 140737488355328) at hlo
        generalize (rk l n k).map (fun k : Nat => (k : Int)) = o at *
        have hmk : ([k].map fun k : Nat => (k : Int)) = [(k : Int)] := rfl
        rw [hmk]
        generalize (o == []) = ob at *
        generalize o ++ [(k : Int)] = o2 at *
        generalize nd l k = x at *
        repeat (first | ((first | (with_reducible first | refine zP fun K_ hK_ => ?_ | refine zQ fun K_ hK_ => ?_ | refine zT ?_ | refine zU ?_ | refine zV ?_ | refine zW ?_ | refine zX ?_ | refine zY ?_) | ((with_reducible first | refine zR ?_ ?_ fun K_ hK_ => ?_ | refine zS ?_ ?_ fun K_ hK_ => ?_); (focus kernel_rfl); (focus kernel_rfl))); first | (simp (maxSteps := 1000000) (disch := refine hold_ ?_; first | (simp [hkm, hkz, he, h0, h0z, hB, ha, hlo, e0, -List.getD_eq_getElem?_getD]; done) | omega) [hkm, hkz, he, h0, h0z, hB, ha, hlo, e0, -List.getD_eq_getElem?_getD]; try first | (with_reducible refine zZ ?_) | subst hK_) | subst hK_) | (with_reducible first | refine zA ?_ | refine zB ?_ | refine zC ?_ | refine zD ?_ | refine zE ?_ | refine zF ?_ | refine zG ?_ | refine zH ?_ | refine zI ?_ | refine zJ ?_ | refine zK ?_ | refine zL ?_ | refine zM ?_ | refine zN ?_ | refine zO ?_) | ((with_reducible refine yG ?_ ?_); (focus decide)) | ((with_reducible refine yA ?_); refine yB rfl ?_; (with_reducible first | refine yC ?_ | refine yD ?_)))
        refine ⟨hkm, ?_⟩
        simp (maxSteps := 1000000) (disch := refine hold_ ?_; first | (simp [-List.getD_eq_getElem?_getD]; done) | omega) [-List.getD_eq_getElem?_getD]
      | false =>
        rw [if_neg (fun h => by simp [h.2] at hB)] at hR
        rw [hR]
        generalize (rk l n k).map (fun k : Nat => (k : Int)) = o at *
        generalize (o == []) = ob at *
        generalize nd l k = x at *
        repeat (first | ((first | (with_reducible first | refine zP fun K_ hK_ => ?_ | refine zQ fun K_ hK_ => ?_ | refine zT ?_ | refine zU ?_ | refine zV ?_ | refine zW ?_ | refine zX ?_ | refine zY ?_) | ((with_reducible first | refine zR ?_ ?_ fun K_ hK_ => ?_ | refine zS ?_ ?_ fun K_ hK_ => ?_); (focus kernel_rfl); (focus kernel_rfl))); first | (simp (maxSteps := 1000000) (disch := refine hold_ ?_; first | (simp [hkm, hkz, he, h0, h0z, hB, e0, -List.getD_eq_getElem?_getD]; done) | omega) [hkm, hkz, he, h0, h0z, hB, e0, -List.getD_eq_getElem?_getD]; try first | (with_reducible refine zZ ?_) | subst hK_) | subst hK_) | (with_reducible first | refine zA ?_ | refine zB ?_ | refine zC ?_ | refine zD ?_ | refine zE ?_ | refine zF ?_ | refine zG ?_ | refine zH ?_ | refine zI ?_ | refine zJ ?_ | refine zK ?_ | refine zL ?_ | refine zM ?_ | refine zN ?_ | refine zO ?_) | ((with_reducible refine yG ?_ ?_); (focus decide)) | ((with_reducible refine yA ?_); refine yB rfl ?_; (with_reducible first | refine yC ?_ | refine yD ?_)))
        refine ⟨hkm, ?_⟩
        simp (maxSteps := 1000000) (disch := refine hold_ ?_; first | (simp [-List.getD_eq_getElem?_getD]; done) | omega) [-List.getD_eq_getElem?_getD]
    · obtain rfl : k = 0 := by omega
      have hR0 : rk l n (0 + 1) = [] := rfl
      have hR00 : rk l n 0 = [] := rfl
      rw [hR0, hR00]
      generalize nd l 0 = x at *
      repeat (first | ((first | (with_reducible first | refine zP fun K_ hK_ => ?_ | refine zQ fun K_ hK_ => ?_ | refine zT ?_ | refine zU ?_ | refine zV ?_ | refine zW ?_ | refine zX ?_ | refine zY ?_) | ((with_reducible first | refine zR ?_ ?_ fun K_ hK_ => ?_ | refine zS ?_ ?_ fun K_ hK_ => ?_); (focus kernel_rfl); (focus kernel_rfl))); first | (simp (maxSteps := 1000000) (disch := refine hold_ ?_; first | (simp [hkm, hkz, e0, -List.getD_eq_getElem?_getD]; done) | omega) [hkm, hkz, e0, -List.getD_eq_getElem?_getD]; try first | (with_reducible refine zZ ?_) | subst hK_) | subst hK_) | (with_reducible first | refine zA ?_ | refine zB ?_ | refine zC ?_ | refine zD ?_ | refine zE ?_ | refine zF ?_ | refine zG ?_ | refine zH ?_ | refine zI ?_ | refine zJ ?_ | refine zK ?_ | refine zL ?_ | refine zM ?_ | refine zN ?_ | refine zO ?_) | ((with_reducible refine yG ?_ ?_); (focus decide)) | ((with_reducible refine yA ?_); refine yB rfl ?_; (with_reducible first | refine yC ?_ | refine yD ?_)))
      refine ⟨hkm, ?_⟩
      simp (maxSteps := 1000000) (disch := refine hold_ ?_; first | (simp [-List.getD_eq_getElem?_getD]; done) | omega) [-List.getD_eq_getElem?_getD]
      try rfl
  · have hkz : ¬ (k : Int) < l.length := by omega
    obtain rfl : k = l.length := by omega
    generalize (rk l n l.length).map (fun k : Nat => (k : Int)) = o at *
    repeat (first | ((first | (with_reducible first | refine zP fun K_ hK_ => ?_ | refine zQ fun K_ hK_ => ?_ | refine zT ?_ | refine zU ?_ | refine zV ?_ | refine zW ?_ | refine zX ?_ | refine zY ?_) | ((with_reducible first | refine zR ?_ ?_ fun K_ hK_ => ?_ | refine zS ?_ ?_ fun K_ hK_ => ?_); (focus kernel_rfl); (focus kernel_rfl))); first | (simp (maxSteps := 1000000) (disch := refine hold_ ?_; first | (simp [hkz, -List.getD_eq_getElem?_getD]; done) | omega) [hkz, -List.getD_eq_getElem?_getD]; try first | (with_reducible refine zZ ?_) | subst hK_) | subst hK_) | (with_reducible first | refine zA ?_ | refine zB ?_ | refine zC ?_ | refine zD ?_ | refine zE ?_ | refine zF ?_ | refine zG ?_ | refine zH ?_ | refine zI ?_ | refine zJ ?_ | refine zK ?_ | refine zL ?_ | refine zM ?_ | refine zN ?_ | refine zO ?_) | ((with_reducible refine yG ?_ ?_); (focus decide)) | ((with_reducible refine yA ?_); refine yB rfl ?_; (with_reducible first | refine yC ?_ | refine yD ?_)))
    all_goals (try simp (maxSteps := 1000000) (disch := refine hold_ ?_; first | (simp [-List.getD_eq_getElem?_getD]; done) | omega) [-List.getD_eq_getElem?_getD])
def upF (l : List Nd) : Nat → Int → List Int
  | 0, _ => []
  | f + 1, p => if p < 0 then [] else p :: upF l f (nd l p.toNat).a
def upsI (l : List Nd) (n : Nat) : List Int := upF l (n + 1) (nd l n).a
set_option maxHeartbeats 4000000 in
theorem up_ct {l : List Nd} (hp : pOk l l.length) (E : List Int) (top : Int) (hl : l.length ≤ 4000000) (n : Nat) (hn : n < l.length) :
    Fn Tryd.prog 27 [docP l E top, .int .i64 n] [.p (.sl (.ints .i64 (upsI l n)) (upsI l n == []))] 1 := by
  refine FnG.rowRes (t := 0) (v := 0) ?_
  have hnz : (n : Int) < l.length := by omega
  have hn0 : ¬ (n : Int) < 0 := by omega
  have hnl : ¬ (l.length : Int) ≤ n := by omega
  have hpar := hp.lt hn
  have hK : upsI l n = [] ++ upF l (n + 1) (nd l n).a := rfl
  have k := has_ct l E top n
  have hb : hasB l n = true := by unfold hasB; simp [hn]
  rw [hb] at k
  have he := nd_elem l n hn
  generalize hP : (nd l n).a = P at *
  have hNd : ndP (nd l n) = .agg (.vals 1 [.int .i64 (nd l n).k, .int .i64 P, .str (txt (nd l n).p), .str (txt (nd l n).l), .str (txt (nd l n).u), .str (txt (nd l n).t), .sl (dcR (nd l n).ds) (nd l n).dn, .sl (atR (nd l n).ms) (nd l n).mn]) := by rw [← hP]; rfl
  rw [hNd] at he
  clear hNd hP
  generalize upsI l n = R at *
  refine Fn.of_body Tryd.func27 rfl ?_
  unfold docP at *
  repeat (first | ((with_reducible first | refine callK_at 36 ?_); refine callK_p ?_; simp (maxSteps := 1000000) (disch := refine hold_ ?_; first | (simp [hn, hnz, he, -List.getD_eq_getElem?_getD]; done) | omega) [hn, hnz, he, -List.getD_eq_getElem?_getD]; (first | refine callK1_of (Fn.ct k Tryd.call36) ?_); (try simp (maxSteps := 1000000) (disch := refine hold_ ?_; first | (simp [hn, hnz, he, -List.getD_eq_getElem?_getD]; done) | omega) [hn, hnz, he, -List.getD_eq_getElem?_getD]); try first | (with_reducible refine zZ ?_) | subst hK_) | ((first | (with_reducible first | refine zP fun K_ hK_ => ?_ | refine zQ fun K_ hK_ => ?_ | refine zT ?_ | refine zU ?_ | refine zV ?_ | refine zW ?_ | refine zX ?_ | refine zY ?_) | ((with_reducible first | refine zR ?_ ?_ fun K_ hK_ => ?_ | refine zS ?_ ?_ fun K_ hK_ => ?_); (focus kernel_rfl); (focus kernel_rfl))); first | (simp (maxSteps := 1000000) (disch := refine hold_ ?_; first | (simp [hn, hnz, he, -List.getD_eq_getElem?_getD]; done) | omega) [hn, hnz, he, -List.getD_eq_getElem?_getD]; try first | (with_reducible refine zZ ?_) | subst hK_) | subst hK_) | (with_reducible first | refine zA ?_ | refine zB ?_ | refine zC ?_ | refine zD ?_ | refine zE ?_ | refine zF ?_ | refine zG ?_ | refine zH ?_ | refine zI ?_ | refine zJ ?_ | refine zK ?_ | refine zL ?_ | refine zM ?_ | refine zN ?_ | refine zO ?_) | ((with_reducible refine yG ?_ ?_); (focus decide)) | ((with_reducible refine yA ?_); refine yB rfl ?_; (with_reducible first | refine yC ?_ | refine yD ?_)))
  refine AW.nilRow 5 (.ints .i64 []) 5 _ rfl rfl ?_
  refine AW.iterI (τ := ⟨(.p (.eptr (.vals 3 [.agg (.vals 1 [.sl (ndR l) false, .sl (.ints .i64 E) false, .int .i64 top])]) 0 0) :: V.junk :: V.junk :: V.junk :: V.junk :: .row (.ints .i64 []) 0 0 true :: .p (.int .i64 P) :: V.junk :: V.junk :: V.junk :: V.junk :: V.junk :: V.junk :: V.junk :: V.junk :: V.junk :: V.junk :: V.junk :: V.junk :: V.junk :: V.junk :: V.junk :: V.junk :: V.junk :: V.junk :: V.junk :: V.junk :: V.junk :: V.junk :: V.junk :: V.junk :: V.junk :: V.junk :: V.junk :: []), ⟨[], [(0, 0)]⟩⟩) (true :: false :: false :: false :: false :: true :: true :: false :: false :: false :: false :: false :: false :: false :: false :: false :: false :: false :: false :: false :: false :: false :: false :: false :: false :: false :: false :: false :: false :: false :: false :: false :: false :: false :: []) (n + 1)
    (fun f σ => ∃ (o : List Int) (p : Int), -1 ≤ p ∧ p < n ∧ p < f ∧ o.length + p ≤ n ∧ R = o ++ upF l f p ∧ σ = ⟨(.p (.eptr (.vals 3 [.agg (.vals 1 [.sl (ndR l) false, .sl (.ints .i64 E) false, .int .i64 top])]) 0 0) :: V.junk :: V.junk :: V.junk :: V.junk :: .row (.ints .i64 o) 0 0 (o == []) :: .p (.int .i64 p) :: V.junk :: V.junk :: V.junk :: V.junk :: V.junk :: V.junk :: V.junk :: V.junk :: V.junk :: V.junk :: V.junk :: V.junk :: V.junk :: V.junk :: V.junk :: V.junk :: V.junk :: V.junk :: V.junk :: V.junk :: V.junk :: V.junk :: V.junk :: V.junk :: V.junk :: V.junk :: V.junk :: []), ⟨[], [(0, 0)]⟩⟩) ?_ ⟨[], P, by omega, by omega, by omega, by simp; omega, hK, rfl⟩ ?_
  · simp (maxSteps := 1000000) (disch := refine hold_ ?_; first | (simp [-List.getD_eq_getElem?_getD]; done) | omega) [-List.getD_eq_getElem?_getD]
  clear hK he
  rintro f σ ⟨o, p, hp1, hp2, hf, hol, hR, rfl⟩
  by_cases h0 : 0 ≤ p
  · obtain ⟨g, rfl⟩ : ∃ g, f = g + 1 := ⟨f - 1, by omega⟩
    obtain ⟨q, rfl⟩ : ∃ q : Nat, p = q := ⟨p.toNat, by omega⟩
    have hql : q < l.length := by omega
    have hqz : (q : Int) < l.length := by omega
    have hqp := hp.lt hql
    have heq := nd_elem l q hql
    unfold upF at hR
    rw [if_neg (by omega), Int.toNat_natCast] at hR
    have ha := app_ints o q
    have hne : (o ++ [(q : Int)] == []) = false := by cases o <;> rfl
    have hlo : (o ++ [(q : Int)]).length * 8 ≤ 140737488355328 := by simp; omega
    have hR' : R = (o ++ [(q : Int)]) ++ upF l g (nd l q).a := by rw [hR]; simp
    have hol' : ((o ++ [(q : Int)]).length : Int) + (nd l q).a ≤ n := by simp; omega
    clear hR
    unfold ndP at heq
    generalize hob2 : (o == []) = ob at *
    generalize o ++ [(q : Int)] = o2 at *
    generalize nd l q = x at *
    repeat (first | ((first | (with_reducible first | refine zP fun K_ hK_ => ?_ | refine zQ fun K_ hK_ => ?_ | refine zT ?_ | refine zU ?_ | refine zV ?_ | refine zW ?_ | refine zX ?_ | refine zY ?_) | ((with_reducible first | refine zR ?_ ?_ fun K_ hK_ => ?_ | refine zS ?_ ?_ fun K_ hK_ => ?_); (focus kernel_rfl); (focus kernel_rfl))); first | (simp (maxSteps := 1000000) (disch := refine hold_ ?_; first | (simp [hql, hqz, heq, h0, ha, hlo, -List.getD_eq_getElem?_getD]; done) | omega) [hql, hqz, heq, h0, ha, hlo, -List.getD_eq_getElem?_getD]; try first | (with_reducible refine zZ ?_) | subst hK_) | subst hK_) | (with_reducible first | refine zA ?_ | refine zB ?_ | refine zC ?_ | refine zD ?_ | refine zE ?_ | refine zF ?_ | refine zG ?_ | refine zH ?_ | refine zI ?_ | refine zJ ?_ | refine zK ?_ | refine zL ?_ | refine zM ?_ | refine zN ?_ | refine zO ?_) | ((with_reducible refine yG ?_ ?_); (focus decide)) | ((with_reducible refine yA ?_); refine yB rfl ?_; (with_reducible first | refine yC ?_ | refine yD ?_)))
    refine ⟨g, ⟨(.p (.eptr (.vals 3 [.agg (.vals 1 [.sl (ndR l) false, .sl (.ints .i64 E) false, .int .i64 top])]) 0 0) :: V.junk :: V.junk :: V.junk :: V.junk :: .row (.ints .i64 o2) 0 0 (o2 == []) :: .p (.int .i64 x.a) :: V.junk :: V.junk :: V.junk :: V.junk :: V.junk :: V.junk :: V.junk :: V.junk :: V.junk :: V.junk :: V.junk :: V.junk :: V.junk :: V.junk :: V.junk :: V.junk :: V.junk :: V.junk :: V.junk :: V.junk :: V.junk :: V.junk :: V.junk :: V.junk :: V.junk :: V.junk :: V.junk :: []), ⟨[], [(0, 0)]⟩⟩, by omega, ?_, o2, x.a, by omega, by omega, by omega, hol', hR', rfl⟩
    rw [hne]
    simp (maxSteps := 1000000) (disch := refine hold_ ?_; first | (simp [-List.getD_eq_getElem?_getD]; done) | omega) [-List.getD_eq_getElem?_getD]
  · have hR' : R = o := by
      rw [hR]
      cases f with
      | zero => simp [upF]
      | succ f => unfold upF; rw [if_pos (by omega)]; simp
    subst hR'
    repeat (first | ((first | (with_reducible first | refine zP fun K_ hK_ => ?_ | refine zQ fun K_ hK_ => ?_ | refine zT ?_ | refine zU ?_ | refine zV ?_ | refine zW ?_ | refine zX ?_ | refine zY ?_) | ((with_reducible first | refine zR ?_ ?_ fun K_ hK_ => ?_ | refine zS ?_ ?_ fun K_ hK_ => ?_); (focus kernel_rfl); (focus kernel_rfl))); first | (simp (maxSteps := 1000000) (disch := refine hold_ ?_; first | (simp [h0, -List.getD_eq_getElem?_getD]; done) | omega) [h0, -List.getD_eq_getElem?_getD]; try first | (with_reducible refine zZ ?_) | subst hK_) | subst hK_) | (with_reducible first | refine zA ?_ | refine zB ?_ | refine zC ?_ | refine zD ?_ | refine zE ?_ | refine zF ?_ | refine zG ?_ | refine zH ?_ | refine zI ?_ | refine zJ ?_ | refine zK ?_ | refine zL ?_ | refine zM ?_ | refine zN ?_ | refine zO ?_) | ((with_reducible refine yG ?_ ?_); (focus decide)) | ((with_reducible refine yA ?_); refine yB rfl ?_; (with_reducible first | refine yC ?_ | refine yD ?_)))
    all_goals (try simp (maxSteps := 1000000) (disch := refine hold_ ?_; first | (simp [-List.getD_eq_getElem?_getD]; done) | omega) [-List.getD_eq_getElem?_getD])
set_option maxHeartbeats 4000000 in
theorem rup_ct {l : List Nd} (hp : pOk l l.length) (nl : Bool) (hl : l.length ≤ 4000000) (n : Nat) (hn : n < l.length) :
    Fn Tryd.prog 28 [.sl (ndR l) nl, .int .i64 n] [.p (.sl (.ints .i64 (upsI l n)) (upsI l n == []))] 1 := by
  refine FnG.rowRes (t := 0) (v := 0) ?_
  have hnz : (n : Int) < l.length := by omega
  have hn0 : ¬ (n : Int) < 0 := by omega
  have hnl : ¬ (l.length : Int) ≤ n := by omega
  have hpar := hp.lt hn
  have hK : upsI l n = [] ++ upF l (n + 1) (nd l n).a := rfl
  have he := nd_elem l n hn
  generalize hP : (nd l n).a = P at *
  have hNd : ndP (nd l n) = .agg (.vals 1 [.int .i64 (nd l n).k, .int .i64 P, .str (txt (nd l n).p), .str (txt (nd l n).l), .str (txt (nd l n).u), .str (txt (nd l n).t), .sl (dcR (nd l n).ds) (nd l n).dn, .sl (atR (nd l n).ms) (nd l n).mn]) := by rw [← hP]; rfl
  rw [hNd] at he
  clear hNd hP
  generalize upsI l n = R at *
  refine Fn.of_body Tryd.func28 rfl ?_
  repeat (first | ((first | (with_reducible first | refine zP fun K_ hK_ => ?_ | refine zQ fun K_ hK_ => ?_ | refine zT ?_ | refine zU ?_ | refine zV ?_ | refine zW ?_ | refine zX ?_ | refine zY ?_) | ((with_reducible first | refine zR ?_ ?_ fun K_ hK_ => ?_ | refine zS ?_ ?_ fun K_ hK_ => ?_); (focus kernel_rfl); (focus kernel_rfl))); first | (simp (maxSteps := 1000000) (disch := refine hold_ ?_; first | (simp [hn, hnz, hn0, hnl, he, -List.getD_eq_getElem?_getD]; done) | omega) [hn, hnz, hn0, hnl, he, -List.getD_eq_getElem?_getD]; try first | (with_reducible refine zZ ?_) | subst hK_) | subst hK_) | (with_reducible first | refine zA ?_ | refine zB ?_ | refine zC ?_ | refine zD ?_ | refine zE ?_ | refine zF ?_ | refine zG ?_ | refine zH ?_ | refine zI ?_ | refine zJ ?_ | refine zK ?_ | refine zL ?_ | refine zM ?_ | refine zN ?_ | refine zO ?_) | ((with_reducible refine yG ?_ ?_); (focus decide)) | ((with_reducible refine yA ?_); refine yB rfl ?_; (with_reducible first | refine yC ?_ | refine yD ?_)))
  refine AW.nilRow 5 (.ints .i64 []) 5 _ rfl rfl ?_
  refine AW.iterI (τ := ⟨(.p (.sl (ndR l) nl) :: V.junk :: V.junk :: V.junk :: V.junk :: .row (.ints .i64 []) 0 0 true :: .p (.int .i64 P) :: V.junk :: V.junk :: V.junk :: V.junk :: V.junk :: V.junk :: V.junk :: V.junk :: V.junk :: V.junk :: V.junk :: V.junk :: V.junk :: V.junk :: V.junk :: V.junk :: V.junk :: V.junk :: V.junk :: V.junk :: V.junk :: V.junk :: V.junk :: V.junk :: V.junk :: []), ⟨[], [(0, 0)]⟩⟩) (true :: false :: false :: false :: false :: true :: true :: false :: false :: false :: false :: false :: false :: false :: false :: false :: false :: false :: false :: false :: false :: false :: false :: false :: false :: false :: false :: false :: false :: false :: false :: false :: []) (n + 1)
    (fun f σ => ∃ (o : List Int) (p : Int), -1 ≤ p ∧ p < n ∧ p < f ∧ o.length + p ≤ n ∧ R = o ++ upF l f p ∧ σ = ⟨(.p (.sl (ndR l) nl) :: V.junk :: V.junk :: V.junk :: V.junk :: .row (.ints .i64 o) 0 0 (o == []) :: .p (.int .i64 p) :: V.junk :: V.junk :: V.junk :: V.junk :: V.junk :: V.junk :: V.junk :: V.junk :: V.junk :: V.junk :: V.junk :: V.junk :: V.junk :: V.junk :: V.junk :: V.junk :: V.junk :: V.junk :: V.junk :: V.junk :: V.junk :: V.junk :: V.junk :: V.junk :: V.junk :: []), ⟨[], [(0, 0)]⟩⟩) ?_ ⟨[], P, by omega, by omega, by omega, by simp; omega, hK, rfl⟩ ?_
  · simp (maxSteps := 1000000) (disch := refine hold_ ?_; first | (simp [-List.getD_eq_getElem?_getD]; done) | omega) [-List.getD_eq_getElem?_getD]
  clear hK he
  rintro f σ ⟨o, p, hp1, hp2, hf, hol, hR, rfl⟩
  by_cases h0 : 0 ≤ p
  · obtain ⟨g, rfl⟩ : ∃ g, f = g + 1 := ⟨f - 1, by omega⟩
    obtain ⟨q, rfl⟩ : ∃ q : Nat, p = q := ⟨p.toNat, by omega⟩
    have hql : q < l.length := by omega
    have hqz : (q : Int) < l.length := by omega
    have hqp := hp.lt hql
    have heq := nd_elem l q hql
    unfold upF at hR
    rw [if_neg (by omega), Int.toNat_natCast] at hR
    have ha := app_ints o q
    have hne : (o ++ [(q : Int)] == []) = false := by cases o <;> rfl
    have hlo : (o ++ [(q : Int)]).length * 8 ≤ 140737488355328 := by simp; omega
    have hR' : R = (o ++ [(q : Int)]) ++ upF l g (nd l q).a := by rw [hR]; simp
    have hol' : ((o ++ [(q : Int)]).length : Int) + (nd l q).a ≤ n := by simp; omega
    clear hR
    unfold ndP at heq
    generalize hob2 : (o == []) = ob at *
    generalize o ++ [(q : Int)] = o2 at *
    generalize nd l q = x at *
    repeat (first | ((first | (with_reducible first | refine zP fun K_ hK_ => ?_ | refine zQ fun K_ hK_ => ?_ | refine zT ?_ | refine zU ?_ | refine zV ?_ | refine zW ?_ | refine zX ?_ | refine zY ?_) | ((with_reducible first | refine zR ?_ ?_ fun K_ hK_ => ?_ | refine zS ?_ ?_ fun K_ hK_ => ?_); (focus kernel_rfl); (focus kernel_rfl))); first | (simp (maxSteps := 1000000) (disch := refine hold_ ?_; first | (simp [hql, hqz, heq, h0, ha, hlo, -List.getD_eq_getElem?_getD]; done) | omega) [hql, hqz, heq, h0, ha, hlo, -List.getD_eq_getElem?_getD]; try first | (with_reducible refine zZ ?_) | subst hK_) | subst hK_) | (with_reducible first | refine zA ?_ | refine zB ?_ | refine zC ?_ | refine zD ?_ | refine zE ?_ | refine zF ?_ | refine zG ?_ | refine zH ?_ | refine zI ?_ | refine zJ ?_ | refine zK ?_ | refine zL ?_ | refine zM ?_ | refine zN ?_ | refine zO ?_) | ((with_reducible refine yG ?_ ?_); (focus decide)) | ((with_reducible refine yA ?_); refine yB rfl ?_; (with_reducible first | refine yC ?_ | refine yD ?_)))
    refine ⟨g, ⟨(.p (.sl (ndR l) nl) :: V.junk :: V.junk :: V.junk :: V.junk :: .row (.ints .i64 o2) 0 0 (o2 == []) :: .p (.int .i64 x.a) :: V.junk :: V.junk :: V.junk :: V.junk :: V.junk :: V.junk :: V.junk :: V.junk :: V.junk :: V.junk :: V.junk :: V.junk :: V.junk :: V.junk :: V.junk :: V.junk :: V.junk :: V.junk :: V.junk :: V.junk :: V.junk :: V.junk :: V.junk :: V.junk :: V.junk :: []), ⟨[], [(0, 0)]⟩⟩, by omega, ?_, o2, x.a, by omega, by omega, by omega, hol', hR', rfl⟩
    rw [hne]
    simp (maxSteps := 1000000) (disch := refine hold_ ?_; first | (simp [-List.getD_eq_getElem?_getD]; done) | omega) [-List.getD_eq_getElem?_getD]
  · have hR' : R = o := by
      rw [hR]
      cases f with
      | zero => simp [upF]
      | succ f => unfold upF; rw [if_pos (by omega)]; simp
    subst hR'
    repeat (first | ((first | (with_reducible first | refine zP fun K_ hK_ => ?_ | refine zQ fun K_ hK_ => ?_ | refine zT ?_ | refine zU ?_ | refine zV ?_ | refine zW ?_ | refine zX ?_ | refine zY ?_) | ((with_reducible first | refine zR ?_ ?_ fun K_ hK_ => ?_ | refine zS ?_ ?_ fun K_ hK_ => ?_); (focus kernel_rfl); (focus kernel_rfl))); first | (simp (maxSteps := 1000000) (disch := refine hold_ ?_; first | (simp [h0, -List.getD_eq_getElem?_getD]; done) | omega) [h0, -List.getD_eq_getElem?_getD]; try first | (with_reducible refine zZ ?_) | subst hK_) | subst hK_) | (with_reducible first | refine zA ?_ | refine zB ?_ | refine zC ?_ | refine zD ?_ | refine zE ?_ | refine zF ?_ | refine zG ?_ | refine zH ?_ | refine zI ?_ | refine zJ ?_ | refine zK ?_ | refine zL ?_ | refine zM ?_ | refine zN ?_ | refine zO ?_) | ((with_reducible refine yG ?_ ?_); (focus decide)) | ((with_reducible refine yA ?_); refine yB rfl ?_; (with_reducible first | refine yC ?_ | refine yD ?_)))
    all_goals (try simp (maxSteps := 1000000) (disch := refine hold_ ?_; first | (simp [-List.getD_eq_getElem?_getD]; done) | omega) [-List.getD_eq_getElem?_getD])
theorem nodes_ct (l : List Nd) (e : List Int) (top : Int) (h0 : 0 < l.length) (hl : l.length ≤ 4000000) (hok : ∀ x ∈ l, okN x) : Fn Tryd.prog 20 [docP l e top] [.p (.sl (ndR l) false)] 1 := by
  refine FnG.rowRes (t := 0) (v := 0) ?_
  have k17 := len_ct l e top
  refine Fn.of_body Tryd.func20 rfl ?_
  unfold docP at *
  repeat (first | ((with_reducible first | refine callK_at 17 ?_); refine callK_p ?_; simp (maxSteps := 1000000) (disch := refine hold_ ?_; first | (simp [-List.getD_eq_getElem?_getD]; done) | omega) [-List.getD_eq_getElem?_getD]; (first | refine callK1_of (Fn.ct k17 Tryd.call17) ?_); (try simp (maxSteps := 1000000) (disch := refine hold_ ?_; first | (simp [-List.getD_eq_getElem?_getD]; done) | omega) [-List.getD_eq_getElem?_getD]); try first | (with_reducible refine zZ ?_) | subst hK_) | ((first | (with_reducible first | refine zP fun K_ hK_ => ?_ | refine zQ fun K_ hK_ => ?_ | refine zT ?_ | refine zU ?_ | refine zV ?_ | refine zW ?_ | refine zX ?_ | refine zY ?_) | ((with_reducible first | refine zR ?_ ?_ fun K_ hK_ => ?_ | refine zS ?_ ?_ fun K_ hK_ => ?_); (focus kernel_rfl); (focus kernel_rfl))); first | (simp (maxSteps := 1000000) (disch := refine hold_ ?_; first | (simp [-List.getD_eq_getElem?_getD]; done) | omega) [-List.getD_eq_getElem?_getD]; try first | (with_reducible refine zZ ?_) | subst hK_) | subst hK_) | (with_reducible first | refine zA ?_ | refine zB ?_ | refine zC ?_ | refine zD ?_ | refine zE ?_ | refine zF ?_ | refine zG ?_ | refine zH ?_ | refine zI ?_ | refine zJ ?_ | refine zK ?_ | refine zL ?_ | refine zM ?_ | refine zN ?_ | refine zO ?_) | ((with_reducible refine yG ?_ ?_); (focus decide)) | ((with_reducible refine yA ?_); refine yB rfl ?_; (with_reducible first | refine yC ?_ | refine yD ?_)))
  refine AW.nilRow 3 (ndR []) 3 _ rfl rfl ?_
  refine AW.iter (true :: false :: false :: true :: false :: false :: true :: true :: false :: false :: false :: false :: false :: false :: false :: false :: false :: false :: false :: false :: false :: false :: false :: []) l.length (fun k => ⟨(.p (.eptr (.vals 3 [.agg (.vals 1 [.sl (ndR l) false, .sl (.ints .i64 e) false, .int .i64 top])]) 0 0) :: V.junk :: V.junk :: .row (ndR (l.take k)) 0 0 (k == 0) :: V.junk :: V.junk :: .p (.int .i64 l.length) :: .p (.int .i64 k) :: V.junk :: V.junk :: V.junk :: V.junk :: V.junk :: V.junk :: V.junk :: V.junk :: V.junk :: V.junk :: V.junk :: V.junk :: V.junk :: V.junk :: V.junk :: []), ⟨[], [(0, 0)]⟩⟩) ?_ ?_
  · simp (maxSteps := 1000000) (disch := refine hold_ ?_; first | (simp [-List.getD_eq_getElem?_getD]; done) | omega) [-List.getD_eq_getElem?_getD]
  intro k hk
  have e0 := wrap_succ k l.length hk (by omega)
  by_cases hkm : k < l.length
  · have hkz : (k : Int) < l.length := by omega
    have he := nd_elem l k hkm
    have k31 := clone_ct (nd l k) (hok _ (mem_getD l k default hkm))
    have ha : appRow (ndR (l.take k)) (.vals 8 [ndP (nd l k)]) = some (ndR (l.take (k + 1))) := by
      rw [app_nd]
      have : l.take k ++ [nd l k] = l.take (k + 1) := by
        rw [List.take_add_one]
        simp [nd, List.getD_eq_getElem?_getD, List.getElem?_eq_getElem hkm]
      rw [this]
    have hlt1 : (l.take (k + 1)).length * 128 ≤ 140737488355328 := by rw [List.length_take]; omega
    generalize hkb : (k == 0) = kb at *
    generalize l.take (k + 1) = L1 at *
    generalize l.take k = L0 at *
    unfold ndP at he k31 ha
    generalize nd l k = x at *
    repeat (first | ((with_reducible first | refine callK_at 31 ?_); refine callK_p ?_; simp (maxSteps := 1000000) (disch := refine hold_ ?_; first | (simp [hkm, hkz, he, ha, e0, hlt1, -List.getD_eq_getElem?_getD]; done) | omega) [hkm, hkz, he, ha, e0, hlt1, -List.getD_eq_getElem?_getD]; (first | refine callK1_of (Fn.ct k31 Tryd.call31) ?_); (try simp (maxSteps := 1000000) (disch := refine hold_ ?_; first | (simp [hkm, hkz, he, ha, e0, hlt1, -List.getD_eq_getElem?_getD]; done) | omega) [hkm, hkz, he, ha, e0, hlt1, -List.getD_eq_getElem?_getD]); try first | (with_reducible refine zZ ?_) | subst hK_) | ((first | (with_reducible first | refine zP fun K_ hK_ => ?_ | refine zQ fun K_ hK_ => ?_ | refine zT ?_ | refine zU ?_ | refine zV ?_ | refine zW ?_ | refine zX ?_ | refine zY ?_) | ((with_reducible first | refine zR ?_ ?_ fun K_ hK_ => ?_ | refine zS ?_ ?_ fun K_ hK_ => ?_); (focus kernel_rfl); (focus kernel_rfl))); first | (simp (maxSteps := 1000000) (disch := refine hold_ ?_; first | (simp [hkm, hkz, he, ha, e0, hlt1, -List.getD_eq_getElem?_getD]; done) | omega) [hkm, hkz, he, ha, e0, hlt1, -List.getD_eq_getElem?_getD]; try first | (with_reducible refine zZ ?_) | subst hK_) | subst hK_) | (with_reducible first | refine zA ?_ | refine zB ?_ | refine zC ?_ | refine zD ?_ | refine zE ?_ | refine zF ?_ | refine zG ?_ | refine zH ?_ | refine zI ?_ | refine zJ ?_ | refine zK ?_ | refine zL ?_ | refine zM ?_ | refine zN ?_ | refine zO ?_) | ((with_reducible refine yG ?_ ?_); (focus decide)) | ((with_reducible refine yA ?_); refine yB rfl ?_; (with_reducible first | refine yC ?_ | refine yD ?_)))
    refine ⟨hkm, ?_⟩
    simp (maxSteps := 1000000) (disch := refine hold_ ?_; first | (simp [-List.getD_eq_getElem?_getD]; done) | omega) [-List.getD_eq_getElem?_getD]
  · have hkz : ¬ (k : Int) < l.length := by omega
    obtain rfl : k = l.length := by omega
    have hb : (l.length == 0) = false := beq_eq_false_iff_ne.2 (by omega)
    rw [List.take_length, hb]
    repeat (first | ((first | (with_reducible first | refine zP fun K_ hK_ => ?_ | refine zQ fun K_ hK_ => ?_ | refine zT ?_ | refine zU ?_ | refine zV ?_ | refine zW ?_ | refine zX ?_ | refine zY ?_) | ((with_reducible first | refine zR ?_ ?_ fun K_ hK_ => ?_ | refine zS ?_ ?_ fun K_ hK_ => ?_); (focus kernel_rfl); (focus kernel_rfl))); first | (simp (maxSteps := 1000000) (disch := refine hold_ ?_; first | (simp [hkz, -List.getD_eq_getElem?_getD]; done) | omega) [hkz, -List.getD_eq_getElem?_getD]; try first | (with_reducible refine zZ ?_) | subst hK_) | subst hK_) | (with_reducible first | refine zA ?_ | refine zB ?_ | refine zC ?_ | refine zD ?_ | refine zE ?_ | refine zF ?_ | refine zG ?_ | refine zH ?_ | refine zI ?_ | refine zJ ?_ | refine zK ?_ | refine zL ?_ | refine zM ?_ | refine zN ?_ | refine zO ?_) | ((with_reducible refine yG ?_ ?_); (focus decide)) | ((with_reducible refine yA ?_); refine yB rfl ?_; (with_reducible first | refine yC ?_ | refine yD ?_)))
    all_goals (try simp (maxSteps := 1000000) (disch := refine hold_ ?_; first | (simp [-List.getD_eq_getElem?_getD]; done) | omega) [-List.getD_eq_getElem?_getD])
end Go.Av.Doc
end
section
set_option linter.unusedSimpArgs false
set_option linter.unusedVariables false
set_option linter.unusedSectionVars false
open Go Go.Av Go.Proofs
namespace Go.Av.Doc
variable [ML]
def noTop (l : List Nd) (k : Nat) : Bool := !(decide (0 < k) && isTop l k)
theorem top_one {l : List Nd} (h : cntT l l.length = 1) : upto (noTop l) l.length < l.length ∧ topN l l.length = upto (noTop l) l.length := by
  have hN := upto_le (noTop l) l.length
  have hall := upto_all (noTop l) l.length
  have hno := upto_no (noTop l) l.length
  generalize upto (noTop l) l.length = N at *
  have hz : ∀ k, k ≤ N → cntT l k = 0 := by
    intro k
    induction k with
    | zero => intro _; rfl
    | succ k ih =>
      intro hk
      have := hall k (by omega)
      unfold noTop at this
      rw [cntT, ih (by omega), if_neg]
      rintro ⟨h1, h2⟩
      rw [decide_eq_true h1, h2] at this; simp at this
  have hlt : N < l.length := by
    rcases Nat.lt_or_ge N l.length with h1 | h1
    · exact h1
    · have := hz l.length (by omega); omega
  refine ⟨hlt, ?_⟩
  have hNt := hno hlt
  unfold noTop at hNt
  have hNt' : 0 < N ∧ isTop l N = true := by
    cases hi : isTop l N with
    | false => rw [hi] at hNt; simp at hNt
    | true => rw [hi] at hNt; simp at hNt; exact ⟨hNt, rfl⟩
  have hc1 : cntT l (N + 1) = 1 := by rw [cntT, hz N (Nat.le_refl _), if_pos hNt']
  have : ∀ k, N < k → k ≤ l.length → topN l k = N := by
    intro k
    induction k with
    | zero => intro h1; omega
    | succ k ih =>
      intro h1 h2
      unfold topN
      by_cases e : k = N
      · subst e; rw [if_pos hNt']
      · rw [if_neg, ih (by omega) (by omega)]
        rintro ⟨h3, h4⟩
        have h5 : cntT l (k + 1) = cntT l k + 1 := by rw [cntT, if_pos ⟨h3, h4⟩]
        have h6 := cntT_mono l (N + 1) k (by omega)
        have h7 := cntT_mono l (k + 1) l.length h2
        omega
  exact this _ hlt (Nat.le_refl _)
theorem rtop_ct {l : List Nd} (nl : Bool) (h : cntT l l.length = 1) (hl : l.length ≤ 4000000) : Fn Tryd.prog 13 [.sl (ndR l) nl] [.p (.int .i64 (topN l l.length : Nat))] := by
  obtain ⟨h1, h2⟩ := top_one h
  rw [h2]
  have hall := upto_all (noTop l) l.length
  have hno := upto_no (noTop l) l.length
  generalize upto (noTop l) l.length = N at *
  refine Fn.of_body Tryd.func13 rfl ?_
  repeat (first | ((first | (with_reducible first | refine zP fun K_ hK_ => ?_ | refine zQ fun K_ hK_ => ?_ | refine zT ?_ | refine zU ?_ | refine zV ?_ | refine zW ?_ | refine zX ?_ | refine zY ?_) | ((with_reducible first | refine zR ?_ ?_ fun K_ hK_ => ?_ | refine zS ?_ ?_ fun K_ hK_ => ?_); (focus kernel_rfl); (focus kernel_rfl))); first | (simp (maxSteps := 1000000) (disch := refine hold_ ?_; first | (simp [-List.getD_eq_getElem?_getD]; done) | omega) [-List.getD_eq_getElem?_getD]; try first | (with_reducible refine zZ ?_) | subst hK_) | subst hK_) | (with_reducible first | refine zA ?_ | refine zB ?_ | refine zC ?_ | refine zD ?_ | refine zE ?_ | refine zF ?_ | refine zG ?_ | refine zH ?_ | refine zI ?_ | refine zJ ?_ | refine zK ?_ | refine zL ?_ | refine zM ?_ | refine zN ?_ | refine zO ?_) | ((with_reducible refine yG ?_ ?_); (focus decide)) | ((with_reducible refine yA ?_); refine yB rfl ?_; (with_reducible first | refine yC ?_ | refine yD ?_)))
  refine AW.iter (true :: false :: false :: false :: false :: true :: true :: false :: false :: false :: false :: false :: false :: false :: false :: false :: false :: false :: false :: false :: false :: false :: false :: false :: false :: false :: false :: false :: false :: []) N (fun k => ⟨(.p (.sl (ndR l) nl) :: V.junk :: V.junk :: V.junk :: V.junk :: .p (.int .i64 l.length) :: .p (.int .i64 k) :: V.junk :: V.junk :: V.junk :: V.junk :: V.junk :: V.junk :: V.junk :: V.junk :: V.junk :: V.junk :: V.junk :: V.junk :: V.junk :: V.junk :: V.junk :: V.junk :: V.junk :: V.junk :: V.junk :: V.junk :: V.junk :: V.junk :: []), ⟨[], []⟩⟩) ?_ ?_
  · simp (maxSteps := 1000000) (disch := refine hold_ ?_; first | (simp [-List.getD_eq_getElem?_getD]; done) | omega) [-List.getD_eq_getElem?_getD]
  intro k hk
  have e0 := wrap_succ k l.length (by omega) (by omega)
  have hkm : k < l.length := by omega
  have hkz : (k : Int) < l.length := by omega
  have he := nd_elem l k hkm
  unfold ndP at he
  have hg : k < N → noTop l k = true := hall k
  have hb : N = k → noTop l k = false := fun e => by subst e; exact hno hkm
  clear hall hno h2 h
  unfold noTop isTop at hg hb
  by_cases h0 : 0 < k
  · have h0z : (0 : Int) < k := by omega
    rw [decide_eq_true h0] at hg hb
    generalize hA : ((nd l k).a == 0) = A at *
    generalize hB : ((nd l k).k == 1) = B at *
    generalize nd l k = x at *
    rcases anc A (spl B (trivial)) with rfl | ⟨rfl, ⟨rfl | rfl, _⟩⟩
    all_goals
      first
        | (have hkN : k = N := by
             rcases Nat.lt_or_ge k N with h1 | h1
             · have := hg h1; simp at this
             · omega
           subst hkN
           repeat (first | ((first | (with_reducible first | refine zP fun K_ hK_ => ?_ | refine zQ fun K_ hK_ => ?_ | refine zT ?_ | refine zU ?_ | refine zV ?_ | refine zW ?_ | refine zX ?_ | refine zY ?_) | ((with_reducible first | refine zR ?_ ?_ fun K_ hK_ => ?_ | refine zS ?_ ?_ fun K_ hK_ => ?_); (focus kernel_rfl); (focus kernel_rfl))); first | (simp (maxSteps := 1000000) (disch := refine hold_ ?_; first | (simp [hkm, hkz, he, h0, h0z, hA, hB, -List.getD_eq_getElem?_getD]; done) | omega) [hkm, hkz, he, h0, h0z, hA, hB, -List.getD_eq_getElem?_getD]; try first | (with_reducible refine zZ ?_) | subst hK_) | subst hK_) | (with_reducible first | refine zA ?_ | refine zB ?_ | refine zC ?_ | refine zD ?_ | refine zE ?_ | refine zF ?_ | refine zG ?_ | refine zH ?_ | refine zI ?_ | refine zJ ?_ | refine zK ?_ | refine zL ?_ | refine zM ?_ | refine zN ?_ | refine zO ?_) | ((with_reducible refine yG ?_ ?_); (focus decide)) | ((with_reducible refine yA ?_); refine yB rfl ?_; (with_reducible first | refine yC ?_ | refine yD ?_)))
           simp (maxSteps := 1000000) (disch := refine hold_ ?_; first | (simp [-List.getD_eq_getElem?_getD]; done) | omega) [-List.getD_eq_getElem?_getD])
        | (have hkN : k < N := Nat.lt_of_le_of_ne hk fun e => by simpa using hb e.symm
           repeat (first | ((first | (with_reducible first | refine zP fun K_ hK_ => ?_ | refine zQ fun K_ hK_ => ?_ | refine zT ?_ | refine zU ?_ | refine zV ?_ | refine zW ?_ | refine zX ?_ | refine zY ?_) | ((with_reducible first | refine zR ?_ ?_ fun K_ hK_ => ?_ | refine zS ?_ ?_ fun K_ hK_ => ?_); (focus kernel_rfl); (focus kernel_rfl))); first | (simp (maxSteps := 1000000) (disch := refine hold_ ?_; first | (simp [hkm, hkz, he, h0, h0z, hA, hB, e0, -List.getD_eq_getElem?_getD]; done) | omega) [hkm, hkz, he, h0, h0z, hA, hB, e0, -List.getD_eq_getElem?_getD]; try first | (with_reducible refine zZ ?_) | subst hK_) | subst hK_) | (with_reducible first | refine zA ?_ | refine zB ?_ | refine zC ?_ | refine zD ?_ | refine zE ?_ | refine zF ?_ | refine zG ?_ | refine zH ?_ | refine zI ?_ | refine zJ ?_ | refine zK ?_ | refine zL ?_ | refine zM ?_ | refine zN ?_ | refine zO ?_) | ((with_reducible refine yG ?_ ?_); (focus decide)) | ((with_reducible refine yA ?_); refine yB rfl ?_; (with_reducible first | refine yC ?_ | refine yD ?_)))
           refine ⟨hkN, ?_⟩
           simp (maxSteps := 1000000) (disch := refine hold_ ?_; first | (simp [-List.getD_eq_getElem?_getD]; done) | omega) [-List.getD_eq_getElem?_getD])
  · have h0z : ¬ (0 : Int) < k := by omega
    rw [decide_eq_false h0] at hg hb
    have hkN : k < N := Nat.lt_of_le_of_ne hk fun e => by simpa using hb e.symm
    repeat (first | ((first | (with_reducible first | refine zP fun K_ hK_ => ?_ | refine zQ fun K_ hK_ => ?_ | refine zT ?_ | refine zU ?_ | refine zV ?_ | refine zW ?_ | refine zX ?_ | refine zY ?_) | ((with_reducible first | refine zR ?_ ?_ fun K_ hK_ => ?_ | refine zS ?_ ?_ fun K_ hK_ => ?_); (focus kernel_rfl); (focus kernel_rfl))); first | (simp (maxSteps := 1000000) (disch := refine hold_ ?_; first | (simp [hkm, hkz, h0, h0z, e0, -List.getD_eq_getElem?_getD]; done) | omega) [hkm, hkz, h0, h0z, e0, -List.getD_eq_getElem?_getD]; try first | (with_reducible refine zZ ?_) | subst hK_) | subst hK_) | (with_reducible first | refine zA ?_ | refine zB ?_ | refine zC ?_ | refine zD ?_ | refine zE ?_ | refine zF ?_ | refine zG ?_ | refine zH ?_ | refine zI ?_ | refine zJ ?_ | refine zK ?_ | refine zL ?_ | refine zM ?_ | refine zN ?_ | refine zO ?_) | ((with_reducible refine yG ?_ ?_); (focus decide)) | ((with_reducible refine yA ?_); refine yB rfl ?_; (with_reducible first | refine yC ?_ | refine yD ?_)))
    refine ⟨hkN, ?_⟩
    simp (maxSteps := 1000000) (disch := refine hold_ ?_; first | (simp [-List.getD_eq_getElem?_getD]; done) | omega) [-List.getD_eq_getElem?_getD]
theorem node_no (l : List Nd) (e : List Int) (top : Int) (n : Int) (h : hasB l n = false) : Fn Tryd.prog 18 [docP l e top, .int .i64 n] [.p (ndP nd0)] := by
  have k := has_ct l e top n
  rw [h] at k
  generalize docP l e top = D at *
  refine FnG.pres ?_ zero_nd
  refine Fn.of_body Tryd.func18 rfl ?_
  repeat (first | ((with_reducible first | refine callK_at 36 ?_); refine callK_p ?_; simp (maxSteps := 1000000) (disch := refine hold_ ?_; first | (simp [-List.getD_eq_getElem?_getD]; done) | omega) [-List.getD_eq_getElem?_getD]; (first | refine callK1_of (Fn.ct k Tryd.call36) ?_); (try simp (maxSteps := 1000000) (disch := refine hold_ ?_; first | (simp [-List.getD_eq_getElem?_getD]; done) | omega) [-List.getD_eq_getElem?_getD]); try first | (with_reducible refine zZ ?_) | subst hK_) | ((first | (with_reducible first | refine zP fun K_ hK_ => ?_ | refine zQ fun K_ hK_ => ?_ | refine zT ?_ | refine zU ?_ | refine zV ?_ | refine zW ?_ | refine zX ?_ | refine zY ?_) | ((with_reducible first | refine zR ?_ ?_ fun K_ hK_ => ?_ | refine zS ?_ ?_ fun K_ hK_ => ?_); (focus kernel_rfl); (focus kernel_rfl))); first | (simp (maxSteps := 1000000) (disch := refine hold_ ?_; first | (simp [-List.getD_eq_getElem?_getD]; done) | omega) [-List.getD_eq_getElem?_getD]; try first | (with_reducible refine zZ ?_) | subst hK_) | subst hK_) | (with_reducible first | refine zA ?_ | refine zB ?_ | refine zC ?_ | refine zD ?_ | refine zE ?_ | refine zF ?_ | refine zG ?_ | refine zH ?_ | refine zI ?_ | refine zJ ?_ | refine zK ?_ | refine zL ?_ | refine zM ?_ | refine zN ?_ | refine zO ?_) | ((with_reducible refine yG ?_ ?_); (focus decide)) | ((with_reducible refine yA ?_); refine yB rfl ?_; (with_reducible first | refine yC ?_ | refine yD ?_)))
  all_goals (try simp (maxSteps := 1000000) (disch := refine hold_ ?_; first | (simp [-List.getD_eq_getElem?_getD]; done) | omega) [-List.getD_eq_getElem?_getD])
theorem kids_no (l : List Nd) (e : List Int) (top : Int) (n : Int) (h : hasB l n = false) : Fn Tryd.prog 21 [docP l e top, .int .i64 n] [.p (.sl (.ints .i64 []) true)] := by
  have k := has_ct l e top n
  rw [h] at k
  generalize docP l e top = D at *
  refine FnG.nilRes (r0 := .vals 1 []) ?_ _ rfl
  refine Fn.of_body Tryd.func21 rfl ?_
  repeat (first | ((with_reducible first | refine callK_at 36 ?_); refine callK_p ?_; simp (maxSteps := 1000000) (disch := refine hold_ ?_; first | (simp [-List.getD_eq_getElem?_getD]; done) | omega) [-List.getD_eq_getElem?_getD]; (first | refine callK1_of (Fn.ct k Tryd.call36) ?_); (try simp (maxSteps := 1000000) (disch := refine hold_ ?_; first | (simp [-List.getD_eq_getElem?_getD]; done) | omega) [-List.getD_eq_getElem?_getD]); try first | (with_reducible refine zZ ?_) | subst hK_) | ((first | (with_reducible first | refine zP fun K_ hK_ => ?_ | refine zQ fun K_ hK_ => ?_ | refine zT ?_ | refine zU ?_ | refine zV ?_ | refine zW ?_ | refine zX ?_ | refine zY ?_) | ((with_reducible first | refine zR ?_ ?_ fun K_ hK_ => ?_ | refine zS ?_ ?_ fun K_ hK_ => ?_); (focus kernel_rfl); (focus kernel_rfl))); first | (simp (maxSteps := 1000000) (disch := refine hold_ ?_; first | (simp [-List.getD_eq_getElem?_getD]; done) | omega) [-List.getD_eq_getElem?_getD]; try first | (with_reducible refine zZ ?_) | subst hK_) | subst hK_) | (with_reducible first | refine zA ?_ | refine zB ?_ | refine zC ?_ | refine zD ?_ | refine zE ?_ | refine zF ?_ | refine zG ?_ | refine zH ?_ | refine zI ?_ | refine zJ ?_ | refine zK ?_ | refine zL ?_ | refine zM ?_ | refine zN ?_ | refine zO ?_) | ((with_reducible refine yG ?_ ?_); (focus decide)) | ((with_reducible refine yA ?_); refine yB rfl ?_; (with_reducible first | refine yC ?_ | refine yD ?_)))
  all_goals (try simp (maxSteps := 1000000) (disch := refine hold_ ?_; first | (simp [-List.getD_eq_getElem?_getD]; done) | omega) [-List.getD_eq_getElem?_getD])
theorem up_no (l : List Nd) (e : List Int) (top : Int) (n : Int) (h : hasB l n = false) : Fn Tryd.prog 27 [docP l e top, .int .i64 n] [.p (.sl (.ints .i64 []) true)] := by
  have k := has_ct l e top n
  rw [h] at k
  generalize docP l e top = D at *
  refine FnG.nilRes (r0 := .vals 1 []) ?_ _ rfl
  refine Fn.of_body Tryd.func27 rfl ?_
  repeat (first | ((with_reducible first | refine callK_at 36 ?_); refine callK_p ?_; simp (maxSteps := 1000000) (disch := refine hold_ ?_; first | (simp [-List.getD_eq_getElem?_getD]; done) | omega) [-List.getD_eq_getElem?_getD]; (first | refine callK1_of (Fn.ct k Tryd.call36) ?_); (try simp (maxSteps := 1000000) (disch := refine hold_ ?_; first | (simp [-List.getD_eq_getElem?_getD]; done) | omega) [-List.getD_eq_getElem?_getD]); try first | (with_reducible refine zZ ?_) | subst hK_) | ((first | (with_reducible first | refine zP fun K_ hK_ => ?_ | refine zQ fun K_ hK_ => ?_ | refine zT ?_ | refine zU ?_ | refine zV ?_ | refine zW ?_ | refine zX ?_ | refine zY ?_) | ((with_reducible first | refine zR ?_ ?_ fun K_ hK_ => ?_ | refine zS ?_ ?_ fun K_ hK_ => ?_); (focus kernel_rfl); (focus kernel_rfl))); first | (simp (maxSteps := 1000000) (disch := refine hold_ ?_; first | (simp [-List.getD_eq_getElem?_getD]; done) | omega) [-List.getD_eq_getElem?_getD]; try first | (with_reducible refine zZ ?_) | subst hK_) | subst hK_) | (with_reducible first | refine zA ?_ | refine zB ?_ | refine zC ?_ | refine zD ?_ | refine zE ?_ | refine zF ?_ | refine zG ?_ | refine zH ?_ | refine zI ?_ | refine zJ ?_ | refine zK ?_ | refine zL ?_ | refine zM ?_ | refine zN ?_ | refine zO ?_) | ((with_reducible refine yG ?_ ?_); (focus decide)) | ((with_reducible refine yA ?_); refine yB rfl ?_; (with_reducible first | refine yC ?_ | refine yD ?_)))
  all_goals (try simp (maxSteps := 1000000) (disch := refine hold_ ?_; first | (simp [-List.getD_eq_getElem?_getD]; done) | omega) [-List.getD_eq_getElem?_getD])
theorem nd0_okN : okN nd0 := ⟨fun _ => rfl, fun _ => rfl, by simp [nd0], by simp [nd0], by simp [nd0], by simp [nd0], by simp [nd0], by simp [nd0], by simp [nd0], by simp [nd0]⟩
theorem upF_len (l : List Nd) : ∀ f p, (upF l f p).length ≤ f
  | 0, p => by simp [upF]
  | f + 1, p => by
    unfold upF
    split
    · simp
    · have := upF_len l f (nd l p.toNat).a; simp; omega
set_option maxRecDepth 16000 in
set_option maxHeartbeats 16000000 in
theorem tells_law (l : List Nd) (nl : Bool) (hl : l.length ≤ 4000000) (hok : ∀ x ∈ l, okN x) (n : Int) (_ : (Lit.int .i64 n).wf = true) : Fn Tryd.prog 7 [.sl (ndR l) nl, .int .i64 n] [.p (.bool true)] := by
  have k10 := few_ct l nl 30 hl
  cases hF : fewB l 30 with
  | false =>
    rw [hF] at k10
    refine Fn.of_body Tryd.func7 rfl ?_
    repeat (first | ((with_reducible first | refine callK_at 9 ?_ | refine callK_at 10 ?_); refine callK_p ?_; simp (maxSteps := 1000000) (disch := refine hold_ ?_; first | (simp [-List.getD_eq_getElem?_getD]; done) | omega) [-List.getD_eq_getElem?_getD]; (first | ((with_reducible refine k1_at 9 ?_); refine callK1_of (Fn.ct awake_ct Tryd.call9) ?_) | ((with_reducible refine k1_at 10 ?_); refine callK1_of (Fn.ct k10 Tryd.call10) ?_)); (try simp (maxSteps := 1000000) (disch := refine hold_ ?_; first | (simp [-List.getD_eq_getElem?_getD]; done) | omega) [-List.getD_eq_getElem?_getD]); try first | (with_reducible refine zZ ?_) | subst hK_) | ((first | (with_reducible first | refine zP fun K_ hK_ => ?_ | refine zQ fun K_ hK_ => ?_ | refine zT ?_ | refine zU ?_ | refine zV ?_ | refine zW ?_ | refine zX ?_ | refine zY ?_) | ((with_reducible first | refine zR ?_ ?_ fun K_ hK_ => ?_ | refine zS ?_ ?_ fun K_ hK_ => ?_); (focus kernel_rfl); (focus kernel_rfl))); first | (simp (maxSteps := 1000000) (disch := refine hold_ ?_; first | (simp [-List.getD_eq_getElem?_getD]; done) | omega) [-List.getD_eq_getElem?_getD]; try first | (with_reducible refine zZ ?_) | subst hK_) | subst hK_) | (with_reducible first | refine zA ?_ | refine zB ?_ | refine zC ?_ | refine zD ?_ | refine zE ?_ | refine zF ?_ | refine zG ?_ | refine zH ?_ | refine zI ?_ | refine zJ ?_ | refine zK ?_ | refine zL ?_ | refine zM ?_ | refine zN ?_ | refine zO ?_) | ((with_reducible refine yG ?_ ?_); (focus decide)) | ((with_reducible refine yA ?_); refine yB rfl ?_; (with_reducible first | refine yC ?_ | refine yD ?_)))
    all_goals (try simp (maxSteps := 1000000) (disch := refine hold_ ?_; first | (simp [-List.getD_eq_getElem?_getD]; done) | omega) [-List.getD_eq_getElem?_getD])
  | true =>
  rw [hF] at k10
  cases hD : formdB l with
  | false =>
    have k11 := of_bad l nl hl hok hD
    refine Fn.of_body Tryd.func7 rfl ?_
    repeat (first | ((with_reducible first | refine callK_at 9 ?_ | refine callK_at 10 ?_ | refine callK_at 11 ?_ | refine callK_at 17 ?_ | refine callK_at 20 ?_); refine callK_p ?_; simp (maxSteps := 1000000) (disch := refine hold_ ?_; first | (simp [-List.getD_eq_getElem?_getD]; done) | omega) [-List.getD_eq_getElem?_getD]; (first | ((with_reducible refine k1_at 9 ?_); refine callK1_of (Fn.ct awake_ct Tryd.call9) ?_) | ((with_reducible refine k1_at 10 ?_); refine callK1_of (Fn.ct k10 Tryd.call10) ?_) | ((with_reducible refine k1_at 11 ?_); refine callK1_of (Fn.ct k11 Tryd.call11) ?_) | ((with_reducible refine k1_at 17 ?_); refine callK1_of (Fn.ct len_nil Tryd.call17) ?_) | ((with_reducible refine k1_at 20 ?_); refine callK1_of (Fn.ct nodes_nil Tryd.call20) ?_)); (try simp (maxSteps := 1000000) (disch := refine hold_ ?_; first | (simp [-List.getD_eq_getElem?_getD]; done) | omega) [-List.getD_eq_getElem?_getD]); try first | (with_reducible refine zZ ?_) | subst hK_) | ((first | (with_reducible first | refine zP fun K_ hK_ => ?_ | refine zQ fun K_ hK_ => ?_ | refine zT ?_ | refine zU ?_ | refine zV ?_ | refine zW ?_ | refine zX ?_ | refine zY ?_) | ((with_reducible first | refine zR ?_ ?_ fun K_ hK_ => ?_ | refine zS ?_ ?_ fun K_ hK_ => ?_); (focus kernel_rfl); (focus kernel_rfl))); first | (simp (maxSteps := 1000000) (disch := refine hold_ ?_; first | (simp [-List.getD_eq_getElem?_getD]; done) | omega) [-List.getD_eq_getElem?_getD]; try first | (with_reducible refine zZ ?_) | subst hK_) | subst hK_) | (with_reducible first | refine zA ?_ | refine zB ?_ | refine zC ?_ | refine zD ?_ | refine zE ?_ | refine zF ?_ | refine zG ?_ | refine zH ?_ | refine zI ?_ | refine zJ ?_ | refine zK ?_ | refine zL ?_ | refine zM ?_ | refine zN ?_ | refine zO ?_) | ((with_reducible refine yG ?_ ?_); (focus decide)) | ((with_reducible refine yA ?_); refine yB rfl ?_; (with_reducible first | refine yC ?_ | refine yD ?_)))
    all_goals (try simp (maxSteps := 1000000) (disch := refine hold_ ?_; first | (simp [-List.getD_eq_getElem?_getD]; done) | omega) [-List.getD_eq_getElem?_getD])
  | true =>
  cases hW : withB l with
  | false =>
    have k11 := of_lim l nl hl hok hD hW
    refine Fn.of_body Tryd.func7 rfl ?_
    repeat (first | ((with_reducible first | refine callK_at 9 ?_ | refine callK_at 10 ?_ | refine callK_at 11 ?_ | refine callK_at 17 ?_ | refine callK_at 20 ?_); refine callK_p ?_; simp (maxSteps := 1000000) (disch := refine hold_ ?_; first | (simp [-List.getD_eq_getElem?_getD]; done) | omega) [-List.getD_eq_getElem?_getD]; (first | ((with_reducible refine k1_at 9 ?_); refine callK1_of (Fn.ct awake_ct Tryd.call9) ?_) | ((with_reducible refine k1_at 10 ?_); refine callK1_of (Fn.ct k10 Tryd.call10) ?_) | ((with_reducible refine k1_at 11 ?_); refine callK1_of (Fn.ct k11 Tryd.call11) ?_) | ((with_reducible refine k1_at 17 ?_); refine callK1_of (Fn.ct len_nil Tryd.call17) ?_) | ((with_reducible refine k1_at 20 ?_); refine callK1_of (Fn.ct nodes_nil Tryd.call20) ?_)); (try simp (maxSteps := 1000000) (disch := refine hold_ ?_; first | (simp [-List.getD_eq_getElem?_getD]; done) | omega) [-List.getD_eq_getElem?_getD]); try first | (with_reducible refine zZ ?_) | subst hK_) | ((first | (with_reducible first | refine zP fun K_ hK_ => ?_ | refine zQ fun K_ hK_ => ?_ | refine zT ?_ | refine zU ?_ | refine zV ?_ | refine zW ?_ | refine zX ?_ | refine zY ?_) | ((with_reducible first | refine zR ?_ ?_ fun K_ hK_ => ?_ | refine zS ?_ ?_ fun K_ hK_ => ?_); (focus kernel_rfl); (focus kernel_rfl))); first | (simp (maxSteps := 1000000) (disch := refine hold_ ?_; first | (simp [-List.getD_eq_getElem?_getD]; done) | omega) [-List.getD_eq_getElem?_getD]; try first | (with_reducible refine zZ ?_) | subst hK_) | subst hK_) | (with_reducible first | refine zA ?_ | refine zB ?_ | refine zC ?_ | refine zD ?_ | refine zE ?_ | refine zF ?_ | refine zG ?_ | refine zH ?_ | refine zI ?_ | refine zJ ?_ | refine zK ?_ | refine zL ?_ | refine zM ?_ | refine zN ?_ | refine zO ?_) | ((with_reducible refine yG ?_ ?_); (focus decide)) | ((with_reducible refine yA ?_); refine yB rfl ?_; (with_reducible first | refine yC ?_ | refine yD ?_)))
    all_goals (try simp (maxSteps := 1000000) (disch := refine hold_ ?_; first | (simp [-List.getD_eq_getElem?_getD]; done) | omega) [-List.getD_eq_getElem?_getD])
  | true =>
  have k11 := of_ok l nl hl hok hD hW
  have hS := formd_stood l hD
  have h0l := (formd_pOk l hD).1
  have hcnt : cntT l l.length = 1 := by
    unfold formdB at hD
    rw [Bool.and_eq_true, Bool.and_eq_true, Bool.and_eq_true] at hD
    simpa using hD.2.2.2
  have k17 := len_ct l (endR l l.length) (topN l l.length : Nat)
  have k23 := top_ct l (endR l l.length) (topN l l.length : Nat)
  have k13 := rtop_ct nl hcnt hl
  have k20 := nodes_ct l (endR l l.length) (topN l l.length : Nat) h0l hl hok
  have k19 := same_ct l false nl hl hok
  have k18 := fun m hm => node_ct l (endR l l.length) (topN l l.length : Nat) m hm hok
  have k24 := fun m (hm : m < l.length) => one2_ct (nd l m) (hok _ (mem_getD l m default hm))
  have k21 := fun m hm => kids_ct hS hl (topN l l.length : Nat) m hm
  have k26 := fun m hm => rkids_ct hS nl hl m hm
  have k27 := fun m hm => up_ct hS.p (endR l l.length) (topN l l.length : Nat) hl m hm
  have k28 := fun m hm => rup_ct hS.p nl hl m hm
  have k22 := fun m hm => endE_ct hS (topN l l.length : Nat) m hm
  have k14 := fun m hm => rend_ct l nl hl hS.p m hm
  have hkl2 : ∀ m, (kidsI l m).length ≤ 4000000 := fun m => by
    have : ∀ f m', (kdF l (en l m) f m').length ≤ f := by
      intro f
      induction f with
      | zero => intro m'; simp [kdF]
      | succ f ih => intro m'; unfold kdF; split; have := ih (en l m'); simp; omega; simp
    have := this l.length (m + 1)
    unfold kidsI kidsL; simp; omega
  have k25k := fun m => ints_ct (kidsI l m) (kidsI l m == []) (kidsI l m == []) (hkl2 m)
  have k25u := fun m (hm : m < l.length) => ints_ct (upsI l m) (upsI l m == []) (upsI l m == []) (by have := upF_len l (m + 1) (nd l m).a; unfold upsI; omega)
  have n18 := fun h => node_no l (endR l l.length) (topN l l.length : Nat) n h
  have n21 := fun h => kids_no l (endR l l.length) (topN l l.length : Nat) n h
  have n27 := fun h => up_no l (endR l l.length) (topN l l.length : Nat) n h
  have n22 := fun h => end_no l (endR l l.length) (topN l l.length : Nat) n h
  generalize docP l (endR l l.length) (topN l l.length : Nat) = D at *
  refine Fn.of_body Tryd.func7 rfl ?_
  repeat (first | ((with_reducible first | refine callK_at 9 ?_ | refine callK_at 10 ?_ | refine callK_at 11 ?_ | refine callK_at 17 ?_ | refine callK_at 23 ?_ | refine callK_at 13 ?_ | refine callK_at 20 ?_ | refine callK_at 19 ?_); refine callK_p ?_; simp (maxSteps := 1000000) (disch := refine hold_ ?_; first | (simp [-List.getD_eq_getElem?_getD]; done) | omega) [-List.getD_eq_getElem?_getD]; (first | ((with_reducible refine k1_at 9 ?_); refine callK1_of (Fn.ct awake_ct Tryd.call9) ?_) | ((with_reducible refine k1_at 10 ?_); refine callK1_of (Fn.ct k10 Tryd.call10) ?_) | ((with_reducible refine k1_at 11 ?_); refine callK1_of (Fn.ct k11 Tryd.call11) ?_) | ((with_reducible refine k1_at 17 ?_); refine callK1_of (Fn.ct k17 Tryd.call17) ?_) | ((with_reducible refine k1_at 23 ?_); refine callK1_of (Fn.ct k23 Tryd.call23) ?_) | ((with_reducible refine k1_at 13 ?_); refine callK1_of (Fn.ct k13 Tryd.call13) ?_) | ((with_reducible refine k1_at 20 ?_); refine callK1_of (Fn.ct k20 Tryd.call20) ?_) | ((with_reducible refine k1_at 19 ?_); refine callK1_of (Fn.ct k19 Tryd.call19) ?_)); (try simp (maxSteps := 1000000) (disch := refine hold_ ?_; first | (simp [-List.getD_eq_getElem?_getD]; done) | omega) [-List.getD_eq_getElem?_getD]); try first | (with_reducible refine zZ ?_) | subst hK_) | ((first | (with_reducible first | refine zP fun K_ hK_ => ?_ | refine zQ fun K_ hK_ => ?_ | refine zT ?_ | refine zU ?_ | refine zV ?_ | refine zW ?_ | refine zX ?_ | refine zY ?_) | ((with_reducible first | refine zR ?_ ?_ fun K_ hK_ => ?_ | refine zS ?_ ?_ fun K_ hK_ => ?_); (focus kernel_rfl); (focus kernel_rfl))); first | (simp (maxSteps := 1000000) (disch := refine hold_ ?_; first | (simp [-List.getD_eq_getElem?_getD]; done) | omega) [-List.getD_eq_getElem?_getD]; try first | (with_reducible refine zZ ?_) | subst hK_) | subst hK_) | (with_reducible first | refine zA ?_ | refine zB ?_ | refine zC ?_ | refine zD ?_ | refine zE ?_ | refine zF ?_ | refine zG ?_ | refine zH ?_ | refine zI ?_ | refine zJ ?_ | refine zK ?_ | refine zL ?_ | refine zM ?_ | refine zN ?_ | refine zO ?_) | ((with_reducible refine yG ?_ ?_); (focus decide)) | ((with_reducible refine yA ?_); refine yB rfl ?_; (with_reducible first | refine yC ?_ | refine yD ?_)))
  clear k10 k11 k17 k23 k13 k20 k19
  refine AW.iter (true :: true :: false :: false :: false :: true :: false :: false :: false :: false :: false :: false :: false :: false :: false :: false :: false :: false :: false :: false :: false :: false :: false :: false :: false :: false :: false :: false :: false :: false :: false :: false :: false :: false :: false :: false :: false :: false :: false :: false :: false :: false :: false :: false :: false :: false :: false :: false :: false :: false :: false :: false :: false :: false :: false :: false :: false :: true :: true :: false :: false :: false :: false :: false :: false :: false :: false :: false :: false :: false :: false :: false :: false :: false :: false :: false :: false :: false :: false :: false :: false :: false :: false :: false :: false :: false :: false :: false :: false :: false :: false :: false :: false :: false :: false :: false :: false :: false :: false :: false :: false :: false :: false :: false :: false :: false :: false :: false :: false :: false :: false :: false :: false :: false :: false :: false :: false :: false :: false :: false :: false :: false :: false :: false :: false :: false :: false :: false :: false :: false :: false :: false :: []) l.length (fun k => ⟨(.p (.sl (ndR l) nl) :: .p (.int .i64 n) :: V.junk :: V.junk :: V.junk :: .p D :: V.junk :: V.junk :: V.junk :: V.junk :: V.junk :: V.junk :: V.junk :: V.junk :: V.junk :: V.junk :: V.junk :: V.junk :: V.junk :: V.junk :: V.junk :: V.junk :: V.junk :: V.junk :: V.junk :: V.junk :: V.junk :: V.junk :: V.junk :: V.junk :: V.junk :: V.junk :: V.junk :: V.junk :: V.junk :: V.junk :: V.junk :: V.junk :: V.junk :: V.junk :: V.junk :: V.junk :: V.junk :: V.junk :: V.junk :: V.junk :: V.junk :: V.junk :: V.junk :: V.junk :: V.junk :: V.junk :: V.junk :: V.junk :: V.junk :: V.junk :: V.junk :: .p (.int .i64 l.length) :: .p (.int .i64 k) :: V.junk :: V.junk :: V.junk :: V.junk :: V.junk :: V.junk :: V.junk :: V.junk :: V.junk :: V.junk :: V.junk :: V.junk :: V.junk :: V.junk :: V.junk :: V.junk :: V.junk :: V.junk :: V.junk :: V.junk :: V.junk :: V.junk :: V.junk :: V.junk :: V.junk :: V.junk :: V.junk :: V.junk :: V.junk :: V.junk :: V.junk :: V.junk :: V.junk :: V.junk :: V.junk :: V.junk :: V.junk :: V.junk :: V.junk :: V.junk :: V.junk :: V.junk :: V.junk :: V.junk :: V.junk :: V.junk :: V.junk :: V.junk :: V.junk :: V.junk :: V.junk :: V.junk :: V.junk :: V.junk :: V.junk :: V.junk :: V.junk :: V.junk :: V.junk :: V.junk :: V.junk :: V.junk :: V.junk :: V.junk :: V.junk :: V.junk :: V.junk :: V.junk :: V.junk :: V.junk :: V.junk :: V.junk :: V.junk :: []), ⟨[], []⟩⟩) ?_ ?_
  · simp (maxSteps := 1000000) (disch := refine hold_ ?_; first | (simp [-List.getD_eq_getElem?_getD]; done) | omega) [-List.getD_eq_getElem?_getD]
  intro k hk
  have e0 := wrap_succ k l.length hk (by omega)
  by_cases hkm : k < l.length
  · have hkz : (k : Int) < l.length := by omega
    have he := nd_elem l k hkm
    have c18 := k18 k hkm
    have c24 := k24 k hkm
    have c21 := k21 k hkm
    have c26 := k26 k hkm
    have c27 := k27 k hkm
    have c28 := k28 k hkm
    have c22 := k22 k hkm
    have c14 := k14 k hkm
    have ck := k25k k
    have cu := k25u k hkm
    clear k18 k24 k21 k26 k27 k28 k22 k14 k25k k25u n18 n21 n27 n22 hkl2
    generalize ndP (nd l k) = X at *
    generalize (kidsI l k == []) = b1 at *
    generalize (upsI l k == []) = b2 at *
    generalize kidsI l k = K at *
    generalize upsI l k = U at *
    generalize en l k = EN at *
    repeat (first | ((with_reducible first | refine callK_at 18 ?_ | refine callK_at 24 ?_ | refine callK_at 21 ?_ | refine callK_at 26 ?_ | refine callK_at 27 ?_ | refine callK_at 28 ?_ | refine callK_at 22 ?_ | refine callK_at 14 ?_ | refine callK_at 25 ?_); refine callK_p ?_; simp (maxSteps := 1000000) (disch := refine hold_ ?_; first | (simp [hkm, hkz, he, e0, -List.getD_eq_getElem?_getD]; done) | omega) [hkm, hkz, he, e0, -List.getD_eq_getElem?_getD]; (first | ((with_reducible refine k1_at 18 ?_); refine callK1_of (Fn.ct c18 Tryd.call18) ?_) | ((with_reducible refine k1_at 24 ?_); refine callK1_of (Fn.ct c24 Tryd.call24) ?_) | ((with_reducible refine k1_at 21 ?_); refine callK1_of (Fn.ct c21 Tryd.call21) ?_) | ((with_reducible refine k1_at 26 ?_); refine callK1_of (Fn.ct c26 Tryd.call26) ?_) | ((with_reducible refine k1_at 27 ?_); refine callK1_of (Fn.ct c27 Tryd.call27) ?_) | ((with_reducible refine k1_at 28 ?_); refine callK1_of (Fn.ct c28 Tryd.call28) ?_) | ((with_reducible refine k1_at 22 ?_); refine callK1_of (Fn.ct c22 Tryd.call22) ?_) | ((with_reducible refine k1_at 14 ?_); refine callK1_of (Fn.ct c14 Tryd.call14) ?_) | ((with_reducible refine k1_at 25 ?_); refine callK1_of (Fn.ct ck Tryd.call25) ?_) | ((with_reducible refine k1_at 25 ?_); refine callK1_of (Fn.ct cu Tryd.call25) ?_)); (try simp (maxSteps := 1000000) (disch := refine hold_ ?_; first | (simp [hkm, hkz, he, e0, -List.getD_eq_getElem?_getD]; done) | omega) [hkm, hkz, he, e0, -List.getD_eq_getElem?_getD]); try first | (with_reducible refine zZ ?_) | subst hK_) | ((first | (with_reducible first | refine zP fun K_ hK_ => ?_ | refine zQ fun K_ hK_ => ?_ | refine zT ?_ | refine zU ?_ | refine zV ?_ | refine zW ?_ | refine zX ?_ | refine zY ?_) | ((with_reducible first | refine zR ?_ ?_ fun K_ hK_ => ?_ | refine zS ?_ ?_ fun K_ hK_ => ?_); (focus kernel_rfl); (focus kernel_rfl))); first | (simp (maxSteps := 1000000) (disch := refine hold_ ?_; first | (simp [hkm, hkz, he, e0, -List.getD_eq_getElem?_getD]; done) | omega) [hkm, hkz, he, e0, -List.getD_eq_getElem?_getD]; try first | (with_reducible refine zZ ?_) | subst hK_) | subst hK_) | (with_reducible first | refine zA ?_ | refine zB ?_ | refine zC ?_ | refine zD ?_ | refine zE ?_ | refine zF ?_ | refine zG ?_ | refine zH ?_ | refine zI ?_ | refine zJ ?_ | refine zK ?_ | refine zL ?_ | refine zM ?_ | refine zN ?_ | refine zO ?_) | ((with_reducible refine yG ?_ ?_); (focus decide)) | ((with_reducible refine yA ?_); refine yB rfl ?_; (with_reducible first | refine yC ?_ | refine yD ?_)))
    refine ⟨hkm, ?_⟩
    simp (maxSteps := 1000000) (disch := refine hold_ ?_; first | (simp [-List.getD_eq_getElem?_getD]; done) | omega) [-List.getD_eq_getElem?_getD]
  · have hkz : ¬ (k : Int) < l.length := by omega
    clear k18 k24 k21 k26 k27 k28 k22 k14 k25k k25u hkl2
    by_cases h0 : 0 ≤ n
    · by_cases h1 : n < l.length
      · repeat (first | ((first | (with_reducible first | refine zP fun K_ hK_ => ?_ | refine zQ fun K_ hK_ => ?_ | refine zT ?_ | refine zU ?_ | refine zV ?_ | refine zW ?_ | refine zX ?_ | refine zY ?_) | ((with_reducible first | refine zR ?_ ?_ fun K_ hK_ => ?_ | refine zS ?_ ?_ fun K_ hK_ => ?_); (focus kernel_rfl); (focus kernel_rfl))); first | (simp (maxSteps := 1000000) (disch := refine hold_ ?_; first | (simp [hkz, h0, h1, -List.getD_eq_getElem?_getD]; done) | omega) [hkz, h0, h1, -List.getD_eq_getElem?_getD]; try first | (with_reducible refine zZ ?_) | subst hK_) | subst hK_) | (with_reducible first | refine zA ?_ | refine zB ?_ | refine zC ?_ | refine zD ?_ | refine zE ?_ | refine zF ?_ | refine zG ?_ | refine zH ?_ | refine zI ?_ | refine zJ ?_ | refine zK ?_ | refine zL ?_ | refine zM ?_ | refine zN ?_ | refine zO ?_) | ((with_reducible refine yG ?_ ?_); (focus decide)) | ((with_reducible refine yA ?_); refine yB rfl ?_; (with_reducible first | refine yC ?_ | refine yD ?_)))
        all_goals (try simp (maxSteps := 1000000) (disch := refine hold_ ?_; first | (simp [-List.getD_eq_getElem?_getD]; done) | omega) [-List.getD_eq_getElem?_getD])
      · have hh : hasB l n = false := by unfold hasB; rw [decide_eq_false h1, Bool.and_false]
        have m18 := n18 hh
        have m21 := n21 hh
        have m27 := n27 hh
        have m22 := n22 hh
        have c24 : Ct Tryd.prog 24 _ [] 0 _ [] 0 := Ct.args (Fn.ct (one2_ct nd0 nd0_okN) Tryd.call24) (.cons (PEq.refl _) (.cons zero_nd .nil))
        generalize ndP nd0 = Z at *
        repeat (first | ((with_reducible first | refine callK_at 18 ?_ | refine callK_at 24 ?_ | refine callK_at 21 ?_ | refine callK_at 27 ?_ | refine callK_at 22 ?_); refine callK_p ?_; simp (maxSteps := 1000000) (disch := refine hold_ ?_; first | (simp [hkz, h0, h1, -List.getD_eq_getElem?_getD]; done) | omega) [hkz, h0, h1, -List.getD_eq_getElem?_getD]; (first | ((with_reducible refine k1_at 18 ?_); refine callK1_of (Fn.ct m18 Tryd.call18) ?_) | ((with_reducible refine k1_at 24 ?_); refine callK1_of (c24) ?_) | ((with_reducible refine k1_at 21 ?_); refine callK1_of (Fn.ct m21 Tryd.call21) ?_) | ((with_reducible refine k1_at 27 ?_); refine callK1_of (Fn.ct m27 Tryd.call27) ?_) | ((with_reducible refine k1_at 22 ?_); refine callK1_of (Fn.ct m22 Tryd.call22) ?_)); (try simp (maxSteps := 1000000) (disch := refine hold_ ?_; first | (simp [hkz, h0, h1, -List.getD_eq_getElem?_getD]; done) | omega) [hkz, h0, h1, -List.getD_eq_getElem?_getD]); try first | (with_reducible refine zZ ?_) | subst hK_) | ((first | (with_reducible first | refine zP fun K_ hK_ => ?_ | refine zQ fun K_ hK_ => ?_ | refine zT ?_ | refine zU ?_ | refine zV ?_ | refine zW ?_ | refine zX ?_ | refine zY ?_) | ((with_reducible first | refine zR ?_ ?_ fun K_ hK_ => ?_ | refine zS ?_ ?_ fun K_ hK_ => ?_); (focus kernel_rfl); (focus kernel_rfl))); first | (simp (maxSteps := 1000000) (disch := refine hold_ ?_; first | (simp [hkz, h0, h1, -List.getD_eq_getElem?_getD]; done) | omega) [hkz, h0, h1, -List.getD_eq_getElem?_getD]; try first | (with_reducible refine zZ ?_) | subst hK_) | subst hK_) | (with_reducible first | refine zA ?_ | refine zB ?_ | refine zC ?_ | refine zD ?_ | refine zE ?_ | refine zF ?_ | refine zG ?_ | refine zH ?_ | refine zI ?_ | refine zJ ?_ | refine zK ?_ | refine zL ?_ | refine zM ?_ | refine zN ?_ | refine zO ?_) | ((with_reducible refine yG ?_ ?_); (focus decide)) | ((with_reducible refine yA ?_); refine yB rfl ?_; (with_reducible first | refine yC ?_ | refine yD ?_)))
        all_goals (try simp (maxSteps := 1000000) (disch := refine hold_ ?_; first | (simp [-List.getD_eq_getElem?_getD]; done) | omega) [-List.getD_eq_getElem?_getD])
        all_goals (try rfl)
    · have hh : hasB l n = false := by unfold hasB; rw [decide_eq_false h0]; rfl
      have m18 := n18 hh
      have m21 := n21 hh
      have m27 := n27 hh
      have m22 := n22 hh
      have c24 : Ct Tryd.prog 24 _ [] 0 _ [] 0 := Ct.args (Fn.ct (one2_ct nd0 nd0_okN) Tryd.call24) (.cons (PEq.refl _) (.cons zero_nd .nil))
      generalize ndP nd0 = Z at *
      repeat (first | ((with_reducible first | refine callK_at 18 ?_ | refine callK_at 24 ?_ | refine callK_at 21 ?_ | refine callK_at 27 ?_ | refine callK_at 22 ?_); refine callK_p ?_; simp (maxSteps := 1000000) (disch := refine hold_ ?_; first | (simp [hkz, h0, -List.getD_eq_getElem?_getD]; done) | omega) [hkz, h0, -List.getD_eq_getElem?_getD]; (first | ((with_reducible refine k1_at 18 ?_); refine callK1_of (Fn.ct m18 Tryd.call18) ?_) | ((with_reducible refine k1_at 24 ?_); refine callK1_of (c24) ?_) | ((with_reducible refine k1_at 21 ?_); refine callK1_of (Fn.ct m21 Tryd.call21) ?_) | ((with_reducible refine k1_at 27 ?_); refine callK1_of (Fn.ct m27 Tryd.call27) ?_) | ((with_reducible refine k1_at 22 ?_); refine callK1_of (Fn.ct m22 Tryd.call22) ?_)); (try simp (maxSteps := 1000000) (disch := refine hold_ ?_; first | (simp [hkz, h0, -List.getD_eq_getElem?_getD]; done) | omega) [hkz, h0, -List.getD_eq_getElem?_getD]); try first | (with_reducible refine zZ ?_) | subst hK_) | ((first | (with_reducible first | refine zP fun K_ hK_ => ?_ | refine zQ fun K_ hK_ => ?_ | refine zT ?_ | refine zU ?_ | refine zV ?_ | refine zW ?_ | refine zX ?_ | refine zY ?_) | ((with_reducible first | refine zR ?_ ?_ fun K_ hK_ => ?_ | refine zS ?_ ?_ fun K_ hK_ => ?_); (focus kernel_rfl); (focus kernel_rfl))); first | (simp (maxSteps := 1000000) (disch := refine hold_ ?_; first | (simp [hkz, h0, -List.getD_eq_getElem?_getD]; done) | omega) [hkz, h0, -List.getD_eq_getElem?_getD]; try first | (with_reducible refine zZ ?_) | subst hK_) | subst hK_) | (with_reducible first | refine zA ?_ | refine zB ?_ | refine zC ?_ | refine zD ?_ | refine zE ?_ | refine zF ?_ | refine zG ?_ | refine zH ?_ | refine zI ?_ | refine zJ ?_ | refine zK ?_ | refine zL ?_ | refine zM ?_ | refine zN ?_ | refine zO ?_) | ((with_reducible refine yG ?_ ?_); (focus decide)) | ((with_reducible refine yA ?_); refine yB rfl ?_; (with_reducible first | refine yC ?_ | refine yD ?_)))
      all_goals (try simp (maxSteps := 1000000) (disch := refine hold_ ?_; first | (simp [-List.getD_eq_getElem?_getD]; done) | omega) [-List.getD_eq_getElem?_getD])
      all_goals (try rfl)
end Go.Av.Doc
end
section
set_option linter.unusedSimpArgs false
set_option linter.unusedVariables false
set_option linter.unusedSectionVars false
open Go Go.Av Go.Proofs
namespace Go.Av
section
open Go.ChangeShapes Go.WideShapes Go.ChangeAt
variable {P : Program} {H : Type} {enc : TypeId × Value → H} {w : World} {base : Nat} {spare : Nat → Bool} {held : Bool}
def PartsOf (m : Nat → Nat → Option Value) (s : Nat) (ps : List PV) (cs : List Value) : Prop :=
  ps.length = s ∧ ∀ j, j < s → ∃ v, cs[j]? = some v ∧ RepP m (ps.getD j .ptr0) v ∧ (ps.getD j .ptr0).one = true
theorem open_rows {X : Type} [Inhabited X] (pv : X → List PV) (bk : X → DataW H → Prop) {t e s fuel : Nat} {cs : List Value} {x : DataW H × List MemPlace} (ht : P.underlying t = some (.slice e)) (hc : P.cellsOf e = s) (hs : 0 < s)
    (elem : ∀ n cs d pl, DataW.trod enc P w base spare held n e cs = some (d, pl) → ∃ x, PartsOf (cellsOf w) s (pv x) cs ∧ bk x d)
    (h : DataW.trod enc P w base spare held fuel t cs = some x) :
    ∃ (v : Value) (l : List X) (nl : Bool) (es : List (DataW H)), cs = [v] ∧ RepP (cellsOf w) (.sl (.vals s (l.map fun x => agP (pv x))) nl) v ∧ (nl = true → l = []) ∧ l.length ≤ maxLen ∧
      es.length = l.length ∧ (l = [] ∨ ∃ rest, x.1 = .slice es rest) ∧ ∀ i, i < l.length → bk (l.getD i default) (es.getD i .nil) := by
  rcases Go.Deep.open_slice ht h with ⟨rfl, rfl⟩ | ⟨a, len, cap, m, n, D, Pl, rfl, hb, hl, hm, hmm, rfl, hx⟩
  · exact ⟨_, [], true, [], rfl, .slNil _ rfl, fun _ => rfl, Nat.zero_le _, rfl, .inl rfl, fun i hi => by simp at hi⟩
  have hlm : len ≤ m := by rw [hmm]; split <;> omega
  have each : ∀ i, i < len → ∃ q : X, ∀ j, j < s → (∃ v, w.cell? (a.add (i * s + j)) = some v ∧ RepP (cellsOf w) ((pv q).getD j .ptr0) v ∧ ((pv q).getD j .ptr0).one = true) ∧ (pv q).length = s ∧ bk q (D i) := by
    intro i hi
    obtain ⟨cs', h1, h2⟩ := hx i (by omega)
    rw [hc] at h1
    obtain ⟨_, hlen, hcell⟩ := World.cells?_some h1
    obtain ⟨q, ⟨q1, q2⟩, q3⟩ := elem _ _ _ _ h2
    refine ⟨q, fun j hj => ⟨?_, q1, q3⟩⟩
    obtain ⟨v, hv, r, o⟩ := q2 j hj
    refine ⟨v, ?_, r, o⟩
    rw [← hv, ← hcell j hj, Go.Deep.add_add]
  obtain ⟨q, hq⟩ := Go.Deep.choose_lt each
  let l := (List.range len).map q
  have hll : l.length = len := by simp [l]
  have hlg : ∀ i, i < len → l.getD i default = q i := fun i hi => by simp [l, List.getD_eq_getElem?_getD, hi]
  refine ⟨_, l, false, (List.range len).map D, rfl, ?_, (fun h => absurd h (by decide)), by omega, by simp [l], .inr ⟨_, rfl⟩, ?_⟩
  · have hlen : (Row.vals s (l.map fun x => agP (pv x)) : Row PV).len = len := by simp [Row.len, l]
    have hel : ∀ i, i < len → (Row.vals s (l.map fun x => agP (pv x)) : Row PV).elem i = agP (pv (q i)) := fun i hi => by
      simp [Row.elem, l, List.getD_eq_getElem?_getD, hi]
    have fv : ∀ i, i < len → ∀ j, j < s → ∃ v, w.cell? (a.add (i * s + j)) = some v ∧ RepP (cellsOf w) ((pv (q i)).getD j .ptr0) v ∧ ((pv (q i)).getD j .ptr0).one = true := fun i hi j hj => (hq i hi j hj).1
    have := RepP.sl (m := cellsOf w) (.vals s (l.map fun x => agP (pv x))) a cap (fun i j => if hij : i < len ∧ j < s then (fv i hij.1 j hij.2).choose else undef) (by rw [hlen]; exact hl) ?_ ?_ ?_ ?_ ?_
    · rw [hlen] at this; exact this
    · by_cases h0 : len = 0
      · left; rw [hlen]; exact h0
      · right
        obtain ⟨v, hv, _⟩ := fv 0 (by omega) 0 hs
        have := World.cell?_spot hv
        simpa [Addr.add] using this
    · intro i hi
      rw [hlen] at hi
      rw [hel i hi]
      exact (hq i hi 0 hs).2.1
    · intro i j hi hj
      rw [hlen] at hi
      have hj : j < s := hj
      simp only [dif_pos (And.intro hi hj)]
      have hv := (fv i hi j hj).choose_spec.1
      have := cell_add hv
      show cellsOf w a.block (a.off + i * s + j) = _
      rw [Nat.add_assoc]; exact this
    · intro i j hi hj
      rw [hlen] at hi
      have hj : j < s := hj
      rw [hel i hi, agP_cell]
      exact (fv i hi j hj).choose_spec.2.2
    · intro i j hi hj
      rw [hlen] at hi
      have hj : j < s := hj
      simp only [dif_pos (And.intro hi hj)]
      rw [hel i hi, agP_cell]
      exact (fv i hi j hj).choose_spec.2.1
  · intro i hi
    rw [hll] at hi
    rw [hlg i hi]
    have : ((List.range len).map D).getD i .nil = D i := by simp [List.getD_eq_getElem?_getD, hi]
    rw [this]
    exact (hq i hi 0 hs).2.2
end
end Go.Av
namespace Go.Av.Doc
section
open Go.ChangeShapes Go.WideShapes Go.ChangeAt
open Go.Proofs.YtkphnlnphenphaaDoor
variable {H : Type} {enc : TypeId × Value → H} {w : World} {base : Nat} {spare : Nat → Bool} {held : Bool}
theorem bulk_part {d : DataW H} {l : List (DataW H)} (h : d ∈ l) : Rows.uptoBulk d ≤ Rows.uptoBulkAll l := by
  induction l with
  | nil => cases h
  | cons x r ih =>
    simp only [Rows.uptoBulkAll]
    rcases List.mem_cons.1 h with e | e
    · subst e; omega
    · have := ih e; omega
theorem bulk_pos (d : DataW H) : 1 ≤ Rows.uptoBulk d := by
  cases d with
  | lit l => cases l <;> simp [Rows.uptoBulk]
  | _ => simp [Rows.uptoBulk]
theorem bulk_len (l : List (DataW H)) : l.length ≤ Rows.uptoBulkAll l := by
  induction l with
  | nil => simp [Rows.uptoBulkAll]
  | cons x r ih => have := bulk_pos x; simp only [Rows.uptoBulkAll, List.length_cons]; omega
theorem bulk_slice {es rest : List (DataW H)} : Rows.uptoBulkAll es ≤ Rows.uptoBulk (.slice es rest) := by simp only [Rows.uptoBulk]; omega
theorem open_txt {n : Nat} {cs : List Value} {x : DataW H × List MemPlace} (h : DataW.trod enc Tryd.prog w base spare held n 9 cs = some x) :
    ∃ s : List (BitVec 8), cs = [.string (txt s)] ∧ (Rows.uptoBulk x.1 ≤ 1048576 → s.length ≤ 4000000) := by
  obtain ⟨s, rfl, rfl, _⟩ := DataW.trod_string Tryd.underlying9 h
  obtain ⟨l, rfl⟩ := txt_of s
  refine ⟨l, rfl, fun hb => ?_⟩
  have : Rows.uptoBulk (DataW.lit (H := H) (.string (txt l).data.toList)) = l.length + 1 := by
    simp [Rows.uptoBulk, txt_list]
  rw [this] at hb; omega
instance : Inhabited Dc := ⟨⟨[], []⟩⟩
instance : Inhabited At := ⟨at0⟩
def dcV (d : Dc) : List PV := [.str (txt d.p), .str (txt d.u)]
def atV (a : At) : List PV := [.str (txt a.p), .str (txt a.l), .str (txt a.u), .str (txt a.v)]
def ndV (x : Nd) : List PV := [.int .i64 x.k, .int .i64 x.a, .str (txt x.p), .str (txt x.l), .str (txt x.u), .str (txt x.t), .sl (dcR x.ds) x.dn, .sl (atR x.ms) x.mn]
theorem open_dc {n : Nat} {cs : List Value} {d : DataW H} {pl : List MemPlace} (h : DataW.trod enc Tryd.prog w base spare held n 45 cs = some (d, pl)) :
    ∃ x : Dc, PartsOf (cellsOf w) 2 (dcV x) cs ∧ (Rows.uptoBulk d ≤ 1048576 → okD x) := by
  obtain ⟨xs, k, _, hx, hl, hxl, hf⟩ := DataW.trod_struct Tryd.underlying45 h
  have hc : Tryd.prog.cellsOf 45 = 2 := by kernel_rfl
  have h9 : Tryd.prog.cellsOf 9 = 1 := by kernel_rfl
  rw [hc] at hl
  match xs, hxl, cs, hl with
  | [y0, y1], _, [v0, v1], _ =>
    have g0 := hf 0 _ rfl
    have g1 := hf 1 _ rfl
    simp only [h9, List.drop_zero, List.take_succ_cons, List.take_zero, List.drop_succ_cons, List.getElem?_cons_zero, List.getElem?_cons_succ] at g0 g1
    obtain ⟨s0, e0, b0⟩ := open_txt g0
    obtain ⟨s1, e1, b1⟩ := open_txt g1
    obtain rfl : v0 = .string (txt s0) := by simpa [h9] using e0
    obtain rfl : v1 = .string (txt s1) := by simpa [h9] using e1
    obtain rfl : d = .agg [y0.1, y1.1] := by simpa using congrArg Prod.fst hx
    refine ⟨⟨s0, s1⟩, ⟨rfl, fun j hj => ?_⟩, fun hb => ?_⟩
    · match j, hj with
      | 0, _ => exact ⟨_, rfl, .str _, rfl⟩
      | 1, _ => exact ⟨_, rfl, .str _, rfl⟩
    · have h1 : Rows.uptoBulkAll [y0.1, y1.1] ≤ 1048576 := by simp only [Rows.uptoBulk] at hb; omega
      exact ⟨b0 (Nat.le_trans (bulk_part (by simp)) h1), b1 (Nat.le_trans (bulk_part (by simp)) h1)⟩
theorem open_at {n : Nat} {cs : List Value} {d : DataW H} {pl : List MemPlace} (h : DataW.trod enc Tryd.prog w base spare held n 43 cs = some (d, pl)) :
    ∃ x : At, PartsOf (cellsOf w) 4 (atV x) cs ∧ (Rows.uptoBulk d ≤ 1048576 → okA x) := by
  obtain ⟨xs, k, _, hx, hl, hxl, hf⟩ := DataW.trod_struct Tryd.underlying43 h
  have hc : Tryd.prog.cellsOf 43 = 4 := by kernel_rfl
  have h9 : Tryd.prog.cellsOf 9 = 1 := by kernel_rfl
  rw [hc] at hl
  match xs, hxl, cs, hl with
  | [y0, y1, y2, y3], _, [v0, v1, v2, v3], _ =>
    have g0 := hf 0 _ rfl
    have g1 := hf 1 _ rfl
    have g2 := hf 2 _ rfl
    have g3 := hf 3 _ rfl
    simp only [h9, List.drop_zero, List.take_succ_cons, List.take_zero, List.drop_succ_cons, List.getElem?_cons_zero, List.getElem?_cons_succ] at g0 g1 g2 g3
    obtain ⟨s0, e0, b0⟩ := open_txt g0
    obtain ⟨s1, e1, b1⟩ := open_txt g1
    obtain ⟨s2, e2, b2⟩ := open_txt g2
    obtain ⟨s3, e3, b3⟩ := open_txt g3
    obtain rfl : v0 = .string (txt s0) := by simpa [h9] using e0
    obtain rfl : v1 = .string (txt s1) := by simpa [h9] using e1
    obtain rfl : v2 = .string (txt s2) := by simpa [h9] using e2
    obtain rfl : v3 = .string (txt s3) := by simpa [h9] using e3
    obtain rfl : d = .agg [y0.1, y1.1, y2.1, y3.1] := by simpa using congrArg Prod.fst hx
    refine ⟨⟨s0, s1, s2, s3⟩, ⟨rfl, fun j hj => ?_⟩, fun hb => ?_⟩
    · match j, hj with
      | 0, _ => exact ⟨_, rfl, .str _, rfl⟩
      | 1, _ => exact ⟨_, rfl, .str _, rfl⟩
      | 2, _ => exact ⟨_, rfl, .str _, rfl⟩
      | 3, _ => exact ⟨_, rfl, .str _, rfl⟩
    · have h1 : Rows.uptoBulkAll [y0.1, y1.1, y2.1, y3.1] ≤ 1048576 := by simp only [Rows.uptoBulk] at hb; omega
      exact ⟨b0 (Nat.le_trans (bulk_part (by simp)) h1), b1 (Nat.le_trans (bulk_part (by simp)) h1), b2 (Nat.le_trans (bulk_part (by simp)) h1), b3 (Nat.le_trans (bulk_part (by simp)) h1)⟩
theorem getD_in {α : Type} (l : List α) (k : Nat) (d : α) (h : k < l.length) : l.getD k d ∈ l := by
  rw [List.getD_eq_getElem?_getD, List.getElem?_eq_getElem h]; exact List.getElem_mem h
theorem each_ok {X : Type} [Inhabited X] {ok : X → Prop} {l : List X} {es : List (DataW H)} {d : DataW H} (hd : Rows.uptoBulk d ≤ 1048576) (hl : es.length = l.length) (hs : l = [] ∨ ∃ rest, d = .slice es rest)
    (h : ∀ i, i < l.length → (Rows.uptoBulk (es.getD i .nil) ≤ 1048576 → ok (l.getD i default))) : l.length ≤ 4000000 ∧ ∀ x ∈ l, ok x := by
  rcases hs with rfl | ⟨rest, rfl⟩
  · exact ⟨by simp, fun x hx => by cases hx⟩
  · have h1 : Rows.uptoBulkAll es ≤ 1048576 := Nat.le_trans bulk_slice hd
    refine ⟨by have := bulk_len es; omega, fun x hx => ?_⟩
    obtain ⟨i, hi, rfl⟩ := List.getElem_of_mem hx
    have := h i hi (Nat.le_trans (bulk_part (getD_in es i .nil (by omega))) h1)
    rwa [List.getD_eq_getElem?_getD, List.getElem?_eq_getElem hi] at this
theorem open_nd {n : Nat} {cs : List Value} {d : DataW H} {pl : List MemPlace} (h : DataW.trod enc Tryd.prog w base spare held n 37 cs = some (d, pl)) :
    ∃ x : Nd, PartsOf (cellsOf w) 8 (ndV x) cs ∧ (Rows.uptoBulk d ≤ 1048576 → okN x) := by
  obtain ⟨xs, k, _, hx, hl, hxl, hf⟩ := DataW.trod_struct Tryd.underlying37 h
  have hc : Tryd.prog.cellsOf 37 = 8 := by kernel_rfl
  have h9 : Tryd.prog.cellsOf 9 = 1 := by kernel_rfl
  have h3 : Tryd.prog.cellsOf 3 = 1 := by kernel_rfl
  have h34 : Tryd.prog.cellsOf 34 = 1 := by kernel_rfl
  have h35 : Tryd.prog.cellsOf 35 = 1 := by kernel_rfl
  rw [hc] at hl
  match xs, hxl, cs, hl with
  | [y0, y1, y2, y3, y4, y5, y6, y7], _, [v0, v1, v2, v3, v4, v5, v6, v7], _ =>
    have g0 := hf 0 _ rfl
    have g1 := hf 1 _ rfl
    have g2 := hf 2 _ rfl
    have g3 := hf 3 _ rfl
    have g4 := hf 4 _ rfl
    have g5 := hf 5 _ rfl
    have g6 := hf 6 _ rfl
    have g7 := hf 7 _ rfl
    simp only [h9, h3, h34, h35, List.drop_zero, List.take_succ_cons, List.take_zero, List.drop_succ_cons, List.getElem?_cons_zero, List.getElem?_cons_succ] at g0 g1 g2 g3 g4 g5 g6 g7
    obtain ⟨k0, e0, _, _⟩ := DataW.trod_int Tryd.underlying3 g0
    obtain ⟨k1, e1, _, _⟩ := DataW.trod_int Tryd.underlying3 g1
    obtain ⟨s2, e2, b2⟩ := open_txt g2
    obtain ⟨s3, e3, b3⟩ := open_txt g3
    obtain ⟨s4, e4, b4⟩ := open_txt g4
    obtain ⟨s5, e5, b5⟩ := open_txt g5
    obtain ⟨w6, l6, n6, es6, e6, r6, z6, m6, c6, d6, q6⟩ := open_rows dcV (fun x d => Rows.uptoBulk d ≤ 1048576 → okD x) Tryd.underlying34 (by kernel_rfl : Tryd.prog.cellsOf 45 = 2) (by decide) (fun _ _ _ _ h => open_dc h) g6
    obtain ⟨w7, l7, n7, es7, e7, r7, z7, m7, c7, d7, q7⟩ := open_rows atV (fun x d => Rows.uptoBulk d ≤ 1048576 → okA x) Tryd.underlying35 (by kernel_rfl : Tryd.prog.cellsOf 43 = 4) (by decide) (fun _ _ _ _ h => open_at h) g7
    obtain rfl : v0 = .int .i64 k0 := by simpa [h9, h3, h34, h35] using e0
    obtain rfl : v1 = .int .i64 k1 := by simpa [h9, h3, h34, h35] using e1
    obtain rfl : v2 = .string (txt s2) := by simpa [h9, h3, h34, h35] using e2
    obtain rfl : v3 = .string (txt s3) := by simpa [h9, h3, h34, h35] using e3
    obtain rfl : v4 = .string (txt s4) := by simpa [h9, h3, h34, h35] using e4
    obtain rfl : v5 = .string (txt s5) := by simpa [h9, h3, h34, h35] using e5
    obtain rfl : v6 = w6 := by simpa [h9, h3, h34, h35] using e6
    obtain rfl : v7 = w7 := by simpa [h9, h3, h34, h35] using e7
    obtain rfl : d = .agg [y0.1, y1.1, y2.1, y3.1, y4.1, y5.1, y6.1, y7.1] := by simpa using congrArg Prod.fst hx
    refine ⟨⟨k0, k1, s2, s3, s4, s5, l6, n6, l7, n7⟩, ⟨rfl, fun j hj => ?_⟩, fun hb => ?_⟩
    · match j, hj with
      | 0, _ => exact ⟨_, rfl, .int _ _, rfl⟩
      | 1, _ => exact ⟨_, rfl, .int _ _, rfl⟩
      | 2, _ => exact ⟨_, rfl, .str _, rfl⟩
      | 3, _ => exact ⟨_, rfl, .str _, rfl⟩
      | 4, _ => exact ⟨_, rfl, .str _, rfl⟩
      | 5, _ => exact ⟨_, rfl, .str _, rfl⟩
      | 6, _ => exact ⟨_, rfl, r6, rfl⟩
      | 7, _ => exact ⟨_, rfl, r7, rfl⟩
    · have h1 : Rows.uptoBulkAll [y0.1, y1.1, y2.1, y3.1, y4.1, y5.1, y6.1, y7.1] ≤ 1048576 := by simp only [Rows.uptoBulk] at hb; omega
      have p6 := each_ok (Nat.le_trans (bulk_part (by simp)) h1) c6 d6 q6
      have p7 := each_ok (Nat.le_trans (bulk_part (by simp)) h1) c7 d7 q7
      exact ⟨z6, z7, p6.1, p7.1, b2 (Nat.le_trans (bulk_part (by simp)) h1), b3 (Nat.le_trans (bulk_part (by simp)) h1), b4 (Nat.le_trans (bulk_part (by simp)) h1), b5 (Nat.le_trans (bulk_part (by simp)) h1), p6.2, p7.2⟩
theorem open_nodes {r : Reach} {b0 : Nat} {v : Value} {d : DataW H} {ps : List MemPlace} (hval : Value.okWide Tryd.prog w r b0 22 v) (hd : DataW.Trod enc Tryd.prog w base spare held 22 v d ps) (hb : Rows.uptoBulk d ≤ 1048576) :
    ∃ (l : List Nd) (nl : Bool), RepP (cellsOf w) (.sl (ndR l) nl) v ∧ l.length ≤ 4000000 ∧ ∀ x ∈ l, okN x := by
  obtain ⟨a0, len0, cap0, rfl⟩ := okWide_slice Tryd.underlying22 hval
  obtain ⟨fuel, hf⟩ := hd
  obtain ⟨w0, l, nl, es, e, rp, z, m, c, d0, q⟩ := open_rows ndV (fun x d => Rows.uptoBulk d ≤ 1048576 → okN x) Tryd.underlying22 (by kernel_rfl : Tryd.prog.cellsOf 37 = 8) (by decide) (fun _ _ _ _ h => open_nd h) hf
  obtain rfl : w0 = .slice a0 len0 cap0 := by simpa [Value.cells] using e.symm
  obtain ⟨p1, p2⟩ := each_ok hb c d0 q
  exact ⟨l, nl, rp, p1, p2⟩
end
end Go.Av.Doc
end
