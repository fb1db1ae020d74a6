/- The walks of this seat's functions, and what is known of what they reckon (Doce). Conditions: those that each theorem names. -/
import Derived.Test.YtkphnlnphenphaaDoorDocc
import Derived.Test.YtkphnlnphenphaaDoorDocd
section
set_option linter.unusedSimpArgs false
set_option linter.unusedVariables false
set_option linter.unusedSectionVars false
open Go Go.Av Go.Proofs
namespace Go.Av.Doc
variable [ML]
def cntT (l : List Nd) : Nat → Nat
  | 0 => 0
  | n + 1 => cntT l n + if 0 < n ∧ isTop l n = true then 1 else 0
theorem cntT_le (l : List Nd) : ∀ n, cntT l n ≤ n
  | 0 => Nat.le_refl _
  | n + 1 => by
    have := cntT_le l n
    unfold cntT
    split <;> omega
theorem top_cnt (l : List Nd) : ∀ n, 0 < topN l n ↔ 0 < cntT l n
  | 0 => by simp [topN, cntT]
  | n + 1 => by
    have := top_cnt l n
    unfold topN cntT
    by_cases h : 0 < n ∧ isTop l n = true
    · rw [if_pos h, if_pos h]; omega
    · rw [if_neg h, if_neg h]; omega
theorem cntT_mono (l : List Nd) : ∀ n m, n ≤ m → cntT l n ≤ cntT l m
  | n, 0, h => by obtain rfl : n = 0 := by omega
                  exact Nat.le_refl _
  | n, m + 1, h => by
    by_cases e : n = m + 1
    · subst e; exact Nat.le_refl _
    · have := cntT_mono l n m (by omega)
      show _ ≤ cntT l m + _
      omega
def allN (l : List Nd) : Bool := allB (fun j => nodeB l (j + 1)) (l.length - 1)
def formdB (l : List Nd) : Bool := !(l.length == 0) && (rootB (nd l 0) && (allN l && (cntT l l.length == 1)))
theorem chk_formd (l : List Nd) : (chkV l).2 = formdB l := by
  unfold chkV formdB
  by_cases hz : l.length = 0
  · rw [hz]; simp
  have eb : (l.length == 0) = false := beq_eq_false_iff_ne.2 hz
  rw [eb]
  cases hR : rootB (nd l 0) with
  | false => simp
  | true =>
    simp only [Bool.not_false, Bool.true_and]
    have key : allS l = (allN l && decide (cntT l l.length ≤ 1)) := by
      rw [Bool.eq_iff_iff, Bool.and_eq_true, decide_eq_true_iff]
      unfold allS allN
      rw [allB_iff, allB_iff]
      constructor
      · intro h
        refine ⟨fun k hk => step_node (h k hk), ?_⟩
        have : ∀ n, n ≤ l.length → cntT l n ≤ 1 := by
          intro n
          induction n with
          | zero => intro _; simp [cntT]
          | succ n ih =>
            intro hn
            have h1 := ih (by omega)
            unfold cntT
            by_cases hc : 0 < n ∧ isTop l n = true
            · rw [if_pos hc]
              have hs := h (n - 1) (by omega)
              rw [show n - 1 + 1 = n by omega] at hs
              unfold stepB at hs
              rw [Bool.and_eq_true, hc.2] at hs
              have : ¬ 0 < topN l n := by simpa using hs.2
              rw [top_cnt] at this
              omega
            · rw [if_neg hc]; omega
        exact this _ (Nat.le_refl _)
      · rintro ⟨h, hc⟩ k hk
        unfold stepB
        rw [h k hk, Bool.true_and]
        cases hT : isTop l (k + 1) with
        | false => rfl
        | true =>
          have h1 : cntT l (k + 2) = cntT l (k + 1) + 1 := by rw [cntT, if_pos ⟨by omega, hT⟩]
          have h2 := cntT_mono l (k + 2) l.length (by omega)
          have h3 : ¬ 0 < topN l (k + 1) := by rw [top_cnt]; omega
          rw [decide_eq_false h3]; rfl
    rw [key]
    cases hN : allN l with
    | false => simp
    | true =>
      simp only [Bool.true_and]
      have ht := top_cnt l l.length
      by_cases h1 : cntT l l.length ≤ 1
      · rw [decide_eq_true h1, if_pos rfl]
        by_cases h0 : 0 < topN l l.length
        · have h2 : (cntT l l.length == 1) = true := beq_iff_eq.2 (by have := ht.1 h0; omega)
          rw [h2]; exact decide_eq_true h0
        · have h2 : (cntT l l.length == 1) = false := beq_eq_false_iff_ne.2 (by
            have : ¬ 0 < cntT l l.length := fun h => h0 (ht.2 h)
            omega)
          rw [h2]; exact decide_eq_false h0
      · have h2 : (cntT l l.length == 1) = false := beq_eq_false_iff_ne.2 (by omega)
        rw [decide_eq_false h1, h2]; rfl
theorem node_el (l : List Nd) (n : Nat) (h : (nd l n).k = 1) : nodeB l n = (standB l n && ((nd l n).t == [] && (declB (nd l n).ds && namedB l n))) := by
  unfold nodeB formB
  have h2 : ((nd l n).k == 2) = false := beq_eq_false_iff_ne.2 (by omega)
  rw [if_pos h, h2]; simp
def chkR (l : List Nd) : Int := if formdB l = true then (if withB l = true then 0 else 3) else 2
theorem of_bad (l : List Nd) (nl : Bool) (hl : l.length ≤ 4000000) (hok : ∀ x ∈ l, okN x) (h : formdB l = false) : Fn Tryd.prog 11 [.sl (ndR l) nl] [.p .ptr0, .p (.int .i64 2)] := by
  have k29 := check_ct l nl hl hok
  rw [chk_formd, h] at k29
  generalize ((chkV l).1 : Int) = t at *
  refine Fn.of_body Tryd.func11 rfl ?_
  repeat (first | ((with_reducible first | refine callK_at 29 ?_); refine callK_p ?_; simp (maxSteps := 1000000) (disch := refine hold_ ?_; first | (simp [-List.getD_eq_getElem?_getD]; done) | omega) [-List.getD_eq_getElem?_getD]; (first | refine callK1_of (Fn.ct k29 Tryd.call29) ?_); (try simp (maxSteps := 1000000) (disch := refine hold_ ?_; first | (simp [-List.getD_eq_getElem?_getD]; done) | omega) [-List.getD_eq_getElem?_getD]); try first | (with_reducible refine zZ ?_) | subst hK_) | ((first | (with_reducible first | refine zP fun K_ hK_ => ?_ | refine zQ fun K_ hK_ => ?_ | refine zT ?_ | refine zU ?_ | refine zV ?_ | refine zW ?_ | refine zX ?_ | refine zY ?_) | ((with_reducible first | refine zR ?_ ?_ fun K_ hK_ => ?_ | refine zS ?_ ?_ fun K_ hK_ => ?_); (focus kernel_rfl); (focus kernel_rfl))); first | (simp (maxSteps := 1000000) (disch := refine hold_ ?_; first | (simp [-List.getD_eq_getElem?_getD]; done) | omega) [-List.getD_eq_getElem?_getD]; try first | (with_reducible refine zZ ?_) | subst hK_) | subst hK_) | (with_reducible first | refine zA ?_ | refine zB ?_ | refine zC ?_ | refine zD ?_ | refine zE ?_ | refine zF ?_ | refine zG ?_ | refine zH ?_ | refine zI ?_ | refine zJ ?_ | refine zK ?_ | refine zL ?_ | refine zM ?_ | refine zN ?_ | refine zO ?_) | ((with_reducible refine yG ?_ ?_); (focus decide)) | ((with_reducible refine yA ?_); refine yB rfl ?_; (with_reducible first | refine yC ?_ | refine yD ?_)))
  all_goals (try simp (maxSteps := 1000000) (disch := refine hold_ ?_; first | (simp [-List.getD_eq_getElem?_getD]; done) | omega) [-List.getD_eq_getElem?_getD])
theorem formd_pOk (l : List Nd) (h : formdB l = true) : 0 < l.length ∧ pOk l l.length := by
  unfold formdB at h
  rw [Bool.and_eq_true, Bool.and_eq_true, Bool.and_eq_true] at h
  obtain ⟨h1, h2, h3, _⟩ := h
  have h0 : 0 < l.length := by
    rcases Nat.eq_zero_or_pos l.length with e | e
    · rw [e] at h1; cases h1
    · exact e
  have ha : (nd l 0).a = -1 := by
    unfold rootB at h2
    rw [Bool.and_eq_true, Bool.and_eq_true] at h2
    simpa using h2.2.1
  have := pOk_of ha (l.length - 1) fun j hj => node_stand (allB_iff.1 h3 j hj)
  rw [show l.length - 1 + 1 = l.length by omega] at this
  exact ⟨h0, this⟩
theorem of_ok (l : List Nd) (nl : Bool) (hl : l.length ≤ 4000000) (hok : ∀ x ∈ l, okN x) (h : formdB l = true) (hw : withB l = true) : Fn Tryd.prog 11 [.sl (ndR l) nl] [.p (docP l (endR l l.length) (topN l l.length : Nat)), .p (.int .i64 0)] := by
  obtain ⟨h0, hp⟩ := formd_pOk l h
  have hc : chkV l = (topN l l.length, true) := by
    have h2 := chk_formd l
    rw [h] at h2
    unfold chkV at h2 ⊢
    split at h2
    · rename_i hh; rw [if_pos hh]; simp only at h2; rw [h2]
    · cases h2
  exact of_ct l nl hl hok _ h0 hc hp hw
end Go.Av.Doc
end
section
set_option linter.unusedSimpArgs false
set_option linter.unusedVariables false
set_option linter.unusedSectionVars false
open Go Go.Av Go.Proofs
namespace Go.Av.Doc
variable [ML]
theorem node_ot (l : List Nd) (n : Nat) : nodeB l n = (standB l n && othB l n) := rfl
theorem stand_no {l : List Nd} {n : Nat} (hp : pOk l n) (h0 : 0 < n) (h : (nd l n).a < 0 ∨ (n : Int) ≤ (nd l n).a) : nodeB l n = false := by
  cases hs : nodeB l n with
  | false => rfl
  | true => have := stand_par hp h0 (node_stand hs); omega
set_option maxRecDepth 16000 in
set_option maxHeartbeats 16000000 in
theorem formd_ct (l : List Nd) (nl : Bool) (hl : l.length ≤ 4000000) (hok : ∀ x ∈ l, okN x) : Fn Tryd.prog 32 [.sl (ndR l) nl] [.p (.bool (formdB l))] := by
  have ez := int0 l.length
  unfold formdB
  by_cases hz : l.length = 0
  · have eb : (l.length == 0) = true := beq_iff_eq.2 hz
    rw [eb] at ez ⊢
    refine Fn.of_body Tryd.func32 rfl ?_
    repeat (first | ((first | (with_reducible first | refine zP fun K_ hK_ => ?_ | refine zQ fun K_ hK_ => ?_ | refine zT ?_ | refine zU ?_ | refine zV ?_ | refine zW ?_ | refine zX ?_ | refine zY ?_) | ((with_reducible first | refine zR ?_ ?_ fun K_ hK_ => ?_ | refine zS ?_ ?_ fun K_ hK_ => ?_); (focus kernel_rfl); (focus kernel_rfl))); first | (simp (maxSteps := 1000000) (disch := refine hold_ ?_; first | (simp [ez, -List.getD_eq_getElem?_getD]; done) | omega) [ez, -List.getD_eq_getElem?_getD]; try first | (with_reducible refine zZ ?_) | subst hK_) | subst hK_) | (with_reducible first | refine zA ?_ | refine zB ?_ | refine zC ?_ | refine zD ?_ | refine zE ?_ | refine zF ?_ | refine zG ?_ | refine zH ?_ | refine zI ?_ | refine zJ ?_ | refine zK ?_ | refine zL ?_ | refine zM ?_ | refine zN ?_ | refine zO ?_) | ((with_reducible refine yG ?_ ?_); (focus decide)) | ((with_reducible refine yA ?_); refine yB rfl ?_; (with_reducible first | refine yC ?_ | refine yD ?_)))
    all_goals (try simp (maxSteps := 1000000) (disch := refine hold_ ?_; first | (simp [-List.getD_eq_getElem?_getD]; done) | omega) [-List.getD_eq_getElem?_getD])
  have eb : (l.length == 0) = false := beq_eq_false_iff_ne.2 hz
  rw [eb] at ez ⊢
  have hpos : 0 < l.length := by omega
  have hposz : (0 : Int) < l.length := by omega
  have he0 := nd_elem l 0 hpos
  have k43 := dbare_ct (nd l 0)
  have e1 := s_ne0 (nd l 0).l
  have e2 := s_ne0 (nd l 0).t
  have hA0 : ((nd l 0).a == -1) = true → (nd l 0).a = -1 := fun h => by simpa using h
  have f1 : ((nd l 0).k != 0) = !((nd l 0).k == 0) := rfl
  have f2 : ((nd l 0).a != -1) = !((nd l 0).a == -1) := rfl
  have hR : rootB (nd l 0) = (((nd l 0).k == 0) && (((nd l 0).a == -1) && (bareB (nd l 0) && (((nd l 0).l == []) && ((nd l 0).t == []))))) := rfl
  rw [hR]
  clear hR
  generalize hK : ((nd l 0).k == 0) = K at *
  generalize hA : ((nd l 0).a == -1) = A at *
  generalize bareB (nd l 0) = B at *
  generalize ((nd l 0).l == []) = L at *
  generalize ((nd l 0).t == []) = T at *
  have hNd : ndP (nd l 0) = .agg (.vals 1 [.int .i64 (nd l 0).k, .int .i64 (nd l 0).a, .str (txt (nd l 0).p), .str (txt (nd l 0).l), .str (txt (nd l 0).u), .str (txt (nd l 0).t), .sl (dcR (nd l 0).ds) (nd l 0).dn, .sl (atR (nd l 0).ms) (nd l 0).mn]) := rfl
  rw [hNd] at he0 k43
  refine Fn.of_body Tryd.func32 rfl ?_
  rcases anc K (anc A (anc B (anc L (anc T (trivial))))) with rfl | ⟨rfl, rfl | ⟨rfl, rfl | ⟨rfl, rfl | ⟨rfl, rfl | ⟨rfl, _⟩⟩⟩⟩⟩
  iterate 5
    · repeat (first | ((with_reducible first | refine callK_at 43 ?_); refine callK_p ?_; simp (maxSteps := 1000000) (disch := refine hold_ ?_; first | (simp [ez, he0, hpos, hposz, f1, f2, e1, e2, -List.getD_eq_getElem?_getD]; done) | omega) [ez, he0, hpos, hposz, f1, f2, e1, e2, -List.getD_eq_getElem?_getD]; (first | refine callK1_of (Fn.ct k43 Tryd.call43) ?_); (try simp (maxSteps := 1000000) (disch := refine hold_ ?_; first | (simp [ez, he0, hpos, hposz, f1, f2, e1, e2, -List.getD_eq_getElem?_getD]; done) | omega) [ez, he0, hpos, hposz, f1, f2, e1, e2, -List.getD_eq_getElem?_getD]); try first | (with_reducible refine zZ ?_) | subst hK_) | ((first | (with_reducible first | refine zP fun K_ hK_ => ?_ | refine zQ fun K_ hK_ => ?_ | refine zT ?_ | refine zU ?_ | refine zV ?_ | refine zW ?_ | refine zX ?_ | refine zY ?_) | ((with_reducible first | refine zR ?_ ?_ fun K_ hK_ => ?_ | refine zS ?_ ?_ fun K_ hK_ => ?_); (focus kernel_rfl); (focus kernel_rfl))); first | (simp (maxSteps := 1000000) (disch := refine hold_ ?_; first | (simp [ez, he0, hpos, hposz, f1, f2, e1, e2, -List.getD_eq_getElem?_getD]; done) | omega) [ez, he0, hpos, hposz, f1, f2, e1, e2, -List.getD_eq_getElem?_getD]; try first | (with_reducible refine zZ ?_) | subst hK_) | subst hK_) | (with_reducible first | refine zA ?_ | refine zB ?_ | refine zC ?_ | refine zD ?_ | refine zE ?_ | refine zF ?_ | refine zG ?_ | refine zH ?_ | refine zI ?_ | refine zJ ?_ | refine zK ?_ | refine zL ?_ | refine zM ?_ | refine zN ?_ | refine zO ?_) | ((with_reducible refine yG ?_ ?_); (focus decide)) | ((with_reducible refine yA ?_); refine yB rfl ?_; (with_reducible first | refine yC ?_ | refine yD ?_)))
      all_goals (try simp (maxSteps := 1000000) (disch := refine hold_ ?_; first | (simp [-List.getD_eq_getElem?_getD]; done) | omega) [-List.getD_eq_getElem?_getD])
  have ha0 : (nd l 0).a = -1 := hA0 rfl
  repeat (first | ((with_reducible first | refine callK_at 43 ?_); refine callK_p ?_; simp (maxSteps := 1000000) (disch := refine hold_ ?_; first | (simp [ez, he0, hpos, hposz, f1, f2, e1, e2, -List.getD_eq_getElem?_getD]; done) | omega) [ez, he0, hpos, hposz, f1, f2, e1, e2, -List.getD_eq_getElem?_getD]; (first | refine callK1_of (Fn.ct k43 Tryd.call43) ?_); (try simp (maxSteps := 1000000) (disch := refine hold_ ?_; first | (simp [ez, he0, hpos, hposz, f1, f2, e1, e2, -List.getD_eq_getElem?_getD]; done) | omega) [ez, he0, hpos, hposz, f1, f2, e1, e2, -List.getD_eq_getElem?_getD]); try first | (with_reducible refine zZ ?_) | subst hK_) | ((first | (with_reducible first | refine zP fun K_ hK_ => ?_ | refine zQ fun K_ hK_ => ?_ | refine zT ?_ | refine zU ?_ | refine zV ?_ | refine zW ?_ | refine zX ?_ | refine zY ?_) | ((with_reducible first | refine zR ?_ ?_ fun K_ hK_ => ?_ | refine zS ?_ ?_ fun K_ hK_ => ?_); (focus kernel_rfl); (focus kernel_rfl))); first | (simp (maxSteps := 1000000) (disch := refine hold_ ?_; first | (simp [ez, he0, hpos, hposz, f1, f2, e1, e2, -List.getD_eq_getElem?_getD]; done) | omega) [ez, he0, hpos, hposz, f1, f2, e1, e2, -List.getD_eq_getElem?_getD]; try first | (with_reducible refine zZ ?_) | subst hK_) | subst hK_) | (with_reducible first | refine zA ?_ | refine zB ?_ | refine zC ?_ | refine zD ?_ | refine zE ?_ | refine zF ?_ | refine zG ?_ | refine zH ?_ | refine zI ?_ | refine zJ ?_ | refine zK ?_ | refine zL ?_ | refine zM ?_ | refine zN ?_ | refine zO ?_) | ((with_reducible refine yG ?_ ?_); (focus decide)) | ((with_reducible refine yA ?_); refine yB rfl ?_; (with_reducible first | refine yC ?_ | refine yD ?_)))
  clear hNd he0 k43 f1 f2 e1 e2 hA0 hK hA
  have hN := upto_le (fun j => nodeB l (j + 1)) (l.length - 1)
  have hall := upto_all (fun j => nodeB l (j + 1)) (l.length - 1)
  have hno := upto_no (fun j => nodeB l (j + 1)) (l.length - 1)
  have hAll : allN l = decide (upto (fun j => nodeB l (j + 1)) (l.length - 1) = l.length - 1) := allB_upto _ _
  rw [hAll]
  generalize upto (fun j => nodeB l (j + 1)) (l.length - 1) = N at *
  refine AW.iter (true :: false :: false :: true :: true :: false :: false :: false :: false :: false :: false :: false :: false :: false :: false :: false :: false :: false :: false :: false :: false :: false :: false :: false :: false :: false :: false :: false :: false :: false :: false :: false :: false :: false :: false :: false :: false :: false :: false :: false :: false :: false :: false :: false :: false :: false :: false :: false :: false :: false :: false :: false :: false :: false :: false :: false :: false :: false :: false :: false :: false :: false :: false :: false :: false :: false :: false :: false :: false :: false :: false :: false :: false :: false :: false :: false :: false :: false :: false :: false :: false :: false :: false :: false :: false :: false :: false :: false :: false :: false :: false :: false :: false :: false :: false :: false :: false :: false :: false :: false :: false :: false :: false :: false :: false :: false :: false :: false :: false :: false :: false :: false :: false :: false :: false :: false :: false :: false :: false :: false :: false :: false :: false :: false :: false :: false :: []) N (fun j => ⟨(.p (.sl (ndR l) nl) :: V.junk :: V.junk :: .p (.int .i64 (cntT l (j + 1))) :: .p (.int .i64 (j + 1 : Nat)) :: V.junk :: V.junk :: V.junk :: V.junk :: V.junk :: V.junk :: V.junk :: V.junk :: V.junk :: V.junk :: V.junk :: V.junk :: V.junk :: V.junk :: V.junk :: V.junk :: V.junk :: V.junk :: V.junk :: V.junk :: V.junk :: V.junk :: V.junk :: V.junk :: V.junk :: V.junk :: V.junk :: V.junk :: V.junk :: V.junk :: V.junk :: V.junk :: V.junk :: V.junk :: V.junk :: V.junk :: V.junk :: V.junk :: V.junk :: V.junk :: V.junk :: V.junk :: V.junk :: V.junk :: V.junk :: V.junk :: V.junk :: V.junk :: V.junk :: V.junk :: V.junk :: V.junk :: V.junk :: V.junk :: V.junk :: V.junk :: V.junk :: V.junk :: V.junk :: V.junk :: V.junk :: V.junk :: V.junk :: V.junk :: V.junk :: V.junk :: V.junk :: V.junk :: V.junk :: V.junk :: V.junk :: V.junk :: V.junk :: V.junk :: V.junk :: V.junk :: V.junk :: V.junk :: V.junk :: V.junk :: V.junk :: V.junk :: V.junk :: V.junk :: V.junk :: V.junk :: V.junk :: V.junk :: V.junk :: V.junk :: V.junk :: V.junk :: V.junk :: V.junk :: V.junk :: V.junk :: V.junk :: V.junk :: V.junk :: V.junk :: V.junk :: V.junk :: V.junk :: V.junk :: V.junk :: V.junk :: V.junk :: V.junk :: V.junk :: V.junk :: V.junk :: V.junk :: V.junk :: V.junk :: V.junk :: V.junk :: V.junk :: V.junk :: V.junk :: V.junk :: V.junk :: []), ⟨[], []⟩⟩) ?_ ?_
  · have : cntT l 1 = 0 := rfl
    simp (maxSteps := 1000000) (disch := refine hold_ ?_; first | (simp [this, -List.getD_eq_getElem?_getD]; done) | omega) [this, -List.getD_eq_getElem?_getD]
  intro j hj
  have hp : pOk l (j + 1) := pOk_of ha0 j fun i hi => node_stand (hall i (by omega))
  by_cases hjm : j + 1 < l.length
  case neg =>
    have hkz : ¬ ((j + 1 : Nat) : Int) < l.length := by omega
    have hjN : N = l.length - 1 := by omega
    have hjl : j + 1 = l.length := by omega
    rw [decide_eq_true hjN]
    rw [hjl] at hkz ⊢
    have ht : (((cntT l l.length : Nat) : Int) == 1) = (cntT l l.length == 1) := by
      cases h : cntT l l.length == 1 with
      | true => have := beq_iff_eq.1 h; rw [this]; rfl
      | false => exact beq_eq_false_iff_ne.2 fun e => by have := beq_eq_false_iff_ne.1 h; omega
    generalize (cntT l l.length == 1) = CB at *
    generalize cntT l l.length = CN at *
    repeat (first | ((first | (with_reducible first | refine zP fun K_ hK_ => ?_ | refine zQ fun K_ hK_ => ?_ | refine zT ?_ | refine zU ?_ | refine zV ?_ | refine zW ?_ | refine zX ?_ | refine zY ?_) | ((with_reducible first | refine zR ?_ ?_ fun K_ hK_ => ?_ | refine zS ?_ ?_ fun K_ hK_ => ?_); (focus kernel_rfl); (focus kernel_rfl))); first | (simp (maxSteps := 1000000) (disch := refine hold_ ?_; first | (simp [hkz, ht, -List.getD_eq_getElem?_getD]; done) | omega) [hkz, ht, -List.getD_eq_getElem?_getD]; try first | (with_reducible refine zZ ?_) | subst hK_) | subst hK_) | (with_reducible first | refine zA ?_ | refine zB ?_ | refine zC ?_ | refine zD ?_ | refine zE ?_ | refine zF ?_ | refine zG ?_ | refine zH ?_ | refine zI ?_ | refine zJ ?_ | refine zK ?_ | refine zL ?_ | refine zM ?_ | refine zN ?_ | refine zO ?_) | ((with_reducible refine yG ?_ ?_); (focus decide)) | ((with_reducible refine yA ?_); refine yB rfl ?_; (with_reducible first | refine yC ?_ | refine yD ?_)))
    all_goals (try simp (maxSteps := 1000000) (disch := refine hold_ ?_; first | (simp [-List.getD_eq_getElem?_getD]; done) | omega) [-List.getD_eq_getElem?_getD])
  have hg : j < N → nodeB l (j + 1) = true := hall j
  have hb : N = j → nodeB l (j + 1) = false := fun e => by subst e; exact hno (by omega)
  have e0 := wrap_succ (j + 1) l.length (by omega) (by omega)
  have hcl := cntT_le l (j + 1)
  have ec := wrap_succ (cntT l (j + 1)) l.length (by omega) (by omega)
  have hnx : cntT l (j + 1 + 1) = cntT l (j + 1) + if isTop l (j + 1) = true then 1 else 0 := by rw [cntT]; simp
  clear hall hno hAll hcl
  generalize hn : j + 1 = n at *
  have hn0 : 0 < n := by omega
  have hnz : (n : Int) < l.length := by omega
  have he := nd_elem l n hjm
  have w1 : IntKind.i64.wrap ((n : Int) - 1) = (n : Int) - 1 := wrap_i64 _ (by omega) (by omega)
  have hout : nodeB l n = false → j = N ∧ N ≠ l.length - 1 := fun h => by
    have : j = N := by
      rcases Nat.lt_or_ge j N with h1 | h1
      · have := hg h1; rw [h] at this; cases this
      · omega
    exact ⟨this, by omega⟩
  have hin : nodeB l n = true → j < N := fun h => Nat.lt_of_le_of_ne hj fun e => by have := hb e.symm; rw [h] at this; cases this
  clear hg hb
  by_cases hp0 : (nd l n).a < 0
  · obtain ⟨hjN, hne⟩ := hout (stand_no hp hn0 (.inl hp0))
    rw [decide_eq_false hne]
    unfold ndP at he
    generalize nd l n = x at *
    repeat (first | ((first | (with_reducible first | refine zP fun K_ hK_ => ?_ | refine zQ fun K_ hK_ => ?_ | refine zT ?_ | refine zU ?_ | refine zV ?_ | refine zW ?_ | refine zX ?_ | refine zY ?_) | ((with_reducible first | refine zR ?_ ?_ fun K_ hK_ => ?_ | refine zS ?_ ?_ fun K_ hK_ => ?_); (focus kernel_rfl); (focus kernel_rfl))); first | (simp (maxSteps := 1000000) (disch := refine hold_ ?_; first | (simp [hnz, hjm, he, hp0, -List.getD_eq_getElem?_getD]; done) | omega) [hnz, hjm, he, hp0, -List.getD_eq_getElem?_getD]; try first | (with_reducible refine zZ ?_) | subst hK_) | subst hK_) | (with_reducible first | refine zA ?_ | refine zB ?_ | refine zC ?_ | refine zD ?_ | refine zE ?_ | refine zF ?_ | refine zG ?_ | refine zH ?_ | refine zI ?_ | refine zJ ?_ | refine zK ?_ | refine zL ?_ | refine zM ?_ | refine zN ?_ | refine zO ?_) | ((with_reducible refine yG ?_ ?_); (focus decide)) | ((with_reducible refine yA ?_); refine yB rfl ?_; (with_reducible first | refine yC ?_ | refine yD ?_)))
    all_goals (try simp (maxSteps := 1000000) (disch := refine hold_ ?_; first | (simp [-List.getD_eq_getElem?_getD]; done) | omega) [-List.getD_eq_getElem?_getD])
  by_cases hpn : (n : Int) ≤ (nd l n).a
  · obtain ⟨hjN, hne⟩ := hout (stand_no hp hn0 (.inr hpn))
    rw [decide_eq_false hne]
    unfold ndP at he
    generalize nd l n = x at *
    repeat (first | ((first | (with_reducible first | refine zP fun K_ hK_ => ?_ | refine zQ fun K_ hK_ => ?_ | refine zT ?_ | refine zU ?_ | refine zV ?_ | refine zW ?_ | refine zX ?_ | refine zY ?_) | ((with_reducible first | refine zR ?_ ?_ fun K_ hK_ => ?_ | refine zS ?_ ?_ fun K_ hK_ => ?_); (focus kernel_rfl); (focus kernel_rfl))); first | (simp (maxSteps := 1000000) (disch := refine hold_ ?_; first | (simp [hnz, hjm, he, hp0, hpn, -List.getD_eq_getElem?_getD]; done) | omega) [hnz, hjm, he, hp0, hpn, -List.getD_eq_getElem?_getD]; try first | (with_reducible refine zZ ?_) | subst hK_) | subst hK_) | (with_reducible first | refine zA ?_ | refine zB ?_ | refine zC ?_ | refine zD ?_ | refine zE ?_ | refine zF ?_ | refine zG ?_ | refine zH ?_ | refine zI ?_ | refine zJ ?_ | refine zK ?_ | refine zL ?_ | refine zM ?_ | refine zN ?_ | refine zO ?_) | ((with_reducible refine yG ?_ ?_); (focus decide)) | ((with_reducible refine yA ?_); refine yB rfl ?_; (with_reducible first | refine yC ?_ | refine yD ?_)))
    all_goals (try simp (maxSteps := 1000000) (disch := refine hold_ ?_; first | (simp [-List.getD_eq_getElem?_getD]; done) | omega) [-List.getD_eq_getElem?_getD])
  obtain ⟨q, hq⟩ : ∃ q : Nat, (nd l n).a = q := ⟨(nd l n).a.toNat, by omega⟩
  have hNd : ndP (nd l n) = .agg (.vals 1 [.int .i64 (nd l n).k, .int .i64 q, .str (txt (nd l n).p), .str (txt (nd l n).l), .str (txt (nd l n).u), .str (txt (nd l n).t), .sl (dcR (nd l n).ds) (nd l n).dn, .sl (atR (nd l n).ms) (nd l n).mn]) := by rw [← hq]; rfl
  rw [hNd] at he
  have hqn : ¬ (n : Int) ≤ q := by omega
  have hq0 : ¬ (q : Int) < 0 := by omega
  have hql : q < l.length := by omega
  have hey := nd_elem l q hql
  have k34 := above_ct l nl q ((n : Int) - 1) n hp (by omega) (by omega) (by omega)
  have hst : standB l n = (ab l q ((n : Int) - 1) && ((nd l q).k == 0 || (nd l q).k == 1)) := by unfold standB; rw [hq, Int.toNat_natCast]
  have hkk : ((nd l q).k == 0 || (nd l q).k == 1) = (!decide (1 < (nd l q).k) && !decide ((nd l q).k < 0)) := by
    rw [Bool.eq_iff_iff]; simp only [Bool.or_eq_true, beq_iff_eq, Bool.and_eq_true, Bool.not_eq_true', decide_eq_false_iff_not]; omega
  rw [hkk] at hst
  have htop : isTop l n = (((q : Int) == 0) && (nd l n).k == 1) := by unfold isTop; rw [hq]
  rw [htop] at hnx
  have hno0 : standB l n = false → nodeB l n = false := fun h => by unfold nodeB; rw [h]; rfl
  have hpp : standB l n = true → pOk l (n + 1) := fun h => hp.succ hn0 h
  clear hNd hkk htop hp0 hpn
  unfold ndP at hey
  generalize hK1 : decide (1 < (nd l q).k) = K1 at *
  generalize hK0 : decide ((nd l q).k < 0) = K0 at *
  generalize ab l q ((n : Int) - 1) = Ab at *
  generalize nd l q = y at *
  have key : (!Ab || (K1 || K0)) = true → standB l n = false := fun h => by rw [hst]; revert h; cases Ab <;> cases K1 <;> cases K0 <;> simp
  cases hbad : (!Ab || (K1 || K0)) with
  | true =>
    obtain ⟨hjN, hne⟩ := hout (hno0 (key hbad))
    rw [decide_eq_false hne]
    clear hst hno0 hpp key hout hin
    generalize nd l n = x at *
    rcases orc K1 (orc K0 (spl Ab (trivial))) with rfl | ⟨rfl, rfl | ⟨rfl, ⟨rfl | rfl, _⟩⟩⟩
    all_goals
      first
        | (exfalso; revert hbad; decide)
        | (repeat (first | ((with_reducible first | refine callK_at 34 ?_); refine callK_p ?_; simp (maxSteps := 1000000) (disch := refine hold_ ?_; first | (simp [hnz, hjm, he, hq0, hqn, hql, hey, hK1, hK0, w1, -List.getD_eq_getElem?_getD]; done) | omega) [hnz, hjm, he, hq0, hqn, hql, hey, hK1, hK0, w1, -List.getD_eq_getElem?_getD]; (first | refine callK1_of (Fn.ct k34 Tryd.call34) ?_); (try simp (maxSteps := 1000000) (disch := refine hold_ ?_; first | (simp [hnz, hjm, he, hq0, hqn, hql, hey, hK1, hK0, w1, -List.getD_eq_getElem?_getD]; done) | omega) [hnz, hjm, he, hq0, hqn, hql, hey, hK1, hK0, w1, -List.getD_eq_getElem?_getD]); try first | (with_reducible refine zZ ?_) | subst hK_) | ((first | (with_reducible first | refine zP fun K_ hK_ => ?_ | refine zQ fun K_ hK_ => ?_ | refine zT ?_ | refine zU ?_ | refine zV ?_ | refine zW ?_ | refine zX ?_ | refine zY ?_) | ((with_reducible first | refine zR ?_ ?_ fun K_ hK_ => ?_ | refine zS ?_ ?_ fun K_ hK_ => ?_); (focus kernel_rfl); (focus kernel_rfl))); first | (simp (maxSteps := 1000000) (disch := refine hold_ ?_; first | (simp [hnz, hjm, he, hq0, hqn, hql, hey, hK1, hK0, w1, -List.getD_eq_getElem?_getD]; done) | omega) [hnz, hjm, he, hq0, hqn, hql, hey, hK1, hK0, w1, -List.getD_eq_getElem?_getD]; try first | (with_reducible refine zZ ?_) | subst hK_) | subst hK_) | (with_reducible first | refine zA ?_ | refine zB ?_ | refine zC ?_ | refine zD ?_ | refine zE ?_ | refine zF ?_ | refine zG ?_ | refine zH ?_ | refine zI ?_ | refine zJ ?_ | refine zK ?_ | refine zL ?_ | refine zM ?_ | refine zN ?_ | refine zO ?_) | ((with_reducible refine yG ?_ ?_); (focus decide)) | ((with_reducible refine yA ?_); refine yB rfl ?_; (with_reducible first | refine yC ?_ | refine yD ?_)))
           try simp (maxSteps := 1000000) (disch := refine hold_ ?_; first | (simp [-List.getD_eq_getElem?_getD]; done) | omega) [-List.getD_eq_getElem?_getD])
  | false =>
    obtain ⟨rfl, rfl, rfl⟩ : Ab = true ∧ K1 = false ∧ K0 = false := by revert hbad; cases Ab <;> cases K1 <;> cases K0 <;> simp
    have hS : standB l n = true := by rw [hst]; rfl
    have hpp' := hpp hS
    clear hst hno0 hpp key hbad
    generalize hX : ((q : Int) == 0) = X at *
    by_cases h1 : (nd l n).k = 1
    · have k44 := element_ct l nl n hpp' hjm hok
      have hnd := node_el l n h1
      rw [hS, Bool.true_and] at hnd
      rw [← hnd] at k44
      have hW : ((nd l n).k == 1) = true := beq_iff_eq.2 h1
      have f1 : ((nd l n).k != 1) = false := by rw [bne, hW]; rfl
      rw [hW, Bool.and_true] at hnx
      generalize nodeB l n = ND at *
      generalize cntT l (n + 1) = C1 at *
      generalize cntT l n = C0 at *
      generalize nd l n = x at *
      cases ND with
      | false =>
        obtain ⟨hjN, hne⟩ := hout rfl
        rw [decide_eq_false hne]
        repeat (first | ((with_reducible first | refine callK_at 34 ?_ | refine callK_at 44 ?_); refine callK_p ?_; simp (maxSteps := 1000000) (disch := refine hold_ ?_; first | (simp [hnz, hjm, he, hq0, hqn, hql, hey, hK1, hK0, w1, hW, f1, -List.getD_eq_getElem?_getD]; done) | omega) [hnz, hjm, he, hq0, hqn, hql, hey, hK1, hK0, w1, hW, f1, -List.getD_eq_getElem?_getD]; (first | ((with_reducible refine k1_at 34 ?_); refine callK1_of (Fn.ct k34 Tryd.call34) ?_) | ((with_reducible refine k1_at 44 ?_); refine callK1_of (Fn.ct k44 Tryd.call44) ?_)); (try simp (maxSteps := 1000000) (disch := refine hold_ ?_; first | (simp [hnz, hjm, he, hq0, hqn, hql, hey, hK1, hK0, w1, hW, f1, -List.getD_eq_getElem?_getD]; done) | omega) [hnz, hjm, he, hq0, hqn, hql, hey, hK1, hK0, w1, hW, f1, -List.getD_eq_getElem?_getD]); try first | (with_reducible refine zZ ?_) | subst hK_) | ((first | (with_reducible first | refine zP fun K_ hK_ => ?_ | refine zQ fun K_ hK_ => ?_ | refine zT ?_ | refine zU ?_ | refine zV ?_ | refine zW ?_ | refine zX ?_ | refine zY ?_) | ((with_reducible first | refine zR ?_ ?_ fun K_ hK_ => ?_ | refine zS ?_ ?_ fun K_ hK_ => ?_); (focus kernel_rfl); (focus kernel_rfl))); first | (simp (maxSteps := 1000000) (disch := refine hold_ ?_; first | (simp [hnz, hjm, he, hq0, hqn, hql, hey, hK1, hK0, w1, hW, f1, -List.getD_eq_getElem?_getD]; done) | omega) [hnz, hjm, he, hq0, hqn, hql, hey, hK1, hK0, w1, hW, f1, -List.getD_eq_getElem?_getD]; try first | (with_reducible refine zZ ?_) | subst hK_) | subst hK_) | (with_reducible first | refine zA ?_ | refine zB ?_ | refine zC ?_ | refine zD ?_ | refine zE ?_ | refine zF ?_ | refine zG ?_ | refine zH ?_ | refine zI ?_ | refine zJ ?_ | refine zK ?_ | refine zL ?_ | refine zM ?_ | refine zN ?_ | refine zO ?_) | ((with_reducible refine yG ?_ ?_); (focus decide)) | ((with_reducible refine yA ?_); refine yB rfl ?_; (with_reducible first | refine yC ?_ | refine yD ?_)))
        all_goals (try simp (maxSteps := 1000000) (disch := refine hold_ ?_; first | (simp [-List.getD_eq_getElem?_getD]; done) | omega) [-List.getD_eq_getElem?_getD])
      | true =>
        have hjN := hin rfl
        subst hnx
        cases X
        all_goals
          repeat (first | ((with_reducible first | refine callK_at 34 ?_ | refine callK_at 44 ?_); refine callK_p ?_; simp (maxSteps := 1000000) (disch := refine hold_ ?_; first | (simp [hnz, hjm, he, hq0, hqn, hql, hey, hK1, hK0, w1, hW, f1, hX, e0, ec, -List.getD_eq_getElem?_getD]; done) | omega) [hnz, hjm, he, hq0, hqn, hql, hey, hK1, hK0, w1, hW, f1, hX, e0, ec, -List.getD_eq_getElem?_getD]; (first | ((with_reducible refine k1_at 34 ?_); refine callK1_of (Fn.ct k34 Tryd.call34) ?_) | ((with_reducible refine k1_at 44 ?_); refine callK1_of (Fn.ct k44 Tryd.call44) ?_)); (try simp (maxSteps := 1000000) (disch := refine hold_ ?_; first | (simp [hnz, hjm, he, hq0, hqn, hql, hey, hK1, hK0, w1, hW, f1, hX, e0, ec, -List.getD_eq_getElem?_getD]; done) | omega) [hnz, hjm, he, hq0, hqn, hql, hey, hK1, hK0, w1, hW, f1, hX, e0, ec, -List.getD_eq_getElem?_getD]); try first | (with_reducible refine zZ ?_) | subst hK_) | ((first | (with_reducible first | refine zP fun K_ hK_ => ?_ | refine zQ fun K_ hK_ => ?_ | refine zT ?_ | refine zU ?_ | refine zV ?_ | refine zW ?_ | refine zX ?_ | refine zY ?_) | ((with_reducible first | refine zR ?_ ?_ fun K_ hK_ => ?_ | refine zS ?_ ?_ fun K_ hK_ => ?_); (focus kernel_rfl); (focus kernel_rfl))); first | (simp (maxSteps := 1000000) (disch := refine hold_ ?_; first | (simp [hnz, hjm, he, hq0, hqn, hql, hey, hK1, hK0, w1, hW, f1, hX, e0, ec, -List.getD_eq_getElem?_getD]; done) | omega) [hnz, hjm, he, hq0, hqn, hql, hey, hK1, hK0, w1, hW, f1, hX, e0, ec, -List.getD_eq_getElem?_getD]; try first | (with_reducible refine zZ ?_) | subst hK_) | subst hK_) | (with_reducible first | refine zA ?_ | refine zB ?_ | refine zC ?_ | refine zD ?_ | refine zE ?_ | refine zF ?_ | refine zG ?_ | refine zH ?_ | refine zI ?_ | refine zJ ?_ | refine zK ?_ | refine zL ?_ | refine zM ?_ | refine zN ?_ | refine zO ?_) | ((with_reducible refine yG ?_ ?_); (focus decide)) | ((with_reducible refine yA ?_); refine yB rfl ?_; (with_reducible first | refine yC ?_ | refine yD ?_)))
          refine ⟨hjN, ?_⟩
          simp (maxSteps := 1000000) (disch := refine hold_ ?_; first | (simp [-List.getD_eq_getElem?_getD]; done) | omega) [-List.getD_eq_getElem?_getD]
    · have k45 := other_ct l nl n hjm hl hok h1
      have hnd := node_ot l n
      rw [hS, Bool.true_and] at hnd
      rw [← hnd] at k45
      have hW : ((nd l n).k == 1) = false := beq_eq_false_iff_ne.2 h1
      have f1 : ((nd l n).k != 1) = true := by rw [bne, hW]; rfl
      rw [hW, Bool.and_false] at hnx
      simp only [Bool.false_eq_true, if_false, Nat.add_zero] at hnx
      rw [← hnx] at ec ⊢
      generalize nodeB l n = ND at *
      generalize cntT l (n + 1) = C1 at *
      generalize nd l n = x at *
      cases ND with
      | false =>
        obtain ⟨hjN, hne⟩ := hout rfl
        rw [decide_eq_false hne]
        repeat (first | ((with_reducible first | refine callK_at 34 ?_ | refine callK_at 45 ?_); refine callK_p ?_; simp (maxSteps := 1000000) (disch := refine hold_ ?_; first | (simp [hnz, hjm, he, hq0, hqn, hql, hey, hK1, hK0, w1, hW, f1, -List.getD_eq_getElem?_getD]; done) | omega) [hnz, hjm, he, hq0, hqn, hql, hey, hK1, hK0, w1, hW, f1, -List.getD_eq_getElem?_getD]; (first | ((with_reducible refine k1_at 34 ?_); refine callK1_of (Fn.ct k34 Tryd.call34) ?_) | ((with_reducible refine k1_at 45 ?_); refine callK1_of (Fn.ct k45 Tryd.call45) ?_)); (try simp (maxSteps := 1000000) (disch := refine hold_ ?_; first | (simp [hnz, hjm, he, hq0, hqn, hql, hey, hK1, hK0, w1, hW, f1, -List.getD_eq_getElem?_getD]; done) | omega) [hnz, hjm, he, hq0, hqn, hql, hey, hK1, hK0, w1, hW, f1, -List.getD_eq_getElem?_getD]); try first | (with_reducible refine zZ ?_) | subst hK_) | ((first | (with_reducible first | refine zP fun K_ hK_ => ?_ | refine zQ fun K_ hK_ => ?_ | refine zT ?_ | refine zU ?_ | refine zV ?_ | refine zW ?_ | refine zX ?_ | refine zY ?_) | ((with_reducible first | refine zR ?_ ?_ fun K_ hK_ => ?_ | refine zS ?_ ?_ fun K_ hK_ => ?_); (focus kernel_rfl); (focus kernel_rfl))); first | (simp (maxSteps := 1000000) (disch := refine hold_ ?_; first | (simp [hnz, hjm, he, hq0, hqn, hql, hey, hK1, hK0, w1, hW, f1, -List.getD_eq_getElem?_getD]; done) | omega) [hnz, hjm, he, hq0, hqn, hql, hey, hK1, hK0, w1, hW, f1, -List.getD_eq_getElem?_getD]; try first | (with_reducible refine zZ ?_) | subst hK_) | subst hK_) | (with_reducible first | refine zA ?_ | refine zB ?_ | refine zC ?_ | refine zD ?_ | refine zE ?_ | refine zF ?_ | refine zG ?_ | refine zH ?_ | refine zI ?_ | refine zJ ?_ | refine zK ?_ | refine zL ?_ | refine zM ?_ | refine zN ?_ | refine zO ?_) | ((with_reducible refine yG ?_ ?_); (focus decide)) | ((with_reducible refine yA ?_); refine yB rfl ?_; (with_reducible first | refine yC ?_ | refine yD ?_)))
        all_goals (try simp (maxSteps := 1000000) (disch := refine hold_ ?_; first | (simp [-List.getD_eq_getElem?_getD]; done) | omega) [-List.getD_eq_getElem?_getD])
      | true =>
        have hjN := hin rfl
        cases X
        all_goals
          repeat (first | ((with_reducible first | refine callK_at 34 ?_ | refine callK_at 45 ?_); refine callK_p ?_; simp (maxSteps := 1000000) (disch := refine hold_ ?_; first | (simp [hnz, hjm, he, hq0, hqn, hql, hey, hK1, hK0, w1, hW, f1, hX, e0, -List.getD_eq_getElem?_getD]; done) | omega) [hnz, hjm, he, hq0, hqn, hql, hey, hK1, hK0, w1, hW, f1, hX, e0, -List.getD_eq_getElem?_getD]; (first | ((with_reducible refine k1_at 34 ?_); refine callK1_of (Fn.ct k34 Tryd.call34) ?_) | ((with_reducible refine k1_at 45 ?_); refine callK1_of (Fn.ct k45 Tryd.call45) ?_)); (try simp (maxSteps := 1000000) (disch := refine hold_ ?_; first | (simp [hnz, hjm, he, hq0, hqn, hql, hey, hK1, hK0, w1, hW, f1, hX, e0, -List.getD_eq_getElem?_getD]; done) | omega) [hnz, hjm, he, hq0, hqn, hql, hey, hK1, hK0, w1, hW, f1, hX, e0, -List.getD_eq_getElem?_getD]); try first | (with_reducible refine zZ ?_) | subst hK_) | ((first | (with_reducible first | refine zP fun K_ hK_ => ?_ | refine zQ fun K_ hK_ => ?_ | refine zT ?_ | refine zU ?_ | refine zV ?_ | refine zW ?_ | refine zX ?_ | refine zY ?_) | ((with_reducible first | refine zR ?_ ?_ fun K_ hK_ => ?_ | refine zS ?_ ?_ fun K_ hK_ => ?_); (focus kernel_rfl); (focus kernel_rfl))); first | (simp (maxSteps := 1000000) (disch := refine hold_ ?_; first | (simp [hnz, hjm, he, hq0, hqn, hql, hey, hK1, hK0, w1, hW, f1, hX, e0, -List.getD_eq_getElem?_getD]; done) | omega) [hnz, hjm, he, hq0, hqn, hql, hey, hK1, hK0, w1, hW, f1, hX, e0, -List.getD_eq_getElem?_getD]; try first | (with_reducible refine zZ ?_) | subst hK_) | subst hK_) | (with_reducible first | refine zA ?_ | refine zB ?_ | refine zC ?_ | refine zD ?_ | refine zE ?_ | refine zF ?_ | refine zG ?_ | refine zH ?_ | refine zI ?_ | refine zJ ?_ | refine zK ?_ | refine zL ?_ | refine zM ?_ | refine zN ?_ | refine zO ?_) | ((with_reducible refine yG ?_ ?_); (focus decide)) | ((with_reducible refine yA ?_); refine yB rfl ?_; (with_reducible first | refine yC ?_ | refine yD ?_)))
          refine ⟨hjN, ?_⟩
          simp (maxSteps := 1000000) (disch := refine hold_ ?_; first | (simp [-List.getD_eq_getElem?_getD]; done) | omega) [-List.getD_eq_getElem?_getD]
end Go.Av.Doc
end
