/- The walks of this seat's functions, and what is known of what they reckon (Doc7). Conditions: those that each theorem names. -/
import Derived.Test.YtkphnlnphenphaaDoorDoc5
import Derived.Test.YtkphnlnphenphaaDoorDoc6
section
set_option linter.unusedSimpArgs false
set_option linter.unusedVariables false
set_option linter.unusedSectionVars false
open Go Go.Av Go.Proofs
namespace Go.Av.Doc
variable [ML]
def xmlS : List (BitVec 8) := [120#8, 109#8, 108#8]
def xmlnsS : List (BitVec 8) := [120#8, 109#8, 108#8, 110#8, 115#8]
theorem text_ct (s : List (BitVec 8)) (h : s.length ≤ 4000000) : Fn Tryd.prog 51 [.str (txt s)] [.p (.bool (textB s))] := by
  have hb := txt_bytes s
  have k := utext_ct false s h
  refine Fn.of_body Tryd.func51 rfl ?_
  repeat (first | ((with_reducible first | refine callK_at 72 ?_); refine callK_p ?_; simp (maxSteps := 1000000) (disch := refine hold_ ?_; first | (simp [hb, atobytes, -List.getD_eq_getElem?_getD]; done) | omega) [hb, atobytes, -List.getD_eq_getElem?_getD]; (first | refine callK1_of (Fn.ct k Tryd.call72) ?_); (try simp (maxSteps := 1000000) (disch := refine hold_ ?_; first | (simp [hb, atobytes, -List.getD_eq_getElem?_getD]; done) | omega) [hb, atobytes, -List.getD_eq_getElem?_getD]); try first | (with_reducible refine zZ ?_) | subst hK_) | ((first | (with_reducible first | refine zP fun K_ hK_ => ?_ | refine zQ fun K_ hK_ => ?_ | refine zT ?_ | refine zU ?_ | refine zV ?_ | refine zW ?_ | refine zX ?_ | refine zY ?_) | ((with_reducible first | refine zR ?_ ?_ fun K_ hK_ => ?_ | refine zS ?_ ?_ fun K_ hK_ => ?_); (focus kernel_rfl); (focus kernel_rfl))); first | (simp (maxSteps := 1000000) (disch := refine hold_ ?_; first | (simp [hb, atobytes, -List.getD_eq_getElem?_getD]; done) | omega) [hb, atobytes, -List.getD_eq_getElem?_getD]; try first | (with_reducible refine zZ ?_) | subst hK_) | subst hK_) | (with_reducible first | refine zA ?_ | refine zB ?_ | refine zC ?_ | refine zD ?_ | refine zE ?_ | refine zF ?_ | refine zG ?_ | refine zH ?_ | refine zI ?_ | refine zJ ?_ | refine zK ?_ | refine zL ?_ | refine zM ?_ | refine zN ?_ | refine zO ?_) | ((with_reducible refine yG ?_ ?_); (focus decide)) | ((with_reducible refine yA ?_); refine yB rfl ?_; (with_reducible first | refine yC ?_ | refine yD ?_)))
  all_goals (try simp (maxSteps := 1000000) (disch := refine hold_ ?_; first | (simp [-List.getD_eq_getElem?_getD]; done) | omega) [-List.getD_eq_getElem?_getD])
theorem dtext_ct (s : List (BitVec 8)) (h : s.length ≤ 4000000) : Fn Tryd.prog 58 [.str (txt s)] [.p (.bool (textB s))] := by
  have hb := txt_bytes s
  have k := rtext_ct false s h
  refine Fn.of_body Tryd.func58 rfl ?_
  repeat (first | ((with_reducible first | refine callK_at 78 ?_); refine callK_p ?_; simp (maxSteps := 1000000) (disch := refine hold_ ?_; first | (simp [hb, atobytes, -List.getD_eq_getElem?_getD]; done) | omega) [hb, atobytes, -List.getD_eq_getElem?_getD]; (first | refine callK1_of (Fn.ct k Tryd.call78) ?_); (try simp (maxSteps := 1000000) (disch := refine hold_ ?_; first | (simp [hb, atobytes, -List.getD_eq_getElem?_getD]; done) | omega) [hb, atobytes, -List.getD_eq_getElem?_getD]); try first | (with_reducible refine zZ ?_) | subst hK_) | ((first | (with_reducible first | refine zP fun K_ hK_ => ?_ | refine zQ fun K_ hK_ => ?_ | refine zT ?_ | refine zU ?_ | refine zV ?_ | refine zW ?_ | refine zX ?_ | refine zY ?_) | ((with_reducible first | refine zR ?_ ?_ fun K_ hK_ => ?_ | refine zS ?_ ?_ fun K_ hK_ => ?_); (focus kernel_rfl); (focus kernel_rfl))); first | (simp (maxSteps := 1000000) (disch := refine hold_ ?_; first | (simp [hb, atobytes, -List.getD_eq_getElem?_getD]; done) | omega) [hb, atobytes, -List.getD_eq_getElem?_getD]; try first | (with_reducible refine zZ ?_) | subst hK_) | subst hK_) | (with_reducible first | refine zA ?_ | refine zB ?_ | refine zC ?_ | refine zD ?_ | refine zE ?_ | refine zF ?_ | refine zG ?_ | refine zH ?_ | refine zI ?_ | refine zJ ?_ | refine zK ?_ | refine zL ?_ | refine zM ?_ | refine zN ?_ | refine zO ?_) | ((with_reducible refine yG ?_ ?_); (focus decide)) | ((with_reducible refine yA ?_); refine yB rfl ?_; (with_reducible first | refine yC ?_ | refine yD ?_)))
  all_goals (try simp (maxSteps := 1000000) (disch := refine hold_ ?_; first | (simp [-List.getD_eq_getElem?_getD]; done) | omega) [-List.getD_eq_getElem?_getD])
def preOk (s : List (BitVec 8)) : Bool := s == [] || nameB s
theorem prefix_ct (s : List (BitVec 8)) (h : s.length ≤ 4000000) : Fn Tryd.prog 68 [.str (txt s)] [.p (.bool (preOk s))] := by
  have k := is_ct s h
  have e := s_eq0 s
  unfold preOk
  generalize nameB s = b2 at *
  generalize (s == []) = b1 at *
  refine Fn.of_body Tryd.func68 rfl ?_
  cases b1 <;>
  · repeat (first | ((with_reducible first | refine callK_at 55 ?_); refine callK_p ?_; simp (maxSteps := 1000000) (disch := refine hold_ ?_; first | (simp [e, -List.getD_eq_getElem?_getD]; done) | omega) [e, -List.getD_eq_getElem?_getD]; (first | refine callK1_of (Fn.ct k Tryd.call55) ?_); (try simp (maxSteps := 1000000) (disch := refine hold_ ?_; first | (simp [e, -List.getD_eq_getElem?_getD]; done) | omega) [e, -List.getD_eq_getElem?_getD]); try first | (with_reducible refine zZ ?_) | subst hK_) | ((first | (with_reducible first | refine zP fun K_ hK_ => ?_ | refine zQ fun K_ hK_ => ?_ | refine zT ?_ | refine zU ?_ | refine zV ?_ | refine zW ?_ | refine zX ?_ | refine zY ?_) | ((with_reducible first | refine zR ?_ ?_ fun K_ hK_ => ?_ | refine zS ?_ ?_ fun K_ hK_ => ?_); (focus kernel_rfl); (focus kernel_rfl))); first | (simp (maxSteps := 1000000) (disch := refine hold_ ?_; first | (simp [e, -List.getD_eq_getElem?_getD]; done) | omega) [e, -List.getD_eq_getElem?_getD]; try first | (with_reducible refine zZ ?_) | subst hK_) | subst hK_) | (with_reducible first | refine zA ?_ | refine zB ?_ | refine zC ?_ | refine zD ?_ | refine zE ?_ | refine zF ?_ | refine zG ?_ | refine zH ?_ | refine zI ?_ | refine zJ ?_ | refine zK ?_ | refine zL ?_ | refine zM ?_ | refine zN ?_ | refine zO ?_) | ((with_reducible refine yG ?_ ?_); (focus decide)) | ((with_reducible refine yA ?_); refine yB rfl ?_; (with_reducible first | refine yC ?_ | refine yD ?_)))
    all_goals (try simp (maxSteps := 1000000) (disch := refine hold_ ?_; first | (simp [-List.getD_eq_getElem?_getD]; done) | omega) [-List.getD_eq_getElem?_getD])
def dcC (d : Dc) : PV := .eptr (.vals 2 [.agg (.strs [txt d.p, txt d.u])]) 0 0
theorem dcl_ct (o d : Dc) : Fn Tryd.prog 67 [dcP o, dcC d] [.p (.bool (o.p == d.p))] := by
  have e := str_eq_txt o.p d.p
  refine Fn.of_body Tryd.func67 rfl ?_
  unfold dcP dcC
  repeat (first | ((first | (with_reducible first | refine zP fun K_ hK_ => ?_ | refine zQ fun K_ hK_ => ?_ | refine zT ?_ | refine zU ?_ | refine zV ?_ | refine zW ?_ | refine zX ?_ | refine zY ?_) | ((with_reducible first | refine zR ?_ ?_ fun K_ hK_ => ?_ | refine zS ?_ ?_ fun K_ hK_ => ?_); (focus kernel_rfl); (focus kernel_rfl))); first | (simp (maxSteps := 1000000) (disch := refine hold_ ?_; first | (simp [e, -List.getD_eq_getElem?_getD]; done) | omega) [e, -List.getD_eq_getElem?_getD]; try first | (with_reducible refine zZ ?_) | subst hK_) | subst hK_) | (with_reducible first | refine zA ?_ | refine zB ?_ | refine zC ?_ | refine zD ?_ | refine zE ?_ | refine zF ?_ | refine zG ?_ | refine zH ?_ | refine zI ?_ | refine zJ ?_ | refine zK ?_ | refine zL ?_ | refine zM ?_ | refine zN ?_ | refine zO ?_) | ((with_reducible refine yG ?_ ?_); (focus decide)) | ((with_reducible refine yA ?_); refine yB rfl ?_; (with_reducible first | refine yC ?_ | refine yD ?_)))
  all_goals (try simp (maxSteps := 1000000) (disch := refine hold_ ?_; first | (simp [-List.getD_eq_getElem?_getD]; done) | omega) [-List.getD_eq_getElem?_getD])
def isAt (p : Nat → Bool) (n : Nat) : Int := if upto (fun k => !p k) n < n then (upto (fun k => !p k) n : Nat) else -1
theorem idxD_ct (l : List Dc) (nl : Bool) (d : Dc) (h : l.length ≤ 4000000) :
    Fn Tryd.prog 79 [.sl (dcR l) nl, .fn 67 (.vals 1 [dcC d])] [.p (.int .i64 (isAt (fun k => (l.getD k ⟨[], []⟩).p == d.p) l.length))] := by
  have hN := upto_le (fun k => !((l.getD k ⟨[], []⟩).p == d.p)) l.length
  have hall := upto_all (fun k => !((l.getD k ⟨[], []⟩).p == d.p)) l.length
  have hno := upto_no (fun k => !((l.getD k ⟨[], []⟩).p == d.p)) l.length
  unfold isAt
  generalize upto (fun k => !((l.getD k ⟨[], []⟩).p == d.p)) l.length = N at *
  refine Fn.of_body Tryd.func79 rfl ?_
  repeat (first | ((first | (with_reducible first | refine zP fun K_ hK_ => ?_ | refine zQ fun K_ hK_ => ?_ | refine zT ?_ | refine zU ?_ | refine zV ?_ | refine zW ?_ | refine zX ?_ | refine zY ?_) | ((with_reducible first | refine zR ?_ ?_ fun K_ hK_ => ?_ | refine zS ?_ ?_ fun K_ hK_ => ?_); (focus kernel_rfl); (focus kernel_rfl))); first | (simp (maxSteps := 1000000) (disch := refine hold_ ?_; first | (simp [-List.getD_eq_getElem?_getD]; done) | omega) [-List.getD_eq_getElem?_getD]; try first | (with_reducible refine zZ ?_) | subst hK_) | subst hK_) | (with_reducible first | refine zA ?_ | refine zB ?_ | refine zC ?_ | refine zD ?_ | refine zE ?_ | refine zF ?_ | refine zG ?_ | refine zH ?_ | refine zI ?_ | refine zJ ?_ | refine zK ?_ | refine zL ?_ | refine zM ?_ | refine zN ?_ | refine zO ?_) | ((with_reducible refine yG ?_ ?_); (focus decide)) | ((with_reducible refine yA ?_); refine yB rfl ?_; (with_reducible first | refine yC ?_ | refine yD ?_)))
  refine AW.iter (true :: true :: false :: false :: false :: false :: false :: true :: true :: false :: false :: false :: false :: false :: false :: false :: false :: false :: false :: []) N (fun k => ⟨(.p (.sl (dcR l) nl) :: .p (.fn 67 (.vals 1 [dcC d])) :: V.junk :: V.junk :: V.junk :: V.junk :: V.junk :: .p (.int .i64 l.length) :: .p (.int .i64 k) :: V.junk :: V.junk :: V.junk :: V.junk :: V.junk :: V.junk :: V.junk :: V.junk :: V.junk :: V.junk :: []), ⟨[], []⟩⟩) ?_ ?_
  · simp (maxSteps := 1000000) (disch := refine hold_ ?_; first | (simp [-List.getD_eq_getElem?_getD]; done) | omega) [-List.getD_eq_getElem?_getD]
  intro k hk
  have e1 := wrap_succ k N hk (by omega)
  by_cases hkm : k < l.length
  · have hkz : (k : Int) < l.length := by omega
    have he := dcR_elem l k hkm
    have kc := dcl_ct (l.getD k ⟨[], []⟩) d
    by_cases hkN : k < N
    · have hp : ((l.getD k ⟨[], []⟩).p == d.p) = false := by have := hall k hkN; simpa using this
      rw [hp] at kc
      generalize dcP (l.getD k ⟨[], []⟩) = X at *
      generalize dcC d = Y at *
      repeat (first | ((with_reducible first | refine callK_at 67 ?_); refine callK_p ?_; simp (maxSteps := 1000000) (disch := refine hold_ ?_; first | (simp [hkm, hkz, he, e1, -List.getD_eq_getElem?_getD]; done) | omega) [hkm, hkz, he, e1, -List.getD_eq_getElem?_getD]; (first | refine callK1_of (Fn.ct kc Tryd.call67) ?_); (try simp (maxSteps := 1000000) (disch := refine hold_ ?_; first | (simp [hkm, hkz, he, e1, -List.getD_eq_getElem?_getD]; done) | omega) [hkm, hkz, he, e1, -List.getD_eq_getElem?_getD]); try first | (with_reducible refine zZ ?_) | subst hK_) | ((first | (with_reducible first | refine zP fun K_ hK_ => ?_ | refine zQ fun K_ hK_ => ?_ | refine zT ?_ | refine zU ?_ | refine zV ?_ | refine zW ?_ | refine zX ?_ | refine zY ?_) | ((with_reducible first | refine zR ?_ ?_ fun K_ hK_ => ?_ | refine zS ?_ ?_ fun K_ hK_ => ?_); (focus kernel_rfl); (focus kernel_rfl))); first | (simp (maxSteps := 1000000) (disch := refine hold_ ?_; first | (simp [hkm, hkz, he, e1, -List.getD_eq_getElem?_getD]; done) | omega) [hkm, hkz, he, e1, -List.getD_eq_getElem?_getD]; try first | (with_reducible refine zZ ?_) | subst hK_) | subst hK_) | (with_reducible first | refine zA ?_ | refine zB ?_ | refine zC ?_ | refine zD ?_ | refine zE ?_ | refine zF ?_ | refine zG ?_ | refine zH ?_ | refine zI ?_ | refine zJ ?_ | refine zK ?_ | refine zL ?_ | refine zM ?_ | refine zN ?_ | refine zO ?_) | ((with_reducible refine yG ?_ ?_); (focus decide)) | ((with_reducible refine yA ?_); refine yB rfl ?_; (with_reducible first | refine yC ?_ | refine yD ?_)))
      refine ⟨hkN, ?_⟩
      simp (maxSteps := 1000000) (disch := refine hold_ ?_; first | (simp [-List.getD_eq_getElem?_getD]; done) | omega) [-List.getD_eq_getElem?_getD]
    · obtain rfl : k = N := by omega
      have hp : ((l.getD k ⟨[], []⟩).p == d.p) = true := by have := hno hkm; simpa using this
      rw [hp] at kc
      rw [if_pos hkm]
      generalize dcP (l.getD k ⟨[], []⟩) = X at *
      generalize dcC d = Y at *
      repeat (first | ((with_reducible first | refine callK_at 67 ?_); refine callK_p ?_; simp (maxSteps := 1000000) (disch := refine hold_ ?_; first | (simp [hkm, hkz, he, e1, -List.getD_eq_getElem?_getD]; done) | omega) [hkm, hkz, he, e1, -List.getD_eq_getElem?_getD]; (first | refine callK1_of (Fn.ct kc Tryd.call67) ?_); (try simp (maxSteps := 1000000) (disch := refine hold_ ?_; first | (simp [hkm, hkz, he, e1, -List.getD_eq_getElem?_getD]; done) | omega) [hkm, hkz, he, e1, -List.getD_eq_getElem?_getD]); try first | (with_reducible refine zZ ?_) | subst hK_) | ((first | (with_reducible first | refine zP fun K_ hK_ => ?_ | refine zQ fun K_ hK_ => ?_ | refine zT ?_ | refine zU ?_ | refine zV ?_ | refine zW ?_ | refine zX ?_ | refine zY ?_) | ((with_reducible first | refine zR ?_ ?_ fun K_ hK_ => ?_ | refine zS ?_ ?_ fun K_ hK_ => ?_); (focus kernel_rfl); (focus kernel_rfl))); first | (simp (maxSteps := 1000000) (disch := refine hold_ ?_; first | (simp [hkm, hkz, he, e1, -List.getD_eq_getElem?_getD]; done) | omega) [hkm, hkz, he, e1, -List.getD_eq_getElem?_getD]; try first | (with_reducible refine zZ ?_) | subst hK_) | subst hK_) | (with_reducible first | refine zA ?_ | refine zB ?_ | refine zC ?_ | refine zD ?_ | refine zE ?_ | refine zF ?_ | refine zG ?_ | refine zH ?_ | refine zI ?_ | refine zJ ?_ | refine zK ?_ | refine zL ?_ | refine zM ?_ | refine zN ?_ | refine zO ?_) | ((with_reducible refine yG ?_ ?_); (focus decide)) | ((with_reducible refine yA ?_); refine yB rfl ?_; (with_reducible first | refine yC ?_ | refine yD ?_)))
      all_goals (try simp (maxSteps := 1000000) (disch := refine hold_ ?_; first | (simp [-List.getD_eq_getElem?_getD]; done) | omega) [-List.getD_eq_getElem?_getD])
  · have hkz : ¬ (k : Int) < l.length := by omega
    obtain rfl : k = N := by omega
    rw [if_neg hkm]
    repeat (first | ((first | (with_reducible first | refine zP fun K_ hK_ => ?_ | refine zQ fun K_ hK_ => ?_ | refine zT ?_ | refine zU ?_ | refine zV ?_ | refine zW ?_ | refine zX ?_ | refine zY ?_) | ((with_reducible first | refine zR ?_ ?_ fun K_ hK_ => ?_ | refine zS ?_ ?_ fun K_ hK_ => ?_); (focus kernel_rfl); (focus kernel_rfl))); first | (simp (maxSteps := 1000000) (disch := refine hold_ ?_; first | (simp [hkz, -List.getD_eq_getElem?_getD]; done) | omega) [hkz, -List.getD_eq_getElem?_getD]; try first | (with_reducible refine zZ ?_) | subst hK_) | subst hK_) | (with_reducible first | refine zA ?_ | refine zB ?_ | refine zC ?_ | refine zD ?_ | refine zE ?_ | refine zF ?_ | refine zG ?_ | refine zH ?_ | refine zI ?_ | refine zJ ?_ | refine zK ?_ | refine zL ?_ | refine zM ?_ | refine zN ?_ | refine zO ?_) | ((with_reducible refine yG ?_ ?_); (focus decide)) | ((with_reducible refine yA ?_); refine yB rfl ?_; (with_reducible first | refine yC ?_ | refine yD ?_)))
    all_goals (try simp (maxSteps := 1000000) (disch := refine hold_ ?_; first | (simp [-List.getD_eq_getElem?_getD]; done) | omega) [-List.getD_eq_getElem?_getD])
theorem hasD_ct (l : List Dc) (nl : Bool) (d : Dc) (h : l.length ≤ 4000000) :
    Fn Tryd.prog 66 [.sl (dcR l) nl, .fn 67 (.vals 1 [dcC d])] [.p (.bool !(allB (fun k => !((l.getD k ⟨[], []⟩).p == d.p)) l.length))] := by
  have k := idxD_ct l nl d h
  have hz : (!(allB (fun k => !((l.getD k ⟨[], []⟩).p == d.p)) l.length)) = decide (0 ≤ isAt (fun k => (l.getD k ⟨[], []⟩).p == d.p) l.length) := by
    unfold isAt
    dsimp only
    have hN := upto_le (fun k => !((l.getD k ⟨[], []⟩).p == d.p)) l.length
    split
    · rename_i hlt; rw [allB_no hlt]; simp
    · rw [allB_yes (by omega)]; rfl
  rw [hz]
  generalize isAt (fun k => (l.getD k ⟨[], []⟩).p == d.p) l.length = N at *
  generalize PV.fn 67 (.vals 1 [dcC d]) = Y at *
  refine Fn.of_body Tryd.func66 rfl ?_
  repeat (first | ((with_reducible first | refine callK_at 79 ?_); refine callK_p ?_; simp (maxSteps := 1000000) (disch := refine hold_ ?_; first | (simp [-List.getD_eq_getElem?_getD]; done) | omega) [-List.getD_eq_getElem?_getD]; (first | refine callK1_of (Fn.ct k Tryd.call79) ?_); (try simp (maxSteps := 1000000) (disch := refine hold_ ?_; first | (simp [-List.getD_eq_getElem?_getD]; done) | omega) [-List.getD_eq_getElem?_getD]); try first | (with_reducible refine zZ ?_) | subst hK_) | ((first | (with_reducible first | refine zP fun K_ hK_ => ?_ | refine zQ fun K_ hK_ => ?_ | refine zT ?_ | refine zU ?_ | refine zV ?_ | refine zW ?_ | refine zX ?_ | refine zY ?_) | ((with_reducible first | refine zR ?_ ?_ fun K_ hK_ => ?_ | refine zS ?_ ?_ fun K_ hK_ => ?_); (focus kernel_rfl); (focus kernel_rfl))); first | (simp (maxSteps := 1000000) (disch := refine hold_ ?_; first | (simp [-List.getD_eq_getElem?_getD]; done) | omega) [-List.getD_eq_getElem?_getD]; try first | (with_reducible refine zZ ?_) | subst hK_) | subst hK_) | (with_reducible first | refine zA ?_ | refine zB ?_ | refine zC ?_ | refine zD ?_ | refine zE ?_ | refine zF ?_ | refine zG ?_ | refine zH ?_ | refine zI ?_ | refine zJ ?_ | refine zK ?_ | refine zL ?_ | refine zM ?_ | refine zN ?_ | refine zO ?_) | ((with_reducible refine yG ?_ ?_); (focus decide)) | ((with_reducible refine yA ?_); refine yB rfl ?_; (with_reducible first | refine yC ?_ | refine yD ?_)))
  all_goals (try simp (maxSteps := 1000000) (disch := refine hold_ ?_; first | (simp [-List.getD_eq_getElem?_getD]; done) | omega) [-List.getD_eq_getElem?_getD])
end Go.Av.Doc
end
section
set_option linter.unusedSimpArgs false
set_option linter.unusedVariables false
set_option linter.unusedSectionVars false
open Go Go.Av Go.Proofs
namespace Go.Av.Doc
variable [ML]
def xmlU : List (BitVec 8) := [104#8, 116#8, 116#8, 112#8, 58#8, 47#8, 47#8, 119#8, 119#8, 119#8, 46#8, 119#8, 51#8, 46#8, 111#8, 114#8, 103#8, 47#8, 88#8, 77#8, 76#8, 47#8, 49#8, 57#8, 57#8, 56#8, 47#8, 110#8, 97#8, 109#8, 101#8, 115#8, 112#8, 97#8, 99#8, 101#8]
def xmlnsU : List (BitVec 8) := [104#8, 116#8, 116#8, 112#8, 58#8, 47#8, 47#8, 119#8, 119#8, 119#8, 46#8, 119#8, 51#8, 46#8, 111#8, 114#8, 103#8, 47#8, 50#8, 48#8, 48#8, 48#8, 47#8, 120#8, 109#8, 108#8, 110#8, 115#8, 47#8]
theorem q_xml (s : List (BitVec 8)) : strBin .eql (txt s) (ByteArray.mk #[120, 109, 108]) = some (.bool (s == xmlS)) := str_eq_txt s xmlS
theorem q_xmlns (s : List (BitVec 8)) : strBin .eql (txt s) (ByteArray.mk #[120, 109, 108, 110, 115]) = some (.bool (s == xmlnsS)) := str_eq_txt s xmlnsS
theorem q_xmlU (s : List (BitVec 8)) : strBin .eql (txt s) (ByteArray.mk #[104, 116, 116, 112, 58, 47, 47, 119, 119, 119, 46, 119, 51, 46, 111, 114, 103, 47, 88, 77, 76, 47, 49, 57, 57, 56, 47, 110, 97, 109, 101, 115, 112, 97, 99, 101]) = some (.bool (s == xmlU)) := str_eq_txt s xmlU
theorem q_xmlnsU (s : List (BitVec 8)) : strBin .eql (txt s) (ByteArray.mk #[104, 116, 116, 112, 58, 47, 47, 119, 119, 119, 46, 119, 51, 46, 111, 114, 103, 47, 50, 48, 48, 48, 47, 120, 109, 108, 110, 115, 47]) = some (.bool (s == xmlnsU)) := str_eq_txt s xmlnsU
def dcOk (d : Dc) : Bool := !(!preOk d.p || (d.p == xmlnsS) || !textB d.u || (d.u == [] && !(d.p == [])) || ((d.p == xmlS) != (d.u == xmlU)) || (d.u == xmlnsU))
set_option maxHeartbeats 4000000 in
theorem decl_ct (d : Dc) (h : okD d) : Fn Tryd.prog 57 [dcP d] [.p (.bool (dcOk d))] := by
  have k16 := ris_ct d.p h.p
  have k58 := dtext_ct d.u h.u
  have e1 := s_ne0 d.p
  have e2 := s_eq0 d.p
  have e3 := s_ne0 d.u
  have e4 := q_xmlns d.p
  have e5 := q_xmlnsU d.u
  have e6 := q_xml d.p
  have e7 := q_xmlU d.u
  unfold dcOk preOk
  generalize (d.p == []) = P0 at *
  generalize nameB d.p = PN at *
  generalize (d.p == xmlnsS) = X1 at *
  generalize textB d.u = T at *
  generalize (d.u == []) = U0 at *
  generalize (d.p == xmlS) = XP at *
  generalize (d.u == xmlU) = XU at *
  generalize (d.u == xmlnsU) = XN at *
  refine Fn.of_body Tryd.func57 rfl ?_
  unfold dcP
  rcases two P0 PN (orc X1 (anc T (orc XN (spl U0 (spl XP (spl XU (trivial))))))) with ⟨rfl, rfl⟩ | ⟨rfl | ⟨rfl, rfl⟩, rfl | ⟨rfl, rfl | ⟨rfl, rfl | ⟨rfl, ⟨rfl | rfl, ⟨rfl | rfl, ⟨rfl | rfl, _⟩⟩⟩⟩⟩⟩⟩
  all_goals
    repeat (first | ((with_reducible first | refine callK_at 16 ?_ | refine callK_at 58 ?_); refine callK_p ?_; simp (maxSteps := 1000000) (disch := refine hold_ ?_; first | (simp [e1, e2, e3, e4, e5, e6, e7, -List.getD_eq_getElem?_getD]; done) | omega) [e1, e2, e3, e4, e5, e6, e7, -List.getD_eq_getElem?_getD]; (first | ((with_reducible refine k1_at 16 ?_); refine callK1_of (Fn.ct k16 Tryd.call16) ?_) | ((with_reducible refine k1_at 58 ?_); refine callK1_of (Fn.ct k58 Tryd.call58) ?_)); (try simp (maxSteps := 1000000) (disch := refine hold_ ?_; first | (simp [e1, e2, e3, e4, e5, e6, e7, -List.getD_eq_getElem?_getD]; done) | omega) [e1, e2, e3, e4, e5, e6, e7, -List.getD_eq_getElem?_getD]); try first | (with_reducible refine zZ ?_) | subst hK_) | ((first | (with_reducible first | refine zP fun K_ hK_ => ?_ | refine zQ fun K_ hK_ => ?_ | refine zT ?_ | refine zU ?_ | refine zV ?_ | refine zW ?_ | refine zX ?_ | refine zY ?_) | ((with_reducible first | refine zR ?_ ?_ fun K_ hK_ => ?_ | refine zS ?_ ?_ fun K_ hK_ => ?_); (focus kernel_rfl); (focus kernel_rfl))); first | (simp (maxSteps := 1000000) (disch := refine hold_ ?_; first | (simp [e1, e2, e3, e4, e5, e6, e7, -List.getD_eq_getElem?_getD]; done) | omega) [e1, e2, e3, e4, e5, e6, e7, -List.getD_eq_getElem?_getD]; try first | (with_reducible refine zZ ?_) | subst hK_) | subst hK_) | (with_reducible first | refine zA ?_ | refine zB ?_ | refine zC ?_ | refine zD ?_ | refine zE ?_ | refine zF ?_ | refine zG ?_ | refine zH ?_ | refine zI ?_ | refine zJ ?_ | refine zK ?_ | refine zL ?_ | refine zM ?_ | refine zN ?_ | refine zO ?_) | ((with_reducible refine yG ?_ ?_); (focus decide)) | ((with_reducible refine yA ?_); refine yB rfl ?_; (with_reducible first | refine yC ?_ | refine yD ?_)))
    try simp (maxSteps := 1000000) (disch := refine hold_ ?_; first | (simp [-List.getD_eq_getElem?_getD]; done) | omega) [-List.getD_eq_getElem?_getD]
def dupD (l : List Dc) (k : Nat) : Bool := !(allB (fun j => !(((l.take k).getD j ⟨[], []⟩).p == (l.getD k ⟨[], []⟩).p)) (l.take k).length)
def declB (l : List Dc) : Bool := allB (fun k => !dupD l k && dcOk (l.getD k ⟨[], []⟩)) l.length
theorem dc_cut (l : List Dc) (k : Nat) : (Row.vals 2 (l.map dcP)).cut 0 k = .vals 2 ((l.take k).map dcP) := by simp [Row.cut]
set_option maxRecDepth 8000 in
set_option maxHeartbeats 8000000 in
theorem declared_ct (l : List Dc) (nl : Bool) (h : l.length ≤ 4000000) (hok : ∀ d ∈ l, okD d) : Fn Tryd.prog 49 [.sl (dcR l) nl] [.p (.bool (declB l))] := by
  have hN := upto_le (fun k => !dupD l k && dcOk (l.getD k ⟨[], []⟩)) l.length
  have hall := upto_all (fun k => !dupD l k && dcOk (l.getD k ⟨[], []⟩)) l.length
  have hno := upto_no (fun k => !dupD l k && dcOk (l.getD k ⟨[], []⟩)) l.length
  have hB : declB l = decide (upto (fun k => !dupD l k && dcOk (l.getD k ⟨[], []⟩)) l.length = l.length) := allB_upto _ _
  rw [hB]
  generalize upto (fun k => !dupD l k && dcOk (l.getD k ⟨[], []⟩)) l.length = N at *
  refine Fn.of_body Tryd.func49 rfl ?_
  repeat (first | ((first | (with_reducible first | refine zP fun K_ hK_ => ?_ | refine zQ fun K_ hK_ => ?_ | refine zT ?_ | refine zU ?_ | refine zV ?_ | refine zW ?_ | refine zX ?_ | refine zY ?_) | ((with_reducible first | refine zR ?_ ?_ fun K_ hK_ => ?_ | refine zS ?_ ?_ fun K_ hK_ => ?_); (focus kernel_rfl); (focus kernel_rfl))); first | (simp (maxSteps := 1000000) (disch := refine hold_ ?_; first | (simp [-List.getD_eq_getElem?_getD]; done) | omega) [-List.getD_eq_getElem?_getD]; try first | (with_reducible refine zZ ?_) | subst hK_) | subst hK_) | (with_reducible first | refine zA ?_ | refine zB ?_ | refine zC ?_ | refine zD ?_ | refine zE ?_ | refine zF ?_ | refine zG ?_ | refine zH ?_ | refine zI ?_ | refine zJ ?_ | refine zK ?_ | refine zL ?_ | refine zM ?_ | refine zN ?_ | refine zO ?_) | ((with_reducible refine yG ?_ ?_); (focus decide)) | ((with_reducible refine yA ?_); refine yB rfl ?_; (with_reducible first | refine yC ?_ | refine yD ?_)))
  refine AW.iter (true :: false :: false :: false :: false :: false :: true :: true :: true :: false :: false :: false :: false :: false :: false :: false :: false :: false :: false :: false :: false :: false :: false :: false :: false :: false :: false :: false :: false :: false :: false :: false :: false :: false :: false :: false :: false :: false :: false :: false :: false :: false :: false :: false :: false :: false :: false :: false :: false :: false :: false :: false :: false :: false :: false :: false :: false :: false :: false :: false :: false :: []) N (fun k => ⟨(.p (.sl (dcR l) nl) :: V.junk :: V.junk :: V.junk :: V.junk :: V.junk :: .p (.sl (dcR l) nl) :: .p (.int .i64 l.length) :: .p (.int .i64 k) :: V.junk :: V.junk :: V.junk :: V.junk :: V.junk :: V.junk :: V.junk :: V.junk :: V.junk :: V.junk :: V.junk :: V.junk :: V.junk :: V.junk :: V.junk :: V.junk :: V.junk :: V.junk :: V.junk :: V.junk :: V.junk :: V.junk :: V.junk :: V.junk :: V.junk :: V.junk :: V.junk :: V.junk :: V.junk :: V.junk :: V.junk :: V.junk :: V.junk :: V.junk :: V.junk :: V.junk :: V.junk :: V.junk :: V.junk :: V.junk :: V.junk :: V.junk :: V.junk :: V.junk :: V.junk :: V.junk :: V.junk :: V.junk :: V.junk :: V.junk :: V.junk :: V.junk :: []), ⟨[], []⟩⟩) ?_ ?_
  · simp (maxSteps := 1000000) (disch := refine hold_ ?_; first | (simp [-List.getD_eq_getElem?_getD]; done) | omega) [-List.getD_eq_getElem?_getD]
  intro k hk
  have e0 := wrap_succ k N hk (by omega)
  by_cases hkm : k < l.length
  · have hkz : (k : Int) < l.length := by omega
    have hkz2 : (k : Int) ≤ l.length := by omega
    have hkl : k ≤ l.length := by omega
    have he := dcR_elem l k hkm
    have hcut : (dcR l).cut 0 k = dcR (l.take k) := dc_cut l k
    have kd := hasD_ct (l.take k) nl (l.getD k ⟨[], []⟩) (by rw [List.length_take]; omega)
    have hd := hok _ (mem_getD l k ⟨[], []⟩ hkm)
    have hdup : dupD l k = !(allB (fun j => !(((l.take k).getD j ⟨[], []⟩).p == (l.getD k ⟨[], []⟩).p)) (l.take k).length) := rfl
    rw [← hdup] at kd
    clear hdup
    have hg : k < N → (!dupD l k && dcOk (l.getD k ⟨[], []⟩)) = true := hall k
    have hb : N = k → (!dupD l k && dcOk (l.getD k ⟨[], []⟩)) = false := fun e => by subst e; exact hno hkm
    clear hall hno hB
    generalize dcR (l.take k) = R at *
    generalize dupD l k = D at *
    generalize l.getD k ⟨[], []⟩ = d at *
    have k68 := prefix_ct d.p hd.p
    have k51 := text_ct d.u hd.u
    have e1 := s_ne0 d.p
    have e2 := s_eq0 d.p
    have e3 := s_eq0 d.u
    have e4 := q_xmlns d.p
    have e5 := q_xmlnsU d.u
    have e6 := q_xml d.p
    have e7 := q_xmlU d.u
    unfold dcOk at hg hb
    unfold dcC at kd
    unfold dcP at he
    generalize preOk d.p = P at *
    generalize (d.p == []) = P0 at *
    generalize (d.p == xmlnsS) = X1 at *
    generalize textB d.u = T at *
    generalize (d.u == []) = U0 at *
    generalize (d.p == xmlS) = XP at *
    generalize (d.u == xmlU) = XU at *
    generalize (d.u == xmlnsU) = XN at *
    rcases orc D (anc P (orc X1 (anc T (spl U0 (spl P0 (spl XP (spl XU (spl XN (trivial))))))))) with rfl | ⟨rfl, rfl | ⟨rfl, rfl | ⟨rfl, rfl | ⟨rfl, ⟨rfl | rfl, ⟨rfl | rfl, ⟨rfl | rfl, ⟨rfl | rfl, ⟨rfl | rfl, _⟩⟩⟩⟩⟩⟩⟩⟩⟩
    all_goals
      first
        | (have hkN : k = N := by
             rcases Nat.lt_or_ge k N with h1 | h1
             · have := hg h1; simp at this
             · omega
           have hne : N ≠ l.length := by omega
           repeat (first | ((with_reducible refine Go.Av.AW.freezeAt 4 4 ?_ ?_ fun K_ hK_ => ?_); (focus decide); (focus (simp; done)); simp (maxSteps := 1000000) (disch := refine hold_ ?_; first | (simp [-ownSl, Go.Av.ownSl_bl, e0, e1, e2, e3, e4, e5, e6, e7, he, hcut, hkm, hkz, hkz2, hkl, -List.getD_eq_getElem?_getD]; done) | omega) [-ownSl, Go.Av.ownSl_bl, e0, e1, e2, e3, e4, e5, e6, e7, he, hcut, hkm, hkz, hkz2, hkl, -List.getD_eq_getElem?_getD]; subst hK_) | ((with_reducible first | refine callK_at 66 ?_ | refine callK_at 68 ?_ | refine callK_at 51 ?_); refine callK_p ?_; simp (maxSteps := 1000000) (disch := refine hold_ ?_; first | (simp [e0, e1, e2, e3, e4, e5, e6, e7, he, hcut, hkm, hkz, hkz2, hkl, -List.getD_eq_getElem?_getD]; done) | omega) [e0, e1, e2, e3, e4, e5, e6, e7, he, hcut, hkm, hkz, hkz2, hkl, -List.getD_eq_getElem?_getD]; (first | ((with_reducible refine k1_at 66 ?_); refine callK1_of (Fn.ct kd Tryd.call66) ?_) | ((with_reducible refine k1_at 68 ?_); refine callK1_of (Fn.ct k68 Tryd.call68) ?_) | ((with_reducible refine k1_at 51 ?_); refine callK1_of (Fn.ct k51 Tryd.call51) ?_)); (try simp (maxSteps := 1000000) (disch := refine hold_ ?_; first | (simp [e0, e1, e2, e3, e4, e5, e6, e7, he, hcut, hkm, hkz, hkz2, hkl, -List.getD_eq_getElem?_getD]; done) | omega) [e0, e1, e2, e3, e4, e5, e6, e7, he, hcut, hkm, hkz, hkz2, hkl, -List.getD_eq_getElem?_getD]); try first | (with_reducible refine zZ ?_) | subst hK_) | ((first | (with_reducible first | refine zP fun K_ hK_ => ?_ | refine zQ fun K_ hK_ => ?_ | refine zT ?_ | refine zU ?_ | refine zV ?_ | refine zW ?_ | refine zX ?_ | refine zY ?_) | ((with_reducible first | refine zR ?_ ?_ fun K_ hK_ => ?_ | refine zS ?_ ?_ fun K_ hK_ => ?_); (focus kernel_rfl); (focus kernel_rfl))); first | (simp (maxSteps := 1000000) (disch := refine hold_ ?_; first | (simp [e0, e1, e2, e3, e4, e5, e6, e7, he, hcut, hkm, hkz, hkz2, hkl, -List.getD_eq_getElem?_getD]; done) | omega) [e0, e1, e2, e3, e4, e5, e6, e7, he, hcut, hkm, hkz, hkz2, hkl, -List.getD_eq_getElem?_getD]; try first | (with_reducible refine zZ ?_) | subst hK_) | subst hK_) | (with_reducible first | refine zA ?_ | refine zB ?_ | refine zC ?_ | refine zD ?_ | refine zE ?_ | refine zF ?_ | refine zG ?_ | refine zH ?_ | refine zI ?_ | refine zJ ?_ | refine zK ?_ | refine zL ?_ | refine zM ?_ | refine zN ?_ | refine zO ?_) | ((with_reducible refine yG ?_ ?_); (focus decide)) | ((with_reducible refine yA ?_); refine yB rfl ?_; (with_reducible first | refine yC ?_ | refine yD ?_)))
           simp (maxSteps := 1000000) (disch := refine hold_ ?_; first | (simp [hne, -List.getD_eq_getElem?_getD]; done) | omega) [hne, -List.getD_eq_getElem?_getD])
        | (have hkN : k < N := Nat.lt_of_le_of_ne hk fun e => by simpa using hb e.symm
           repeat (first | ((with_reducible refine Go.Av.AW.freezeAt 4 4 ?_ ?_ fun K_ hK_ => ?_); (focus decide); (focus (simp; done)); simp (maxSteps := 1000000) (disch := refine hold_ ?_; first | (simp [-ownSl, Go.Av.ownSl_bl, e0, e1, e2, e3, e4, e5, e6, e7, he, hcut, hkm, hkz, hkz2, hkl, -List.getD_eq_getElem?_getD]; done) | omega) [-ownSl, Go.Av.ownSl_bl, e0, e1, e2, e3, e4, e5, e6, e7, he, hcut, hkm, hkz, hkz2, hkl, -List.getD_eq_getElem?_getD]; subst hK_) | ((with_reducible first | refine callK_at 66 ?_ | refine callK_at 68 ?_ | refine callK_at 51 ?_); refine callK_p ?_; simp (maxSteps := 1000000) (disch := refine hold_ ?_; first | (simp [e0, e1, e2, e3, e4, e5, e6, e7, he, hcut, hkm, hkz, hkz2, hkl, -List.getD_eq_getElem?_getD]; done) | omega) [e0, e1, e2, e3, e4, e5, e6, e7, he, hcut, hkm, hkz, hkz2, hkl, -List.getD_eq_getElem?_getD]; (first | ((with_reducible refine k1_at 66 ?_); refine callK1_of (Fn.ct kd Tryd.call66) ?_) | ((with_reducible refine k1_at 68 ?_); refine callK1_of (Fn.ct k68 Tryd.call68) ?_) | ((with_reducible refine k1_at 51 ?_); refine callK1_of (Fn.ct k51 Tryd.call51) ?_)); (try simp (maxSteps := 1000000) (disch := refine hold_ ?_; first | (simp [e0, e1, e2, e3, e4, e5, e6, e7, he, hcut, hkm, hkz, hkz2, hkl, -List.getD_eq_getElem?_getD]; done) | omega) [e0, e1, e2, e3, e4, e5, e6, e7, he, hcut, hkm, hkz, hkz2, hkl, -List.getD_eq_getElem?_getD]); try first | (with_reducible refine zZ ?_) | subst hK_) | ((first | (with_reducible first | refine zP fun K_ hK_ => ?_ | refine zQ fun K_ hK_ => ?_ | refine zT ?_ | refine zU ?_ | refine zV ?_ | refine zW ?_ | refine zX ?_ | refine zY ?_) | ((with_reducible first | refine zR ?_ ?_ fun K_ hK_ => ?_ | refine zS ?_ ?_ fun K_ hK_ => ?_); (focus kernel_rfl); (focus kernel_rfl))); first | (simp (maxSteps := 1000000) (disch := refine hold_ ?_; first | (simp [e0, e1, e2, e3, e4, e5, e6, e7, he, hcut, hkm, hkz, hkz2, hkl, -List.getD_eq_getElem?_getD]; done) | omega) [e0, e1, e2, e3, e4, e5, e6, e7, he, hcut, hkm, hkz, hkz2, hkl, -List.getD_eq_getElem?_getD]; try first | (with_reducible refine zZ ?_) | subst hK_) | subst hK_) | (with_reducible first | refine zA ?_ | refine zB ?_ | refine zC ?_ | refine zD ?_ | refine zE ?_ | refine zF ?_ | refine zG ?_ | refine zH ?_ | refine zI ?_ | refine zJ ?_ | refine zK ?_ | refine zL ?_ | refine zM ?_ | refine zN ?_ | refine zO ?_) | ((with_reducible refine yG ?_ ?_); (focus decide)) | ((with_reducible refine yA ?_); refine yB rfl ?_; (with_reducible first | refine yC ?_ | refine yD ?_)))
           refine ⟨hkN, ?_⟩
           simp (maxSteps := 1000000) (disch := refine hold_ ?_; first | (simp [-List.getD_eq_getElem?_getD]; done) | omega) [-List.getD_eq_getElem?_getD])
  · have hkz : ¬ (k : Int) < l.length := by omega
    have hkN : N = l.length := by omega
    repeat (first | ((first | (with_reducible first | refine zP fun K_ hK_ => ?_ | refine zQ fun K_ hK_ => ?_ | refine zT ?_ | refine zU ?_ | refine zV ?_ | refine zW ?_ | refine zX ?_ | refine zY ?_) | ((with_reducible first | refine zR ?_ ?_ fun K_ hK_ => ?_ | refine zS ?_ ?_ fun K_ hK_ => ?_); (focus kernel_rfl); (focus kernel_rfl))); first | (simp (maxSteps := 1000000) (disch := refine hold_ ?_; first | (simp [hkz, -List.getD_eq_getElem?_getD]; done) | omega) [hkz, -List.getD_eq_getElem?_getD]; try first | (with_reducible refine zZ ?_) | subst hK_) | subst hK_) | (with_reducible first | refine zA ?_ | refine zB ?_ | refine zC ?_ | refine zD ?_ | refine zE ?_ | refine zF ?_ | refine zG ?_ | refine zH ?_ | refine zI ?_ | refine zJ ?_ | refine zK ?_ | refine zL ?_ | refine zM ?_ | refine zN ?_ | refine zO ?_) | ((with_reducible refine yG ?_ ?_); (focus decide)) | ((with_reducible refine yA ?_); refine yB rfl ?_; (with_reducible first | refine yC ?_ | refine yD ?_)))
    all_goals (try simp (maxSteps := 1000000) (disch := refine hold_ ?_; first | (simp [hkN, -List.getD_eq_getElem?_getD]; done) | omega) [hkN, -List.getD_eq_getElem?_getD])
end Go.Av.Doc
end
section
set_option linter.unusedSimpArgs false
set_option linter.unusedVariables false
set_option linter.unusedSectionVars false
open Go Go.Av Go.Proofs
namespace Go.Av.Doc
variable [ML]
def upD (ds : List Dc) (p : List (BitVec 8)) : Nat := upto (fun k => !((ds.getD k ⟨[], []⟩).p == p)) ds.length
def meF (l : List Nd) (p : List (BitVec 8)) : Nat → Int → List (BitVec 8) × Bool
  | 0, _ => ([], p == [])
  | f + 1, n => if 0 < n then (if upD (nd l n.toNat).ds p < (nd l n.toNat).ds.length then (((nd l n.toNat).ds.getD (upD (nd l n.toNat).ds p) ⟨[], []⟩).u, true) else meF l p f (nd l n.toNat).a) else ([], p == [])
def meL (l : List Nd) (p : List (BitVec 8)) (n : Int) : List (BitVec 8) × Bool := meF l p (n.toNat + 1) n
def meansL (l : List Nd) (p : List (BitVec 8)) (n : Int) : List (BitVec 8) × Bool := if p == xmlS then (xmlU, true) else meL l p n
theorem meF_more {l : List Nd} {p : List (BitVec 8)} {n : Nat} (h : pOk l n) : ∀ (f g : Nat) (m : Int), m < n → m < f → m < g → 0 < f → 0 < g → meF l p f m = meF l p g m
  | 0, _, _, _, _, _, h1, _ => absurd h1 (Nat.lt_irrefl _)
  | _, 0, _, _, _, _, _, h1 => absurd h1 (Nat.lt_irrefl _)
  | f + 1, g + 1, m, hn, hf, hg, _, _ => by
    unfold meF
    split
    · split
      · rfl
      · have hm : m.toNat < n := by omega
        obtain ⟨q1, q2, q3⟩ := h.lt hm
        exact meF_more h f g _ (by omega) (by omega) (by omega) (by omega) (by omega)
    · rfl
theorem meL_zero (l : List Nd) (p : List (BitVec 8)) (n : Int) (h : ¬ 0 < n) : meL l p n = ([], p == []) := by unfold meL meF; rw [if_neg h]
theorem meL_hit (l : List Nd) (p : List (BitVec 8)) (n : Nat) (h0 : 0 < n) (h : upD (nd l n).ds p < (nd l n).ds.length) : meL l p n = (((nd l n).ds.getD (upD (nd l n).ds p) ⟨[], []⟩).u, true) := by
  unfold meL meF; rw [if_pos (by omega)]; simp only [Int.toNat_natCast]; rw [if_pos h]
theorem meL_up {l : List Nd} {p : List (BitVec 8)} {n : Nat} {N : Nat} (hp : pOk l N) (hN : n < N) (h0 : 0 < n) (h : ¬ upD (nd l n).ds p < (nd l n).ds.length) : meL l p n = meL l p (nd l n).a := by
  obtain ⟨q1, q2, q3⟩ := hp.lt hN
  have := q3 h0
  unfold meL
  rw [meF, if_pos (by omega)]
  simp only [Int.toNat_natCast]
  rw [if_neg h]
  exact meF_more hp _ _ _ (by omega) (by omega) (by omega) (by omega) (by omega)
theorem meL_nil (l : List Nd) (n : Int) : (meL l [] n).2 = true := by
  have : ∀ f n, (meF l [] f n).2 = true := by
    intro f
    induction f with
    | zero => intro n; rfl
    | succ f ih => intro n; unfold meF; split; split; rfl; exact ih _; rfl
  exact this _ _
set_option maxRecDepth 8000 in
set_option maxHeartbeats 4000000 in
theorem means_ct (l : List Nd) (nl : Bool) (p : List (BitVec 8)) (n0 : Nat) (h : pOk l (n0 + 1)) (hn : n0 < l.length) (hok : ∀ x ∈ l, okN x) :
    Fn Tryd.prog 69 [.sl (ndR l) nl, .int .i64 n0, .str (txt p)] [.p (.str (txt (meansL l p n0).1)), .p (.bool (meansL l p n0).2)] := by
  have q1 := q_xml p
  have q2 := s_eq0 p
  unfold meansL
  cases hx : p == xmlS with
  | true =>
    rw [hx] at q1
    refine Fn.of_body Tryd.func69 rfl ?_
    repeat (first | ((first | (with_reducible first | refine zP fun K_ hK_ => ?_ | refine zQ fun K_ hK_ => ?_ | refine zT ?_ | refine zU ?_ | refine zV ?_ | refine zW ?_ | refine zX ?_ | refine zY ?_) | ((with_reducible first | refine zR ?_ ?_ fun K_ hK_ => ?_ | refine zS ?_ ?_ fun K_ hK_ => ?_); (focus kernel_rfl); (focus kernel_rfl))); first | (simp (maxSteps := 1000000) (disch := refine hold_ ?_; first | (simp [q1, -List.getD_eq_getElem?_getD]; done) | omega) [q1, -List.getD_eq_getElem?_getD]; try first | (with_reducible refine zZ ?_) | subst hK_) | subst hK_) | (with_reducible first | refine zA ?_ | refine zB ?_ | refine zC ?_ | refine zD ?_ | refine zE ?_ | refine zF ?_ | refine zG ?_ | refine zH ?_ | refine zI ?_ | refine zJ ?_ | refine zK ?_ | refine zL ?_ | refine zM ?_ | refine zN ?_ | refine zO ?_) | ((with_reducible refine yG ?_ ?_); (focus decide)) | ((with_reducible refine yA ?_); refine yB rfl ?_; (with_reducible first | refine yC ?_ | refine yD ?_)))
    all_goals (first | rfl | (simp (maxSteps := 1000000) (disch := refine hold_ ?_; first | (simp [-List.getD_eq_getElem?_getD]; done) | omega) [-List.getD_eq_getElem?_getD]; done) | (simp (maxSteps := 1000000) (disch := refine hold_ ?_; first | (simp [-List.getD_eq_getElem?_getD]; done) | omega) [-List.getD_eq_getElem?_getD]; rfl))
  | false =>
  rw [hx] at q1
  simp only [Bool.false_eq_true, if_false]
  clear hx
  refine Fn.of_body Tryd.func69 rfl ?_
  repeat (first | ((first | (with_reducible first | refine zP fun K_ hK_ => ?_ | refine zQ fun K_ hK_ => ?_ | refine zT ?_ | refine zU ?_ | refine zV ?_ | refine zW ?_ | refine zX ?_ | refine zY ?_) | ((with_reducible first | refine zR ?_ ?_ fun K_ hK_ => ?_ | refine zS ?_ ?_ fun K_ hK_ => ?_); (focus kernel_rfl); (focus kernel_rfl))); first | (simp (maxSteps := 1000000) (disch := refine hold_ ?_; first | (simp [q1, -List.getD_eq_getElem?_getD]; done) | omega) [q1, -List.getD_eq_getElem?_getD]; try first | (with_reducible refine zZ ?_) | subst hK_) | subst hK_) | (with_reducible first | refine zA ?_ | refine zB ?_ | refine zC ?_ | refine zD ?_ | refine zE ?_ | refine zF ?_ | refine zG ?_ | refine zH ?_ | refine zI ?_ | refine zJ ?_ | refine zK ?_ | refine zL ?_ | refine zM ?_ | refine zN ?_ | refine zO ?_) | ((with_reducible refine yG ?_ ?_); (focus decide)) | ((with_reducible refine yA ?_); refine yB rfl ?_; (with_reducible first | refine yC ?_ | refine yD ?_)))
  refine AW.iterI (τ := ⟨(.p (.sl (ndR l) nl) :: .p (.int .i64 n0) :: .p (.str (txt p)) :: V.junk :: V.junk :: V.junk :: V.junk :: V.junk :: V.junk :: V.junk :: V.junk :: V.junk :: V.junk :: V.junk :: V.junk :: V.junk :: V.junk :: V.junk :: V.junk :: V.junk :: V.junk :: V.junk :: V.junk :: V.junk :: V.junk :: V.junk :: V.junk :: V.junk :: V.junk :: V.junk :: V.junk :: V.junk :: V.junk :: V.junk :: V.junk :: V.junk :: V.junk :: V.junk :: []), ⟨[], []⟩⟩) (true :: true :: true :: false :: false :: false :: false :: false :: false :: false :: false :: false :: false :: false :: false :: false :: false :: false :: false :: false :: false :: false :: false :: false :: false :: false :: false :: false :: false :: false :: false :: false :: false :: false :: false :: false :: false :: false :: []) n0 (fun k σ => k ≤ n0 ∧ meL l p k = meL l p n0 ∧ σ = ⟨(.p (.sl (ndR l) nl) :: .p (.int .i64 k) :: .p (.str (txt p)) :: V.junk :: V.junk :: V.junk :: V.junk :: V.junk :: V.junk :: V.junk :: V.junk :: V.junk :: V.junk :: V.junk :: V.junk :: V.junk :: V.junk :: V.junk :: V.junk :: V.junk :: V.junk :: V.junk :: V.junk :: V.junk :: V.junk :: V.junk :: V.junk :: V.junk :: V.junk :: V.junk :: V.junk :: V.junk :: V.junk :: V.junk :: V.junk :: V.junk :: V.junk :: V.junk :: []), ⟨[], []⟩⟩) ?_ ⟨Nat.le_refl _, rfl, rfl⟩ ?_
  · simp (maxSteps := 1000000) (disch := refine hold_ ?_; first | (simp [-List.getD_eq_getElem?_getD]; done) | omega) [-List.getD_eq_getElem?_getD]
  rintro n σ ⟨hnn, hme, rfl⟩
  by_cases h0 : 0 < n
  · have h0z : (0 : Int) < n := by omega
    have hnl : n < l.length := by omega
    have he := nd_elem l n hnl
    have hx := hok _ (mem_getD l n default hnl)
    have hpar := h.lt (show n < n0 + 1 by omega)
    have hup := meL_up (p := p) h (show n < n0 + 1 by omega) h0
    have hhit := meL_hit l p n h0
    have hU := upto_le (fun k => !(((nd l n).ds.getD k ⟨[], []⟩).p == p)) (nd l n).ds.length
    have hall := upto_all (fun k => !(((nd l n).ds.getD k ⟨[], []⟩).p == p)) (nd l n).ds.length
    have hno := upto_no (fun k => !(((nd l n).ds.getD k ⟨[], []⟩).p == p)) (nd l n).ds.length
    change upD (nd l n).ds p ≤ _ at hU
    change ∀ k, k < upD (nd l n).ds p → _ at hall
    change upD (nd l n).ds p < _ → (!(((nd l n).ds.getD (upD (nd l n).ds p) ⟨[], []⟩).p == p)) = false at hno
    change okN (nd l n) at hx
    generalize upD (nd l n).ds p = N at *
    have hdl := hx.dl
    unfold ndP at he
    repeat (first | ((first | (with_reducible first | refine zP fun K_ hK_ => ?_ | refine zQ fun K_ hK_ => ?_ | refine zT ?_ | refine zU ?_ | refine zV ?_ | refine zW ?_ | refine zX ?_ | refine zY ?_) | ((with_reducible first | refine zR ?_ ?_ fun K_ hK_ => ?_ | refine zS ?_ ?_ fun K_ hK_ => ?_); (focus kernel_rfl); (focus kernel_rfl))); first | (simp (maxSteps := 1000000) (disch := refine hold_ ?_; first | (simp [h0, h0z, hnl, he, -List.getD_eq_getElem?_getD]; done) | omega) [h0, h0z, hnl, he, -List.getD_eq_getElem?_getD]; try first | (with_reducible refine zZ ?_) | subst hK_) | subst hK_) | (with_reducible first | refine zA ?_ | refine zB ?_ | refine zC ?_ | refine zD ?_ | refine zE ?_ | refine zF ?_ | refine zG ?_ | refine zH ?_ | refine zI ?_ | refine zJ ?_ | refine zK ?_ | refine zL ?_ | refine zM ?_ | refine zN ?_ | refine zO ?_) | ((with_reducible refine yG ?_ ?_); (focus decide)) | ((with_reducible refine yA ?_); refine yB rfl ?_; (with_reducible first | refine yC ?_ | refine yD ?_)))
    refine AW.iter (true :: true :: true :: false :: false :: false :: false :: false :: false :: false :: false :: false :: false :: false :: false :: false :: false :: false :: false :: false :: false :: false :: false :: true :: true :: true :: false :: false :: false :: false :: false :: false :: false :: false :: false :: false :: false :: false :: []) N (fun k => ⟨(.p (.sl (ndR l) nl) :: .p (.int .i64 n) :: .p (.str (txt p)) :: V.junk :: V.junk :: V.junk :: V.junk :: V.junk :: V.junk :: V.junk :: V.junk :: V.junk :: V.junk :: V.junk :: V.junk :: V.junk :: V.junk :: V.junk :: V.junk :: V.junk :: V.junk :: V.junk :: V.junk :: .p (.sl (dcR (nd l n).ds) (nd l n).dn) :: .p (.int .i64 (nd l n).ds.length) :: .p (.int .i64 k) :: V.junk :: V.junk :: V.junk :: V.junk :: V.junk :: V.junk :: V.junk :: V.junk :: V.junk :: V.junk :: V.junk :: V.junk :: []), ⟨[], []⟩⟩) ?_ ?_
    · simp (maxSteps := 1000000) (disch := refine hold_ ?_; first | (simp [-List.getD_eq_getElem?_getD]; done) | omega) [-List.getD_eq_getElem?_getD]
    intro k hk
    have e0 := wrap_succ k N hk (by omega)
    by_cases hkm : k < (nd l n).ds.length
    · have hkz : (k : Int) < (nd l n).ds.length := by omega
      have hd := dcR_elem (nd l n).ds k hkm
      by_cases hkN : k < N
      · have hp1 : (((nd l n).ds.getD k ⟨[], []⟩).p == p) = false := by simpa using hall k hkN
        have e1 := str_eq_txt ((nd l n).ds.getD k ⟨[], []⟩).p p
        rw [hp1] at e1
        clear hall hno hhit hup hme
        generalize (nd l n).ds.getD k ⟨[], []⟩ = d at *
        unfold dcP at hd
        repeat (first | ((first | (with_reducible first | refine zP fun K_ hK_ => ?_ | refine zQ fun K_ hK_ => ?_ | refine zT ?_ | refine zU ?_ | refine zV ?_ | refine zW ?_ | refine zX ?_ | refine zY ?_) | ((with_reducible first | refine zR ?_ ?_ fun K_ hK_ => ?_ | refine zS ?_ ?_ fun K_ hK_ => ?_); (focus kernel_rfl); (focus kernel_rfl))); first | (simp (maxSteps := 1000000) (disch := refine hold_ ?_; first | (simp [hkm, hkz, hd, e0, e1, hnl, he, -List.getD_eq_getElem?_getD]; done) | omega) [hkm, hkz, hd, e0, e1, hnl, he, -List.getD_eq_getElem?_getD]; try first | (with_reducible refine zZ ?_) | subst hK_) | subst hK_) | (with_reducible first | refine zA ?_ | refine zB ?_ | refine zC ?_ | refine zD ?_ | refine zE ?_ | refine zF ?_ | refine zG ?_ | refine zH ?_ | refine zI ?_ | refine zJ ?_ | refine zK ?_ | refine zL ?_ | refine zM ?_ | refine zN ?_ | refine zO ?_) | ((with_reducible refine yG ?_ ?_); (focus decide)) | ((with_reducible refine yA ?_); refine yB rfl ?_; (with_reducible first | refine yC ?_ | refine yD ?_)))
        refine ⟨hkN, ?_⟩
        simp (maxSteps := 1000000) (disch := refine hold_ ?_; first | (simp [-List.getD_eq_getElem?_getD]; done) | omega) [-List.getD_eq_getElem?_getD]
      · obtain rfl : k = N := by omega
        have hp1 : (((nd l n).ds.getD k ⟨[], []⟩).p == p) = true := by simpa using hno hkm
        have e1 := str_eq_txt ((nd l n).ds.getD k ⟨[], []⟩).p p
        rw [hp1] at e1
        have hm := hhit hkm
        rw [← hme, hm]
        clear hall hno hhit hup hme hm
        generalize (nd l n).ds.getD k ⟨[], []⟩ = d at *
        unfold dcP at hd
        repeat (first | ((first | (with_reducible first | refine zP fun K_ hK_ => ?_ | refine zQ fun K_ hK_ => ?_ | refine zT ?_ | refine zU ?_ | refine zV ?_ | refine zW ?_ | refine zX ?_ | refine zY ?_) | ((with_reducible first | refine zR ?_ ?_ fun K_ hK_ => ?_ | refine zS ?_ ?_ fun K_ hK_ => ?_); (focus kernel_rfl); (focus kernel_rfl))); first | (simp (maxSteps := 1000000) (disch := refine hold_ ?_; first | (simp [hkm, hkz, hd, e0, e1, hnl, he, -List.getD_eq_getElem?_getD]; done) | omega) [hkm, hkz, hd, e0, e1, hnl, he, -List.getD_eq_getElem?_getD]; try first | (with_reducible refine zZ ?_) | subst hK_) | subst hK_) | (with_reducible first | refine zA ?_ | refine zB ?_ | refine zC ?_ | refine zD ?_ | refine zE ?_ | refine zF ?_ | refine zG ?_ | refine zH ?_ | refine zI ?_ | refine zJ ?_ | refine zK ?_ | refine zL ?_ | refine zM ?_ | refine zN ?_ | refine zO ?_) | ((with_reducible refine yG ?_ ?_); (focus decide)) | ((with_reducible refine yA ?_); refine yB rfl ?_; (with_reducible first | refine yC ?_ | refine yD ?_)))
        all_goals (try simp (maxSteps := 1000000) (disch := refine hold_ ?_; first | (simp [-List.getD_eq_getElem?_getD]; done) | omega) [-List.getD_eq_getElem?_getD])
    · have hkz : ¬ (k : Int) < (nd l n).ds.length := by omega
      obtain rfl : k = N := by omega
      have hu := hup hkm
      obtain ⟨q, hq⟩ : ∃ q : Nat, (nd l n).a = q := ⟨(nd l n).a.toNat, by have := hpar.2.2 h0; omega⟩
      rw [hq] at hu hpar he
      repeat (first | ((first | (with_reducible first | refine zP fun K_ hK_ => ?_ | refine zQ fun K_ hK_ => ?_ | refine zT ?_ | refine zU ?_ | refine zV ?_ | refine zW ?_ | refine zX ?_ | refine zY ?_) | ((with_reducible first | refine zR ?_ ?_ fun K_ hK_ => ?_ | refine zS ?_ ?_ fun K_ hK_ => ?_); (focus kernel_rfl); (focus kernel_rfl))); first | (simp (maxSteps := 1000000) (disch := refine hold_ ?_; first | (simp [hkz, hnl, he, -List.getD_eq_getElem?_getD]; done) | omega) [hkz, hnl, he, -List.getD_eq_getElem?_getD]; try first | (with_reducible refine zZ ?_) | subst hK_) | subst hK_) | (with_reducible first | refine zA ?_ | refine zB ?_ | refine zC ?_ | refine zD ?_ | refine zE ?_ | refine zF ?_ | refine zG ?_ | refine zH ?_ | refine zI ?_ | refine zJ ?_ | refine zK ?_ | refine zL ?_ | refine zM ?_ | refine zN ?_ | refine zO ?_) | ((with_reducible refine yG ?_ ?_); (focus decide)) | ((with_reducible refine yA ?_); refine yB rfl ?_; (with_reducible first | refine yC ?_ | refine yD ?_)))
      refine ⟨q, ⟨(.p (.sl (ndR l) nl) :: .p (.int .i64 q) :: .p (.str (txt p)) :: V.junk :: V.junk :: V.junk :: V.junk :: V.junk :: V.junk :: V.junk :: V.junk :: V.junk :: V.junk :: V.junk :: V.junk :: V.junk :: V.junk :: V.junk :: V.junk :: V.junk :: V.junk :: V.junk :: V.junk :: V.junk :: V.junk :: V.junk :: V.junk :: V.junk :: V.junk :: V.junk :: V.junk :: V.junk :: V.junk :: V.junk :: V.junk :: V.junk :: V.junk :: V.junk :: []), ⟨[], []⟩⟩, by omega, ?_, by omega, by rw [← hme, hu], rfl⟩
      simp (maxSteps := 1000000) (disch := refine hold_ ?_; first | (simp [-List.getD_eq_getElem?_getD]; done) | omega) [-List.getD_eq_getElem?_getD]
  · have h0z : ¬ (0 : Int) < n := by omega
    rw [meL_zero l p n h0z] at hme
    rw [← hme]
    simp only
    repeat (first | ((first | (with_reducible first | refine zP fun K_ hK_ => ?_ | refine zQ fun K_ hK_ => ?_ | refine zT ?_ | refine zU ?_ | refine zV ?_ | refine zW ?_ | refine zX ?_ | refine zY ?_) | ((with_reducible first | refine zR ?_ ?_ fun K_ hK_ => ?_ | refine zS ?_ ?_ fun K_ hK_ => ?_); (focus kernel_rfl); (focus kernel_rfl))); first | (simp (maxSteps := 1000000) (disch := refine hold_ ?_; first | (simp [h0z, h0, q2, -List.getD_eq_getElem?_getD]; done) | omega) [h0z, h0, q2, -List.getD_eq_getElem?_getD]; try first | (with_reducible refine zZ ?_) | subst hK_) | subst hK_) | (with_reducible first | refine zA ?_ | refine zB ?_ | refine zC ?_ | refine zD ?_ | refine zE ?_ | refine zF ?_ | refine zG ?_ | refine zH ?_ | refine zI ?_ | refine zJ ?_ | refine zK ?_ | refine zL ?_ | refine zM ?_ | refine zN ?_ | refine zO ?_) | ((with_reducible refine yG ?_ ?_); (focus decide)) | ((with_reducible refine yA ?_); refine yB rfl ?_; (with_reducible first | refine yC ?_ | refine yD ?_)))
    all_goals (first | rfl | (simp (maxSteps := 1000000) (disch := refine hold_ ?_; first | (simp [-List.getD_eq_getElem?_getD]; done) | omega) [-List.getD_eq_getElem?_getD]; done) | (simp (maxSteps := 1000000) (disch := refine hold_ ?_; first | (simp [-List.getD_eq_getElem?_getD]; done) | omega) [-List.getD_eq_getElem?_getD]; rfl))
set_option maxRecDepth 8000 in
set_option maxHeartbeats 4000000 in
theorem Means_ct (l : List Nd) (nl : Bool) (p : List (BitVec 8)) (n0 : Nat) (h : pOk l (n0 + 1)) (hn : n0 < l.length) (hok : ∀ x ∈ l, okN x) :
    Fn Tryd.prog 15 [.sl (ndR l) nl, .int .i64 n0, .str (txt p)] [.p (.str (txt (meansL l p n0).1)), .p (.bool (meansL l p n0).2)] := by
  have q1 := q_xml p
  have q2 := s_eq0 p
  unfold meansL
  cases hx : p == xmlS with
  | true =>
    rw [hx] at q1
    refine Fn.of_body Tryd.func15 rfl ?_
    repeat (first | ((first | (with_reducible first | refine zP fun K_ hK_ => ?_ | refine zQ fun K_ hK_ => ?_ | refine zT ?_ | refine zU ?_ | refine zV ?_ | refine zW ?_ | refine zX ?_ | refine zY ?_) | ((with_reducible first | refine zR ?_ ?_ fun K_ hK_ => ?_ | refine zS ?_ ?_ fun K_ hK_ => ?_); (focus kernel_rfl); (focus kernel_rfl))); first | (simp (maxSteps := 1000000) (disch := refine hold_ ?_; first | (simp [q1, -List.getD_eq_getElem?_getD]; done) | omega) [q1, -List.getD_eq_getElem?_getD]; try first | (with_reducible refine zZ ?_) | subst hK_) | subst hK_) | (with_reducible first | refine zA ?_ | refine zB ?_ | refine zC ?_ | refine zD ?_ | refine zE ?_ | refine zF ?_ | refine zG ?_ | refine zH ?_ | refine zI ?_ | refine zJ ?_ | refine zK ?_ | refine zL ?_ | refine zM ?_ | refine zN ?_ | refine zO ?_) | ((with_reducible refine yG ?_ ?_); (focus decide)) | ((with_reducible refine yA ?_); refine yB rfl ?_; (with_reducible first | refine yC ?_ | refine yD ?_)))
    all_goals (first | rfl | (simp (maxSteps := 1000000) (disch := refine hold_ ?_; first | (simp [-List.getD_eq_getElem?_getD]; done) | omega) [-List.getD_eq_getElem?_getD]; done) | (simp (maxSteps := 1000000) (disch := refine hold_ ?_; first | (simp [-List.getD_eq_getElem?_getD]; done) | omega) [-List.getD_eq_getElem?_getD]; rfl))
  | false =>
  rw [hx] at q1
  simp only [Bool.false_eq_true, if_false]
  clear hx
  refine Fn.of_body Tryd.func15 rfl ?_
  repeat (first | ((first | (with_reducible first | refine zP fun K_ hK_ => ?_ | refine zQ fun K_ hK_ => ?_ | refine zT ?_ | refine zU ?_ | refine zV ?_ | refine zW ?_ | refine zX ?_ | refine zY ?_) | ((with_reducible first | refine zR ?_ ?_ fun K_ hK_ => ?_ | refine zS ?_ ?_ fun K_ hK_ => ?_); (focus kernel_rfl); (focus kernel_rfl))); first | (simp (maxSteps := 1000000) (disch := refine hold_ ?_; first | (simp [q1, -List.getD_eq_getElem?_getD]; done) | omega) [q1, -List.getD_eq_getElem?_getD]; try first | (with_reducible refine zZ ?_) | subst hK_) | subst hK_) | (with_reducible first | refine zA ?_ | refine zB ?_ | refine zC ?_ | refine zD ?_ | refine zE ?_ | refine zF ?_ | refine zG ?_ | refine zH ?_ | refine zI ?_ | refine zJ ?_ | refine zK ?_ | refine zL ?_ | refine zM ?_ | refine zN ?_ | refine zO ?_) | ((with_reducible refine yG ?_ ?_); (focus decide)) | ((with_reducible refine yA ?_); refine yB rfl ?_; (with_reducible first | refine yC ?_ | refine yD ?_)))
  refine AW.iterI (τ := ⟨(.p (.sl (ndR l) nl) :: .p (.int .i64 n0) :: .p (.str (txt p)) :: V.junk :: V.junk :: V.junk :: V.junk :: V.junk :: V.junk :: V.junk :: V.junk :: V.junk :: V.junk :: V.junk :: V.junk :: V.junk :: V.junk :: V.junk :: V.junk :: V.junk :: V.junk :: V.junk :: V.junk :: V.junk :: V.junk :: V.junk :: V.junk :: V.junk :: V.junk :: V.junk :: V.junk :: V.junk :: V.junk :: V.junk :: V.junk :: V.junk :: V.junk :: V.junk :: V.junk :: V.junk :: V.junk :: V.junk :: V.junk :: V.junk :: V.junk :: V.junk :: V.junk :: V.junk :: V.junk :: V.junk :: []), ⟨[], []⟩⟩) (true :: true :: true :: false :: false :: false :: false :: false :: false :: false :: false :: false :: false :: false :: false :: false :: false :: false :: false :: false :: false :: false :: false :: false :: false :: false :: false :: false :: false :: false :: false :: false :: false :: false :: false :: false :: false :: false :: false :: false :: false :: false :: false :: false :: false :: false :: false :: false :: false :: false :: []) n0 (fun k σ => k ≤ n0 ∧ meL l p k = meL l p n0 ∧ σ = ⟨(.p (.sl (ndR l) nl) :: .p (.int .i64 k) :: .p (.str (txt p)) :: V.junk :: V.junk :: V.junk :: V.junk :: V.junk :: V.junk :: V.junk :: V.junk :: V.junk :: V.junk :: V.junk :: V.junk :: V.junk :: V.junk :: V.junk :: V.junk :: V.junk :: V.junk :: V.junk :: V.junk :: V.junk :: V.junk :: V.junk :: V.junk :: V.junk :: V.junk :: V.junk :: V.junk :: V.junk :: V.junk :: V.junk :: V.junk :: V.junk :: V.junk :: V.junk :: V.junk :: V.junk :: V.junk :: V.junk :: V.junk :: V.junk :: V.junk :: V.junk :: V.junk :: V.junk :: V.junk :: V.junk :: []), ⟨[], []⟩⟩) ?_ ⟨Nat.le_refl _, rfl, rfl⟩ ?_
  · simp (maxSteps := 1000000) (disch := refine hold_ ?_; first | (simp [-List.getD_eq_getElem?_getD]; done) | omega) [-List.getD_eq_getElem?_getD]
  rintro n σ ⟨hnn, hme, rfl⟩
  by_cases h0 : 0 < n
  · have h0z : (0 : Int) < n := by omega
    have hnl : n < l.length := by omega
    have he := nd_elem l n hnl
    have hx := hok _ (mem_getD l n default hnl)
    have hpar := h.lt (show n < n0 + 1 by omega)
    have hup := meL_up (p := p) h (show n < n0 + 1 by omega) h0
    have hhit := meL_hit l p n h0
    have hU := upto_le (fun k => !(((nd l n).ds.getD k ⟨[], []⟩).p == p)) (nd l n).ds.length
    have hall := upto_all (fun k => !(((nd l n).ds.getD k ⟨[], []⟩).p == p)) (nd l n).ds.length
    have hno := upto_no (fun k => !(((nd l n).ds.getD k ⟨[], []⟩).p == p)) (nd l n).ds.length
    change upD (nd l n).ds p ≤ _ at hU
    change ∀ k, k < upD (nd l n).ds p → _ at hall
    change upD (nd l n).ds p < _ → (!(((nd l n).ds.getD (upD (nd l n).ds p) ⟨[], []⟩).p == p)) = false at hno
    change okN (nd l n) at hx
    generalize upD (nd l n).ds p = N at *
    have hdl := hx.dl
    unfold ndP at he
    repeat (first | ((first | (with_reducible first | refine zP fun K_ hK_ => ?_ | refine zQ fun K_ hK_ => ?_ | refine zT ?_ | refine zU ?_ | refine zV ?_ | refine zW ?_ | refine zX ?_ | refine zY ?_) | ((with_reducible first | refine zR ?_ ?_ fun K_ hK_ => ?_ | refine zS ?_ ?_ fun K_ hK_ => ?_); (focus kernel_rfl); (focus kernel_rfl))); first | (simp (maxSteps := 1000000) (disch := refine hold_ ?_; first | (simp [h0, h0z, hnl, he, -List.getD_eq_getElem?_getD]; done) | omega) [h0, h0z, hnl, he, -List.getD_eq_getElem?_getD]; try first | (with_reducible refine zZ ?_) | subst hK_) | subst hK_) | (with_reducible first | refine zA ?_ | refine zB ?_ | refine zC ?_ | refine zD ?_ | refine zE ?_ | refine zF ?_ | refine zG ?_ | refine zH ?_ | refine zI ?_ | refine zJ ?_ | refine zK ?_ | refine zL ?_ | refine zM ?_ | refine zN ?_ | refine zO ?_) | ((with_reducible refine yG ?_ ?_); (focus decide)) | ((with_reducible refine yA ?_); refine yB rfl ?_; (with_reducible first | refine yC ?_ | refine yD ?_)))
    refine AW.iter (true :: true :: true :: false :: false :: false :: false :: false :: false :: false :: false :: false :: false :: false :: false :: false :: false :: false :: true :: true :: false :: false :: false :: false :: false :: false :: false :: false :: false :: false :: false :: false :: false :: false :: false :: false :: false :: false :: false :: false :: false :: false :: false :: false :: false :: false :: false :: false :: false :: false :: []) N (fun k => ⟨(.p (.sl (ndR l) nl) :: .p (.int .i64 n) :: .p (.str (txt p)) :: V.junk :: V.junk :: V.junk :: V.junk :: V.junk :: V.junk :: V.junk :: V.junk :: V.junk :: V.junk :: V.junk :: V.junk :: V.junk :: V.junk :: V.junk :: .p (.int .i64 (nd l n).ds.length) :: .p (.int .i64 k) :: V.junk :: V.junk :: V.junk :: V.junk :: V.junk :: V.junk :: V.junk :: V.junk :: V.junk :: V.junk :: V.junk :: V.junk :: V.junk :: V.junk :: V.junk :: V.junk :: V.junk :: V.junk :: V.junk :: V.junk :: V.junk :: V.junk :: V.junk :: V.junk :: V.junk :: V.junk :: V.junk :: V.junk :: V.junk :: V.junk :: []), ⟨[], []⟩⟩) ?_ ?_
    · simp (maxSteps := 1000000) (disch := refine hold_ ?_; first | (simp [-List.getD_eq_getElem?_getD]; done) | omega) [-List.getD_eq_getElem?_getD]
    intro k hk
    have e0 := wrap_succ k N hk (by omega)
    by_cases hkm : k < (nd l n).ds.length
    · have hkz : (k : Int) < (nd l n).ds.length := by omega
      have hd := dcR_elem (nd l n).ds k hkm
      by_cases hkN : k < N
      · have hp1 : (((nd l n).ds.getD k ⟨[], []⟩).p == p) = false := by simpa using hall k hkN
        have e1 := str_eq_txt ((nd l n).ds.getD k ⟨[], []⟩).p p
        rw [hp1] at e1
        clear hall hno hhit hup hme
        generalize (nd l n).ds.getD k ⟨[], []⟩ = d at *
        unfold dcP at hd
        repeat (first | ((first | (with_reducible first | refine zP fun K_ hK_ => ?_ | refine zQ fun K_ hK_ => ?_ | refine zT ?_ | refine zU ?_ | refine zV ?_ | refine zW ?_ | refine zX ?_ | refine zY ?_) | ((with_reducible first | refine zR ?_ ?_ fun K_ hK_ => ?_ | refine zS ?_ ?_ fun K_ hK_ => ?_); (focus kernel_rfl); (focus kernel_rfl))); first | (simp (maxSteps := 1000000) (disch := refine hold_ ?_; first | (simp [hkm, hkz, hd, e0, e1, hnl, he, -List.getD_eq_getElem?_getD]; done) | omega) [hkm, hkz, hd, e0, e1, hnl, he, -List.getD_eq_getElem?_getD]; try first | (with_reducible refine zZ ?_) | subst hK_) | subst hK_) | (with_reducible first | refine zA ?_ | refine zB ?_ | refine zC ?_ | refine zD ?_ | refine zE ?_ | refine zF ?_ | refine zG ?_ | refine zH ?_ | refine zI ?_ | refine zJ ?_ | refine zK ?_ | refine zL ?_ | refine zM ?_ | refine zN ?_ | refine zO ?_) | ((with_reducible refine yG ?_ ?_); (focus decide)) | ((with_reducible refine yA ?_); refine yB rfl ?_; (with_reducible first | refine yC ?_ | refine yD ?_)))
        refine ⟨hkN, ?_⟩
        simp (maxSteps := 1000000) (disch := refine hold_ ?_; first | (simp [-List.getD_eq_getElem?_getD]; done) | omega) [-List.getD_eq_getElem?_getD]
      · obtain rfl : k = N := by omega
        have hp1 : (((nd l n).ds.getD k ⟨[], []⟩).p == p) = true := by simpa using hno hkm
        have e1 := str_eq_txt ((nd l n).ds.getD k ⟨[], []⟩).p p
        rw [hp1] at e1
        have hm := hhit hkm
        rw [← hme, hm]
        clear hall hno hhit hup hme hm
        generalize (nd l n).ds.getD k ⟨[], []⟩ = d at *
        unfold dcP at hd
        repeat (first | ((first | (with_reducible first | refine zP fun K_ hK_ => ?_ | refine zQ fun K_ hK_ => ?_ | refine zT ?_ | refine zU ?_ | refine zV ?_ | refine zW ?_ | refine zX ?_ | refine zY ?_) | ((with_reducible first | refine zR ?_ ?_ fun K_ hK_ => ?_ | refine zS ?_ ?_ fun K_ hK_ => ?_); (focus kernel_rfl); (focus kernel_rfl))); first | (simp (maxSteps := 1000000) (disch := refine hold_ ?_; first | (simp [hkm, hkz, hd, e0, e1, hnl, he, -List.getD_eq_getElem?_getD]; done) | omega) [hkm, hkz, hd, e0, e1, hnl, he, -List.getD_eq_getElem?_getD]; try first | (with_reducible refine zZ ?_) | subst hK_) | subst hK_) | (with_reducible first | refine zA ?_ | refine zB ?_ | refine zC ?_ | refine zD ?_ | refine zE ?_ | refine zF ?_ | refine zG ?_ | refine zH ?_ | refine zI ?_ | refine zJ ?_ | refine zK ?_ | refine zL ?_ | refine zM ?_ | refine zN ?_ | refine zO ?_) | ((with_reducible refine yG ?_ ?_); (focus decide)) | ((with_reducible refine yA ?_); refine yB rfl ?_; (with_reducible first | refine yC ?_ | refine yD ?_)))
        all_goals (try simp (maxSteps := 1000000) (disch := refine hold_ ?_; first | (simp [-List.getD_eq_getElem?_getD]; done) | omega) [-List.getD_eq_getElem?_getD])
    · have hkz : ¬ (k : Int) < (nd l n).ds.length := by omega
      obtain rfl : k = N := by omega
      have hu := hup hkm
      obtain ⟨q, hq⟩ : ∃ q : Nat, (nd l n).a = q := ⟨(nd l n).a.toNat, by have := hpar.2.2 h0; omega⟩
      rw [hq] at hu hpar he
      repeat (first | ((first | (with_reducible first | refine zP fun K_ hK_ => ?_ | refine zQ fun K_ hK_ => ?_ | refine zT ?_ | refine zU ?_ | refine zV ?_ | refine zW ?_ | refine zX ?_ | refine zY ?_) | ((with_reducible first | refine zR ?_ ?_ fun K_ hK_ => ?_ | refine zS ?_ ?_ fun K_ hK_ => ?_); (focus kernel_rfl); (focus kernel_rfl))); first | (simp (maxSteps := 1000000) (disch := refine hold_ ?_; first | (simp [hkz, hnl, he, -List.getD_eq_getElem?_getD]; done) | omega) [hkz, hnl, he, -List.getD_eq_getElem?_getD]; try first | (with_reducible refine zZ ?_) | subst hK_) | subst hK_) | (with_reducible first | refine zA ?_ | refine zB ?_ | refine zC ?_ | refine zD ?_ | refine zE ?_ | refine zF ?_ | refine zG ?_ | refine zH ?_ | refine zI ?_ | refine zJ ?_ | refine zK ?_ | refine zL ?_ | refine zM ?_ | refine zN ?_ | refine zO ?_) | ((with_reducible refine yG ?_ ?_); (focus decide)) | ((with_reducible refine yA ?_); refine yB rfl ?_; (with_reducible first | refine yC ?_ | refine yD ?_)))
      refine ⟨q, ⟨(.p (.sl (ndR l) nl) :: .p (.int .i64 q) :: .p (.str (txt p)) :: V.junk :: V.junk :: V.junk :: V.junk :: V.junk :: V.junk :: V.junk :: V.junk :: V.junk :: V.junk :: V.junk :: V.junk :: V.junk :: V.junk :: V.junk :: V.junk :: V.junk :: V.junk :: V.junk :: V.junk :: V.junk :: V.junk :: V.junk :: V.junk :: V.junk :: V.junk :: V.junk :: V.junk :: V.junk :: V.junk :: V.junk :: V.junk :: V.junk :: V.junk :: V.junk :: V.junk :: V.junk :: V.junk :: V.junk :: V.junk :: V.junk :: V.junk :: V.junk :: V.junk :: V.junk :: V.junk :: V.junk :: []), ⟨[], []⟩⟩, by omega, ?_, by omega, by rw [← hme, hu], rfl⟩
      simp (maxSteps := 1000000) (disch := refine hold_ ?_; first | (simp [-List.getD_eq_getElem?_getD]; done) | omega) [-List.getD_eq_getElem?_getD]
  · have h0z : ¬ (0 : Int) < n := by omega
    rw [meL_zero l p n h0z] at hme
    rw [← hme]
    simp only
    repeat (first | ((first | (with_reducible first | refine zP fun K_ hK_ => ?_ | refine zQ fun K_ hK_ => ?_ | refine zT ?_ | refine zU ?_ | refine zV ?_ | refine zW ?_ | refine zX ?_ | refine zY ?_) | ((with_reducible first | refine zR ?_ ?_ fun K_ hK_ => ?_ | refine zS ?_ ?_ fun K_ hK_ => ?_); (focus kernel_rfl); (focus kernel_rfl))); first | (simp (maxSteps := 1000000) (disch := refine hold_ ?_; first | (simp [h0z, h0, q2, -List.getD_eq_getElem?_getD]; done) | omega) [h0z, h0, q2, -List.getD_eq_getElem?_getD]; try first | (with_reducible refine zZ ?_) | subst hK_) | subst hK_) | (with_reducible first | refine zA ?_ | refine zB ?_ | refine zC ?_ | refine zD ?_ | refine zE ?_ | refine zF ?_ | refine zG ?_ | refine zH ?_ | refine zI ?_ | refine zJ ?_ | refine zK ?_ | refine zL ?_ | refine zM ?_ | refine zN ?_ | refine zO ?_) | ((with_reducible refine yG ?_ ?_); (focus decide)) | ((with_reducible refine yA ?_); refine yB rfl ?_; (with_reducible first | refine yC ?_ | refine yD ?_)))
    all_goals (first | rfl | (simp (maxSteps := 1000000) (disch := refine hold_ ?_; first | (simp [-List.getD_eq_getElem?_getD]; done) | omega) [-List.getD_eq_getElem?_getD]; done) | (simp (maxSteps := 1000000) (disch := refine hold_ ?_; first | (simp [-List.getD_eq_getElem?_getD]; done) | omega) [-List.getD_eq_getElem?_getD]; rfl))
end Go.Av.Doc
end
section
set_option linter.unusedSimpArgs false
set_option linter.unusedVariables false
set_option linter.unusedSectionVars false
open Go Go.Av Go.Proofs
namespace Go.Av.Doc
variable [ML]
def at0 : At := ⟨[], [], [], []⟩
def atC (d : At) : PV := .eptr (.vals 4 [.agg (.strs [txt d.p, txt d.l, txt d.u, txt d.v])]) 0 0
def alike (o a : At) : Bool := o.l == a.l && o.u == a.u
theorem atl_ct (o d : At) : Fn Tryd.prog 71 [atP o, atC d] [.p (.bool (alike o d))] := by
  have e := str_eq_txt o.l d.l
  have e2 := str_eq_txt o.u d.u
  unfold alike
  generalize (o.l == d.l) = B1 at *
  generalize (o.u == d.u) = B2 at *
  refine Fn.of_body Tryd.func71 rfl ?_
  unfold atP atC
  rcases anc B1 (spl B2 (trivial)) with rfl | ⟨rfl, ⟨rfl | rfl, _⟩⟩
  all_goals
    repeat (first | ((first | (with_reducible first | refine zP fun K_ hK_ => ?_ | refine zQ fun K_ hK_ => ?_ | refine zT ?_ | refine zU ?_ | refine zV ?_ | refine zW ?_ | refine zX ?_ | refine zY ?_) | ((with_reducible first | refine zR ?_ ?_ fun K_ hK_ => ?_ | refine zS ?_ ?_ fun K_ hK_ => ?_); (focus kernel_rfl); (focus kernel_rfl))); first | (simp (maxSteps := 1000000) (disch := refine hold_ ?_; first | (simp [e, e2, -List.getD_eq_getElem?_getD]; done) | omega) [e, e2, -List.getD_eq_getElem?_getD]; try first | (with_reducible refine zZ ?_) | subst hK_) | subst hK_) | (with_reducible first | refine zA ?_ | refine zB ?_ | refine zC ?_ | refine zD ?_ | refine zE ?_ | refine zF ?_ | refine zG ?_ | refine zH ?_ | refine zI ?_ | refine zJ ?_ | refine zK ?_ | refine zL ?_ | refine zM ?_ | refine zN ?_ | refine zO ?_) | ((with_reducible refine yG ?_ ?_); (focus decide)) | ((with_reducible refine yA ?_); refine yB rfl ?_; (with_reducible first | refine yC ?_ | refine yD ?_)))
    try simp (maxSteps := 1000000) (disch := refine hold_ ?_; first | (simp [-List.getD_eq_getElem?_getD]; done) | omega) [-List.getD_eq_getElem?_getD]
theorem idxA_ct (l : List At) (nl : Bool) (d : At) (h : l.length ≤ 4000000) :
    Fn Tryd.prog 80 [.sl (atR l) nl, .fn 71 (.vals 1 [atC d])] [.p (.int .i64 (isAt (fun k => alike (l.getD k at0) d) l.length))] := by
  have hN := upto_le (fun k => !(alike (l.getD k at0) d)) l.length
  have hall := upto_all (fun k => !(alike (l.getD k at0) d)) l.length
  have hno := upto_no (fun k => !(alike (l.getD k at0) d)) l.length
  unfold isAt
  generalize upto (fun k => !(alike (l.getD k at0) d)) l.length = N at *
  refine Fn.of_body Tryd.func80 rfl ?_
  repeat (first | ((first | (with_reducible first | refine zP fun K_ hK_ => ?_ | refine zQ fun K_ hK_ => ?_ | refine zT ?_ | refine zU ?_ | refine zV ?_ | refine zW ?_ | refine zX ?_ | refine zY ?_) | ((with_reducible first | refine zR ?_ ?_ fun K_ hK_ => ?_ | refine zS ?_ ?_ fun K_ hK_ => ?_); (focus kernel_rfl); (focus kernel_rfl))); first | (simp (maxSteps := 1000000) (disch := refine hold_ ?_; first | (simp [-List.getD_eq_getElem?_getD]; done) | omega) [-List.getD_eq_getElem?_getD]; try first | (with_reducible refine zZ ?_) | subst hK_) | subst hK_) | (with_reducible first | refine zA ?_ | refine zB ?_ | refine zC ?_ | refine zD ?_ | refine zE ?_ | refine zF ?_ | refine zG ?_ | refine zH ?_ | refine zI ?_ | refine zJ ?_ | refine zK ?_ | refine zL ?_ | refine zM ?_ | refine zN ?_ | refine zO ?_) | ((with_reducible refine yG ?_ ?_); (focus decide)) | ((with_reducible refine yA ?_); refine yB rfl ?_; (with_reducible first | refine yC ?_ | refine yD ?_)))
  refine AW.iter (true :: true :: false :: false :: false :: false :: false :: true :: true :: false :: false :: false :: false :: false :: false :: false :: false :: false :: false :: []) N (fun k => ⟨(.p (.sl (atR l) nl) :: .p (.fn 71 (.vals 1 [atC d])) :: V.junk :: V.junk :: V.junk :: V.junk :: V.junk :: .p (.int .i64 l.length) :: .p (.int .i64 k) :: V.junk :: V.junk :: V.junk :: V.junk :: V.junk :: V.junk :: V.junk :: V.junk :: V.junk :: V.junk :: []), ⟨[], []⟩⟩) ?_ ?_
  · simp (maxSteps := 1000000) (disch := refine hold_ ?_; first | (simp [-List.getD_eq_getElem?_getD]; done) | omega) [-List.getD_eq_getElem?_getD]
  intro k hk
  have e1 := wrap_succ k N hk (by omega)
  by_cases hkm : k < l.length
  · have hkz : (k : Int) < l.length := by omega
    have he : (atR l).elem k = atP (l.getD k at0) := atR_elem l k hkm
    have kc := atl_ct (l.getD k at0) d
    by_cases hkN : k < N
    · have hp : (alike (l.getD k at0) d) = false := by have := hall k hkN; simpa using this
      rw [hp] at kc
      generalize atP (l.getD k at0) = X at *
      generalize atC d = Y at *
      repeat (first | ((with_reducible first | refine callK_at 71 ?_); refine callK_p ?_; simp (maxSteps := 1000000) (disch := refine hold_ ?_; first | (simp [hkm, hkz, he, e1, -List.getD_eq_getElem?_getD]; done) | omega) [hkm, hkz, he, e1, -List.getD_eq_getElem?_getD]; (first | refine callK1_of (Fn.ct kc Tryd.call71) ?_); (try simp (maxSteps := 1000000) (disch := refine hold_ ?_; first | (simp [hkm, hkz, he, e1, -List.getD_eq_getElem?_getD]; done) | omega) [hkm, hkz, he, e1, -List.getD_eq_getElem?_getD]); try first | (with_reducible refine zZ ?_) | subst hK_) | ((first | (with_reducible first | refine zP fun K_ hK_ => ?_ | refine zQ fun K_ hK_ => ?_ | refine zT ?_ | refine zU ?_ | refine zV ?_ | refine zW ?_ | refine zX ?_ | refine zY ?_) | ((with_reducible first | refine zR ?_ ?_ fun K_ hK_ => ?_ | refine zS ?_ ?_ fun K_ hK_ => ?_); (focus kernel_rfl); (focus kernel_rfl))); first | (simp (maxSteps := 1000000) (disch := refine hold_ ?_; first | (simp [hkm, hkz, he, e1, -List.getD_eq_getElem?_getD]; done) | omega) [hkm, hkz, he, e1, -List.getD_eq_getElem?_getD]; try first | (with_reducible refine zZ ?_) | subst hK_) | subst hK_) | (with_reducible first | refine zA ?_ | refine zB ?_ | refine zC ?_ | refine zD ?_ | refine zE ?_ | refine zF ?_ | refine zG ?_ | refine zH ?_ | refine zI ?_ | refine zJ ?_ | refine zK ?_ | refine zL ?_ | refine zM ?_ | refine zN ?_ | refine zO ?_) | ((with_reducible refine yG ?_ ?_); (focus decide)) | ((with_reducible refine yA ?_); refine yB rfl ?_; (with_reducible first | refine yC ?_ | refine yD ?_)))
      refine ⟨hkN, ?_⟩
      simp (maxSteps := 1000000) (disch := refine hold_ ?_; first | (simp [-List.getD_eq_getElem?_getD]; done) | omega) [-List.getD_eq_getElem?_getD]
    · obtain rfl : k = N := by omega
      have hp : (alike (l.getD k at0) d) = true := by have := hno hkm; simpa using this
      rw [hp] at kc
      rw [if_pos hkm]
      generalize atP (l.getD k at0) = X at *
      generalize atC d = Y at *
      repeat (first | ((with_reducible first | refine callK_at 71 ?_); refine callK_p ?_; simp (maxSteps := 1000000) (disch := refine hold_ ?_; first | (simp [hkm, hkz, he, e1, -List.getD_eq_getElem?_getD]; done) | omega) [hkm, hkz, he, e1, -List.getD_eq_getElem?_getD]; (first | refine callK1_of (Fn.ct kc Tryd.call71) ?_); (try simp (maxSteps := 1000000) (disch := refine hold_ ?_; first | (simp [hkm, hkz, he, e1, -List.getD_eq_getElem?_getD]; done) | omega) [hkm, hkz, he, e1, -List.getD_eq_getElem?_getD]); try first | (with_reducible refine zZ ?_) | subst hK_) | ((first | (with_reducible first | refine zP fun K_ hK_ => ?_ | refine zQ fun K_ hK_ => ?_ | refine zT ?_ | refine zU ?_ | refine zV ?_ | refine zW ?_ | refine zX ?_ | refine zY ?_) | ((with_reducible first | refine zR ?_ ?_ fun K_ hK_ => ?_ | refine zS ?_ ?_ fun K_ hK_ => ?_); (focus kernel_rfl); (focus kernel_rfl))); first | (simp (maxSteps := 1000000) (disch := refine hold_ ?_; first | (simp [hkm, hkz, he, e1, -List.getD_eq_getElem?_getD]; done) | omega) [hkm, hkz, he, e1, -List.getD_eq_getElem?_getD]; try first | (with_reducible refine zZ ?_) | subst hK_) | subst hK_) | (with_reducible first | refine zA ?_ | refine zB ?_ | refine zC ?_ | refine zD ?_ | refine zE ?_ | refine zF ?_ | refine zG ?_ | refine zH ?_ | refine zI ?_ | refine zJ ?_ | refine zK ?_ | refine zL ?_ | refine zM ?_ | refine zN ?_ | refine zO ?_) | ((with_reducible refine yG ?_ ?_); (focus decide)) | ((with_reducible refine yA ?_); refine yB rfl ?_; (with_reducible first | refine yC ?_ | refine yD ?_)))
      all_goals (try simp (maxSteps := 1000000) (disch := refine hold_ ?_; first | (simp [-List.getD_eq_getElem?_getD]; done) | omega) [-List.getD_eq_getElem?_getD])
  · have hkz : ¬ (k : Int) < l.length := by omega
    obtain rfl : k = N := by omega
    rw [if_neg hkm]
    repeat (first | ((first | (with_reducible first | refine zP fun K_ hK_ => ?_ | refine zQ fun K_ hK_ => ?_ | refine zT ?_ | refine zU ?_ | refine zV ?_ | refine zW ?_ | refine zX ?_ | refine zY ?_) | ((with_reducible first | refine zR ?_ ?_ fun K_ hK_ => ?_ | refine zS ?_ ?_ fun K_ hK_ => ?_); (focus kernel_rfl); (focus kernel_rfl))); first | (simp (maxSteps := 1000000) (disch := refine hold_ ?_; first | (simp [hkz, -List.getD_eq_getElem?_getD]; done) | omega) [hkz, -List.getD_eq_getElem?_getD]; try first | (with_reducible refine zZ ?_) | subst hK_) | subst hK_) | (with_reducible first | refine zA ?_ | refine zB ?_ | refine zC ?_ | refine zD ?_ | refine zE ?_ | refine zF ?_ | refine zG ?_ | refine zH ?_ | refine zI ?_ | refine zJ ?_ | refine zK ?_ | refine zL ?_ | refine zM ?_ | refine zN ?_ | refine zO ?_) | ((with_reducible refine yG ?_ ?_); (focus decide)) | ((with_reducible refine yA ?_); refine yB rfl ?_; (with_reducible first | refine yC ?_ | refine yD ?_)))
    all_goals (try simp (maxSteps := 1000000) (disch := refine hold_ ?_; first | (simp [-List.getD_eq_getElem?_getD]; done) | omega) [-List.getD_eq_getElem?_getD])
theorem hasA_ct (l : List At) (nl : Bool) (d : At) (h : l.length ≤ 4000000) :
    Fn Tryd.prog 70 [.sl (atR l) nl, .fn 71 (.vals 1 [atC d])] [.p (.bool !(allB (fun k => !(alike (l.getD k at0) d)) l.length))] := by
  have k := idxA_ct l nl d h
  have hz : (!(allB (fun k => !(alike (l.getD k at0) d)) l.length)) = decide (0 ≤ isAt (fun k => alike (l.getD k at0) d) l.length) := by
    unfold isAt
    dsimp only
    have hN := upto_le (fun k => !(alike (l.getD k at0) d)) l.length
    split
    · rename_i hlt; rw [allB_no hlt]; simp
    · rw [allB_yes (by omega)]; rfl
  rw [hz]
  generalize isAt (fun k => alike (l.getD k at0) d) l.length = N at *
  generalize PV.fn 71 (.vals 1 [atC d]) = Y at *
  refine Fn.of_body Tryd.func70 rfl ?_
  repeat (first | ((with_reducible first | refine callK_at 80 ?_); refine callK_p ?_; simp (maxSteps := 1000000) (disch := refine hold_ ?_; first | (simp [-List.getD_eq_getElem?_getD]; done) | omega) [-List.getD_eq_getElem?_getD]; (first | refine callK1_of (Fn.ct k Tryd.call80) ?_); (try simp (maxSteps := 1000000) (disch := refine hold_ ?_; first | (simp [-List.getD_eq_getElem?_getD]; done) | omega) [-List.getD_eq_getElem?_getD]); try first | (with_reducible refine zZ ?_) | subst hK_) | ((first | (with_reducible first | refine zP fun K_ hK_ => ?_ | refine zQ fun K_ hK_ => ?_ | refine zT ?_ | refine zU ?_ | refine zV ?_ | refine zW ?_ | refine zX ?_ | refine zY ?_) | ((with_reducible first | refine zR ?_ ?_ fun K_ hK_ => ?_ | refine zS ?_ ?_ fun K_ hK_ => ?_); (focus kernel_rfl); (focus kernel_rfl))); first | (simp (maxSteps := 1000000) (disch := refine hold_ ?_; first | (simp [-List.getD_eq_getElem?_getD]; done) | omega) [-List.getD_eq_getElem?_getD]; try first | (with_reducible refine zZ ?_) | subst hK_) | subst hK_) | (with_reducible first | refine zA ?_ | refine zB ?_ | refine zC ?_ | refine zD ?_ | refine zE ?_ | refine zF ?_ | refine zG ?_ | refine zH ?_ | refine zI ?_ | refine zJ ?_ | refine zK ?_ | refine zL ?_ | refine zM ?_ | refine zN ?_ | refine zO ?_) | ((with_reducible refine yG ?_ ?_); (focus decide)) | ((with_reducible refine yA ?_); refine yB rfl ?_; (with_reducible first | refine yC ?_ | refine yD ?_)))
  all_goals (try simp (maxSteps := 1000000) (disch := refine hold_ ?_; first | (simp [-List.getD_eq_getElem?_getD]; done) | omega) [-List.getD_eq_getElem?_getD])
def dupA (l : List At) (k : Nat) : Bool := !(allB (fun j => !(alike ((l.take k).getD j at0) (l.getD k at0))) (l.take k).length)
def atOk (a : At) (m : List (BitVec 8) × Bool) : Bool :=
  !(!m.2 || !((if a.p == [] then [] else m.1) == a.u) || !nameB a.l || !preOk a.p || (a.p == xmlnsS) || (a.p == [] && (a.l == xmlnsS)) || !textB a.v)
theorem at_cut (l : List At) (k : Nat) : (Row.vals 4 (l.map atP)).cut 0 k = .vals 4 ((l.take k).map atP) := by simp [Row.cut]
def elOk (x : Nd) (m : List (BitVec 8) × Bool) : Bool := !(!m.2 || !(m.1 == x.u) || !nameB x.l || !preOk x.p || (x.p == xmlnsS))
def namedB (l : List Nd) (n : Nat) : Bool :=
  elOk (nd l n) (meansL l (nd l n).p n) && allB (fun k => !dupA (nd l n).ms k && atOk ((nd l n).ms.getD k at0) (meansL l ((nd l n).ms.getD k at0).p n)) (nd l n).ms.length
end Go.Av.Doc
end
