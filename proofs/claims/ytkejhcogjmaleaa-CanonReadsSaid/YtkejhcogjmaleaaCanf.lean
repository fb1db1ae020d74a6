/- The walks of this seat's functions, and what is known of what they reckon (Canf). Conditions: those that each theorem names. -/
import Derived.Test.YtkejhcogjmaleaaCan
import Derived.Test.YtkejhcogjmaleaaCand

section
set_option linter.unusedSimpArgs false
set_option linter.unusedVariables false
open Go Go.Av Go.Proofs
namespace Go.Av.Can
def digV (c : Int) : Int := if 48 ≤ c ∧ c ≤ 57 then c - 48 else if 97 ≤ c ∧ c ≤ 102 then c - 87 else if 65 ≤ c ∧ c ≤ 70 then c - 55 else -1
def digI (c base : Int) : Int := if base ≤ digV c then -1 else digV c
set_option maxHeartbeats 8000000 in
theorem digit_ct (c base : Int) (hc : 0 ≤ c ∧ c < 256) (hb : base = 10 ∨ base = 16) : Fn Try.prog 48 [.int .u8 c, .int .i32 base] [.p (.int .i32 (digI c base))] := by
  refine Fn.of_body Try.func48 rfl ?_
  by_cases q1 : 48 ≤ c ∧ c ≤ 57
  · have p1 := q1.1
    have p2 := q1.2
    have w1 : IntKind.u8.wrap (c - 48) = c - 48 := by rw [wrap_u8]; omega
    have w2 : IntKind.i32.wrap (c - 48) = c - 48 := wrap_i32 _ (by omega) (by omega)
    have e : digI c base = c - 48 := by unfold digI digV; rw [if_pos q1, if_neg (by omega)]
    have g : ¬ base ≤ c - 48 := by omega
    rw [e]
    repeat (first | ((first | (with_reducible first | refine zP fun K_ hK_ => ?_ | refine zQ fun K_ hK_ => ?_ | refine zT ?_ | refine zU ?_ | refine zV ?_ | refine zW ?_ | refine zX ?_ | refine zY ?_) | ((with_reducible first | refine zR ?_ ?_ fun K_ hK_ => ?_ | refine zS ?_ ?_ fun K_ hK_ => ?_); (focus kernel_rfl); (focus kernel_rfl))); first | (simp (maxSteps := 1000000) (disch := refine hold_ ?_; first | (simp [p1, p2, w1, w2, g, -List.getD_eq_getElem?_getD]; done) | omega) [p1, p2, w1, w2, g, -List.getD_eq_getElem?_getD]; try first | (with_reducible refine zZ ?_) | subst hK_) | subst hK_) | (with_reducible first | refine zA ?_ | refine zB ?_ | refine zC ?_ | refine zD ?_ | refine zE ?_ | refine zF ?_ | refine zG ?_ | refine zH ?_ | refine zI ?_ | refine zJ ?_ | refine zK ?_ | refine zL ?_ | refine zM ?_ | refine zN ?_ | refine zO ?_) | ((with_reducible refine yG ?_ ?_); (focus decide)) | ((with_reducible refine yA ?_); refine yB rfl ?_; (with_reducible first | refine yC ?_ | refine yD ?_)))
    all_goals simp (maxSteps := 1000000) (disch := refine hold_ ?_; first | (simp [-List.getD_eq_getElem?_getD]; done) | omega) [-List.getD_eq_getElem?_getD]
  · by_cases q2 : 97 ≤ c ∧ c ≤ 102
    · have p1 := q2.1
      have p2 := q2.2
      have w1 : IntKind.u8.wrap (c - 97) = c - 97 := by rw [wrap_u8]; omega
      have w2 : IntKind.i32.wrap (c - 97) = c - 97 := wrap_i32 _ (by omega) (by omega)
      have w3 : IntKind.i32.wrap (c - 97 + 10) = c - 87 := (wrap_i32 _ (by omega) (by omega)).trans (by omega)
      have n1 : 48 ≤ c := by omega
      have n2 : ¬ c ≤ 57 := by omega
      by_cases g : base ≤ c - 87
      · have e : digI c base = -1 := by unfold digI digV; rw [if_neg q1, if_pos q2, if_pos g]
        rw [e]
        repeat (first | ((first | (with_reducible first | refine zP fun K_ hK_ => ?_ | refine zQ fun K_ hK_ => ?_ | refine zT ?_ | refine zU ?_ | refine zV ?_ | refine zW ?_ | refine zX ?_ | refine zY ?_) | ((with_reducible first | refine zR ?_ ?_ fun K_ hK_ => ?_ | refine zS ?_ ?_ fun K_ hK_ => ?_); (focus kernel_rfl); (focus kernel_rfl))); first | (simp (maxSteps := 1000000) (disch := refine hold_ ?_; first | (simp [n1, n2, p1, p2, w1, w2, w3, g, -List.getD_eq_getElem?_getD]; done) | omega) [n1, n2, p1, p2, w1, w2, w3, g, -List.getD_eq_getElem?_getD]; try first | (with_reducible refine zZ ?_) | subst hK_) | subst hK_) | (with_reducible first | refine zA ?_ | refine zB ?_ | refine zC ?_ | refine zD ?_ | refine zE ?_ | refine zF ?_ | refine zG ?_ | refine zH ?_ | refine zI ?_ | refine zJ ?_ | refine zK ?_ | refine zL ?_ | refine zM ?_ | refine zN ?_ | refine zO ?_) | ((with_reducible refine yG ?_ ?_); (focus decide)) | ((with_reducible refine yA ?_); refine yB rfl ?_; (with_reducible first | refine yC ?_ | refine yD ?_)))
        all_goals simp (maxSteps := 1000000) (disch := refine hold_ ?_; first | (simp [-List.getD_eq_getElem?_getD]; done) | omega) [-List.getD_eq_getElem?_getD]
      · have e : digI c base = c - 87 := by unfold digI digV; rw [if_neg q1, if_pos q2, if_neg g]
        rw [e]
        repeat (first | ((first | (with_reducible first | refine zP fun K_ hK_ => ?_ | refine zQ fun K_ hK_ => ?_ | refine zT ?_ | refine zU ?_ | refine zV ?_ | refine zW ?_ | refine zX ?_ | refine zY ?_) | ((with_reducible first | refine zR ?_ ?_ fun K_ hK_ => ?_ | refine zS ?_ ?_ fun K_ hK_ => ?_); (focus kernel_rfl); (focus kernel_rfl))); first | (simp (maxSteps := 1000000) (disch := refine hold_ ?_; first | (simp [n1, n2, p1, p2, w1, w2, w3, g, -List.getD_eq_getElem?_getD]; done) | omega) [n1, n2, p1, p2, w1, w2, w3, g, -List.getD_eq_getElem?_getD]; try first | (with_reducible refine zZ ?_) | subst hK_) | subst hK_) | (with_reducible first | refine zA ?_ | refine zB ?_ | refine zC ?_ | refine zD ?_ | refine zE ?_ | refine zF ?_ | refine zG ?_ | refine zH ?_ | refine zI ?_ | refine zJ ?_ | refine zK ?_ | refine zL ?_ | refine zM ?_ | refine zN ?_ | refine zO ?_) | ((with_reducible refine yG ?_ ?_); (focus decide)) | ((with_reducible refine yA ?_); refine yB rfl ?_; (with_reducible first | refine yC ?_ | refine yD ?_)))
        all_goals simp (maxSteps := 1000000) (disch := refine hold_ ?_; first | (simp [-List.getD_eq_getElem?_getD]; done) | omega) [-List.getD_eq_getElem?_getD]
    · by_cases q3 : 65 ≤ c ∧ c ≤ 70
      · have p1 := q3.1
        have p2 := q3.2
        have w1 : IntKind.u8.wrap (c - 65) = c - 65 := by rw [wrap_u8]; omega
        have w2 : IntKind.i32.wrap (c - 65) = c - 65 := wrap_i32 _ (by omega) (by omega)
        have w3 : IntKind.i32.wrap (c - 65 + 10) = c - 55 := (wrap_i32 _ (by omega) (by omega)).trans (by omega)
        have n1 : 48 ≤ c := by omega
        have n2 : ¬ c ≤ 57 := by omega
        have n3 : ¬ 97 ≤ c := by omega
        by_cases g : base ≤ c - 55
        · have e : digI c base = -1 := by unfold digI digV; rw [if_neg q1, if_neg q2, if_pos q3, if_pos g]
          rw [e]
          repeat (first | ((first | (with_reducible first | refine zP fun K_ hK_ => ?_ | refine zQ fun K_ hK_ => ?_ | refine zT ?_ | refine zU ?_ | refine zV ?_ | refine zW ?_ | refine zX ?_ | refine zY ?_) | ((with_reducible first | refine zR ?_ ?_ fun K_ hK_ => ?_ | refine zS ?_ ?_ fun K_ hK_ => ?_); (focus kernel_rfl); (focus kernel_rfl))); first | (simp (maxSteps := 1000000) (disch := refine hold_ ?_; first | (simp [n1, n2, n3, p1, p2, w1, w2, w3, g, -List.getD_eq_getElem?_getD]; done) | omega) [n1, n2, n3, p1, p2, w1, w2, w3, g, -List.getD_eq_getElem?_getD]; try first | (with_reducible refine zZ ?_) | subst hK_) | subst hK_) | (with_reducible first | refine zA ?_ | refine zB ?_ | refine zC ?_ | refine zD ?_ | refine zE ?_ | refine zF ?_ | refine zG ?_ | refine zH ?_ | refine zI ?_ | refine zJ ?_ | refine zK ?_ | refine zL ?_ | refine zM ?_ | refine zN ?_ | refine zO ?_) | ((with_reducible refine yG ?_ ?_); (focus decide)) | ((with_reducible refine yA ?_); refine yB rfl ?_; (with_reducible first | refine yC ?_ | refine yD ?_)))
          all_goals simp (maxSteps := 1000000) (disch := refine hold_ ?_; first | (simp [-List.getD_eq_getElem?_getD]; done) | omega) [-List.getD_eq_getElem?_getD]
        · have e : digI c base = c - 55 := by unfold digI digV; rw [if_neg q1, if_neg q2, if_pos q3, if_neg g]
          rw [e]
          repeat (first | ((first | (with_reducible first | refine zP fun K_ hK_ => ?_ | refine zQ fun K_ hK_ => ?_ | refine zT ?_ | refine zU ?_ | refine zV ?_ | refine zW ?_ | refine zX ?_ | refine zY ?_) | ((with_reducible first | refine zR ?_ ?_ fun K_ hK_ => ?_ | refine zS ?_ ?_ fun K_ hK_ => ?_); (focus kernel_rfl); (focus kernel_rfl))); first | (simp (maxSteps := 1000000) (disch := refine hold_ ?_; first | (simp [n1, n2, n3, p1, p2, w1, w2, w3, g, -List.getD_eq_getElem?_getD]; done) | omega) [n1, n2, n3, p1, p2, w1, w2, w3, g, -List.getD_eq_getElem?_getD]; try first | (with_reducible refine zZ ?_) | subst hK_) | subst hK_) | (with_reducible first | refine zA ?_ | refine zB ?_ | refine zC ?_ | refine zD ?_ | refine zE ?_ | refine zF ?_ | refine zG ?_ | refine zH ?_ | refine zI ?_ | refine zJ ?_ | refine zK ?_ | refine zL ?_ | refine zM ?_ | refine zN ?_ | refine zO ?_) | ((with_reducible refine yG ?_ ?_); (focus decide)) | ((with_reducible refine yA ?_); refine yB rfl ?_; (with_reducible first | refine yC ?_ | refine yD ?_)))
          all_goals simp (maxSteps := 1000000) (disch := refine hold_ ?_; first | (simp [-List.getD_eq_getElem?_getD]; done) | omega) [-List.getD_eq_getElem?_getD]
      · have g : ¬ base ≤ -1 := by omega
        have e : digI c base = -1 := by unfold digI digV; rw [if_neg q1, if_neg q2, if_neg q3, if_neg g]
        rw [e]
        rcases (by omega : c < 48 ∨ (57 < c ∧ c < 65) ∨ (70 < c ∧ c < 97) ∨ 102 < c) with r | r | r | r
        · have m0 : ¬ 48 ≤ c := by omega
          have m1 : ¬ 97 ≤ c := by omega
          have m2 : ¬ 65 ≤ c := by omega
          repeat (first | ((first | (with_reducible first | refine zP fun K_ hK_ => ?_ | refine zQ fun K_ hK_ => ?_ | refine zT ?_ | refine zU ?_ | refine zV ?_ | refine zW ?_ | refine zX ?_ | refine zY ?_) | ((with_reducible first | refine zR ?_ ?_ fun K_ hK_ => ?_ | refine zS ?_ ?_ fun K_ hK_ => ?_); (focus kernel_rfl); (focus kernel_rfl))); first | (simp (maxSteps := 1000000) (disch := refine hold_ ?_; first | (simp [m0, m1, m2, g, -List.getD_eq_getElem?_getD]; done) | omega) [m0, m1, m2, g, -List.getD_eq_getElem?_getD]; try first | (with_reducible refine zZ ?_) | subst hK_) | subst hK_) | (with_reducible first | refine zA ?_ | refine zB ?_ | refine zC ?_ | refine zD ?_ | refine zE ?_ | refine zF ?_ | refine zG ?_ | refine zH ?_ | refine zI ?_ | refine zJ ?_ | refine zK ?_ | refine zL ?_ | refine zM ?_ | refine zN ?_ | refine zO ?_) | ((with_reducible refine yG ?_ ?_); (focus decide)) | ((with_reducible refine yA ?_); refine yB rfl ?_; (with_reducible first | refine yC ?_ | refine yD ?_)))
          all_goals simp (maxSteps := 1000000) (disch := refine hold_ ?_; first | (simp [-List.getD_eq_getElem?_getD]; done) | omega) [-List.getD_eq_getElem?_getD]
        · have m0 : 48 ≤ c := by omega
          have m1 : ¬ c ≤ 57 := by omega
          have m2 : ¬ 97 ≤ c := by omega
          have m3 : ¬ 65 ≤ c := by omega
          repeat (first | ((first | (with_reducible first | refine zP fun K_ hK_ => ?_ | refine zQ fun K_ hK_ => ?_ | refine zT ?_ | refine zU ?_ | refine zV ?_ | refine zW ?_ | refine zX ?_ | refine zY ?_) | ((with_reducible first | refine zR ?_ ?_ fun K_ hK_ => ?_ | refine zS ?_ ?_ fun K_ hK_ => ?_); (focus kernel_rfl); (focus kernel_rfl))); first | (simp (maxSteps := 1000000) (disch := refine hold_ ?_; first | (simp [m0, m1, m2, m3, g, -List.getD_eq_getElem?_getD]; done) | omega) [m0, m1, m2, m3, g, -List.getD_eq_getElem?_getD]; try first | (with_reducible refine zZ ?_) | subst hK_) | subst hK_) | (with_reducible first | refine zA ?_ | refine zB ?_ | refine zC ?_ | refine zD ?_ | refine zE ?_ | refine zF ?_ | refine zG ?_ | refine zH ?_ | refine zI ?_ | refine zJ ?_ | refine zK ?_ | refine zL ?_ | refine zM ?_ | refine zN ?_ | refine zO ?_) | ((with_reducible refine yG ?_ ?_); (focus decide)) | ((with_reducible refine yA ?_); refine yB rfl ?_; (with_reducible first | refine yC ?_ | refine yD ?_)))
          all_goals simp (maxSteps := 1000000) (disch := refine hold_ ?_; first | (simp [-List.getD_eq_getElem?_getD]; done) | omega) [-List.getD_eq_getElem?_getD]
        · have m0 : 48 ≤ c := by omega
          have m1 : ¬ c ≤ 57 := by omega
          have m2 : ¬ 97 ≤ c := by omega
          have m3 : 65 ≤ c := by omega
          have m4 : ¬ c ≤ 70 := by omega
          repeat (first | ((first | (with_reducible first | refine zP fun K_ hK_ => ?_ | refine zQ fun K_ hK_ => ?_ | refine zT ?_ | refine zU ?_ | refine zV ?_ | refine zW ?_ | refine zX ?_ | refine zY ?_) | ((with_reducible first | refine zR ?_ ?_ fun K_ hK_ => ?_ | refine zS ?_ ?_ fun K_ hK_ => ?_); (focus kernel_rfl); (focus kernel_rfl))); first | (simp (maxSteps := 1000000) (disch := refine hold_ ?_; first | (simp [m0, m1, m2, m3, m4, g, -List.getD_eq_getElem?_getD]; done) | omega) [m0, m1, m2, m3, m4, g, -List.getD_eq_getElem?_getD]; try first | (with_reducible refine zZ ?_) | subst hK_) | subst hK_) | (with_reducible first | refine zA ?_ | refine zB ?_ | refine zC ?_ | refine zD ?_ | refine zE ?_ | refine zF ?_ | refine zG ?_ | refine zH ?_ | refine zI ?_ | refine zJ ?_ | refine zK ?_ | refine zL ?_ | refine zM ?_ | refine zN ?_ | refine zO ?_) | ((with_reducible refine yG ?_ ?_); (focus decide)) | ((with_reducible refine yA ?_); refine yB rfl ?_; (with_reducible first | refine yC ?_ | refine yD ?_)))
          all_goals simp (maxSteps := 1000000) (disch := refine hold_ ?_; first | (simp [-List.getD_eq_getElem?_getD]; done) | omega) [-List.getD_eq_getElem?_getD]
        · have m0 : 48 ≤ c := by omega
          have m1 : ¬ c ≤ 57 := by omega
          have m2 : 97 ≤ c := by omega
          have m3 : ¬ c ≤ 102 := by omega
          have m4 : 65 ≤ c := by omega
          have m5 : ¬ c ≤ 70 := by omega
          repeat (first | ((first | (with_reducible first | refine zP fun K_ hK_ => ?_ | refine zQ fun K_ hK_ => ?_ | refine zT ?_ | refine zU ?_ | refine zV ?_ | refine zW ?_ | refine zX ?_ | refine zY ?_) | ((with_reducible first | refine zR ?_ ?_ fun K_ hK_ => ?_ | refine zS ?_ ?_ fun K_ hK_ => ?_); (focus kernel_rfl); (focus kernel_rfl))); first | (simp (maxSteps := 1000000) (disch := refine hold_ ?_; first | (simp [m0, m1, m2, m3, m4, m5, g, -List.getD_eq_getElem?_getD]; done) | omega) [m0, m1, m2, m3, m4, m5, g, -List.getD_eq_getElem?_getD]; try first | (with_reducible refine zZ ?_) | subst hK_) | subst hK_) | (with_reducible first | refine zA ?_ | refine zB ?_ | refine zC ?_ | refine zD ?_ | refine zE ?_ | refine zF ?_ | refine zG ?_ | refine zH ?_ | refine zI ?_ | refine zJ ?_ | refine zK ?_ | refine zL ?_ | refine zM ?_ | refine zN ?_ | refine zO ?_) | ((with_reducible refine yG ?_ ?_); (focus decide)) | ((with_reducible refine yA ?_); refine yB rfl ?_; (with_reducible first | refine yC ?_ | refine yD ?_)))
          all_goals simp (maxSteps := 1000000) (disch := refine hold_ ?_; first | (simp [-List.getD_eq_getElem?_getD]; done) | omega) [-List.getD_eq_getElem?_getD]
end Go.Av.Can
end

section
set_option linter.unusedSimpArgs false
set_option linter.unusedVariables false
open Go Go.Av Go.Proofs
namespace Go.Av.Can
theorem sLt : (ByteArray.mk #[108, 116]) = txt [108#8, 116#8] := rfl
theorem sGt : (ByteArray.mk #[103, 116]) = txt [103#8, 116#8] := rfl
theorem sAmp : (ByteArray.mk #[97, 109, 112]) = txt [97#8, 109#8, 112#8] := rfl
theorem sApos : (ByteArray.mk #[97, 112, 111, 115]) = txt [97#8, 112#8, 111#8, 115#8] := rfl
theorem sQuot : (ByteArray.mk #[113, 117, 111, 116]) = txt [113#8, 117#8, 111#8, 116#8] := rfl
theorem vLt : (ByteArray.mk #[60]) = txt [60#8] := rfl
theorem vGt : (ByteArray.mk #[62]) = txt [62#8] := rfl
theorem vAmp : (ByteArray.mk #[38]) = txt [38#8] := rfl
theorem vApos : (ByteArray.mk #[39]) = txt [39#8] := rfl
theorem vQuot : (ByteArray.mk #[34]) = txt [34#8] := rfl
set_option maxHeartbeats 8000000 in
theorem stands_lt : Fn Try.prog 41 [.str (txt [108#8, 116#8])] [.p (.str (txt [60#8])), .p (.bool true)] := by
  refine Fn.of_body Try.func41 rfl ?_
  repeat (first | ((first | (with_reducible first | refine zP fun K_ hK_ => ?_ | refine zQ fun K_ hK_ => ?_ | refine zT ?_ | refine zU ?_ | refine zV ?_ | refine zW ?_ | refine zX ?_ | refine zY ?_) | ((with_reducible first | refine zR ?_ ?_ fun K_ hK_ => ?_ | refine zS ?_ ?_ fun K_ hK_ => ?_); (focus kernel_rfl); (focus kernel_rfl))); first | (simp (maxSteps := 1000000) (disch := refine hold_ ?_; first | (simp [kNil, sLt, sGt, sAmp, sApos, sQuot, vLt, vGt, vAmp, vApos, vQuot, str_eql, -List.getD_eq_getElem?_getD]; done) | omega) [kNil, sLt, sGt, sAmp, sApos, sQuot, vLt, vGt, vAmp, vApos, vQuot, str_eql, -List.getD_eq_getElem?_getD]; try first | (with_reducible refine zZ ?_) | subst hK_) | subst hK_) | (with_reducible first | refine zA ?_ | refine zB ?_ | refine zC ?_ | refine zD ?_ | refine zE ?_ | refine zF ?_ | refine zG ?_ | refine zH ?_ | refine zI ?_ | refine zJ ?_ | refine zK ?_ | refine zL ?_ | refine zM ?_ | refine zN ?_ | refine zO ?_) | ((with_reducible refine yG ?_ ?_); (focus decide)) | ((with_reducible refine yA ?_); refine yB rfl ?_; (with_reducible first | refine yC ?_ | refine yD ?_)))
  all_goals simp (maxSteps := 1000000) (disch := refine hold_ ?_; first | (simp [-List.getD_eq_getElem?_getD]; done) | omega) [-List.getD_eq_getElem?_getD]
set_option maxHeartbeats 8000000 in
theorem stands_gt : Fn Try.prog 41 [.str (txt [103#8, 116#8])] [.p (.str (txt [62#8])), .p (.bool true)] := by
  refine Fn.of_body Try.func41 rfl ?_
  repeat (first | ((first | (with_reducible first | refine zP fun K_ hK_ => ?_ | refine zQ fun K_ hK_ => ?_ | refine zT ?_ | refine zU ?_ | refine zV ?_ | refine zW ?_ | refine zX ?_ | refine zY ?_) | ((with_reducible first | refine zR ?_ ?_ fun K_ hK_ => ?_ | refine zS ?_ ?_ fun K_ hK_ => ?_); (focus kernel_rfl); (focus kernel_rfl))); first | (simp (maxSteps := 1000000) (disch := refine hold_ ?_; first | (simp [kNil, sLt, sGt, sAmp, sApos, sQuot, vLt, vGt, vAmp, vApos, vQuot, str_eql, -List.getD_eq_getElem?_getD]; done) | omega) [kNil, sLt, sGt, sAmp, sApos, sQuot, vLt, vGt, vAmp, vApos, vQuot, str_eql, -List.getD_eq_getElem?_getD]; try first | (with_reducible refine zZ ?_) | subst hK_) | subst hK_) | (with_reducible first | refine zA ?_ | refine zB ?_ | refine zC ?_ | refine zD ?_ | refine zE ?_ | refine zF ?_ | refine zG ?_ | refine zH ?_ | refine zI ?_ | refine zJ ?_ | refine zK ?_ | refine zL ?_ | refine zM ?_ | refine zN ?_ | refine zO ?_) | ((with_reducible refine yG ?_ ?_); (focus decide)) | ((with_reducible refine yA ?_); refine yB rfl ?_; (with_reducible first | refine yC ?_ | refine yD ?_)))
  all_goals simp (maxSteps := 1000000) (disch := refine hold_ ?_; first | (simp [-List.getD_eq_getElem?_getD]; done) | omega) [-List.getD_eq_getElem?_getD]
set_option maxHeartbeats 8000000 in
theorem stands_amp : Fn Try.prog 41 [.str (txt [97#8, 109#8, 112#8])] [.p (.str (txt [38#8])), .p (.bool true)] := by
  refine Fn.of_body Try.func41 rfl ?_
  repeat (first | ((first | (with_reducible first | refine zP fun K_ hK_ => ?_ | refine zQ fun K_ hK_ => ?_ | refine zT ?_ | refine zU ?_ | refine zV ?_ | refine zW ?_ | refine zX ?_ | refine zY ?_) | ((with_reducible first | refine zR ?_ ?_ fun K_ hK_ => ?_ | refine zS ?_ ?_ fun K_ hK_ => ?_); (focus kernel_rfl); (focus kernel_rfl))); first | (simp (maxSteps := 1000000) (disch := refine hold_ ?_; first | (simp [kNil, sLt, sGt, sAmp, sApos, sQuot, vLt, vGt, vAmp, vApos, vQuot, str_eql, -List.getD_eq_getElem?_getD]; done) | omega) [kNil, sLt, sGt, sAmp, sApos, sQuot, vLt, vGt, vAmp, vApos, vQuot, str_eql, -List.getD_eq_getElem?_getD]; try first | (with_reducible refine zZ ?_) | subst hK_) | subst hK_) | (with_reducible first | refine zA ?_ | refine zB ?_ | refine zC ?_ | refine zD ?_ | refine zE ?_ | refine zF ?_ | refine zG ?_ | refine zH ?_ | refine zI ?_ | refine zJ ?_ | refine zK ?_ | refine zL ?_ | refine zM ?_ | refine zN ?_ | refine zO ?_) | ((with_reducible refine yG ?_ ?_); (focus decide)) | ((with_reducible refine yA ?_); refine yB rfl ?_; (with_reducible first | refine yC ?_ | refine yD ?_)))
  all_goals simp (maxSteps := 1000000) (disch := refine hold_ ?_; first | (simp [-List.getD_eq_getElem?_getD]; done) | omega) [-List.getD_eq_getElem?_getD]
set_option maxHeartbeats 8000000 in
theorem stands_quot : Fn Try.prog 41 [.str (txt [113#8, 117#8, 111#8, 116#8])] [.p (.str (txt [34#8])), .p (.bool true)] := by
  refine Fn.of_body Try.func41 rfl ?_
  repeat (first | ((first | (with_reducible first | refine zP fun K_ hK_ => ?_ | refine zQ fun K_ hK_ => ?_ | refine zT ?_ | refine zU ?_ | refine zV ?_ | refine zW ?_ | refine zX ?_ | refine zY ?_) | ((with_reducible first | refine zR ?_ ?_ fun K_ hK_ => ?_ | refine zS ?_ ?_ fun K_ hK_ => ?_); (focus kernel_rfl); (focus kernel_rfl))); first | (simp (maxSteps := 1000000) (disch := refine hold_ ?_; first | (simp [kNil, sLt, sGt, sAmp, sApos, sQuot, vLt, vGt, vAmp, vApos, vQuot, str_eql, -List.getD_eq_getElem?_getD]; done) | omega) [kNil, sLt, sGt, sAmp, sApos, sQuot, vLt, vGt, vAmp, vApos, vQuot, str_eql, -List.getD_eq_getElem?_getD]; try first | (with_reducible refine zZ ?_) | subst hK_) | subst hK_) | (with_reducible first | refine zA ?_ | refine zB ?_ | refine zC ?_ | refine zD ?_ | refine zE ?_ | refine zF ?_ | refine zG ?_ | refine zH ?_ | refine zI ?_ | refine zJ ?_ | refine zK ?_ | refine zL ?_ | refine zM ?_ | refine zN ?_ | refine zO ?_) | ((with_reducible refine yG ?_ ?_); (focus decide)) | ((with_reducible refine yA ?_); refine yB rfl ?_; (with_reducible first | refine yC ?_ | refine yD ?_)))
  all_goals simp (maxSteps := 1000000) (disch := refine hold_ ?_; first | (simp [-List.getD_eq_getElem?_getD]; done) | omega) [-List.getD_eq_getElem?_getD]
end Go.Av.Can
end

section
set_option linter.unusedSimpArgs false
set_option linter.unusedVariables false
open Go Go.Av Go.Proofs
namespace Go.Av.Can
set_option maxHeartbeats 8000000 in
theorem stands_D : Fn Try.prog 41 [.str (txt [35#8, 120#8, 68#8])] [.p (.str (txt [13#8])), .p (.bool true)] := by
  have hd : Fn Try.prog 48 [.int .u8 68, .int .i32 16] [.p (.int .i32 13)] := digit_ct 68 16 (by omega) (by omega)
  have hx : Fn Try.prog 28 [.int .i32 13] [.p (.bool true)] := Go.Av.CanU.rxml_ct 13
  have ho : Fn Try.prog 47 [.int .i32 13] [.row (bl [13#8]) 0 0 false] 1 := Go.Av.CanU.one_ct 13 (by omega) (by omega)
  have hsz : (txt [35#8, 120#8, 68#8]).size = 3 := txt_size _
  have g := txt_get [35#8, 120#8, 68#8]
  have g0 : (((txt [35#8, 120#8, 68#8]).data.toList.getD 0 0).toNat : Int) = 35 := g 0
  have g1 : (((txt [35#8, 120#8, 68#8]).data.toList.getD 1 0).toNat : Int) = 120 := g 1
  have g2 : (((txt [35#8, 120#8, 68#8]).data.toList.getD 2 0).toNat : Int) = 68 := g 2
  refine Fn.of_body Try.func41 rfl ?_
  have n1 : ([35#8, 120#8, 68#8] == [108#8, 116#8]) = false := by decide
  have n2 : ([35#8, 120#8, 68#8] == [103#8, 116#8]) = false := by decide
  have n3 : ([35#8, 120#8, 68#8] == [97#8, 109#8, 112#8]) = false := by decide
  have n4 : ([35#8, 120#8, 68#8] == [97#8, 112#8, 111#8, 115#8]) = false := by decide
  have n5 : ([35#8, 120#8, 68#8] == [113#8, 117#8, 111#8, 116#8]) = false := by decide
  clear g
  generalize [35#8, 120#8, 68#8] = X at *
  repeat (first | ((first | (with_reducible first | refine zP fun K_ hK_ => ?_ | refine zQ fun K_ hK_ => ?_ | refine zT ?_ | refine zU ?_ | refine zV ?_ | refine zW ?_ | refine zX ?_ | refine zY ?_) | ((with_reducible first | refine zR ?_ ?_ fun K_ hK_ => ?_ | refine zS ?_ ?_ fun K_ hK_ => ?_); (focus kernel_rfl); (focus kernel_rfl))); first | (simp (maxSteps := 1000000) (disch := refine hold_ ?_; first | (simp [kNil, sLt, sGt, sAmp, sApos, sQuot, vLt, vGt, vAmp, vApos, vQuot, str_eql, n1, n2, n3, n4, n5, hsz, g0, g1, g2, -List.getD_eq_getElem?_getD]; done) | omega) [kNil, sLt, sGt, sAmp, sApos, sQuot, vLt, vGt, vAmp, vApos, vQuot, str_eql, n1, n2, n3, n4, n5, hsz, g0, g1, g2, -List.getD_eq_getElem?_getD]; try first | (with_reducible refine zZ ?_) | subst hK_) | subst hK_) | (with_reducible first | refine zA ?_ | refine zB ?_ | refine zC ?_ | refine zD ?_ | refine zE ?_ | refine zF ?_ | refine zG ?_ | refine zH ?_ | refine zI ?_ | refine zJ ?_ | refine zK ?_ | refine zL ?_ | refine zM ?_ | refine zN ?_ | refine zO ?_) | ((with_reducible refine yG ?_ ?_); (focus decide)) | ((with_reducible refine yA ?_); refine yB rfl ?_; (with_reducible first | refine yC ?_ | refine yD ?_)))
  refine AW.iter (true :: false :: false :: false :: true :: true :: true :: false :: false :: false :: false :: false :: false :: false :: false :: false :: false :: false :: false :: false :: false :: false :: false :: false :: false :: false :: false :: false :: false :: false :: false :: false :: false :: false :: false :: false :: false :: false :: false :: false :: false :: false :: false :: false :: false :: false :: false :: false :: false :: false :: false :: false :: false :: false :: false :: false :: false :: false :: false :: false :: []) 1 (fun k => ⟨(.p (.str (txt X)) :: V.junk :: V.junk :: V.junk :: .p (.int .i64 (2 + (k : Int))) :: .p (.int .i32 16) :: .p (.int .i32 (if k = 0 then 0 else 13)) :: V.junk :: V.junk :: V.junk :: V.junk :: V.junk :: V.junk :: V.junk :: V.junk :: V.junk :: V.junk :: V.junk :: V.junk :: V.junk :: V.junk :: V.junk :: V.junk :: V.junk :: V.junk :: V.junk :: V.junk :: V.junk :: V.junk :: V.junk :: V.junk :: V.junk :: V.junk :: V.junk :: V.junk :: V.junk :: V.junk :: V.junk :: V.junk :: V.junk :: V.junk :: V.junk :: V.junk :: V.junk :: V.junk :: V.junk :: V.junk :: V.junk :: V.junk :: V.junk :: V.junk :: V.junk :: V.junk :: V.junk :: V.junk :: V.junk :: V.junk :: V.junk :: V.junk :: V.junk :: []), ⟨[], []⟩⟩) ?_ ?_
  · simp (maxSteps := 1000000) (disch := refine hold_ ?_; first | (simp [-List.getD_eq_getElem?_getD]; done) | omega) [-List.getD_eq_getElem?_getD]
  intro k hk
  by_cases k0 : k = 0
  · subst k0
    repeat (first | ((with_reducible first | refine callK_at 48 ?_); refine callK_p ?_; simp (maxSteps := 1000000) (disch := refine hold_ ?_; first | (simp [hsz, g0, g1, g2, -List.getD_eq_getElem?_getD]; done) | omega) [hsz, g0, g1, g2, -List.getD_eq_getElem?_getD]; (first | refine callK1_of (Fn.ct hd Try.call48) ?_); (try simp (maxSteps := 1000000) (disch := refine hold_ ?_; first | (simp [hsz, g0, g1, g2, -List.getD_eq_getElem?_getD]; done) | omega) [hsz, g0, g1, g2, -List.getD_eq_getElem?_getD]); try first | (with_reducible refine zZ ?_) | subst hK_) | ((first | (with_reducible first | refine zP fun K_ hK_ => ?_ | refine zQ fun K_ hK_ => ?_ | refine zT ?_ | refine zU ?_ | refine zV ?_ | refine zW ?_ | refine zX ?_ | refine zY ?_) | ((with_reducible first | refine zR ?_ ?_ fun K_ hK_ => ?_ | refine zS ?_ ?_ fun K_ hK_ => ?_); (focus kernel_rfl); (focus kernel_rfl))); first | (simp (maxSteps := 1000000) (disch := refine hold_ ?_; first | (simp [hsz, g0, g1, g2, -List.getD_eq_getElem?_getD]; done) | omega) [hsz, g0, g1, g2, -List.getD_eq_getElem?_getD]; try first | (with_reducible refine zZ ?_) | subst hK_) | subst hK_) | (with_reducible first | refine zA ?_ | refine zB ?_ | refine zC ?_ | refine zD ?_ | refine zE ?_ | refine zF ?_ | refine zG ?_ | refine zH ?_ | refine zI ?_ | refine zJ ?_ | refine zK ?_ | refine zL ?_ | refine zM ?_ | refine zN ?_ | refine zO ?_) | ((with_reducible refine yG ?_ ?_); (focus decide)) | ((with_reducible refine yA ?_); refine yB rfl ?_; (with_reducible first | refine yC ?_ | refine yD ?_)))
    refine ⟨by omega, ?_⟩
    simp (maxSteps := 1000000) (disch := refine hold_ ?_; first | (simp [-List.getD_eq_getElem?_getD]; done) | omega) [-List.getD_eq_getElem?_getD]
    exact ⟨rfl, rfl⟩
  · have k1 : k = 1 := by omega
    subst k1
    repeat (first | ((with_reducible first | refine callK_at 28 ?_ | refine callK_at 47 ?_); refine callK_p ?_; simp (maxSteps := 1000000) (disch := refine hold_ ?_; first | (simp [hsz, g0, g1, g2, -List.getD_eq_getElem?_getD]; done) | omega) [hsz, g0, g1, g2, -List.getD_eq_getElem?_getD]; (first | ((with_reducible refine k1_at 28 ?_); refine callK1_of (Fn.ct hx Try.call28) ?_) | ((with_reducible refine k1_at 47 ?_); refine callK1_of (Fn.ct ho Try.call47) ?_)); (try simp (maxSteps := 1000000) (disch := refine hold_ ?_; first | (simp [hsz, g0, g1, g2, -List.getD_eq_getElem?_getD]; done) | omega) [hsz, g0, g1, g2, -List.getD_eq_getElem?_getD]); try first | (with_reducible refine zZ ?_) | subst hK_) | ((first | (with_reducible first | refine zP fun K_ hK_ => ?_ | refine zQ fun K_ hK_ => ?_ | refine zT ?_ | refine zU ?_ | refine zV ?_ | refine zW ?_ | refine zX ?_ | refine zY ?_) | ((with_reducible first | refine zR ?_ ?_ fun K_ hK_ => ?_ | refine zS ?_ ?_ fun K_ hK_ => ?_); (focus kernel_rfl); (focus kernel_rfl))); first | (simp (maxSteps := 1000000) (disch := refine hold_ ?_; first | (simp [hsz, g0, g1, g2, -List.getD_eq_getElem?_getD]; done) | omega) [hsz, g0, g1, g2, -List.getD_eq_getElem?_getD]; try first | (with_reducible refine zZ ?_) | subst hK_) | subst hK_) | (with_reducible first | refine zA ?_ | refine zB ?_ | refine zC ?_ | refine zD ?_ | refine zE ?_ | refine zF ?_ | refine zG ?_ | refine zH ?_ | refine zI ?_ | refine zJ ?_ | refine zK ?_ | refine zL ?_ | refine zM ?_ | refine zN ?_ | refine zO ?_) | ((with_reducible refine yG ?_ ?_); (focus decide)) | ((with_reducible refine yA ?_); refine yB rfl ?_; (with_reducible first | refine yC ?_ | refine yD ?_)))
    all_goals simp (maxSteps := 1000000) (disch := refine hold_ ?_; first | (simp [-List.getD_eq_getElem?_getD]; done) | omega) [-List.getD_eq_getElem?_getD]
set_option maxHeartbeats 8000000 in
theorem stands_n9 : Fn Try.prog 41 [.str (txt [35#8, 120#8, 57#8])] [.p (.str (txt [9#8])), .p (.bool true)] := by
  have hd : Fn Try.prog 48 [.int .u8 57, .int .i32 16] [.p (.int .i32 9)] := digit_ct 57 16 (by omega) (by omega)
  have hx : Fn Try.prog 28 [.int .i32 9] [.p (.bool true)] := Go.Av.CanU.rxml_ct 9
  have ho : Fn Try.prog 47 [.int .i32 9] [.row (bl [9#8]) 0 0 false] 1 := Go.Av.CanU.one_ct 9 (by omega) (by omega)
  have hsz : (txt [35#8, 120#8, 57#8]).size = 3 := txt_size _
  have g := txt_get [35#8, 120#8, 57#8]
  have g0 : (((txt [35#8, 120#8, 57#8]).data.toList.getD 0 0).toNat : Int) = 35 := g 0
  have g1 : (((txt [35#8, 120#8, 57#8]).data.toList.getD 1 0).toNat : Int) = 120 := g 1
  have g2 : (((txt [35#8, 120#8, 57#8]).data.toList.getD 2 0).toNat : Int) = 57 := g 2
  refine Fn.of_body Try.func41 rfl ?_
  have n1 : ([35#8, 120#8, 57#8] == [108#8, 116#8]) = false := by decide
  have n2 : ([35#8, 120#8, 57#8] == [103#8, 116#8]) = false := by decide
  have n3 : ([35#8, 120#8, 57#8] == [97#8, 109#8, 112#8]) = false := by decide
  have n4 : ([35#8, 120#8, 57#8] == [97#8, 112#8, 111#8, 115#8]) = false := by decide
  have n5 : ([35#8, 120#8, 57#8] == [113#8, 117#8, 111#8, 116#8]) = false := by decide
  clear g
  generalize [35#8, 120#8, 57#8] = X at *
  repeat (first | ((first | (with_reducible first | refine zP fun K_ hK_ => ?_ | refine zQ fun K_ hK_ => ?_ | refine zT ?_ | refine zU ?_ | refine zV ?_ | refine zW ?_ | refine zX ?_ | refine zY ?_) | ((with_reducible first | refine zR ?_ ?_ fun K_ hK_ => ?_ | refine zS ?_ ?_ fun K_ hK_ => ?_); (focus kernel_rfl); (focus kernel_rfl))); first | (simp (maxSteps := 1000000) (disch := refine hold_ ?_; first | (simp [kNil, sLt, sGt, sAmp, sApos, sQuot, vLt, vGt, vAmp, vApos, vQuot, str_eql, n1, n2, n3, n4, n5, hsz, g0, g1, g2, -List.getD_eq_getElem?_getD]; done) | omega) [kNil, sLt, sGt, sAmp, sApos, sQuot, vLt, vGt, vAmp, vApos, vQuot, str_eql, n1, n2, n3, n4, n5, hsz, g0, g1, g2, -List.getD_eq_getElem?_getD]; try first | (with_reducible refine zZ ?_) | subst hK_) | subst hK_) | (with_reducible first | refine zA ?_ | refine zB ?_ | refine zC ?_ | refine zD ?_ | refine zE ?_ | refine zF ?_ | refine zG ?_ | refine zH ?_ | refine zI ?_ | refine zJ ?_ | refine zK ?_ | refine zL ?_ | refine zM ?_ | refine zN ?_ | refine zO ?_) | ((with_reducible refine yG ?_ ?_); (focus decide)) | ((with_reducible refine yA ?_); refine yB rfl ?_; (with_reducible first | refine yC ?_ | refine yD ?_)))
  refine AW.iter (true :: false :: false :: false :: true :: true :: true :: false :: false :: false :: false :: false :: false :: false :: false :: false :: false :: false :: false :: false :: false :: false :: false :: false :: false :: false :: false :: false :: false :: false :: false :: false :: false :: false :: false :: false :: false :: false :: false :: false :: false :: false :: false :: false :: false :: false :: false :: false :: false :: false :: false :: false :: false :: false :: false :: false :: false :: false :: false :: false :: []) 1 (fun k => ⟨(.p (.str (txt X)) :: V.junk :: V.junk :: V.junk :: .p (.int .i64 (2 + (k : Int))) :: .p (.int .i32 16) :: .p (.int .i32 (if k = 0 then 0 else 9)) :: V.junk :: V.junk :: V.junk :: V.junk :: V.junk :: V.junk :: V.junk :: V.junk :: V.junk :: V.junk :: V.junk :: V.junk :: V.junk :: V.junk :: V.junk :: V.junk :: V.junk :: V.junk :: V.junk :: V.junk :: V.junk :: V.junk :: V.junk :: V.junk :: V.junk :: V.junk :: V.junk :: V.junk :: V.junk :: V.junk :: V.junk :: V.junk :: V.junk :: V.junk :: V.junk :: V.junk :: V.junk :: V.junk :: V.junk :: V.junk :: V.junk :: V.junk :: V.junk :: V.junk :: V.junk :: V.junk :: V.junk :: V.junk :: V.junk :: V.junk :: V.junk :: V.junk :: V.junk :: []), ⟨[], []⟩⟩) ?_ ?_
  · simp (maxSteps := 1000000) (disch := refine hold_ ?_; first | (simp [-List.getD_eq_getElem?_getD]; done) | omega) [-List.getD_eq_getElem?_getD]
  intro k hk
  by_cases k0 : k = 0
  · subst k0
    repeat (first | ((with_reducible first | refine callK_at 48 ?_); refine callK_p ?_; simp (maxSteps := 1000000) (disch := refine hold_ ?_; first | (simp [hsz, g0, g1, g2, -List.getD_eq_getElem?_getD]; done) | omega) [hsz, g0, g1, g2, -List.getD_eq_getElem?_getD]; (first | refine callK1_of (Fn.ct hd Try.call48) ?_); (try simp (maxSteps := 1000000) (disch := refine hold_ ?_; first | (simp [hsz, g0, g1, g2, -List.getD_eq_getElem?_getD]; done) | omega) [hsz, g0, g1, g2, -List.getD_eq_getElem?_getD]); try first | (with_reducible refine zZ ?_) | subst hK_) | ((first | (with_reducible first | refine zP fun K_ hK_ => ?_ | refine zQ fun K_ hK_ => ?_ | refine zT ?_ | refine zU ?_ | refine zV ?_ | refine zW ?_ | refine zX ?_ | refine zY ?_) | ((with_reducible first | refine zR ?_ ?_ fun K_ hK_ => ?_ | refine zS ?_ ?_ fun K_ hK_ => ?_); (focus kernel_rfl); (focus kernel_rfl))); first | (simp (maxSteps := 1000000) (disch := refine hold_ ?_; first | (simp [hsz, g0, g1, g2, -List.getD_eq_getElem?_getD]; done) | omega) [hsz, g0, g1, g2, -List.getD_eq_getElem?_getD]; try first | (with_reducible refine zZ ?_) | subst hK_) | subst hK_) | (with_reducible first | refine zA ?_ | refine zB ?_ | refine zC ?_ | refine zD ?_ | refine zE ?_ | refine zF ?_ | refine zG ?_ | refine zH ?_ | refine zI ?_ | refine zJ ?_ | refine zK ?_ | refine zL ?_ | refine zM ?_ | refine zN ?_ | refine zO ?_) | ((with_reducible refine yG ?_ ?_); (focus decide)) | ((with_reducible refine yA ?_); refine yB rfl ?_; (with_reducible first | refine yC ?_ | refine yD ?_)))
    refine ⟨by omega, ?_⟩
    simp (maxSteps := 1000000) (disch := refine hold_ ?_; first | (simp [-List.getD_eq_getElem?_getD]; done) | omega) [-List.getD_eq_getElem?_getD]
    exact ⟨rfl, rfl⟩
  · have k1 : k = 1 := by omega
    subst k1
    repeat (first | ((with_reducible first | refine callK_at 28 ?_ | refine callK_at 47 ?_); refine callK_p ?_; simp (maxSteps := 1000000) (disch := refine hold_ ?_; first | (simp [hsz, g0, g1, g2, -List.getD_eq_getElem?_getD]; done) | omega) [hsz, g0, g1, g2, -List.getD_eq_getElem?_getD]; (first | ((with_reducible refine k1_at 28 ?_); refine callK1_of (Fn.ct hx Try.call28) ?_) | ((with_reducible refine k1_at 47 ?_); refine callK1_of (Fn.ct ho Try.call47) ?_)); (try simp (maxSteps := 1000000) (disch := refine hold_ ?_; first | (simp [hsz, g0, g1, g2, -List.getD_eq_getElem?_getD]; done) | omega) [hsz, g0, g1, g2, -List.getD_eq_getElem?_getD]); try first | (with_reducible refine zZ ?_) | subst hK_) | ((first | (with_reducible first | refine zP fun K_ hK_ => ?_ | refine zQ fun K_ hK_ => ?_ | refine zT ?_ | refine zU ?_ | refine zV ?_ | refine zW ?_ | refine zX ?_ | refine zY ?_) | ((with_reducible first | refine zR ?_ ?_ fun K_ hK_ => ?_ | refine zS ?_ ?_ fun K_ hK_ => ?_); (focus kernel_rfl); (focus kernel_rfl))); first | (simp (maxSteps := 1000000) (disch := refine hold_ ?_; first | (simp [hsz, g0, g1, g2, -List.getD_eq_getElem?_getD]; done) | omega) [hsz, g0, g1, g2, -List.getD_eq_getElem?_getD]; try first | (with_reducible refine zZ ?_) | subst hK_) | subst hK_) | (with_reducible first | refine zA ?_ | refine zB ?_ | refine zC ?_ | refine zD ?_ | refine zE ?_ | refine zF ?_ | refine zG ?_ | refine zH ?_ | refine zI ?_ | refine zJ ?_ | refine zK ?_ | refine zL ?_ | refine zM ?_ | refine zN ?_ | refine zO ?_) | ((with_reducible refine yG ?_ ?_); (focus decide)) | ((with_reducible refine yA ?_); refine yB rfl ?_; (with_reducible first | refine yC ?_ | refine yD ?_)))
    all_goals simp (maxSteps := 1000000) (disch := refine hold_ ?_; first | (simp [-List.getD_eq_getElem?_getD]; done) | omega) [-List.getD_eq_getElem?_getD]
set_option maxHeartbeats 8000000 in
theorem stands_nA : Fn Try.prog 41 [.str (txt [35#8, 120#8, 65#8])] [.p (.str (txt [10#8])), .p (.bool true)] := by
  have hd : Fn Try.prog 48 [.int .u8 65, .int .i32 16] [.p (.int .i32 10)] := digit_ct 65 16 (by omega) (by omega)
  have hx : Fn Try.prog 28 [.int .i32 10] [.p (.bool true)] := Go.Av.CanU.rxml_ct 10
  have ho : Fn Try.prog 47 [.int .i32 10] [.row (bl [10#8]) 0 0 false] 1 := Go.Av.CanU.one_ct 10 (by omega) (by omega)
  have hsz : (txt [35#8, 120#8, 65#8]).size = 3 := txt_size _
  have g := txt_get [35#8, 120#8, 65#8]
  have g0 : (((txt [35#8, 120#8, 65#8]).data.toList.getD 0 0).toNat : Int) = 35 := g 0
  have g1 : (((txt [35#8, 120#8, 65#8]).data.toList.getD 1 0).toNat : Int) = 120 := g 1
  have g2 : (((txt [35#8, 120#8, 65#8]).data.toList.getD 2 0).toNat : Int) = 65 := g 2
  refine Fn.of_body Try.func41 rfl ?_
  have n1 : ([35#8, 120#8, 65#8] == [108#8, 116#8]) = false := by decide
  have n2 : ([35#8, 120#8, 65#8] == [103#8, 116#8]) = false := by decide
  have n3 : ([35#8, 120#8, 65#8] == [97#8, 109#8, 112#8]) = false := by decide
  have n4 : ([35#8, 120#8, 65#8] == [97#8, 112#8, 111#8, 115#8]) = false := by decide
  have n5 : ([35#8, 120#8, 65#8] == [113#8, 117#8, 111#8, 116#8]) = false := by decide
  clear g
  generalize [35#8, 120#8, 65#8] = X at *
  repeat (first | ((first | (with_reducible first | refine zP fun K_ hK_ => ?_ | refine zQ fun K_ hK_ => ?_ | refine zT ?_ | refine zU ?_ | refine zV ?_ | refine zW ?_ | refine zX ?_ | refine zY ?_) | ((with_reducible first | refine zR ?_ ?_ fun K_ hK_ => ?_ | refine zS ?_ ?_ fun K_ hK_ => ?_); (focus kernel_rfl); (focus kernel_rfl))); first | (simp (maxSteps := 1000000) (disch := refine hold_ ?_; first | (simp [kNil, sLt, sGt, sAmp, sApos, sQuot, vLt, vGt, vAmp, vApos, vQuot, str_eql, n1, n2, n3, n4, n5, hsz, g0, g1, g2, -List.getD_eq_getElem?_getD]; done) | omega) [kNil, sLt, sGt, sAmp, sApos, sQuot, vLt, vGt, vAmp, vApos, vQuot, str_eql, n1, n2, n3, n4, n5, hsz, g0, g1, g2, -List.getD_eq_getElem?_getD]; try first | (with_reducible refine zZ ?_) | subst hK_) | subst hK_) | (with_reducible first | refine zA ?_ | refine zB ?_ | refine zC ?_ | refine zD ?_ | refine zE ?_ | refine zF ?_ | refine zG ?_ | refine zH ?_ | refine zI ?_ | refine zJ ?_ | refine zK ?_ | refine zL ?_ | refine zM ?_ | refine zN ?_ | refine zO ?_) | ((with_reducible refine yG ?_ ?_); (focus decide)) | ((with_reducible refine yA ?_); refine yB rfl ?_; (with_reducible first | refine yC ?_ | refine yD ?_)))
  refine AW.iter (true :: false :: false :: false :: true :: true :: true :: false :: false :: false :: false :: false :: false :: false :: false :: false :: false :: false :: false :: false :: false :: false :: false :: false :: false :: false :: false :: false :: false :: false :: false :: false :: false :: false :: false :: false :: false :: false :: false :: false :: false :: false :: false :: false :: false :: false :: false :: false :: false :: false :: false :: false :: false :: false :: false :: false :: false :: false :: false :: false :: []) 1 (fun k => ⟨(.p (.str (txt X)) :: V.junk :: V.junk :: V.junk :: .p (.int .i64 (2 + (k : Int))) :: .p (.int .i32 16) :: .p (.int .i32 (if k = 0 then 0 else 10)) :: V.junk :: V.junk :: V.junk :: V.junk :: V.junk :: V.junk :: V.junk :: V.junk :: V.junk :: V.junk :: V.junk :: V.junk :: V.junk :: V.junk :: V.junk :: V.junk :: V.junk :: V.junk :: V.junk :: V.junk :: V.junk :: V.junk :: V.junk :: V.junk :: V.junk :: V.junk :: V.junk :: V.junk :: V.junk :: V.junk :: V.junk :: V.junk :: V.junk :: V.junk :: V.junk :: V.junk :: V.junk :: V.junk :: V.junk :: V.junk :: V.junk :: V.junk :: V.junk :: V.junk :: V.junk :: V.junk :: V.junk :: V.junk :: V.junk :: V.junk :: V.junk :: V.junk :: V.junk :: []), ⟨[], []⟩⟩) ?_ ?_
  · simp (maxSteps := 1000000) (disch := refine hold_ ?_; first | (simp [-List.getD_eq_getElem?_getD]; done) | omega) [-List.getD_eq_getElem?_getD]
  intro k hk
  by_cases k0 : k = 0
  · subst k0
    repeat (first | ((with_reducible first | refine callK_at 48 ?_); refine callK_p ?_; simp (maxSteps := 1000000) (disch := refine hold_ ?_; first | (simp [hsz, g0, g1, g2, -List.getD_eq_getElem?_getD]; done) | omega) [hsz, g0, g1, g2, -List.getD_eq_getElem?_getD]; (first | refine callK1_of (Fn.ct hd Try.call48) ?_); (try simp (maxSteps := 1000000) (disch := refine hold_ ?_; first | (simp [hsz, g0, g1, g2, -List.getD_eq_getElem?_getD]; done) | omega) [hsz, g0, g1, g2, -List.getD_eq_getElem?_getD]); try first | (with_reducible refine zZ ?_) | subst hK_) | ((first | (with_reducible first | refine zP fun K_ hK_ => ?_ | refine zQ fun K_ hK_ => ?_ | refine zT ?_ | refine zU ?_ | refine zV ?_ | refine zW ?_ | refine zX ?_ | refine zY ?_) | ((with_reducible first | refine zR ?_ ?_ fun K_ hK_ => ?_ | refine zS ?_ ?_ fun K_ hK_ => ?_); (focus kernel_rfl); (focus kernel_rfl))); first | (simp (maxSteps := 1000000) (disch := refine hold_ ?_; first | (simp [hsz, g0, g1, g2, -List.getD_eq_getElem?_getD]; done) | omega) [hsz, g0, g1, g2, -List.getD_eq_getElem?_getD]; try first | (with_reducible refine zZ ?_) | subst hK_) | subst hK_) | (with_reducible first | refine zA ?_ | refine zB ?_ | refine zC ?_ | refine zD ?_ | refine zE ?_ | refine zF ?_ | refine zG ?_ | refine zH ?_ | refine zI ?_ | refine zJ ?_ | refine zK ?_ | refine zL ?_ | refine zM ?_ | refine zN ?_ | refine zO ?_) | ((with_reducible refine yG ?_ ?_); (focus decide)) | ((with_reducible refine yA ?_); refine yB rfl ?_; (with_reducible first | refine yC ?_ | refine yD ?_)))
    refine ⟨by omega, ?_⟩
    simp (maxSteps := 1000000) (disch := refine hold_ ?_; first | (simp [-List.getD_eq_getElem?_getD]; done) | omega) [-List.getD_eq_getElem?_getD]
    exact ⟨rfl, rfl⟩
  · have k1 : k = 1 := by omega
    subst k1
    repeat (first | ((with_reducible first | refine callK_at 28 ?_ | refine callK_at 47 ?_); refine callK_p ?_; simp (maxSteps := 1000000) (disch := refine hold_ ?_; first | (simp [hsz, g0, g1, g2, -List.getD_eq_getElem?_getD]; done) | omega) [hsz, g0, g1, g2, -List.getD_eq_getElem?_getD]; (first | ((with_reducible refine k1_at 28 ?_); refine callK1_of (Fn.ct hx Try.call28) ?_) | ((with_reducible refine k1_at 47 ?_); refine callK1_of (Fn.ct ho Try.call47) ?_)); (try simp (maxSteps := 1000000) (disch := refine hold_ ?_; first | (simp [hsz, g0, g1, g2, -List.getD_eq_getElem?_getD]; done) | omega) [hsz, g0, g1, g2, -List.getD_eq_getElem?_getD]); try first | (with_reducible refine zZ ?_) | subst hK_) | ((first | (with_reducible first | refine zP fun K_ hK_ => ?_ | refine zQ fun K_ hK_ => ?_ | refine zT ?_ | refine zU ?_ | refine zV ?_ | refine zW ?_ | refine zX ?_ | refine zY ?_) | ((with_reducible first | refine zR ?_ ?_ fun K_ hK_ => ?_ | refine zS ?_ ?_ fun K_ hK_ => ?_); (focus kernel_rfl); (focus kernel_rfl))); first | (simp (maxSteps := 1000000) (disch := refine hold_ ?_; first | (simp [hsz, g0, g1, g2, -List.getD_eq_getElem?_getD]; done) | omega) [hsz, g0, g1, g2, -List.getD_eq_getElem?_getD]; try first | (with_reducible refine zZ ?_) | subst hK_) | subst hK_) | (with_reducible first | refine zA ?_ | refine zB ?_ | refine zC ?_ | refine zD ?_ | refine zE ?_ | refine zF ?_ | refine zG ?_ | refine zH ?_ | refine zI ?_ | refine zJ ?_ | refine zK ?_ | refine zL ?_ | refine zM ?_ | refine zN ?_ | refine zO ?_) | ((with_reducible refine yG ?_ ?_); (focus decide)) | ((with_reducible refine yA ?_); refine yB rfl ?_; (with_reducible first | refine yC ?_ | refine yD ?_)))
    all_goals simp (maxSteps := 1000000) (disch := refine hold_ ?_; first | (simp [-List.getD_eq_getElem?_getD]; done) | omega) [-List.getD_eq_getElem?_getD]
end Go.Av.Can
end

section
set_option linter.unusedSimpArgs false
set_option linter.unusedVariables false
open Go Go.Av Go.Proofs
namespace Go.Av.Can
theorem replL_cut (g : Tab) (l : List (BitVec 8)) (k : Nat) (h : k < l.length) : replL g l = replL g (l.take k) ++ (repB g (l.getD k 0#8) ++ replL g (l.drop (k + 1))) := by
  have e : l = l.take k ++ (l.getD k 0#8 :: l.drop (k + 1)) := by
    have := List.take_append_drop k l
    rw [List.drop_eq_getElem_cons h] at this
    simp [List.getD_eq_getElem?_getD, h]
  have := congrArg (replL g) e
  rw [replL_app, replL_cons] at this
  exact this
theorem replL_get (g : Tab) (l : List (BitVec 8)) (k : Nat) (h : k < l.length) (j : Nat) (hj : j < (repB g (l.getD k 0#8)).length) : (replL g l).getD ((replL g (l.take k)).length + j) 0#8 = (repB g (l.getD k 0#8)).getD j 0#8 := by
  rw [replL_cut g l k h]
  simp only [List.getD_eq_getElem?_getD]
  rw [List.getElem?_append_right (by omega), List.getElem?_append_left (by simpa [List.getD_eq_getElem?_getD] using hj)]
  simp
end Go.Av.Can
end

section
set_option linter.unusedSimpArgs false
set_option linter.unusedVariables false
open Go Go.Av Go.Proofs
namespace Go.Av.Can
open Go.Av.CanU
theorem okS_asc (b : BitVec 8) (l : List (BitVec 8)) (h2 : ub b < 128) : okS (b :: l) = 1 := by
  have e : bt (b :: l) 0 = ub b := rfl
  unfold okS; rw [e, if_neg (by simp), if_pos h2]
theorem charsL_asc (b : BitVec 8) (l : List (BitVec 8)) (h2 : ub b < 128) : charsL (b :: l) = (charsL l).map (ub b :: ·) := by
  have e := okS_asc b l h2
  rw [charsL_step _ (by simp) (by rw [e]; omega), e]
  have r : runeN (b :: l) = ub b := by
    have e : bt (b :: l) 0 = ub b := rfl
    unfold runeN; rw [e, if_pos h2]
  rw [r]; rfl
theorem charsL_ascs : ∀ (r l : List (BitVec 8)), (∀ b ∈ r, ub b < 128) → charsL (r ++ l) = (charsL l).map (r.map ub ++ ·)
  | [], l, _ => by simp
  | b :: r, l, h => by
    rw [List.cons_append, charsL_asc b _ (h b (by simp)), charsL_ascs r l fun x hx => h x (List.mem_cons_of_mem _ hx)]
    cases charsL l <;> simp
end Go.Av.Can
end

section
set_option linter.unusedSimpArgs false
set_option linter.unusedVariables false
open Go Go.Av Go.Proofs
namespace Go.Av.Can
open Go.Av.CanU
theorem rep_low_text (b : BitVec 8) (h : ub b < 128) : ∀ x ∈ repB (tabP textP) b, ub x < 128 := by
  rw [rep_text]; repeat' split
  all_goals first | decide | (intro x hx; simp at hx; subst hx; exact h)
theorem rep_xml_text (b : BitVec 8) (h : xmlB (ub b) = true) : ∀ x ∈ repB (tabP textP) b, xmlB (ub x) = true := by
  rw [rep_text]; repeat' split
  all_goals first | decide | (intro x hx; simp at hx; subst hx; exact h)
theorem rep_hi_text (b : BitVec 8) (h : 128 ≤ ub b) : repB (tabP textP) b = [b] := by
  rw [rep_text]; repeat' split
  all_goals first | rfl | (subst_vars; exact absurd h (by decide))
theorem rep_low_value (b : BitVec 8) (h : ub b < 128) : ∀ x ∈ repB (tabP valueP) b, ub x < 128 := by
  rw [rep_value]; repeat' split
  all_goals first | decide | (intro x hx; simp at hx; subst hx; exact h)
theorem rep_xml_value (b : BitVec 8) (h : xmlB (ub b) = true) : ∀ x ∈ repB (tabP valueP) b, xmlB (ub x) = true := by
  rw [rep_value]; repeat' split
  all_goals first | decide | (intro x hx; simp at hx; subst hx; exact h)
theorem rep_hi_value (b : BitVec 8) (h : 128 ≤ ub b) : repB (tabP valueP) b = [b] := by
  rw [rep_value]; repeat' split
  all_goals first | rfl | (subst_vars; exact absurd h (by decide))
end Go.Av.Can
end

section
set_option linter.unusedSimpArgs false
set_option linter.unusedVariables false
open Go Go.Av Go.Proofs
namespace Go.Av.Can
open Go.Av.CanU
theorem bt_pre (l X : List (BitVec 8)) (n i : Nat) (hn : n ≤ l.length) (hi : i < n) : bt (l.take n ++ X) i = bt l i := by
  unfold bt
  simp only [List.getD_eq_getElem?_getD]
  rw [List.getElem?_append_left (by simp; omega), List.getElem?_take_of_lt hi]
theorem okS_pre (l X : List (BitVec 8)) (n : Nat) (hn : okS l = n) (h0 : n ≠ 0) (hb : ¬ bt l 0 < 128) : okS (l.take n ++ X) = n ∧ (∀ i, i < n → 128 ≤ bt l i) ∧ runeN (l.take n ++ X) = runeN l := by
  have hl := okS_len l
  rw [hn] at hl
  have hlen : n ≤ (l.take n ++ X).length := by simp; omega
  have B := bt_pre l X n
  generalize l.take n ++ X = m at *
  have lo : ∀ b, 128 ≤ loB b := by intro b; unfold loB; (repeat' split) <;> omega
  unfold okS at hn
  rw [if_neg (by omega), if_neg hb] at hn
  have hm : m.length ≠ 0 := by omega
  have e0 := B 0 hl (by omega)
  by_cases c2 : 194 ≤ bt l 0 ∧ bt l 0 < 224
  · rw [if_pos c2] at hn
    split at hn
    · rename_i d
      subst hn
      have e1 := B 1 hl (by omega)
      refine ⟨?_, ?_, ?_⟩
      · unfold okS; rw [if_neg hm, e0, if_neg hb, if_pos c2, e1, if_pos ⟨hlen, d.2⟩]
      · intro i hi; rcases (by omega : i = 0 ∨ i = 1) with r | r <;> subst r <;> omega
      · unfold runeN; rw [e0, e1, if_neg hb, if_neg hb, if_pos c2.2, if_pos c2.2]
    · exact absurd hn.symm h0
  · rw [if_neg c2] at hn
    by_cases c3 : 224 ≤ bt l 0 ∧ bt l 0 < 240
    · rw [if_pos c3] at hn
      split at hn
      · rename_i d
        subst hn
        have e1 := B 1 hl (by omega)
        have e2 := B 2 hl (by omega)
        have := lo (bt l 0)
        refine ⟨?_, ?_, ?_⟩
        · unfold okS; rw [if_neg hm, e0, if_neg hb, if_neg c2, if_pos c3, e1, e2, if_pos ⟨hlen, d.2⟩]
        · intro i hi; rcases (by omega : i = 0 ∨ i = 1 ∨ i = 2) with r | r | r <;> subst r <;> omega
        · have g : ¬ bt l 0 < 224 := by omega
          unfold runeN; rw [e0, e1, e2]; simp only [if_neg hb, if_neg g, if_pos c3.2]
      · exact absurd hn.symm h0
    · rw [if_neg c3] at hn
      split at hn
      · rename_i c4
        split at hn
        · rename_i d
          subst hn
          have e1 := B 1 hl (by omega)
          have e2 := B 2 hl (by omega)
          have e3 := B 3 hl (by omega)
          have := lo (bt l 0)
          refine ⟨?_, ?_, ?_⟩
          · unfold okS; rw [if_neg hm, e0, if_neg hb, if_neg c2, if_neg c3, if_pos c4, e1, e2, e3, if_pos ⟨hlen, d.2⟩]
          · intro i hi; rcases (by omega : i = 0 ∨ i = 1 ∨ i = 2 ∨ i = 3) with r | r | r | r <;> subst r <;> omega
          · have g : ¬ bt l 0 < 224 := by omega
            have g2 : ¬ bt l 0 < 240 := by omega
            unfold runeN; rw [e0, e1, e2, e3]
        · exact absurd hn.symm h0
      · exact absurd hn.symm h0
end Go.Av.Can
end

section
set_option linter.unusedSimpArgs false
set_option linter.unusedVariables false
open Go Go.Av Go.Proofs
namespace Go.Av.Can
open Go.Av.CanU
theorem replL_hi {g : Tab} (hh : ∀ b, 128 ≤ ub b → repB g b = [b]) : ∀ l : List (BitVec 8), (∀ b ∈ l, 128 ≤ ub b) → replL g l = l
  | [], _ => rfl
  | b :: l, h => by rw [replL_cons, hh b (h b (by simp)), replL_hi hh l fun x hx => h x (List.mem_cons_of_mem _ hx)]; rfl
theorem written_xml {g : Tab} (hlo : ∀ b, ub b < 128 → ∀ x ∈ repB g b, ub x < 128) (hx : ∀ b, xmlB (ub b) = true → ∀ x ∈ repB g b, xmlB (ub x) = true) (hh : ∀ b, 128 ≤ ub b → repB g b = [b]) :
    ∀ (n : Nat) (l : List (BitVec 8)) (c : List Int), l.length ≤ n → charsL l = some c → (∀ r ∈ c, xmlB r = true) → ∃ c', charsL (replL g l) = some c' ∧ ∀ r ∈ c', xmlB r = true
  | n, [], c, _, hc, hq => ⟨[], by rw [replL_nil, charsL_nil], by simp⟩
  | 0, b :: l, c, hl, _, _ => by simp at hl
  | n + 1, b :: l, c, hl, hc, hq => by
    by_cases hb : ub b < 128
    · rw [charsL_asc b l hb] at hc
      cases h1 : charsL l with
      | none => rw [h1] at hc; simp at hc
      | some d =>
        rw [h1] at hc
        simp at hc
        subst hc
        obtain ⟨d', h2, h3⟩ := written_xml hlo hx hh n l d (by simp at hl; omega) h1 fun r hr => hq r (List.mem_cons_of_mem _ hr)
        refine ⟨(repB g b).map ub ++ d', ?_, ?_⟩
        · rw [replL_cons, charsL_ascs _ _ (hlo b hb), h2]; rfl
        · intro r hr
          rcases List.mem_append.1 hr with hr | hr
          · obtain ⟨x, hx1, rfl⟩ := List.mem_map.1 hr
            exact hx b (hq _ (by simp)) x hx1
          · exact h3 r hr
    · have e0 : bt (b :: l) 0 = ub b := rfl
      generalize hL : b :: l = L at *
      have hLn : L.length ≠ 0 := by rw [← hL]; simp
      by_cases h0 : okS L = 0
      · rw [charsL_bad L hLn h0] at hc; simp at hc
      · have hle := okS_len L
        obtain ⟨p1, p2, p3⟩ := okS_pre L (replL g (L.drop (okS L))) (okS L) rfl h0 (by rw [e0]; exact hb)
        rw [charsL_step L hLn h0] at hc
        cases h1 : charsL (L.drop (okS L)) with
        | none => rw [h1] at hc; simp at hc
        | some d =>
          rw [h1] at hc
          simp at hc
          subst hc
          obtain ⟨d', h2, h3⟩ := written_xml hlo hx hh n (L.drop (okS L)) d (by simp; omega) h1 fun r hr => hq r (List.mem_cons_of_mem _ hr)
          have hr : replL g L = L.take (okS L) ++ replL g (L.drop (okS L)) := by
            conv => lhs; rw [← List.take_append_drop (okS L) L]
            rw [replL_app, replL_hi hh (L.take (okS L))]
            intro x hx
            obtain ⟨i, hi, rfl⟩ := List.mem_iff_getElem.1 hx
            have hi2 : i < okS L := by simp at hi; omega
            have := p2 i hi2
            unfold bt at this
            simpa [List.getD_eq_getElem?_getD, show i < L.length by omega] using this
          refine ⟨runeN L :: d', ?_, ?_⟩
          · rw [hr, charsL_step _ (by rw [List.length_append, List.length_take]; omega) (by rw [p1]; exact h0), p1, p3]
            have : (L.take (okS L) ++ replL g (L.drop (okS L))).drop (okS L) = replL g (L.drop (okS L)) := by
              rw [List.drop_append_of_le_length (by simp; omega), List.drop_eq_nil_of_le (by rw [List.length_take]; omega)]; rfl
            rw [this, h2]; rfl
          · intro r hr
            rcases List.mem_cons.1 hr with e | hr
            · rw [e]; exact hq (runeN L) (List.mem_cons.2 (Or.inl rfl))
            · exact h3 r hr
end Go.Av.Can
end

section
set_option linter.unusedSimpArgs false
set_option linter.unusedVariables false
open Go Go.Av Go.Proofs
namespace Go.Av.Can
open Go.Av.CanU
theorem textB_iff (l : List (BitVec 8)) : textB l = true ↔ ∃ c, charsL l = some c ∧ ∀ r ∈ c, xmlB r = true := by
  unfold textB
  cases h : charsL l with
  | none => simp
  | some c => simp [List.all_eq_true]
theorem textB_text (l : List (BitVec 8)) (h : textB l = true) : textB (textL l) = true := by
  obtain ⟨c, h1, h2⟩ := (textB_iff l).1 h
  exact (textB_iff _).2 (written_xml rep_low_text rep_xml_text rep_hi_text l.length l c (Nat.le_refl _) h1 h2)
theorem textB_value (l : List (BitVec 8)) (h : textB l = true) : textB (valueL l) = true := by
  obtain ⟨c, h1, h2⟩ := (textB_iff l).1 h
  exact (textB_iff _).2 (written_xml rep_low_value rep_xml_value rep_hi_value l.length l c (Nat.le_refl _) h1 h2)
end Go.Av.Can
end

section
set_option linter.unusedSimpArgs false
set_option linter.unusedVariables false
open Go Go.Av Go.Proofs
namespace Go.Av.Can
def Ent (g : Tab) (fl : Bool) : Prop := ∀ b, (repB g b = [b] ∧ ub b ≠ 60 ∧ ub b ≠ 38 ∧ (fl = true → ub b ≠ 9 ∧ ub b ≠ 10 ∧ ub b ≠ 13)) ∨ ∃ e, repB g b = 38#8 :: (e ++ [59#8]) ∧ e.length ≤ 4 ∧ (∀ j, j < e.length → ub (e.getD j 0#8) ≠ 59) ∧ Fn Try.prog 41 [.str (txt e)] [.p (.str (txt [b])), .p (.bool true)]
def exSt (W : List (BitVec 8)) (fl : Bool) (p : Nat) (A : List (BitVec 8)) : St := ⟨(.p (.str (txt W)) :: .p (.bool fl) :: V.junk :: V.junk :: V.junk :: V.junk :: .row (bl A) 0 0 (A.length == 0) :: .p (.int .i64 p) :: V.junk :: V.junk :: V.junk :: V.junk :: V.junk :: V.junk :: V.junk :: V.junk :: V.junk :: V.junk :: V.junk :: V.junk :: V.junk :: V.junk :: V.junk :: V.junk :: V.junk :: V.junk :: V.junk :: V.junk :: V.junk :: V.junk :: V.junk :: V.junk :: V.junk :: V.junk :: V.junk :: V.junk :: V.junk :: V.junk :: V.junk :: V.junk :: V.junk :: V.junk :: V.junk :: V.junk :: V.junk :: V.junk :: V.junk :: V.junk :: V.junk :: V.junk :: V.junk :: V.junk :: V.junk :: V.junk :: V.junk :: V.junk :: V.junk :: V.junk :: V.junk :: V.junk :: V.junk :: V.junk :: V.junk :: V.junk :: V.junk :: V.junk :: V.junk :: V.junk :: V.junk :: V.junk :: V.junk :: V.junk :: V.junk :: V.junk :: V.junk :: V.junk :: V.junk :: V.junk :: V.junk :: V.junk :: V.junk :: V.junk :: V.junk :: V.junk :: V.junk :: V.junk :: V.junk :: []), ⟨[], [(0, 0)]⟩⟩
theorem replL_slice (g : Tab) (l : List (BitVec 8)) (k : Nat) (h : k < l.length) (e : List (BitVec 8)) (he : repB g (l.getD k 0#8) = 38#8 :: (e ++ [59#8])) : ((replL g l).take ((replL g (l.take k)).length + 1 + e.length)).drop ((replL g (l.take k)).length + 1) = e := by
  rw [replL_cut g l k h, he]
  generalize replL g (l.take k) = A
  generalize replL g (l.drop (k + 1)) = B
  rw [Nat.add_assoc, List.take_length_add_append, Nat.add_comm 1, ← List.drop_drop, List.drop_left]
  simp
set_option maxHeartbeats 10000000 in
theorem expand_ct (g : Tab) (fl : Bool) (hE : Ent g fl) (s : List (BitVec 8)) (hs : s.length ≤ 1000) (hlen : (replL g s).length ≤ 16 * s.length) (ht : CanU.textB (replL g s) = true) : Fn Try.prog 29 [.str (txt (replL g s)), .bool fl] [.p (.str (txt s)), .p (.bool true)] := by
  have k9 := CanU.rtext_ct false (replL g s) (by omega)
  rw [ht] at k9
  have hsz := txt_size (replL g s)
  have hb := txt_bytes (replL g s)
  have hcat : txt s = txt (s.take s.length) := by rw [List.take_length]
  have hfin : replL g (s.take s.length) = replL g s := by rw [List.take_length]
  rw [hcat]
  refine Fn.of_body Try.func29 rfl ?_
  have hget := replL_get g s
  have hcut := replL_cut g s
  have hsl := replL_slice g s
  have htk := fun k h => replL_take g s k h
  repeat (first | ((with_reducible first | refine callK_at 9 ?_); refine callK_p ?_; simp (maxSteps := 1000000) (disch := refine hold_ ?_; first | (simp [kNil, hsz, hb, -List.getD_eq_getElem?_getD]; done) | omega) [kNil, hsz, hb, -List.getD_eq_getElem?_getD]; (first | refine callK1_of (Fn.ct k9 Try.call9) ?_); (try simp (maxSteps := 1000000) (disch := refine hold_ ?_; first | (simp [kNil, hsz, hb, -List.getD_eq_getElem?_getD]; done) | omega) [kNil, hsz, hb, -List.getD_eq_getElem?_getD]); try first | (with_reducible refine zZ ?_) | subst hK_) | ((first | (with_reducible first | refine zP fun K_ hK_ => ?_ | refine zQ fun K_ hK_ => ?_ | refine zT ?_ | refine zU ?_ | refine zV ?_ | refine zW ?_ | refine zX ?_ | refine zY ?_) | ((with_reducible first | refine zR ?_ ?_ fun K_ hK_ => ?_ | refine zS ?_ ?_ fun K_ hK_ => ?_); (focus kernel_rfl); (focus kernel_rfl))); first | (simp (maxSteps := 1000000) (disch := refine hold_ ?_; first | (simp [kNil, hsz, hb, -List.getD_eq_getElem?_getD]; done) | omega) [kNil, hsz, hb, -List.getD_eq_getElem?_getD]; try first | (with_reducible refine zZ ?_) | subst hK_) | subst hK_) | (with_reducible first | refine zA ?_ | refine zB ?_ | refine zC ?_ | refine zD ?_ | refine zE ?_ | refine zF ?_ | refine zG ?_ | refine zH ?_ | refine zI ?_ | refine zJ ?_ | refine zK ?_ | refine zL ?_ | refine zM ?_ | refine zN ?_ | refine zO ?_) | ((with_reducible refine yG ?_ ?_); (focus decide)) | ((with_reducible refine yA ?_); refine yB rfl ?_; (with_reducible first | refine yC ?_ | refine yD ?_)))
  refine AW.nilRow 6 (bl []) 0 _ rfl rfl ?_
  repeat (first | ((first | (with_reducible first | refine zP fun K_ hK_ => ?_ | refine zQ fun K_ hK_ => ?_ | refine zT ?_ | refine zU ?_ | refine zV ?_ | refine zW ?_ | refine zX ?_ | refine zY ?_) | ((with_reducible first | refine zR ?_ ?_ fun K_ hK_ => ?_ | refine zS ?_ ?_ fun K_ hK_ => ?_); (focus kernel_rfl); (focus kernel_rfl))); first | (simp (maxSteps := 1000000) (disch := refine hold_ ?_; first | (simp [kNil, hsz, hb, -List.getD_eq_getElem?_getD]; done) | omega) [kNil, hsz, hb, -List.getD_eq_getElem?_getD]; try first | (with_reducible refine zZ ?_) | subst hK_) | subst hK_) | (with_reducible first | refine zA ?_ | refine zB ?_ | refine zC ?_ | refine zD ?_ | refine zE ?_ | refine zF ?_ | refine zG ?_ | refine zH ?_ | refine zI ?_ | refine zJ ?_ | refine zK ?_ | refine zL ?_ | refine zM ?_ | refine zN ?_ | refine zO ?_) | ((with_reducible refine yG ?_ ?_); (focus decide)) | ((with_reducible refine yA ?_); refine yB rfl ?_; (with_reducible first | refine yC ?_ | refine yD ?_)))
  refine AW.iter (true :: true :: false :: false :: false :: false :: true :: true :: false :: false :: false :: false :: false :: false :: false :: false :: false :: false :: false :: false :: false :: false :: false :: false :: false :: false :: false :: false :: false :: false :: false :: false :: false :: false :: false :: false :: false :: false :: false :: false :: false :: false :: false :: false :: false :: false :: false :: false :: false :: false :: false :: false :: false :: false :: false :: false :: false :: false :: false :: false :: false :: false :: false :: false :: false :: false :: false :: false :: false :: false :: false :: false :: false :: false :: false :: false :: false :: false :: false :: false :: false :: false :: false :: false :: false :: false :: false :: []) s.length (fun k => exSt (replL g s) fl (replL g (s.take k)).length (s.take k)) ?_ ?_
  · have e0 : replL g [] = [] := rfl
    unfold exSt
    simp (maxSteps := 1000000) (disch := refine hold_ ?_; first | (simp [e0, -List.getD_eq_getElem?_getD]; done) | omega) [e0, -List.getD_eq_getElem?_getD]
  intro k hk
  unfold exSt
  by_cases hkc : k < s.length
  · have hW := congrArg List.length (hcut k hkc)
    have hA : s.take (k + 1) = s.take k ++ [s.getD k 0#8] := by
      rw [List.take_succ_eq_append_getElem hkc]
      simp [List.getD_eq_getElem?_getD, hkc]
    have hp := congrArg List.length (htk k hkc)
    have hg := hget k hkc
    have hs2 := hsl k hkc
    have hAl : (s.take k).length = k := by rw [List.length_take]; omega
    rw [hA] at hp ⊢
    simp only [List.length_append] at hW hp
    clear hcut htk hget hsl hfin hcat k9 hb hA
    generalize (replL g (List.drop (k + 1) s)).length = z at *
    generalize replL g (s.take k ++ [s.getD k 0#8]) = B at *
    generalize replL g (s.take k) = P at *
    generalize replL g s = W at *
    generalize s.take k = A at *
    generalize s.getD k 0#8 = b at *
    generalize P.length = p at *
    generalize hBB : B.length = q at *
    have hpz : (p : Int) < W.length := by
      rcases hE b with ⟨h1, _⟩ | ⟨e, h1, _⟩
      all_goals (rw [h1] at hW; simp at hW; omega)
    have h0 : (((txt W).data.toList.getD p 0).toNat : Int) = ub (W.getD p 0#8) := txt_get W p
    rcases hE b with ⟨h1, h2, h3, h4⟩ | ⟨e, h1, h2, h3, h4⟩
    · rw [h1] at hg hp hW
      have g0 : W.getD p 0#8 = b := hg 0 (by simp)
      rw [g0] at h0
      have n60 : (ub b == 60) = false := beq_eq_false_iff_ne.2 h2
      have n38 : (ub b == 38) = false := beq_eq_false_iff_ne.2 h3
      have e1 : IntKind.i64.wrap ((p : Int) + 1) = p + 1 := wrap_i64 _ (by omega) (by omega)
      have hz := ub_lt b
      have hq : q = p + 1 := by simpa using hp
      subst hq
      cases fl with
      | false =>
        repeat (first | ((first | (with_reducible first | refine zP fun K_ hK_ => ?_ | refine zQ fun K_ hK_ => ?_ | refine zT ?_ | refine zU ?_ | refine zV ?_ | refine zW ?_ | refine zX ?_ | refine zY ?_) | ((with_reducible first | refine zR ?_ ?_ fun K_ hK_ => ?_ | refine zS ?_ ?_ fun K_ hK_ => ?_); (focus kernel_rfl); (focus kernel_rfl))); first | (simp (maxSteps := 1000000) (disch := refine hold_ ?_; first | (simp [hsz, hpz, h0, n60, n38, e1, hAl, -List.getD_eq_getElem?_getD]; done) | omega) [hsz, hpz, h0, n60, n38, e1, hAl, -List.getD_eq_getElem?_getD]; try first | (with_reducible refine zZ ?_) | subst hK_) | subst hK_) | (with_reducible first | refine zA ?_ | refine zB ?_ | refine zC ?_ | refine zD ?_ | refine zE ?_ | refine zF ?_ | refine zG ?_ | refine zH ?_ | refine zI ?_ | refine zJ ?_ | refine zK ?_ | refine zL ?_ | refine zM ?_ | refine zN ?_ | refine zO ?_) | ((with_reducible refine yG ?_ ?_); (focus decide)) | ((with_reducible refine yA ?_); refine yB rfl ?_; (with_reducible first | refine yC ?_ | refine yD ?_)))
        refine ⟨hkc, ?_⟩
        simp (maxSteps := 1000000) (disch := refine hold_ ?_; first | (simp [hAl, -List.getD_eq_getElem?_getD]; done) | omega) [hAl, -List.getD_eq_getElem?_getD]
      | true =>
        have n9 : (ub b == 9) = false := beq_eq_false_iff_ne.2 (h4 rfl).1
        have n10 : (ub b == 10) = false := beq_eq_false_iff_ne.2 (h4 rfl).2.1
        have n13 : (ub b == 13) = false := beq_eq_false_iff_ne.2 (h4 rfl).2.2
        repeat (first | ((first | (with_reducible first | refine zP fun K_ hK_ => ?_ | refine zQ fun K_ hK_ => ?_ | refine zT ?_ | refine zU ?_ | refine zV ?_ | refine zW ?_ | refine zX ?_ | refine zY ?_) | ((with_reducible first | refine zR ?_ ?_ fun K_ hK_ => ?_ | refine zS ?_ ?_ fun K_ hK_ => ?_); (focus kernel_rfl); (focus kernel_rfl))); first | (simp (maxSteps := 1000000) (disch := refine hold_ ?_; first | (simp [hsz, hpz, h0, n60, n38, n9, n10, n13, e1, hAl, -List.getD_eq_getElem?_getD]; done) | omega) [hsz, hpz, h0, n60, n38, n9, n10, n13, e1, hAl, -List.getD_eq_getElem?_getD]; try first | (with_reducible refine zZ ?_) | subst hK_) | subst hK_) | (with_reducible first | refine zA ?_ | refine zB ?_ | refine zC ?_ | refine zD ?_ | refine zE ?_ | refine zF ?_ | refine zG ?_ | refine zH ?_ | refine zI ?_ | refine zJ ?_ | refine zK ?_ | refine zL ?_ | refine zM ?_ | refine zN ?_ | refine zO ?_) | ((with_reducible refine yG ?_ ?_); (focus decide)) | ((with_reducible refine yA ?_); refine yB rfl ?_; (with_reducible first | refine yC ?_ | refine yD ?_)))
        refine ⟨hkc, ?_⟩
        simp (maxSteps := 1000000) (disch := refine hold_ ?_; first | (simp [hAl, -List.getD_eq_getElem?_getD]; done) | omega) [hAl, -List.getD_eq_getElem?_getD]
    · have hel : (repB g b).length = e.length + 2 := by rw [h1]; simp
      have g0 : W.getD p 0#8 = 38#8 := by have := hg 0 (by omega); rw [h1] at this; exact this
      have ge : ∀ j, j < e.length → W.getD (p + (1 + j)) 0#8 = e.getD j 0#8 := by
        intro j hj
        rw [hg (1 + j) (by omega), h1, Nat.add_comm 1 j]
        simp only [List.getD_cons_succ]
        simp [List.getD_eq_getElem?_getD, List.getElem?_append_left hj]
      have gz : W.getD (p + (1 + e.length)) 0#8 = 59#8 := by
        rw [hg (1 + e.length) (by omega), h1, Nat.add_comm 1]
        simp [List.getD_eq_getElem?_getD]
      rw [hel] at hp hW
      have u38 : ub 38#8 = 38 := rfl
      rw [g0, u38] at h0
      have e1 : IntKind.i64.wrap ((p : Int) + 1) = p + 1 := wrap_i64 _ (by omega) (by omega)
      have hx : (txt W).extract (p + 1) (p + 1 + e.length) = txt e := by rw [txt_extract, hs2 e h1]
      clear hg hs2
      repeat (first | ((first | (with_reducible first | refine zP fun K_ hK_ => ?_ | refine zQ fun K_ hK_ => ?_ | refine zT ?_ | refine zU ?_ | refine zV ?_ | refine zW ?_ | refine zX ?_ | refine zY ?_) | ((with_reducible first | refine zR ?_ ?_ fun K_ hK_ => ?_ | refine zS ?_ ?_ fun K_ hK_ => ?_); (focus kernel_rfl); (focus kernel_rfl))); first | (simp (maxSteps := 1000000) (disch := refine hold_ ?_; first | (simp [hsz, hpz, h0, e1, -List.getD_eq_getElem?_getD]; done) | omega) [hsz, hpz, h0, e1, -List.getD_eq_getElem?_getD]; try first | (with_reducible refine zZ ?_) | subst hK_) | subst hK_) | (with_reducible first | refine zA ?_ | refine zB ?_ | refine zC ?_ | refine zD ?_ | refine zE ?_ | refine zF ?_ | refine zG ?_ | refine zH ?_ | refine zI ?_ | refine zJ ?_ | refine zK ?_ | refine zL ?_ | refine zM ?_ | refine zN ?_ | refine zO ?_) | ((with_reducible refine yG ?_ ?_); (focus decide)) | ((with_reducible refine yA ?_); refine yB rfl ?_; (with_reducible first | refine yC ?_ | refine yD ?_)))
      refine AW.iter (true :: true :: false :: false :: false :: false :: true :: true :: false :: true :: false :: false :: false :: false :: false :: false :: false :: false :: false :: false :: false :: false :: false :: false :: false :: false :: false :: false :: false :: false :: false :: false :: false :: false :: false :: false :: false :: false :: false :: false :: false :: false :: false :: false :: false :: false :: false :: false :: false :: false :: false :: false :: false :: false :: false :: false :: false :: false :: false :: false :: false :: false :: false :: false :: false :: false :: false :: false :: false :: false :: false :: false :: false :: false :: false :: false :: false :: false :: false :: false :: false :: false :: false :: false :: false :: false :: false :: []) e.length (fun j => ⟨(.p (.str (txt W)) :: .p (.bool fl) :: V.junk :: V.junk :: V.junk :: V.junk :: .row (bl A) 0 0 (A.length == 0) :: .p (.int .i64 p) :: V.junk :: .p (.int .i64 (p + 1 + (j : Int))) :: V.junk :: V.junk :: V.junk :: V.junk :: V.junk :: V.junk :: V.junk :: V.junk :: V.junk :: V.junk :: V.junk :: V.junk :: V.junk :: V.junk :: V.junk :: V.junk :: V.junk :: V.junk :: V.junk :: V.junk :: V.junk :: V.junk :: V.junk :: V.junk :: V.junk :: V.junk :: V.junk :: V.junk :: V.junk :: V.junk :: V.junk :: V.junk :: V.junk :: V.junk :: V.junk :: V.junk :: V.junk :: V.junk :: V.junk :: V.junk :: V.junk :: V.junk :: V.junk :: V.junk :: V.junk :: V.junk :: V.junk :: V.junk :: V.junk :: V.junk :: V.junk :: V.junk :: V.junk :: V.junk :: V.junk :: V.junk :: V.junk :: V.junk :: V.junk :: V.junk :: V.junk :: V.junk :: V.junk :: V.junk :: V.junk :: V.junk :: V.junk :: V.junk :: V.junk :: V.junk :: V.junk :: V.junk :: V.junk :: V.junk :: V.junk :: V.junk :: V.junk :: []), ⟨[], [(0, 0)]⟩⟩) ?_ ?_
      · simp (maxSteps := 1000000) (disch := refine hold_ ?_; first | (simp [-List.getD_eq_getElem?_getD]; done) | omega) [-List.getD_eq_getElem?_getD]
      intro j hj
      by_cases hje : j < e.length
      · have hb : ub (W.getD (p + 1 + j) 0#8) ≠ 59 := by rw [Nat.add_assoc, ge j hje]; exact h3 j hje
        have hn : (ub (W.getD (p + 1 + j) 0#8) != 59) = true := bne_iff_ne.2 hb
        have hg : (((txt W).data.toList.getD (p + 1 + j) 0).toNat : Int) = ub (W.getD (p + 1 + j) 0#8) := txt_get W (p + 1 + j)
        have hjz : (p : Int) + 1 + j < W.length := by omega
        have e2 : IntKind.i64.wrap ((p : Int) + 1 + j + 1) = p + 1 + j + 1 := wrap_i64 _ (by omega) (by omega)
        generalize W.getD (p + 1 + j) 0#8 = c at *
        have tn : ((p : Int) + 1 + j).toNat = p + 1 + j := by omega
        repeat (first | ((first | (with_reducible first | refine zP fun K_ hK_ => ?_ | refine zQ fun K_ hK_ => ?_ | refine zT ?_ | refine zU ?_ | refine zV ?_ | refine zW ?_ | refine zX ?_ | refine zY ?_) | ((with_reducible first | refine zR ?_ ?_ fun K_ hK_ => ?_ | refine zS ?_ ?_ fun K_ hK_ => ?_); (focus kernel_rfl); (focus kernel_rfl))); first | (simp (maxSteps := 1000000) (disch := refine hold_ ?_; first | (simp [hsz, hjz, hn, hg, e2, tn, -List.getD_eq_getElem?_getD]; done) | omega) [hsz, hjz, hn, hg, e2, tn, -List.getD_eq_getElem?_getD]; try first | (with_reducible refine zZ ?_) | subst hK_) | subst hK_) | (with_reducible first | refine zA ?_ | refine zB ?_ | refine zC ?_ | refine zD ?_ | refine zE ?_ | refine zF ?_ | refine zG ?_ | refine zH ?_ | refine zI ?_ | refine zJ ?_ | refine zK ?_ | refine zL ?_ | refine zM ?_ | refine zN ?_ | refine zO ?_) | ((with_reducible refine yG ?_ ?_); (focus decide)) | ((with_reducible refine yA ?_); refine yB rfl ?_; (with_reducible first | refine yC ?_ | refine yD ?_)))
        refine ⟨hje, ?_⟩
        simp (maxSteps := 1000000) (disch := refine hold_ ?_; first | (simp [-List.getD_eq_getElem?_getD]; done) | omega) [-List.getD_eq_getElem?_getD]
        omega
      · have hj2 : j = e.length := by omega
        subst hj2
        have hg : (((txt W).data.toList.getD (p + 1 + e.length) 0).toNat : Int) = 59 := by
          have : (((txt W).data.toList.getD (p + 1 + e.length) 0).toNat : Int) = ub (W.getD (p + 1 + e.length) 0#8) := txt_get W (p + 1 + e.length)
          rw [Nat.add_assoc, gz] at this
          rw [Nat.add_assoc]
          exact this
        have hjz : (p : Int) + 1 + e.length < W.length := by omega
        have hjz2 : ((p : Int) + 1 + e.length == (W.length : Int)) = false := beq_eq_false_iff_ne.2 (by omega)
        have e2 : IntKind.i64.wrap ((p : Int) + 1 + e.length + 1) = p + 1 + e.length + 1 := wrap_i64 _ (by omega) (by omega)
        have hq : q = p + (e.length + 2) := hp
        subst hq
        have tb := txt_bytes [b]
        have tn : ((p : Int) + 1 + e.length).toNat = p + 1 + e.length := by omega
        have tn1 : ((p : Int) + 1).toNat = p + 1 := by omega
        repeat (first | ((with_reducible first | refine callK_at 41 ?_); refine callK_p ?_; simp (maxSteps := 1000000) (disch := refine hold_ ?_; first | (simp [hsz, hjz, hjz2, hg, e2, hx, tb, tn, tn1, e1, -List.getD_eq_getElem?_getD]; done) | omega) [hsz, hjz, hjz2, hg, e2, hx, tb, tn, tn1, e1, -List.getD_eq_getElem?_getD]; (first | refine callK1_of (Fn.ct h4 Try.call41) ?_); (try simp (maxSteps := 1000000) (disch := refine hold_ ?_; first | (simp [hsz, hjz, hjz2, hg, e2, hx, tb, tn, tn1, e1, -List.getD_eq_getElem?_getD]; done) | omega) [hsz, hjz, hjz2, hg, e2, hx, tb, tn, tn1, e1, -List.getD_eq_getElem?_getD]); try first | (with_reducible refine zZ ?_) | subst hK_) | ((first | (with_reducible first | refine zP fun K_ hK_ => ?_ | refine zQ fun K_ hK_ => ?_ | refine zT ?_ | refine zU ?_ | refine zV ?_ | refine zW ?_ | refine zX ?_ | refine zY ?_) | ((with_reducible first | refine zR ?_ ?_ fun K_ hK_ => ?_ | refine zS ?_ ?_ fun K_ hK_ => ?_); (focus kernel_rfl); (focus kernel_rfl))); first | (simp (maxSteps := 1000000) (disch := refine hold_ ?_; first | (simp [hsz, hjz, hjz2, hg, e2, hx, tb, tn, tn1, e1, -List.getD_eq_getElem?_getD]; done) | omega) [hsz, hjz, hjz2, hg, e2, hx, tb, tn, tn1, e1, -List.getD_eq_getElem?_getD]; try first | (with_reducible refine zZ ?_) | subst hK_) | subst hK_) | (with_reducible first | refine zA ?_ | refine zB ?_ | refine zC ?_ | refine zD ?_ | refine zE ?_ | refine zF ?_ | refine zG ?_ | refine zH ?_ | refine zI ?_ | refine zJ ?_ | refine zK ?_ | refine zL ?_ | refine zM ?_ | refine zN ?_ | refine zO ?_) | ((with_reducible refine yG ?_ ?_); (focus decide)) | ((with_reducible refine yA ?_); refine yB rfl ?_; (with_reducible first | refine yC ?_ | refine yD ?_)))
        refine ⟨hkc, ?_⟩
        simp (maxSteps := 1000000) (disch := refine hold_ ?_; first | (simp [-List.getD_eq_getElem?_getD]; done) | omega) [-List.getD_eq_getElem?_getD]
        omega
  · have hk2 : k = s.length := by omega
    subst hk2
    rw [hfin]
    repeat (first | ((first | (with_reducible first | refine zP fun K_ hK_ => ?_ | refine zQ fun K_ hK_ => ?_ | refine zT ?_ | refine zU ?_ | refine zV ?_ | refine zW ?_ | refine zX ?_ | refine zY ?_) | ((with_reducible first | refine zR ?_ ?_ fun K_ hK_ => ?_ | refine zS ?_ ?_ fun K_ hK_ => ?_); (focus kernel_rfl); (focus kernel_rfl))); first | (simp (maxSteps := 1000000) (disch := refine hold_ ?_; first | (simp [hsz, -List.getD_eq_getElem?_getD]; done) | omega) [hsz, -List.getD_eq_getElem?_getD]; try first | (with_reducible refine zZ ?_) | subst hK_) | subst hK_) | (with_reducible first | refine zA ?_ | refine zB ?_ | refine zC ?_ | refine zD ?_ | refine zE ?_ | refine zF ?_ | refine zG ?_ | refine zH ?_ | refine zI ?_ | refine zJ ?_ | refine zK ?_ | refine zL ?_ | refine zM ?_ | refine zN ?_ | refine zO ?_) | ((with_reducible refine yG ?_ ?_); (focus decide)) | ((with_reducible refine yA ?_); refine yB rfl ?_; (with_reducible first | refine yC ?_ | refine yD ?_)))
    all_goals simp (maxSteps := 1000000) (disch := refine hold_ ?_; first | (simp [-List.getD_eq_getElem?_getD]; done) | omega) [-List.getD_eq_getElem?_getD]
    all_goals exact (str_of s).symm
end Go.Av.Can
end

section
set_option linter.unusedSimpArgs false
set_option linter.unusedVariables false
open Go Go.Av Go.Proofs
namespace Go.Av.Can
theorem ent_text : Ent (tabP textP) false := by
  intro b
  rw [rep_text]
  by_cases q38 : b = 38#8
  · subst q38; exact .inr ⟨[97#8, 109#8, 112#8], rfl, by decide, by decide, stands_amp⟩
  by_cases q60 : b = 60#8
  · subst q60; exact .inr ⟨[108#8, 116#8], rfl, by decide, by decide, stands_lt⟩
  by_cases q62 : b = 62#8
  · subst q62; exact .inr ⟨[103#8, 116#8], rfl, by decide, by decide, stands_gt⟩
  by_cases q13 : b = 13#8
  · subst q13; exact .inr ⟨[35#8, 120#8, 68#8], rfl, by decide, by decide, stands_D⟩
  exact .inl ⟨by simp only [q38, q60, q62, q13, if_false], ub_ne q60, ub_ne q38, fun h => nomatch h⟩
theorem ent_value : Ent (tabP valueP) true := by
  intro b
  rw [rep_value]
  by_cases q38 : b = 38#8
  · subst q38; exact .inr ⟨[97#8, 109#8, 112#8], rfl, by decide, by decide, stands_amp⟩
  by_cases q60 : b = 60#8
  · subst q60; exact .inr ⟨[108#8, 116#8], rfl, by decide, by decide, stands_lt⟩
  by_cases q34 : b = 34#8
  · subst q34; exact .inr ⟨[113#8, 117#8, 111#8, 116#8], rfl, by decide, by decide, stands_quot⟩
  by_cases q9 : b = 9#8
  · subst q9; exact .inr ⟨[35#8, 120#8, 57#8], rfl, by decide, by decide, stands_n9⟩
  by_cases q10 : b = 10#8
  · subst q10; exact .inr ⟨[35#8, 120#8, 65#8], rfl, by decide, by decide, stands_nA⟩
  by_cases q13 : b = 13#8
  · subst q13; exact .inr ⟨[35#8, 120#8, 68#8], rfl, by decide, by decide, stands_D⟩
  exact .inl ⟨by simp only [q38, q60, q34, q9, q10, q13, if_false], ub_ne q60, ub_ne q38, fun _ => ⟨ub_ne q9, ub_ne q10, ub_ne q13⟩⟩
theorem expand_text (s : List (BitVec 8)) (hs : s.length ≤ 1000) (ht : CanU.textB s = true) : Fn Try.prog 29 [.str (txt (textL s)), .bool false] [.p (.str (txt s)), .p (.bool true)] :=
  expand_ct _ _ ent_text s hs (textL_len s) (textB_text s ht)
theorem expand_value (s : List (BitVec 8)) (hs : s.length ≤ 1000) (ht : CanU.textB s = true) : Fn Try.prog 29 [.str (txt (valueL s)), .bool true] [.p (.str (txt s)), .p (.bool true)] :=
  expand_ct _ _ ent_value s hs (valueL_len s) (textB_value s ht)
theorem no62 (s : List (BitVec 8)) : 62#8 ∉ textL s := by
  intro h
  unfold textL replL at h
  obtain ⟨b, _, hb⟩ := List.mem_flatMap.1 h
  rw [rep_text] at hb
  repeat' split at hb
  all_goals simp at hb
  subst_vars
  simp_all
set_option maxHeartbeats 10000000 in
theorem content_ct (s : List (BitVec 8)) (hs : s.length ≤ 1000) (ht : CanU.textB s = true) : Fn Try.prog 10 [.str (txt (textL s))] [.p (.str (txt s)), .p (.bool true)] := by
  have hx := expand_text s hs ht
  have hn := no62 s
  have hl := textL_len s
  have hsz := txt_size (textL s)
  generalize textL s = W at *
  have k3 : (ByteArray.mk #[93, 93, 62]) = txt [93#8, 93#8, 62#8] := rfl
  refine Fn.of_body Try.func10 rfl ?_
  repeat (first | ((first | (with_reducible first | refine zP fun K_ hK_ => ?_ | refine zQ fun K_ hK_ => ?_ | refine zT ?_ | refine zU ?_ | refine zV ?_ | refine zW ?_ | refine zX ?_ | refine zY ?_) | ((with_reducible first | refine zR ?_ ?_ fun K_ hK_ => ?_ | refine zS ?_ ?_ fun K_ hK_ => ?_); (focus kernel_rfl); (focus kernel_rfl))); first | (simp (maxSteps := 1000000) (disch := refine hold_ ?_; first | (simp [kNil, hsz, -List.getD_eq_getElem?_getD]; done) | omega) [kNil, hsz, -List.getD_eq_getElem?_getD]; try first | (with_reducible refine zZ ?_) | subst hK_) | subst hK_) | (with_reducible first | refine zA ?_ | refine zB ?_ | refine zC ?_ | refine zD ?_ | refine zE ?_ | refine zF ?_ | refine zG ?_ | refine zH ?_ | refine zI ?_ | refine zJ ?_ | refine zK ?_ | refine zL ?_ | refine zM ?_ | refine zN ?_ | refine zO ?_) | ((with_reducible refine yG ?_ ?_); (focus decide)) | ((with_reducible refine yA ?_); refine yB rfl ?_; (with_reducible first | refine yC ?_ | refine yD ?_)))
  refine AW.iter (true :: false :: false :: false :: false :: false :: true :: true :: false :: false :: false :: false :: false :: false :: false :: false :: false :: false :: false :: false :: false :: false :: false :: false :: false :: false :: []) W.length (fun k => ⟨(.p (.str (txt W)) :: V.junk :: V.junk :: V.junk :: V.junk :: V.junk :: .p (.int .i64 W.length) :: .p (.int .i64 k) :: V.junk :: V.junk :: V.junk :: V.junk :: V.junk :: V.junk :: V.junk :: V.junk :: V.junk :: V.junk :: V.junk :: V.junk :: V.junk :: V.junk :: V.junk :: V.junk :: V.junk :: V.junk :: []), ⟨[], []⟩⟩) ?_ ?_
  · simp (maxSteps := 1000000) (disch := refine hold_ ?_; first | (simp [-List.getD_eq_getElem?_getD]; done) | omega) [-List.getD_eq_getElem?_getD]
  intro k hk
  have e1 : IntKind.i64.wrap ((k : Int) + 1) = k + 1 := wrap_i64 _ (by omega) (by omega)
  by_cases hkc : k < W.length
  · have hkz : (k : Int) < W.length := by omega
    by_cases h1 : 1 < (k : Int)
    · have e2 : IntKind.i64.wrap ((k : Int) - 2) = k - 2 := wrap_i64 _ (by omega) (by omega)
      have t1 : ((k : Int) - 2).toNat = k - 2 := by omega
      have t2 : ((k : Int) + 1).toNat = k + 1 := by omega
      have hxx := txt_extract W (k - 2) (k + 1)
      have hne : ((W.take (k + 1)).drop (k - 2) == [93#8, 93#8, 62#8]) = false := by
        refine beq_eq_false_iff_ne.2 fun h => hn ?_
        have : 62#8 ∈ (W.take (k + 1)).drop (k - 2) := by rw [h]; simp
        exact List.mem_of_mem_take (List.mem_of_mem_drop this)
      generalize (W.take (k + 1)).drop (k - 2) = Z at *
      repeat (first | ((first | (with_reducible first | refine zP fun K_ hK_ => ?_ | refine zQ fun K_ hK_ => ?_ | refine zT ?_ | refine zU ?_ | refine zV ?_ | refine zW ?_ | refine zX ?_ | refine zY ?_) | ((with_reducible first | refine zR ?_ ?_ fun K_ hK_ => ?_ | refine zS ?_ ?_ fun K_ hK_ => ?_); (focus kernel_rfl); (focus kernel_rfl))); first | (simp (maxSteps := 1000000) (disch := refine hold_ ?_; first | (simp [kNil, k3, hsz, hkz, h1, e1, e2, t1, t2, hxx, str_eql, hne, -List.getD_eq_getElem?_getD]; done) | omega) [kNil, k3, hsz, hkz, h1, e1, e2, t1, t2, hxx, str_eql, hne, -List.getD_eq_getElem?_getD]; try first | (with_reducible refine zZ ?_) | subst hK_) | subst hK_) | (with_reducible first | refine zA ?_ | refine zB ?_ | refine zC ?_ | refine zD ?_ | refine zE ?_ | refine zF ?_ | refine zG ?_ | refine zH ?_ | refine zI ?_ | refine zJ ?_ | refine zK ?_ | refine zL ?_ | refine zM ?_ | refine zN ?_ | refine zO ?_) | ((with_reducible refine yG ?_ ?_); (focus decide)) | ((with_reducible refine yA ?_); refine yB rfl ?_; (with_reducible first | refine yC ?_ | refine yD ?_)))
      refine ⟨hkc, ?_⟩
      simp (maxSteps := 1000000) (disch := refine hold_ ?_; first | (simp [-List.getD_eq_getElem?_getD]; done) | omega) [-List.getD_eq_getElem?_getD]
    · repeat (first | ((first | (with_reducible first | refine zP fun K_ hK_ => ?_ | refine zQ fun K_ hK_ => ?_ | refine zT ?_ | refine zU ?_ | refine zV ?_ | refine zW ?_ | refine zX ?_ | refine zY ?_) | ((with_reducible first | refine zR ?_ ?_ fun K_ hK_ => ?_ | refine zS ?_ ?_ fun K_ hK_ => ?_); (focus kernel_rfl); (focus kernel_rfl))); first | (simp (maxSteps := 1000000) (disch := refine hold_ ?_; first | (simp [kNil, hsz, hkz, h1, e1, -List.getD_eq_getElem?_getD]; done) | omega) [kNil, hsz, hkz, h1, e1, -List.getD_eq_getElem?_getD]; try first | (with_reducible refine zZ ?_) | subst hK_) | subst hK_) | (with_reducible first | refine zA ?_ | refine zB ?_ | refine zC ?_ | refine zD ?_ | refine zE ?_ | refine zF ?_ | refine zG ?_ | refine zH ?_ | refine zI ?_ | refine zJ ?_ | refine zK ?_ | refine zL ?_ | refine zM ?_ | refine zN ?_ | refine zO ?_) | ((with_reducible refine yG ?_ ?_); (focus decide)) | ((with_reducible refine yA ?_); refine yB rfl ?_; (with_reducible first | refine yC ?_ | refine yD ?_)))
      refine ⟨hkc, ?_⟩
      simp (maxSteps := 1000000) (disch := refine hold_ ?_; first | (simp [-List.getD_eq_getElem?_getD]; done) | omega) [-List.getD_eq_getElem?_getD]
  · have hkz : ¬ (k : Int) < W.length := by omega
    repeat (first | ((with_reducible first | refine callK_at 29 ?_); refine callK_p ?_; simp (maxSteps := 1000000) (disch := refine hold_ ?_; first | (simp [hkz, hsz, -List.getD_eq_getElem?_getD]; done) | omega) [hkz, hsz, -List.getD_eq_getElem?_getD]; (first | refine callK1_of (Fn.ct hx Try.call29) ?_); (try simp (maxSteps := 1000000) (disch := refine hold_ ?_; first | (simp [hkz, hsz, -List.getD_eq_getElem?_getD]; done) | omega) [hkz, hsz, -List.getD_eq_getElem?_getD]); try first | (with_reducible refine zZ ?_) | subst hK_) | ((first | (with_reducible first | refine zP fun K_ hK_ => ?_ | refine zQ fun K_ hK_ => ?_ | refine zT ?_ | refine zU ?_ | refine zV ?_ | refine zW ?_ | refine zX ?_ | refine zY ?_) | ((with_reducible first | refine zR ?_ ?_ fun K_ hK_ => ?_ | refine zS ?_ ?_ fun K_ hK_ => ?_); (focus kernel_rfl); (focus kernel_rfl))); first | (simp (maxSteps := 1000000) (disch := refine hold_ ?_; first | (simp [hkz, hsz, -List.getD_eq_getElem?_getD]; done) | omega) [hkz, hsz, -List.getD_eq_getElem?_getD]; try first | (with_reducible refine zZ ?_) | subst hK_) | subst hK_) | (with_reducible first | refine zA ?_ | refine zB ?_ | refine zC ?_ | refine zD ?_ | refine zE ?_ | refine zF ?_ | refine zG ?_ | refine zH ?_ | refine zI ?_ | refine zJ ?_ | refine zK ?_ | refine zL ?_ | refine zM ?_ | refine zN ?_ | refine zO ?_) | ((with_reducible refine yG ?_ ?_); (focus decide)) | ((with_reducible refine yA ?_); refine yB rfl ?_; (with_reducible first | refine yC ?_ | refine yD ?_)))
    all_goals simp (maxSteps := 1000000) (disch := refine hold_ ?_; first | (simp [-List.getD_eq_getElem?_getD]; done) | omega) [-List.getD_eq_getElem?_getD]
set_option maxHeartbeats 10000000 in
theorem val_ct (s : List (BitVec 8)) (hs : s.length ≤ 1000) (ht : CanU.textB s = true) : Fn Try.prog 12 [.str (txt (valueL s))] [.p (.str (txt s)), .p (.bool true)] := by
  have hx := expand_value s hs ht
  refine Fn.of_body Try.func12 rfl ?_
  repeat (first | ((with_reducible first | refine callK_at 29 ?_); refine callK_p ?_; simp (maxSteps := 1000000) (disch := refine hold_ ?_; first | (simp [-List.getD_eq_getElem?_getD]; done) | omega) [-List.getD_eq_getElem?_getD]; (first | refine callK1_of (Fn.ct hx Try.call29) ?_); (try simp (maxSteps := 1000000) (disch := refine hold_ ?_; first | (simp [-List.getD_eq_getElem?_getD]; done) | omega) [-List.getD_eq_getElem?_getD]); try first | (with_reducible refine zZ ?_) | subst hK_) | ((first | (with_reducible first | refine zP fun K_ hK_ => ?_ | refine zQ fun K_ hK_ => ?_ | refine zT ?_ | refine zU ?_ | refine zV ?_ | refine zW ?_ | refine zX ?_ | refine zY ?_) | ((with_reducible first | refine zR ?_ ?_ fun K_ hK_ => ?_ | refine zS ?_ ?_ fun K_ hK_ => ?_); (focus kernel_rfl); (focus kernel_rfl))); first | (simp (maxSteps := 1000000) (disch := refine hold_ ?_; first | (simp [-List.getD_eq_getElem?_getD]; done) | omega) [-List.getD_eq_getElem?_getD]; try first | (with_reducible refine zZ ?_) | subst hK_) | subst hK_) | (with_reducible first | refine zA ?_ | refine zB ?_ | refine zC ?_ | refine zD ?_ | refine zE ?_ | refine zF ?_ | refine zG ?_ | refine zH ?_ | refine zI ?_ | refine zJ ?_ | refine zK ?_ | refine zL ?_ | refine zM ?_ | refine zN ?_ | refine zO ?_) | ((with_reducible refine yG ?_ ?_); (focus decide)) | ((with_reducible refine yA ?_); refine yB rfl ?_; (with_reducible first | refine yC ?_ | refine yD ?_)))
  all_goals simp (maxSteps := 1000000) (disch := refine hold_ ?_; first | (simp [-List.getD_eq_getElem?_getD]; done) | omega) [-List.getD_eq_getElem?_getD]
end Go.Av.Can
end

section
set_option linter.unusedSimpArgs false
set_option linter.unusedVariables false
open Go Go.Av Go.Proofs
namespace Go.Av.Can
set_option maxHeartbeats 10000000 in
theorem reads_ct (a : List (BitVec 8)) : Fn Try.prog 3 [.str (txt a)] [.p (.bool true)] := by
  have cw := awake_ct
  have z1 := txt_size a
  have t1 := txt_bytes a
  refine Fn.of_body Try.func3 rfl ?_
  by_cases hc : 1000 < (a.length : Int)
  · repeat (first | ((with_reducible first | refine callK_at 8 ?_); refine callK_p ?_; simp (maxSteps := 1000000) (disch := refine hold_ ?_; first | (simp [z1, hc, -List.getD_eq_getElem?_getD]; done) | omega) [z1, hc, -List.getD_eq_getElem?_getD]; (first | refine callK1_of (Fn.ct cw Try.call8) ?_); (try simp (maxSteps := 1000000) (disch := refine hold_ ?_; first | (simp [z1, hc, -List.getD_eq_getElem?_getD]; done) | omega) [z1, hc, -List.getD_eq_getElem?_getD]); try first | (with_reducible refine zZ ?_) | subst hK_) | ((first | (with_reducible first | refine zP fun K_ hK_ => ?_ | refine zQ fun K_ hK_ => ?_ | refine zT ?_ | refine zU ?_ | refine zV ?_ | refine zW ?_ | refine zX ?_ | refine zY ?_) | ((with_reducible first | refine zR ?_ ?_ fun K_ hK_ => ?_ | refine zS ?_ ?_ fun K_ hK_ => ?_); (focus kernel_rfl); (focus kernel_rfl))); first | (simp (maxSteps := 1000000) (disch := refine hold_ ?_; first | (simp [z1, hc, -List.getD_eq_getElem?_getD]; done) | omega) [z1, hc, -List.getD_eq_getElem?_getD]; try first | (with_reducible refine zZ ?_) | subst hK_) | subst hK_) | (with_reducible first | refine zA ?_ | refine zB ?_ | refine zC ?_ | refine zD ?_ | refine zE ?_ | refine zF ?_ | refine zG ?_ | refine zH ?_ | refine zI ?_ | refine zJ ?_ | refine zK ?_ | refine zL ?_ | refine zM ?_ | refine zN ?_ | refine zO ?_) | ((with_reducible refine yG ?_ ?_); (focus decide)) | ((with_reducible refine yA ?_); refine yB rfl ?_; (with_reducible first | refine yC ?_ | refine yD ?_)))
    all_goals simp (maxSteps := 1000000) (disch := refine hold_ ?_; first | (simp [-List.getD_eq_getElem?_getD]; done) | omega) [-List.getD_eq_getElem?_getD]
  · have k1 := Go.Av.CanU.rtext_ct false a (by omega)
    cases h1 : Go.Av.CanU.textB a with
    | false =>
      rw [h1] at k1
      repeat (first | ((with_reducible first | refine callK_at 8 ?_ | refine callK_at 9 ?_); refine callK_p ?_; simp (maxSteps := 1000000) (disch := refine hold_ ?_; first | (simp [z1, hc, t1, -List.getD_eq_getElem?_getD]; done) | omega) [z1, hc, t1, -List.getD_eq_getElem?_getD]; (first | ((with_reducible refine k1_at 8 ?_); refine callK1_of (Fn.ct cw Try.call8) ?_) | ((with_reducible refine k1_at 9 ?_); refine callK1_of (Fn.ct k1 Try.call9) ?_)); (try simp (maxSteps := 1000000) (disch := refine hold_ ?_; first | (simp [z1, hc, t1, -List.getD_eq_getElem?_getD]; done) | omega) [z1, hc, t1, -List.getD_eq_getElem?_getD]); try first | (with_reducible refine zZ ?_) | subst hK_) | ((first | (with_reducible first | refine zP fun K_ hK_ => ?_ | refine zQ fun K_ hK_ => ?_ | refine zT ?_ | refine zU ?_ | refine zV ?_ | refine zW ?_ | refine zX ?_ | refine zY ?_) | ((with_reducible first | refine zR ?_ ?_ fun K_ hK_ => ?_ | refine zS ?_ ?_ fun K_ hK_ => ?_); (focus kernel_rfl); (focus kernel_rfl))); first | (simp (maxSteps := 1000000) (disch := refine hold_ ?_; first | (simp [z1, hc, t1, -List.getD_eq_getElem?_getD]; done) | omega) [z1, hc, t1, -List.getD_eq_getElem?_getD]; try first | (with_reducible refine zZ ?_) | subst hK_) | subst hK_) | (with_reducible first | refine zA ?_ | refine zB ?_ | refine zC ?_ | refine zD ?_ | refine zE ?_ | refine zF ?_ | refine zG ?_ | refine zH ?_ | refine zI ?_ | refine zJ ?_ | refine zK ?_ | refine zL ?_ | refine zM ?_ | refine zN ?_ | refine zO ?_) | ((with_reducible refine yG ?_ ?_); (focus decide)) | ((with_reducible refine yA ?_); refine yB rfl ?_; (with_reducible first | refine yC ?_ | refine yD ?_)))
      all_goals simp (maxSteps := 1000000) (disch := refine hold_ ?_; first | (simp [-List.getD_eq_getElem?_getD]; done) | omega) [-List.getD_eq_getElem?_getD]
    | true =>
      rw [h1] at k1
      have c1 := text_ct a (by omega)
      have c2 := value_ct a (by omega)
      have c3 := content_ct a (by omega) h1
      have c4 := val_ct a (by omega) h1
      generalize textL a = Ta at *
      generalize valueL a = Va at *
      repeat (first | ((with_reducible first | refine callK_at 8 ?_ | refine callK_at 9 ?_ | refine callK_at 11 ?_ | refine callK_at 10 ?_ | refine callK_at 13 ?_ | refine callK_at 12 ?_); refine callK_p ?_; simp (maxSteps := 1000000) (disch := refine hold_ ?_; first | (simp [z1, hc, t1, str_eql, -List.getD_eq_getElem?_getD]; done) | omega) [z1, hc, t1, str_eql, -List.getD_eq_getElem?_getD]; (first | ((with_reducible refine k1_at 8 ?_); refine callK1_of (Fn.ct cw Try.call8) ?_) | ((with_reducible refine k1_at 9 ?_); refine callK1_of (Fn.ct k1 Try.call9) ?_) | ((with_reducible refine k1_at 11 ?_); refine callK1_of (Fn.ct c1 Try.call11) ?_) | ((with_reducible refine k1_at 10 ?_); refine callK1_of (Fn.ct c3 Try.call10) ?_) | ((with_reducible refine k1_at 13 ?_); refine callK1_of (Fn.ct c2 Try.call13) ?_) | ((with_reducible refine k1_at 12 ?_); refine callK1_of (Fn.ct c4 Try.call12) ?_)); (try simp (maxSteps := 1000000) (disch := refine hold_ ?_; first | (simp [z1, hc, t1, str_eql, -List.getD_eq_getElem?_getD]; done) | omega) [z1, hc, t1, str_eql, -List.getD_eq_getElem?_getD]); try first | (with_reducible refine zZ ?_) | subst hK_) | ((first | (with_reducible first | refine zP fun K_ hK_ => ?_ | refine zQ fun K_ hK_ => ?_ | refine zT ?_ | refine zU ?_ | refine zV ?_ | refine zW ?_ | refine zX ?_ | refine zY ?_) | ((with_reducible first | refine zR ?_ ?_ fun K_ hK_ => ?_ | refine zS ?_ ?_ fun K_ hK_ => ?_); (focus kernel_rfl); (focus kernel_rfl))); first | (simp (maxSteps := 1000000) (disch := refine hold_ ?_; first | (simp [z1, hc, t1, str_eql, -List.getD_eq_getElem?_getD]; done) | omega) [z1, hc, t1, str_eql, -List.getD_eq_getElem?_getD]; try first | (with_reducible refine zZ ?_) | subst hK_) | subst hK_) | (with_reducible first | refine zA ?_ | refine zB ?_ | refine zC ?_ | refine zD ?_ | refine zE ?_ | refine zF ?_ | refine zG ?_ | refine zH ?_ | refine zI ?_ | refine zJ ?_ | refine zK ?_ | refine zL ?_ | refine zM ?_ | refine zN ?_ | refine zO ?_) | ((with_reducible refine yG ?_ ?_); (focus decide)) | ((with_reducible refine yA ?_); refine yB rfl ?_; (with_reducible first | refine yC ?_ | refine yD ?_)))
      all_goals simp (maxSteps := 1000000) (disch := refine hold_ ?_; first | (simp [-List.getD_eq_getElem?_getD]; done) | omega) [-List.getD_eq_getElem?_getD]
theorem reads_law (s : ByteArray) (_ : s.size ≤ maxLen) : Fn Try.prog 3 [.str s] [.p (.bool true)] := by
  obtain ⟨a, rfl⟩ := txt_of s
  exact reads_ct a
end Go.Av.Can
end
