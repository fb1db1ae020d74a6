/- The walks of this seat's functions, and what is known of what they reckon (Cane). Conditions: those that each theorem names. -/
import Derived.Test.YtkejhcogjmaleaaCan
import Derived.Test.YtkejhcogjmaleaaCand

section
set_option linter.unusedSimpArgs false
set_option linter.unusedVariables false
open Go Go.Av Go.Proofs
namespace Go.Av.Can
/-! ## Different texts are written differently -/
def PF (g : Tab) : Prop := ∀ x y s t, repB g x ++ s = repB g y ++ t → x = y
theorem pf_text : PF (tabP textP) := by
  intro x y s t h
  rw [rep_text, rep_text] at h
  repeat' split at h
  all_goals (first | (subst_vars; rfl) | simp_all)
theorem pf_value : PF (tabP valueP) := by
  intro x y s t h
  rw [rep_value, rep_value] at h
  repeat' split at h
  all_goals (first | (subst_vars; rfl) | simp_all)
theorem ne_text (x : BitVec 8) : repB (tabP textP) x ≠ [] := by
  rw [rep_text]; repeat' split
  all_goals simp
theorem ne_value (x : BitVec 8) : repB (tabP valueP) x ≠ [] := by
  rw [rep_value]; repeat' split
  all_goals simp
theorem replL_inj {g : Tab} (hp : PF g) (hn : ∀ x, repB g x ≠ []) : ∀ a b : List (BitVec 8), replL g a = replL g b → a = b
  | [], [], _ => rfl
  | [], y :: b, h => by
    rw [replL_nil, replL_cons] at h
    exact absurd (List.append_eq_nil_iff.1 h.symm).1 (hn y)
  | x :: a, [], h => by
    rw [replL_nil, replL_cons] at h
    exact absurd (List.append_eq_nil_iff.1 h).1 (hn x)
  | x :: a, y :: b, h => by
    rw [replL_cons, replL_cons] at h
    obtain rfl := hp _ _ _ _ h
    rw [replL_inj hp hn a b (List.append_cancel_left h)]
theorem textL_inj (a b : List (BitVec 8)) : (textL a == textL b) = (a == b) := by
  by_cases h : a = b
  · subst h; simp
  · have hn : ¬ textL a = textL b := fun e => h (replL_inj pf_text ne_text a b e)
    rw [beq_eq_false_iff_ne.2 h, beq_eq_false_iff_ne.2 hn]
theorem valueL_inj (a b : List (BitVec 8)) : (valueL a == valueL b) = (a == b) := by
  by_cases h : a = b
  · subst h; simp
  · have hn : ¬ valueL a = valueL b := fun e => h (replL_inj pf_value ne_value a b e)
    rw [beq_eq_false_iff_ne.2 h, beq_eq_false_iff_ne.2 hn]
theorem textL_app (a b : List (BitVec 8)) : textL (a ++ b) = textL a ++ textL b := replL_app _ a b
theorem valueL_app (a b : List (BitVec 8)) : valueL (a ++ b) = valueL a ++ valueL b := replL_app _ a b
end Go.Av.Can
end

section
set_option linter.unusedSimpArgs false
set_option linter.unusedVariables false
open Go Go.Av Go.Proofs
namespace Go.Av.Can
set_option maxHeartbeats 10000000 in
theorem apart_ct (B : List (BitVec 8) → Bool) (h9 : ∀ l : List (BitVec 8), l.length ≤ 4000000 → Fn Try.prog 9 [.sl (bl l) false] [.p (.bool (B l))]) (a b : List (BitVec 8)) (ha : a.length ≤ reachBytes) (hb : b.length ≤ reachBytes) : Fn Try.prog 4 [.str (txt a), .str (txt b)] [.p (.bool true)] := by
  have cw := awake_ct
  have z1 := txt_size a
  have z2 := txt_size b
  have hm : reachBytes = 140737488351232 := rfl
  rw [hm] at ha hb
  have e1 : IntKind.i64.wrap ((a.length : Int) + b.length) = (a.length : Int) + b.length := wrap_i64 _ (by omega) (by omega)
  have t1 := txt_bytes a
  have t2 := txt_bytes b
  refine Fn.of_body Try.func4 rfl ?_
  by_cases hc : 600 < (a.length : Int) + b.length
  · repeat (first | ((with_reducible first | refine callK_at 8 ?_); refine callK_p ?_; simp (maxSteps := 1000000) (disch := refine hold_ ?_; first | (simp [z1, z2, e1, hc, -List.getD_eq_getElem?_getD]; done) | omega) [z1, z2, e1, hc, -List.getD_eq_getElem?_getD]; (first | refine callK1_of (Fn.ct cw Try.call8) ?_); (try simp (maxSteps := 1000000) (disch := refine hold_ ?_; first | (simp [z1, z2, e1, hc, -List.getD_eq_getElem?_getD]; done) | omega) [z1, z2, e1, hc, -List.getD_eq_getElem?_getD]); try first | (with_reducible refine zZ ?_) | subst hK_) | ((first | (with_reducible first | refine zP fun K_ hK_ => ?_ | refine zQ fun K_ hK_ => ?_ | refine zT ?_ | refine zU ?_ | refine zV ?_ | refine zW ?_ | refine zX ?_ | refine zY ?_) | ((with_reducible first | refine zR ?_ ?_ fun K_ hK_ => ?_ | refine zS ?_ ?_ fun K_ hK_ => ?_); (focus kernel_rfl); (focus kernel_rfl))); first | (simp (maxSteps := 1000000) (disch := refine hold_ ?_; first | (simp [z1, z2, e1, hc, -List.getD_eq_getElem?_getD]; done) | omega) [z1, z2, e1, hc, -List.getD_eq_getElem?_getD]; try first | (with_reducible refine zZ ?_) | subst hK_) | subst hK_) | (with_reducible first | refine zA ?_ | refine zB ?_ | refine zC ?_ | refine zD ?_ | refine zE ?_ | refine zF ?_ | refine zG ?_ | refine zH ?_ | refine zI ?_ | refine zJ ?_ | refine zK ?_ | refine zL ?_ | refine zM ?_ | refine zN ?_ | refine zO ?_) | ((with_reducible refine yG ?_ ?_); (focus decide)) | ((with_reducible refine yA ?_); refine yB rfl ?_; (with_reducible first | refine yC ?_ | refine yD ?_)))
    all_goals simp (maxSteps := 1000000) (disch := refine hold_ ?_; first | (simp [-List.getD_eq_getElem?_getD]; done) | omega) [-List.getD_eq_getElem?_getD]
  · have k1 := h9 a (by omega)
    have k2 := h9 b (by omega)
    cases h1 : B a with
    | false =>
      rw [h1] at k1
      repeat (first | ((with_reducible first | refine callK_at 8 ?_ | refine callK_at 9 ?_); refine callK_p ?_; simp (maxSteps := 1000000) (disch := refine hold_ ?_; first | (simp [z1, z2, e1, hc, t1, t2, -List.getD_eq_getElem?_getD]; done) | omega) [z1, z2, e1, hc, t1, t2, -List.getD_eq_getElem?_getD]; (first | ((with_reducible refine k1_at 8 ?_); refine callK1_of (Fn.ct cw Try.call8) ?_) | ((with_reducible refine k1_at 9 ?_); refine callK1_of (Fn.ct k1 Try.call9) ?_)); (try simp (maxSteps := 1000000) (disch := refine hold_ ?_; first | (simp [z1, z2, e1, hc, t1, t2, -List.getD_eq_getElem?_getD]; done) | omega) [z1, z2, e1, hc, t1, t2, -List.getD_eq_getElem?_getD]); try first | (with_reducible refine zZ ?_) | subst hK_) | ((first | (with_reducible first | refine zP fun K_ hK_ => ?_ | refine zQ fun K_ hK_ => ?_ | refine zT ?_ | refine zU ?_ | refine zV ?_ | refine zW ?_ | refine zX ?_ | refine zY ?_) | ((with_reducible first | refine zR ?_ ?_ fun K_ hK_ => ?_ | refine zS ?_ ?_ fun K_ hK_ => ?_); (focus kernel_rfl); (focus kernel_rfl))); first | (simp (maxSteps := 1000000) (disch := refine hold_ ?_; first | (simp [z1, z2, e1, hc, t1, t2, -List.getD_eq_getElem?_getD]; done) | omega) [z1, z2, e1, hc, t1, t2, -List.getD_eq_getElem?_getD]; try first | (with_reducible refine zZ ?_) | subst hK_) | subst hK_) | (with_reducible first | refine zA ?_ | refine zB ?_ | refine zC ?_ | refine zD ?_ | refine zE ?_ | refine zF ?_ | refine zG ?_ | refine zH ?_ | refine zI ?_ | refine zJ ?_ | refine zK ?_ | refine zL ?_ | refine zM ?_ | refine zN ?_ | refine zO ?_) | ((with_reducible refine yG ?_ ?_); (focus decide)) | ((with_reducible refine yA ?_); refine yB rfl ?_; (with_reducible first | refine yC ?_ | refine yD ?_)))
      all_goals simp (maxSteps := 1000000) (disch := refine hold_ ?_; first | (simp [-List.getD_eq_getElem?_getD]; done) | omega) [-List.getD_eq_getElem?_getD]
    | true =>
    rw [h1] at k1
    cases h2 : B b with
    | false =>
      rw [h2] at k2
      repeat (first | ((with_reducible first | refine callK_at 8 ?_ | refine callK_at 9 ?_); refine callK_p ?_; simp (maxSteps := 1000000) (disch := refine hold_ ?_; first | (simp [z1, z2, e1, hc, t1, t2, -List.getD_eq_getElem?_getD]; done) | omega) [z1, z2, e1, hc, t1, t2, -List.getD_eq_getElem?_getD]; (first | ((with_reducible refine k1_at 8 ?_); refine callK1_of (Fn.ct cw Try.call8) ?_) | ((with_reducible refine k1_at 9 ?_); refine callK1_of ((by first | exact Fn.ct k1 Try.call9 | exact Fn.ct k2 Try.call9)) ?_)); (try simp (maxSteps := 1000000) (disch := refine hold_ ?_; first | (simp [z1, z2, e1, hc, t1, t2, -List.getD_eq_getElem?_getD]; done) | omega) [z1, z2, e1, hc, t1, t2, -List.getD_eq_getElem?_getD]); try first | (with_reducible refine zZ ?_) | subst hK_) | ((first | (with_reducible first | refine zP fun K_ hK_ => ?_ | refine zQ fun K_ hK_ => ?_ | refine zT ?_ | refine zU ?_ | refine zV ?_ | refine zW ?_ | refine zX ?_ | refine zY ?_) | ((with_reducible first | refine zR ?_ ?_ fun K_ hK_ => ?_ | refine zS ?_ ?_ fun K_ hK_ => ?_); (focus kernel_rfl); (focus kernel_rfl))); first | (simp (maxSteps := 1000000) (disch := refine hold_ ?_; first | (simp [z1, z2, e1, hc, t1, t2, -List.getD_eq_getElem?_getD]; done) | omega) [z1, z2, e1, hc, t1, t2, -List.getD_eq_getElem?_getD]; try first | (with_reducible refine zZ ?_) | subst hK_) | subst hK_) | (with_reducible first | refine zA ?_ | refine zB ?_ | refine zC ?_ | refine zD ?_ | refine zE ?_ | refine zF ?_ | refine zG ?_ | refine zH ?_ | refine zI ?_ | refine zJ ?_ | refine zK ?_ | refine zL ?_ | refine zM ?_ | refine zN ?_ | refine zO ?_) | ((with_reducible refine yG ?_ ?_); (focus decide)) | ((with_reducible refine yA ?_); refine yB rfl ?_; (with_reducible first | refine yC ?_ | refine yD ?_)))
      all_goals simp (maxSteps := 1000000) (disch := refine hold_ ?_; first | (simp [-List.getD_eq_getElem?_getD]; done) | omega) [-List.getD_eq_getElem?_getD]
    | true =>
    rw [h2] at k2
    have i1 := textL_inj a b
    have i2 := valueL_inj a b
    have a1 := textL_app a b
    have a2 := valueL_app a b
    have l1 := textL_len a
    have l2 := textL_len b
    have l3 := valueL_len a
    have l4 := valueL_len b
    have c1 := text_ct a (by omega)
    have c2 := text_ct b (by omega)
    have c3 := value_ct a (by omega)
    have c4 := value_ct b (by omega)
    have c5 := text_ct (a ++ b) (by rw [List.length_append]; omega)
    have c6 := value_ct (a ++ b) (by rw [List.length_append]; omega)
    have s0 := txt_add a b (by omega)
    rw [a1] at c5
    rw [a2] at c6
    generalize textL a = Ta at *
    generalize textL b = Tb at *
    generalize valueL a = Va at *
    generalize valueL b = Vb at *
    have s1 := txt_add Ta Tb (by omega)
    have s2 := txt_add Va Vb (by omega)
    clear a1 a2
    generalize a ++ b = ab at *
    generalize Ta ++ Tb = Tab at *
    generalize Va ++ Vb = Vab at *
    repeat (first | ((with_reducible first | refine callK_at 8 ?_ | refine callK_at 9 ?_ | refine callK_at 11 ?_ | refine callK_at 13 ?_); refine callK_p ?_; simp (maxSteps := 1000000) (disch := refine hold_ ?_; first | (simp [z1, z2, e1, hc, t1, t2, str_eql, i1, i2, s0, s1, s2, -List.getD_eq_getElem?_getD]; done) | omega) [z1, z2, e1, hc, t1, t2, str_eql, i1, i2, s0, s1, s2, -List.getD_eq_getElem?_getD]; (first | ((with_reducible refine k1_at 8 ?_); refine callK1_of (Fn.ct cw Try.call8) ?_) | ((with_reducible refine k1_at 9 ?_); refine callK1_of ((by first | exact Fn.ct k1 Try.call9 | exact Fn.ct k2 Try.call9)) ?_) | ((with_reducible refine k1_at 11 ?_); refine callK1_of ((by first | exact Fn.ct c1 Try.call11 | exact Fn.ct c2 Try.call11 | exact Fn.ct c5 Try.call11)) ?_) | ((with_reducible refine k1_at 13 ?_); refine callK1_of ((by first | exact Fn.ct c3 Try.call13 | exact Fn.ct c4 Try.call13 | exact Fn.ct c6 Try.call13)) ?_)); (try simp (maxSteps := 1000000) (disch := refine hold_ ?_; first | (simp [z1, z2, e1, hc, t1, t2, str_eql, i1, i2, s0, s1, s2, -List.getD_eq_getElem?_getD]; done) | omega) [z1, z2, e1, hc, t1, t2, str_eql, i1, i2, s0, s1, s2, -List.getD_eq_getElem?_getD]); try first | (with_reducible refine zZ ?_) | subst hK_) | ((first | (with_reducible first | refine zP fun K_ hK_ => ?_ | refine zQ fun K_ hK_ => ?_ | refine zT ?_ | refine zU ?_ | refine zV ?_ | refine zW ?_ | refine zX ?_ | refine zY ?_) | ((with_reducible first | refine zR ?_ ?_ fun K_ hK_ => ?_ | refine zS ?_ ?_ fun K_ hK_ => ?_); (focus kernel_rfl); (focus kernel_rfl))); first | (simp (maxSteps := 1000000) (disch := refine hold_ ?_; first | (simp [z1, z2, e1, hc, t1, t2, str_eql, i1, i2, s0, s1, s2, -List.getD_eq_getElem?_getD]; done) | omega) [z1, z2, e1, hc, t1, t2, str_eql, i1, i2, s0, s1, s2, -List.getD_eq_getElem?_getD]; try first | (with_reducible refine zZ ?_) | subst hK_) | subst hK_) | (with_reducible first | refine zA ?_ | refine zB ?_ | refine zC ?_ | refine zD ?_ | refine zE ?_ | refine zF ?_ | refine zG ?_ | refine zH ?_ | refine zI ?_ | refine zJ ?_ | refine zK ?_ | refine zL ?_ | refine zM ?_ | refine zN ?_ | refine zO ?_) | ((with_reducible refine yG ?_ ?_); (focus decide)) | ((with_reducible refine yA ?_); refine yB rfl ?_; (with_reducible first | refine yC ?_ | refine yD ?_)))
    all_goals simp (maxSteps := 1000000) (disch := refine hold_ ?_; first | (simp [-List.getD_eq_getElem?_getD]; done) | omega) [-List.getD_eq_getElem?_getD]
end Go.Av.Can
end

section
open Go Go.Av Go.Proofs
namespace Go.Av.Can
theorem apart_law (s : ByteArray) (h1 : s.size ≤ reachBytes) (t : ByteArray) (h2 : t.size ≤ reachBytes) : Fn Try.prog 4 [.str s, .str t] [.p (.bool true)] := by
  obtain ⟨a, rfl⟩ := txt_of s
  obtain ⟨b, rfl⟩ := txt_of t
  rw [txt_size] at h1 h2
  exact apart_ct Go.Av.CanU.textB (fun l hl => Go.Av.CanU.rtext_ct false l hl) a b h1 h2
end Go.Av.Can
end
