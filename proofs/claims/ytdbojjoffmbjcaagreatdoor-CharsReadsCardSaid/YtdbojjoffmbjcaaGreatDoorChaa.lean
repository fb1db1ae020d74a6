/- The walks of this seat's functions, and what is known of what they reckon (Chaa). Conditions: those that each theorem names. -/
import Derived.Test.YtdbojjoffmbjcaaGreatDoorCha8
section
set_option linter.unusedSimpArgs false
set_option linter.unusedVariables false
set_option linter.unusedSectionVars false
open Go Go.Av Go.Proofs
namespace Go.Av.Cha
variable [ML]
theorem rx_join (g : BitVec 8 → BitVec 8) (t : List (BitVec 8)) : ∀ (n : Nat) (s a : List (BitVec 8)), s.length ≤ n → rxL g s = some a → rxL g (s ++ t) = (rxL g t).map fun y => a ++ y
  | _, [], a, _, h => by
    rw [rxL_nil] at h
    simp only [Option.some.injEq] at h
    subst h; simp
  | 0, _ :: _, _, hn, _ => by simp at hn
  | n + 1, b :: l, a, hn, h => by
    have hl : l.length ≤ n := by simpa using hn
    by_cases h1 : b = 60#8
    · subst h1; rw [rxL_lt] at h; simp at h
    by_cases h3 : b = 38#8
    · subst h3
      rcases cutB_spec 59#8 l with ⟨c1, _⟩ | ⟨i, t', c1, c2, c3⟩
      · rw [rxL_bad g l c1] at h; simp at h
      · cases hs : standsV i with
        | none => rw [rxL_bad2 g l i t' c1 hs] at h; simp at h
        | some x =>
          rw [rxL_go g l i t' x c1 hs] at h
          simp only [Option.map_eq_some_iff] at h
          obtain ⟨a', ha, rfl⟩ := h
          have e : cutB 59#8 (l ++ t) = some (i, t' ++ t) := by rw [c2, List.append_assoc]; exact cutB_at _ _ _ c3
          rw [List.cons_append, rxL_go g (l ++ t) i (t' ++ t) x e hs, rx_join g t n t' a' (by rw [c2] at hl; simp at hl; omega) ha, Option.map_map]
          congr 1; funext y; simp
    · rw [rxL_cons g b l h1 h3] at h
      simp only [Option.map_eq_some_iff] at h
      obtain ⟨a', ha, rfl⟩ := h
      rw [List.cons_append, rxL_cons g b _ h1 h3, rx_join g t n l a' hl ha, Option.map_map]
      rfl
theorem rx_len (g : BitVec 8 → BitVec 8) : ∀ (n : Nat) (s a : List (BitVec 8)), s.length ≤ n → rxL g s = some a → a.length ≤ 4 * s.length
  | _, [], a, _, h => by
    rw [rxL_nil] at h
    simp only [Option.some.injEq] at h
    subst h; simp
  | 0, _ :: _, _, hn, _ => by simp at hn
  | n + 1, b :: l, a, hn, h => by
    have hl : l.length ≤ n := by simpa using hn
    by_cases h1 : b = 60#8
    · subst h1; rw [rxL_lt] at h; simp at h
    by_cases h3 : b = 38#8
    · subst h3
      rcases cutB_spec 59#8 l with ⟨c1, _⟩ | ⟨i, t', c1, c2, c3⟩
      · rw [rxL_bad g l c1] at h; simp at h
      · cases hs : standsV i with
        | none => rw [rxL_bad2 g l i t' c1 hs] at h; simp at h
        | some x =>
          rw [rxL_go g l i t' x c1 hs] at h
          simp only [Option.map_eq_some_iff] at h
          obtain ⟨a', ha, rfl⟩ := h
          have hx := standsV_len i x hs
          have hlt : l.length = i.length + t'.length + 1 := by rw [c2]; simp; omega
          have := rx_len g n t' a' (by omega) ha
          rw [List.length_append, List.length_cons]; omega
    · rw [rxL_cons g b l h1 h3] at h
      simp only [Option.map_eq_some_iff] at h
      obtain ⟨a', ha, rfl⟩ := h
      have := rx_len g n l a' hl ha
      rw [List.length_cons, List.length_cons]; omega
theorem value_iff (s a : List (BitVec 8)) : valueV s = some a ↔ (textB s = true ∧ 60#8 ∉ s ∧ rxL blk s = some a) := by
  unfold valueV expandV okX
  constructor
  · intro h
    split at h
    · rename_i hk
      rw [Bool.and_eq_true, Bool.not_eq_true'] at hk
      have h60 : 60#8 ∉ s := by simpa using hk.2
      exact ⟨hk.1, h60, by rw [rx_ex blk _ s (Nat.le_refl _) h60]; exact h⟩
    · simp at h
  · rintro ⟨h1, h2, h3⟩
    have hc : s.contains 60#8 = false := by simpa using h2
    rw [h1, hc, if_pos (by simp), ← rx_ex blk _ s (Nat.le_refl _) h2]; exact h3
theorem value_len (s a : List (BitVec 8)) (h : valueV s = some a) : a.length ≤ 4 * s.length := rx_len blk _ s a (Nat.le_refl _) ((value_iff s a).1 h).2.2
theorem text_join (s t : List (BitVec 8)) (h1 : textB s = true) (h2 : textB t = true) : textB (s ++ t) = true := by
  unfold textB at h1 h2 ⊢
  cases hs : charsL s with
  | none => rw [hs] at h1; simp at h1
  | some c =>
    cases ht : charsL t with
    | none => rw [ht] at h2; simp at h2
    | some d =>
      rw [hs] at h1; rw [ht] at h2
      rw [charsL_append s.length s c t (Nat.le_refl _) hs, ht]
      simp only [Option.map_some, List.all_append, Bool.and_eq_true]
      exact ⟨h1, h2⟩
theorem value_join (s t a b : List (BitVec 8)) (h1 : valueV s = some a) (h2 : valueV t = some b) : valueV (s ++ t) = some (a ++ b) := by
  obtain ⟨p1, p2, p3⟩ := (value_iff s a).1 h1
  obtain ⟨q1, q2, q3⟩ := (value_iff t b).1 h2
  refine (value_iff _ _).2 ⟨text_join s t p1 q1, by simp [p2, q2], ?_⟩
  rw [rx_join blk t _ s a (Nat.le_refl _) p3, q3]; rfl
end Go.Av.Cha
end
section
set_option linter.unusedSimpArgs false
set_option linter.unusedVariables false
set_option linter.unusedSectionVars false
open Go Go.Av Go.Proofs
namespace Go.Av.Cha
variable [ML]
set_option maxHeartbeats 10000000 in
theorem reads_ct (s : List (BitVec 8)) : Fn Tryz.prog 3 [.str (txt s)] [.p (.bool true)] := by
  have cw := awake_ct
  have z1 := txt_size s
  refine Fn.of_body Tryz.func3 rfl ?_
  by_cases hc : 1000 < (s.length : Int)
  · repeat (first | ((with_reducible first | refine callK_at 6 ?_); refine callK_p ?_; simp (maxSteps := 1000000) (disch := refine hold_ ?_; first | (simp [z1, hc, -List.getD_eq_getElem?_getD]; done) | omega) [z1, hc, -List.getD_eq_getElem?_getD]; (first | refine callK1_of (Fn.ct cw Tryz.call6) ?_); (try simp (maxSteps := 1000000) (disch := refine hold_ ?_; first | (simp [z1, hc, -List.getD_eq_getElem?_getD]; done) | omega) [z1, hc, -List.getD_eq_getElem?_getD]); try first | (with_reducible refine zZ ?_) | subst hK_) | ((first | (with_reducible first | refine zP fun K_ hK_ => ?_ | refine zQ fun K_ hK_ => ?_ | refine zT ?_ | refine zU ?_ | refine zV ?_ | refine zW ?_ | refine zX ?_ | refine zY ?_) | ((with_reducible first | refine zR ?_ ?_ fun K_ hK_ => ?_ | refine zS ?_ ?_ fun K_ hK_ => ?_); (focus kernel_rfl); (focus kernel_rfl))); first | (simp (maxSteps := 1000000) (disch := refine hold_ ?_; first | (simp [z1, hc, -List.getD_eq_getElem?_getD]; done) | omega) [z1, hc, -List.getD_eq_getElem?_getD]; try first | (with_reducible refine zZ ?_) | subst hK_) | subst hK_) | (with_reducible first | refine zA ?_ | refine zB ?_ | refine zC ?_ | refine zD ?_ | refine zE ?_ | refine zF ?_ | refine zG ?_ | refine zH ?_ | refine zI ?_ | refine zJ ?_ | refine zK ?_ | refine zL ?_ | refine zM ?_ | refine zN ?_ | refine zO ?_) | ((with_reducible refine yG ?_ ?_); (focus decide)) | ((with_reducible refine yA ?_); refine yB rfl ?_; (with_reducible first | refine yC ?_ | refine yD ?_)))
    all_goals simp (maxSteps := 1000000) (disch := refine hold_ ?_; first | (simp [-List.getD_eq_getElem?_getD]; done) | omega) [-List.getD_eq_getElem?_getD]
  · have c1 := content_ct s (by omega)
    have c2 := value_ct s (by omega)
    have c3 := rcontent_ct s (by omega)
    have c4 := rvalue_ct s (by omega)
    cases h1 : contentV s with
    | none =>
      rw [h1] at c1 c3
      cases h2 : valueV s with
      | none =>
        rw [h2] at c2 c4
        repeat (first | ((with_reducible first | refine callK_at 6 ?_ | refine callK_at 7 ?_ | refine callK_at 8 ?_ | refine callK_at 9 ?_ | refine callK_at 10 ?_); refine callK_p ?_; simp (maxSteps := 1000000) (disch := refine hold_ ?_; first | (simp [z1, hc, str_eql, resV, -List.getD_eq_getElem?_getD]; done) | omega) [z1, hc, str_eql, resV, -List.getD_eq_getElem?_getD]; (first | ((with_reducible refine k1_at 6 ?_); refine callK1_of (Fn.ct cw Tryz.call6) ?_) | ((with_reducible refine k1_at 7 ?_); refine callK1_of (Fn.ct c1 Tryz.call7) ?_) | ((with_reducible refine k1_at 8 ?_); refine callK1_of (Fn.ct c2 Tryz.call8) ?_) | ((with_reducible refine k1_at 9 ?_); refine callK1_of (Fn.ct c3 Tryz.call9) ?_) | ((with_reducible refine k1_at 10 ?_); refine callK1_of (Fn.ct c4 Tryz.call10) ?_)); (try simp (maxSteps := 1000000) (disch := refine hold_ ?_; first | (simp [z1, hc, str_eql, resV, -List.getD_eq_getElem?_getD]; done) | omega) [z1, hc, str_eql, resV, -List.getD_eq_getElem?_getD]); try first | (with_reducible refine zZ ?_) | subst hK_) | ((first | (with_reducible first | refine zP fun K_ hK_ => ?_ | refine zQ fun K_ hK_ => ?_ | refine zT ?_ | refine zU ?_ | refine zV ?_ | refine zW ?_ | refine zX ?_ | refine zY ?_) | ((with_reducible first | refine zR ?_ ?_ fun K_ hK_ => ?_ | refine zS ?_ ?_ fun K_ hK_ => ?_); (focus kernel_rfl); (focus kernel_rfl))); first | (simp (maxSteps := 1000000) (disch := refine hold_ ?_; first | (simp [z1, hc, str_eql, resV, -List.getD_eq_getElem?_getD]; done) | omega) [z1, hc, str_eql, resV, -List.getD_eq_getElem?_getD]; try first | (with_reducible refine zZ ?_) | subst hK_) | subst hK_) | (with_reducible first | refine zA ?_ | refine zB ?_ | refine zC ?_ | refine zD ?_ | refine zE ?_ | refine zF ?_ | refine zG ?_ | refine zH ?_ | refine zI ?_ | refine zJ ?_ | refine zK ?_ | refine zL ?_ | refine zM ?_ | refine zN ?_ | refine zO ?_) | ((with_reducible refine yG ?_ ?_); (focus decide)) | ((with_reducible refine yA ?_); refine yB rfl ?_; (with_reducible first | refine yC ?_ | refine yD ?_)))
        all_goals simp (maxSteps := 1000000) (disch := refine hold_ ?_; first | (simp [-List.getD_eq_getElem?_getD]; done) | omega) [-List.getD_eq_getElem?_getD]
      | some b =>
        rw [h2] at c2 c4
        repeat (first | ((with_reducible first | refine callK_at 6 ?_ | refine callK_at 7 ?_ | refine callK_at 8 ?_ | refine callK_at 9 ?_ | refine callK_at 10 ?_); refine callK_p ?_; simp (maxSteps := 1000000) (disch := refine hold_ ?_; first | (simp [z1, hc, str_eql, resV, -List.getD_eq_getElem?_getD]; done) | omega) [z1, hc, str_eql, resV, -List.getD_eq_getElem?_getD]; (first | ((with_reducible refine k1_at 6 ?_); refine callK1_of (Fn.ct cw Tryz.call6) ?_) | ((with_reducible refine k1_at 7 ?_); refine callK1_of (Fn.ct c1 Tryz.call7) ?_) | ((with_reducible refine k1_at 8 ?_); refine callK1_of (Fn.ct c2 Tryz.call8) ?_) | ((with_reducible refine k1_at 9 ?_); refine callK1_of (Fn.ct c3 Tryz.call9) ?_) | ((with_reducible refine k1_at 10 ?_); refine callK1_of (Fn.ct c4 Tryz.call10) ?_)); (try simp (maxSteps := 1000000) (disch := refine hold_ ?_; first | (simp [z1, hc, str_eql, resV, -List.getD_eq_getElem?_getD]; done) | omega) [z1, hc, str_eql, resV, -List.getD_eq_getElem?_getD]); try first | (with_reducible refine zZ ?_) | subst hK_) | ((first | (with_reducible first | refine zP fun K_ hK_ => ?_ | refine zQ fun K_ hK_ => ?_ | refine zT ?_ | refine zU ?_ | refine zV ?_ | refine zW ?_ | refine zX ?_ | refine zY ?_) | ((with_reducible first | refine zR ?_ ?_ fun K_ hK_ => ?_ | refine zS ?_ ?_ fun K_ hK_ => ?_); (focus kernel_rfl); (focus kernel_rfl))); first | (simp (maxSteps := 1000000) (disch := refine hold_ ?_; first | (simp [z1, hc, str_eql, resV, -List.getD_eq_getElem?_getD]; done) | omega) [z1, hc, str_eql, resV, -List.getD_eq_getElem?_getD]; try first | (with_reducible refine zZ ?_) | subst hK_) | subst hK_) | (with_reducible first | refine zA ?_ | refine zB ?_ | refine zC ?_ | refine zD ?_ | refine zE ?_ | refine zF ?_ | refine zG ?_ | refine zH ?_ | refine zI ?_ | refine zJ ?_ | refine zK ?_ | refine zL ?_ | refine zM ?_ | refine zN ?_ | refine zO ?_) | ((with_reducible refine yG ?_ ?_); (focus decide)) | ((with_reducible refine yA ?_); refine yB rfl ?_; (with_reducible first | refine yC ?_ | refine yD ?_)))
        all_goals simp (maxSteps := 1000000) (disch := refine hold_ ?_; first | (simp [-List.getD_eq_getElem?_getD]; done) | omega) [-List.getD_eq_getElem?_getD]
    | some a =>
      rw [h1] at c1 c3
      cases h2 : valueV s with
      | none =>
        rw [h2] at c2 c4
        repeat (first | ((with_reducible first | refine callK_at 6 ?_ | refine callK_at 7 ?_ | refine callK_at 8 ?_ | refine callK_at 9 ?_ | refine callK_at 10 ?_); refine callK_p ?_; simp (maxSteps := 1000000) (disch := refine hold_ ?_; first | (simp [z1, hc, str_eql, resV, -List.getD_eq_getElem?_getD]; done) | omega) [z1, hc, str_eql, resV, -List.getD_eq_getElem?_getD]; (first | ((with_reducible refine k1_at 6 ?_); refine callK1_of (Fn.ct cw Tryz.call6) ?_) | ((with_reducible refine k1_at 7 ?_); refine callK1_of (Fn.ct c1 Tryz.call7) ?_) | ((with_reducible refine k1_at 8 ?_); refine callK1_of (Fn.ct c2 Tryz.call8) ?_) | ((with_reducible refine k1_at 9 ?_); refine callK1_of (Fn.ct c3 Tryz.call9) ?_) | ((with_reducible refine k1_at 10 ?_); refine callK1_of (Fn.ct c4 Tryz.call10) ?_)); (try simp (maxSteps := 1000000) (disch := refine hold_ ?_; first | (simp [z1, hc, str_eql, resV, -List.getD_eq_getElem?_getD]; done) | omega) [z1, hc, str_eql, resV, -List.getD_eq_getElem?_getD]); try first | (with_reducible refine zZ ?_) | subst hK_) | ((first | (with_reducible first | refine zP fun K_ hK_ => ?_ | refine zQ fun K_ hK_ => ?_ | refine zT ?_ | refine zU ?_ | refine zV ?_ | refine zW ?_ | refine zX ?_ | refine zY ?_) | ((with_reducible first | refine zR ?_ ?_ fun K_ hK_ => ?_ | refine zS ?_ ?_ fun K_ hK_ => ?_); (focus kernel_rfl); (focus kernel_rfl))); first | (simp (maxSteps := 1000000) (disch := refine hold_ ?_; first | (simp [z1, hc, str_eql, resV, -List.getD_eq_getElem?_getD]; done) | omega) [z1, hc, str_eql, resV, -List.getD_eq_getElem?_getD]; try first | (with_reducible refine zZ ?_) | subst hK_) | subst hK_) | (with_reducible first | refine zA ?_ | refine zB ?_ | refine zC ?_ | refine zD ?_ | refine zE ?_ | refine zF ?_ | refine zG ?_ | refine zH ?_ | refine zI ?_ | refine zJ ?_ | refine zK ?_ | refine zL ?_ | refine zM ?_ | refine zN ?_ | refine zO ?_) | ((with_reducible refine yG ?_ ?_); (focus decide)) | ((with_reducible refine yA ?_); refine yB rfl ?_; (with_reducible first | refine yC ?_ | refine yD ?_)))
        all_goals simp (maxSteps := 1000000) (disch := refine hold_ ?_; first | (simp [-List.getD_eq_getElem?_getD]; done) | omega) [-List.getD_eq_getElem?_getD]
      | some b =>
        rw [h2] at c2 c4
        repeat (first | ((with_reducible first | refine callK_at 6 ?_ | refine callK_at 7 ?_ | refine callK_at 8 ?_ | refine callK_at 9 ?_ | refine callK_at 10 ?_); refine callK_p ?_; simp (maxSteps := 1000000) (disch := refine hold_ ?_; first | (simp [z1, hc, str_eql, resV, -List.getD_eq_getElem?_getD]; done) | omega) [z1, hc, str_eql, resV, -List.getD_eq_getElem?_getD]; (first | ((with_reducible refine k1_at 6 ?_); refine callK1_of (Fn.ct cw Tryz.call6) ?_) | ((with_reducible refine k1_at 7 ?_); refine callK1_of (Fn.ct c1 Tryz.call7) ?_) | ((with_reducible refine k1_at 8 ?_); refine callK1_of (Fn.ct c2 Tryz.call8) ?_) | ((with_reducible refine k1_at 9 ?_); refine callK1_of (Fn.ct c3 Tryz.call9) ?_) | ((with_reducible refine k1_at 10 ?_); refine callK1_of (Fn.ct c4 Tryz.call10) ?_)); (try simp (maxSteps := 1000000) (disch := refine hold_ ?_; first | (simp [z1, hc, str_eql, resV, -List.getD_eq_getElem?_getD]; done) | omega) [z1, hc, str_eql, resV, -List.getD_eq_getElem?_getD]); try first | (with_reducible refine zZ ?_) | subst hK_) | ((first | (with_reducible first | refine zP fun K_ hK_ => ?_ | refine zQ fun K_ hK_ => ?_ | refine zT ?_ | refine zU ?_ | refine zV ?_ | refine zW ?_ | refine zX ?_ | refine zY ?_) | ((with_reducible first | refine zR ?_ ?_ fun K_ hK_ => ?_ | refine zS ?_ ?_ fun K_ hK_ => ?_); (focus kernel_rfl); (focus kernel_rfl))); first | (simp (maxSteps := 1000000) (disch := refine hold_ ?_; first | (simp [z1, hc, str_eql, resV, -List.getD_eq_getElem?_getD]; done) | omega) [z1, hc, str_eql, resV, -List.getD_eq_getElem?_getD]; try first | (with_reducible refine zZ ?_) | subst hK_) | subst hK_) | (with_reducible first | refine zA ?_ | refine zB ?_ | refine zC ?_ | refine zD ?_ | refine zE ?_ | refine zF ?_ | refine zG ?_ | refine zH ?_ | refine zI ?_ | refine zJ ?_ | refine zK ?_ | refine zL ?_ | refine zM ?_ | refine zN ?_ | refine zO ?_) | ((with_reducible refine yG ?_ ?_); (focus decide)) | ((with_reducible refine yA ?_); refine yB rfl ?_; (with_reducible first | refine yC ?_ | refine yD ?_)))
        all_goals simp (maxSteps := 1000000) (disch := refine hold_ ?_; first | (simp [-List.getD_eq_getElem?_getD]; done) | omega) [-List.getD_eq_getElem?_getD]
set_option maxHeartbeats 10000000 in
theorem parts_ct (a b : List (BitVec 8)) (ha : a.length ≤ 140737488351232) (hb : b.length ≤ 140737488351232) : Fn Tryz.prog 4 [.str (txt a), .str (txt b)] [.p (.bool true)] := by
  have cw := awake_ct
  have z1 := txt_size a
  have z2 := txt_size b
  have e1 : IntKind.i64.wrap ((a.length : Int) + b.length) = (a.length : Int) + b.length := wrap_i64 _ (by omega) (by omega)
  refine Fn.of_body Tryz.func4 rfl ?_
  by_cases hc : 600 < (a.length : Int) + b.length
  · repeat (first | ((with_reducible first | refine callK_at 6 ?_); refine callK_p ?_; simp (maxSteps := 1000000) (disch := refine hold_ ?_; first | (simp [z1, z2, e1, hc, -List.getD_eq_getElem?_getD]; done) | omega) [z1, z2, e1, hc, -List.getD_eq_getElem?_getD]; (first | refine callK1_of (Fn.ct cw Tryz.call6) ?_); (try simp (maxSteps := 1000000) (disch := refine hold_ ?_; first | (simp [z1, z2, e1, hc, -List.getD_eq_getElem?_getD]; done) | omega) [z1, z2, e1, hc, -List.getD_eq_getElem?_getD]); try first | (with_reducible refine zZ ?_) | subst hK_) | ((first | (with_reducible first | refine zP fun K_ hK_ => ?_ | refine zQ fun K_ hK_ => ?_ | refine zT ?_ | refine zU ?_ | refine zV ?_ | refine zW ?_ | refine zX ?_ | refine zY ?_) | ((with_reducible first | refine zR ?_ ?_ fun K_ hK_ => ?_ | refine zS ?_ ?_ fun K_ hK_ => ?_); (focus kernel_rfl); (focus kernel_rfl))); first | (simp (maxSteps := 1000000) (disch := refine hold_ ?_; first | (simp [z1, z2, e1, hc, -List.getD_eq_getElem?_getD]; done) | omega) [z1, z2, e1, hc, -List.getD_eq_getElem?_getD]; try first | (with_reducible refine zZ ?_) | subst hK_) | subst hK_) | (with_reducible first | refine zA ?_ | refine zB ?_ | refine zC ?_ | refine zD ?_ | refine zE ?_ | refine zF ?_ | refine zG ?_ | refine zH ?_ | refine zI ?_ | refine zJ ?_ | refine zK ?_ | refine zL ?_ | refine zM ?_ | refine zN ?_ | refine zO ?_) | ((with_reducible refine yG ?_ ?_); (focus decide)) | ((with_reducible refine yA ?_); refine yB rfl ?_; (with_reducible first | refine yC ?_ | refine yD ?_)))
    all_goals simp (maxSteps := 1000000) (disch := refine hold_ ?_; first | (simp [-List.getD_eq_getElem?_getD]; done) | omega) [-List.getD_eq_getElem?_getD]
  · have k1 := value_ct a (by omega)
    have k2 := value_ct b (by omega)
    cases h1 : valueV a with
    | none =>
      rw [h1] at k1
      cases h2 : valueV b with
      | none =>
        rw [h2] at k2
        repeat (first | ((with_reducible first | refine callK_at 6 ?_ | refine callK_at 8 ?_); refine callK_p ?_; simp (maxSteps := 1000000) (disch := refine hold_ ?_; first | (simp [z1, z2, e1, hc, resV, -List.getD_eq_getElem?_getD]; done) | omega) [z1, z2, e1, hc, resV, -List.getD_eq_getElem?_getD]; (first | ((with_reducible refine k1_at 6 ?_); refine callK1_of (Fn.ct cw Tryz.call6) ?_) | ((with_reducible refine k1_at 8 ?_); refine callK1_of ((by first | exact Fn.ct k1 Tryz.call8 | exact Fn.ct k2 Tryz.call8)) ?_)); (try simp (maxSteps := 1000000) (disch := refine hold_ ?_; first | (simp [z1, z2, e1, hc, resV, -List.getD_eq_getElem?_getD]; done) | omega) [z1, z2, e1, hc, resV, -List.getD_eq_getElem?_getD]); try first | (with_reducible refine zZ ?_) | subst hK_) | ((first | (with_reducible first | refine zP fun K_ hK_ => ?_ | refine zQ fun K_ hK_ => ?_ | refine zT ?_ | refine zU ?_ | refine zV ?_ | refine zW ?_ | refine zX ?_ | refine zY ?_) | ((with_reducible first | refine zR ?_ ?_ fun K_ hK_ => ?_ | refine zS ?_ ?_ fun K_ hK_ => ?_); (focus kernel_rfl); (focus kernel_rfl))); first | (simp (maxSteps := 1000000) (disch := refine hold_ ?_; first | (simp [z1, z2, e1, hc, resV, -List.getD_eq_getElem?_getD]; done) | omega) [z1, z2, e1, hc, resV, -List.getD_eq_getElem?_getD]; try first | (with_reducible refine zZ ?_) | subst hK_) | subst hK_) | (with_reducible first | refine zA ?_ | refine zB ?_ | refine zC ?_ | refine zD ?_ | refine zE ?_ | refine zF ?_ | refine zG ?_ | refine zH ?_ | refine zI ?_ | refine zJ ?_ | refine zK ?_ | refine zL ?_ | refine zM ?_ | refine zN ?_ | refine zO ?_) | ((with_reducible refine yG ?_ ?_); (focus decide)) | ((with_reducible refine yA ?_); refine yB rfl ?_; (with_reducible first | refine yC ?_ | refine yD ?_)))
        all_goals simp (maxSteps := 1000000) (disch := refine hold_ ?_; first | (simp [-List.getD_eq_getElem?_getD]; done) | omega) [-List.getD_eq_getElem?_getD]
      | some y =>
        rw [h2] at k2
        repeat (first | ((with_reducible first | refine callK_at 6 ?_ | refine callK_at 8 ?_); refine callK_p ?_; simp (maxSteps := 1000000) (disch := refine hold_ ?_; first | (simp [z1, z2, e1, hc, resV, -List.getD_eq_getElem?_getD]; done) | omega) [z1, z2, e1, hc, resV, -List.getD_eq_getElem?_getD]; (first | ((with_reducible refine k1_at 6 ?_); refine callK1_of (Fn.ct cw Tryz.call6) ?_) | ((with_reducible refine k1_at 8 ?_); refine callK1_of ((by first | exact Fn.ct k1 Tryz.call8 | exact Fn.ct k2 Tryz.call8)) ?_)); (try simp (maxSteps := 1000000) (disch := refine hold_ ?_; first | (simp [z1, z2, e1, hc, resV, -List.getD_eq_getElem?_getD]; done) | omega) [z1, z2, e1, hc, resV, -List.getD_eq_getElem?_getD]); try first | (with_reducible refine zZ ?_) | subst hK_) | ((first | (with_reducible first | refine zP fun K_ hK_ => ?_ | refine zQ fun K_ hK_ => ?_ | refine zT ?_ | refine zU ?_ | refine zV ?_ | refine zW ?_ | refine zX ?_ | refine zY ?_) | ((with_reducible first | refine zR ?_ ?_ fun K_ hK_ => ?_ | refine zS ?_ ?_ fun K_ hK_ => ?_); (focus kernel_rfl); (focus kernel_rfl))); first | (simp (maxSteps := 1000000) (disch := refine hold_ ?_; first | (simp [z1, z2, e1, hc, resV, -List.getD_eq_getElem?_getD]; done) | omega) [z1, z2, e1, hc, resV, -List.getD_eq_getElem?_getD]; try first | (with_reducible refine zZ ?_) | subst hK_) | subst hK_) | (with_reducible first | refine zA ?_ | refine zB ?_ | refine zC ?_ | refine zD ?_ | refine zE ?_ | refine zF ?_ | refine zG ?_ | refine zH ?_ | refine zI ?_ | refine zJ ?_ | refine zK ?_ | refine zL ?_ | refine zM ?_ | refine zN ?_ | refine zO ?_) | ((with_reducible refine yG ?_ ?_); (focus decide)) | ((with_reducible refine yA ?_); refine yB rfl ?_; (with_reducible first | refine yC ?_ | refine yD ?_)))
        all_goals simp (maxSteps := 1000000) (disch := refine hold_ ?_; first | (simp [-List.getD_eq_getElem?_getD]; done) | omega) [-List.getD_eq_getElem?_getD]
    | some x =>
      rw [h1] at k1
      cases h2 : valueV b with
      | none =>
        rw [h2] at k2
        repeat (first | ((with_reducible first | refine callK_at 6 ?_ | refine callK_at 8 ?_); refine callK_p ?_; simp (maxSteps := 1000000) (disch := refine hold_ ?_; first | (simp [z1, z2, e1, hc, resV, -List.getD_eq_getElem?_getD]; done) | omega) [z1, z2, e1, hc, resV, -List.getD_eq_getElem?_getD]; (first | ((with_reducible refine k1_at 6 ?_); refine callK1_of (Fn.ct cw Tryz.call6) ?_) | ((with_reducible refine k1_at 8 ?_); refine callK1_of ((by first | exact Fn.ct k1 Tryz.call8 | exact Fn.ct k2 Tryz.call8)) ?_)); (try simp (maxSteps := 1000000) (disch := refine hold_ ?_; first | (simp [z1, z2, e1, hc, resV, -List.getD_eq_getElem?_getD]; done) | omega) [z1, z2, e1, hc, resV, -List.getD_eq_getElem?_getD]); try first | (with_reducible refine zZ ?_) | subst hK_) | ((first | (with_reducible first | refine zP fun K_ hK_ => ?_ | refine zQ fun K_ hK_ => ?_ | refine zT ?_ | refine zU ?_ | refine zV ?_ | refine zW ?_ | refine zX ?_ | refine zY ?_) | ((with_reducible first | refine zR ?_ ?_ fun K_ hK_ => ?_ | refine zS ?_ ?_ fun K_ hK_ => ?_); (focus kernel_rfl); (focus kernel_rfl))); first | (simp (maxSteps := 1000000) (disch := refine hold_ ?_; first | (simp [z1, z2, e1, hc, resV, -List.getD_eq_getElem?_getD]; done) | omega) [z1, z2, e1, hc, resV, -List.getD_eq_getElem?_getD]; try first | (with_reducible refine zZ ?_) | subst hK_) | subst hK_) | (with_reducible first | refine zA ?_ | refine zB ?_ | refine zC ?_ | refine zD ?_ | refine zE ?_ | refine zF ?_ | refine zG ?_ | refine zH ?_ | refine zI ?_ | refine zJ ?_ | refine zK ?_ | refine zL ?_ | refine zM ?_ | refine zN ?_ | refine zO ?_) | ((with_reducible refine yG ?_ ?_); (focus decide)) | ((with_reducible refine yA ?_); refine yB rfl ?_; (with_reducible first | refine yC ?_ | refine yD ?_)))
        all_goals simp (maxSteps := 1000000) (disch := refine hold_ ?_; first | (simp [-List.getD_eq_getElem?_getD]; done) | omega) [-List.getD_eq_getElem?_getD]
      | some y =>
        rw [h2] at k2
        have k3 := value_ct (a ++ b) (by rw [List.length_append]; omega)
        rw [value_join a b x y h1 h2] at k3
        have l1 := value_len a x h1
        have l2 := value_len b y h2
        have s1 := txt_add a b (by omega)
        have s2 := txt_add x y (by omega)
        generalize a ++ b = ab at *
        generalize x ++ y = xy at *
        repeat (first | ((with_reducible first | refine callK_at 6 ?_ | refine callK_at 8 ?_); refine callK_p ?_; simp (maxSteps := 1000000) (disch := refine hold_ ?_; first | (simp [z1, z2, e1, hc, resV, s1, s2, str_eql, -List.getD_eq_getElem?_getD]; done) | omega) [z1, z2, e1, hc, resV, s1, s2, str_eql, -List.getD_eq_getElem?_getD]; (first | ((with_reducible refine k1_at 6 ?_); refine callK1_of (Fn.ct cw Tryz.call6) ?_) | ((with_reducible refine k1_at 8 ?_); refine callK1_of ((by first | exact Fn.ct k1 Tryz.call8 | exact Fn.ct k2 Tryz.call8 | exact Fn.ct k3 Tryz.call8)) ?_)); (try simp (maxSteps := 1000000) (disch := refine hold_ ?_; first | (simp [z1, z2, e1, hc, resV, s1, s2, str_eql, -List.getD_eq_getElem?_getD]; done) | omega) [z1, z2, e1, hc, resV, s1, s2, str_eql, -List.getD_eq_getElem?_getD]); try first | (with_reducible refine zZ ?_) | subst hK_) | ((first | (with_reducible first | refine zP fun K_ hK_ => ?_ | refine zQ fun K_ hK_ => ?_ | refine zT ?_ | refine zU ?_ | refine zV ?_ | refine zW ?_ | refine zX ?_ | refine zY ?_) | ((with_reducible first | refine zR ?_ ?_ fun K_ hK_ => ?_ | refine zS ?_ ?_ fun K_ hK_ => ?_); (focus kernel_rfl); (focus kernel_rfl))); first | (simp (maxSteps := 1000000) (disch := refine hold_ ?_; first | (simp [z1, z2, e1, hc, resV, s1, s2, str_eql, -List.getD_eq_getElem?_getD]; done) | omega) [z1, z2, e1, hc, resV, s1, s2, str_eql, -List.getD_eq_getElem?_getD]; try first | (with_reducible refine zZ ?_) | subst hK_) | subst hK_) | (with_reducible first | refine zA ?_ | refine zB ?_ | refine zC ?_ | refine zD ?_ | refine zE ?_ | refine zF ?_ | refine zG ?_ | refine zH ?_ | refine zI ?_ | refine zJ ?_ | refine zK ?_ | refine zL ?_ | refine zM ?_ | refine zN ?_ | refine zO ?_) | ((with_reducible refine yG ?_ ?_); (focus decide)) | ((with_reducible refine yA ?_); refine yB rfl ?_; (with_reducible first | refine yC ?_ | refine yD ?_)))
        all_goals simp (maxSteps := 1000000) (disch := refine hold_ ?_; first | (simp [-List.getD_eq_getElem?_getD]; done) | omega) [-List.getD_eq_getElem?_getD]
theorem reads_law (s : ByteArray) (_ : s.size ≤ reachBytes) : Fn Tryz.prog 3 [.str s] [.p (.bool true)] := by
  obtain ⟨a, rfl⟩ := txt_of s
  exact reads_ct a
theorem parts_law (s : ByteArray) (h1 : s.size ≤ reachBytes) (t : ByteArray) (h2 : t.size ≤ reachBytes) : Fn Tryz.prog 4 [.str s, .str t] [.p (.bool true)] := by
  obtain ⟨a, rfl⟩ := txt_of s
  obtain ⟨b, rfl⟩ := txt_of t
  rw [txt_size] at h1 h2
  have hm : reachBytes = 140737488351232 := rfl
  rw [hm] at h1 h2
  exact parts_ct a b h1 h2
end Go.Av.Cha
end
