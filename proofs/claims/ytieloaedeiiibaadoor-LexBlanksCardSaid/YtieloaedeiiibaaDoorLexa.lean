/- The walks of this seat's functions, and what is known of what they reckon (Lexa). Conditions: those that each theorem names. -/
import Derived.Test.YtieloaedeiiibaaDoorLex9
import Derived.SliceStrings
section
set_option linter.unusedSimpArgs false
set_option linter.unusedVariables false
open Go Go.Av Go.Proofs
namespace Go.Av.Lex
def sepsL : List (List (BitVec 8)) := [[32#8, 32#8], [9#8], [10#8, 32#8], [32#8, 13#8]]
theorem seps_blank : ∀ j, j < 4 → ∀ c ∈ sepsL.getD j [], bd c = true := by decide
theorem aT_app (l : List (List (BitVec 8))) (u : List (BitVec 8)) : aT (l ++ [u]) = (aT l ++ u) ++ [32#8] := by simp [aT]
theorem bT_app (s : List (BitVec 8)) (l : List (List (BitVec 8))) (u : List (BitVec 8)) : bT s (l ++ [u]) = ((bT s l ++ s) ++ u) ++ [32#8] := by simp [bT]
theorem take_one (ps : List (List (BitVec 8))) (k : Nat) (h : k < ps.length) : ps.take (k + 1) = ps.take k ++ [ps.getD k []] := by
  rw [List.take_add_one, List.getElem?_eq_getElem h, List.getD_eq_getElem?_getD, List.getElem?_eq_getElem h]; rfl
theorem aT_step (ps : List (List (BitVec 8))) (k : Nat) (h : k < ps.length) : aT (ps.take (k + 1)) = (aT (ps.take k) ++ ps.getD k []) ++ [32#8] := by rw [take_one ps k h, aT_app]
theorem bT_step (s : List (BitVec 8)) (ps : List (List (BitVec 8))) (k : Nat) (h : k < ps.length) : bT s (ps.take (k + 1)) = ((bT s (ps.take k) ++ s) ++ ps.getD k []) ++ [32#8] := by rw [take_one ps k h, bT_app]
def bSt (ps : List (List (BitVec 8))) (nl : Bool) (y : Int) (s : List (BitVec 8)) (k : Nat) : St := ⟨(.p (.sl (sR ps) nl) :: .p (.int .u8 y) :: V.junk :: V.junk :: V.junk :: .p (.str (txt (aT (ps.take k)))) :: .p (.str (txt (bT s (ps.take k)))) :: V.junk :: V.junk :: V.junk :: V.junk :: V.junk :: V.junk :: V.junk :: V.junk :: V.junk :: V.junk :: V.junk :: V.junk :: V.junk :: V.junk :: V.junk :: .p (.int .i64 ps.length) :: .p (.int .i64 k) :: V.junk :: V.junk :: V.junk :: V.junk :: V.junk :: V.junk :: V.junk :: V.junk :: V.junk :: V.junk :: V.junk :: V.junk :: V.junk :: V.junk :: V.junk :: V.junk :: V.junk :: V.junk :: V.junk :: V.junk :: V.junk :: V.junk :: V.junk :: V.junk :: V.junk :: V.junk :: V.junk :: V.junk :: V.junk :: V.junk :: V.junk :: V.junk :: V.junk :: V.junk :: V.junk :: V.junk :: V.junk :: V.junk :: V.junk :: V.junk :: V.junk :: V.junk :: V.junk :: V.junk :: V.junk :: V.junk :: V.junk :: V.junk :: V.junk :: V.junk :: V.junk :: V.junk :: V.junk :: V.junk :: V.junk :: V.junk :: V.junk :: V.junk :: V.junk :: V.junk :: V.junk :: V.junk :: V.junk :: V.junk :: V.junk :: V.junk :: V.junk :: V.junk :: V.junk :: V.junk :: V.junk :: V.junk :: V.junk :: V.junk :: V.junk :: V.junk :: V.junk :: V.junk :: V.junk :: V.junk :: V.junk :: V.junk :: V.junk :: V.junk :: V.junk :: V.junk :: V.junk :: V.junk :: V.junk :: V.junk :: V.junk :: V.junk :: V.junk :: V.junk :: V.junk :: V.junk :: V.junk :: V.junk :: V.junk :: V.junk :: V.junk :: V.junk :: V.junk :: V.junk :: V.junk :: V.junk :: []), ⟨[], []⟩⟩
set_option maxHeartbeats 16000000 in
set_option maxRecDepth 8000 in
theorem blanks_loop (ps : List (List (BitVec 8))) (nl : Bool) (y : Int) (j : Nat) (hj : j < 4) (hy : y.tmod 4 = (j : Int)) (hps : ps.length ≤ 30) : Fn Tryd.prog 4 [.sl (sR ps) nl, .int .u8 y] [.p (.bool true)] := by
  have hlen : (sR ps).len = ps.length := by simp [sR]
  have hsz : (sR ps).sz = 1 := rfl
  have hj4 : j = 0 ∨ j = 1 ∨ j = 2 ∨ j = 3 := by omega
  have hSl : (sepsL.getD j []).length ≤ 2 := by rcases hj4 with rfl | rfl | rfl | rfl <;> decide
  generalize hS : sepsL.getD j [] = S at *
  have hz : ¬ (30 : Int) < ps.length := by omega
  have hel : ∀ k, k < ps.length → (sR ps).elem k = .str (txt (ps.getD k [])) := by
    intro k hk
    simp [sR, List.getD_eq_getElem?_getD, hk]
  refine Fn.of_body Tryd.func4 rfl ?_
  repeat (first | ((first | (with_reducible first | refine zP fun K_ hK_ => ?_ | refine zQ fun K_ hK_ => ?_ | refine zT ?_ | refine zU ?_ | refine zV ?_ | refine zW ?_ | refine zX ?_ | refine zY ?_) | ((with_reducible first | refine zR ?_ ?_ fun K_ hK_ => ?_ | refine zS ?_ ?_ fun K_ hK_ => ?_); (focus kernel_rfl); (focus kernel_rfl))); first | (simp (maxSteps := 1000000) (disch := refine hold_ ?_; first | (simp [-List.getD_eq_getElem?_getD]; done) | omega) [-List.getD_eq_getElem?_getD]; try first | (with_reducible refine zZ ?_) | subst hK_) | subst hK_) | (with_reducible first | refine zA ?_ | refine zB ?_ | refine zC ?_ | refine zD ?_ | refine zE ?_ | refine zF ?_ | refine zG ?_ | refine zH ?_ | refine zI ?_ | refine zJ ?_ | refine zK ?_ | refine zL ?_ | refine zM ?_ | refine zN ?_ | refine zO ?_) | ((with_reducible refine yG ?_ ?_); (focus decide)) | ((with_reducible refine yA ?_); refine yB rfl ?_; (with_reducible first | refine yC ?_ | refine yD ?_)))
  (refine callK_p ?_; simp (maxSteps := 1000000) (disch := refine hold_ ?_; first | (simp [hlen, hz, -List.getD_eq_getElem?_getD]; done) | omega) [hlen, hz, -List.getD_eq_getElem?_getD]; refine callK1_of (Fn.ct awake_ct Tryd.call7) ?_; (try simp (maxSteps := 1000000) (disch := refine hold_ ?_; first | (simp [hlen, hz, -List.getD_eq_getElem?_getD]; done) | omega) [hlen, hz, -List.getD_eq_getElem?_getD]); first | refine zZ ?_ | subst hK_)
  repeat (first | ((first | (with_reducible first | refine zP fun K_ hK_ => ?_ | refine zQ fun K_ hK_ => ?_ | refine zT ?_ | refine zU ?_ | refine zV ?_ | refine zW ?_ | refine zX ?_ | refine zY ?_) | ((with_reducible first | refine zR ?_ ?_ fun K_ hK_ => ?_ | refine zS ?_ ?_ fun K_ hK_ => ?_); (focus kernel_rfl); (focus kernel_rfl))); first | (simp (maxSteps := 1000000) (disch := refine hold_ ?_; first | (simp [hlen, hz, -List.getD_eq_getElem?_getD]; done) | omega) [hlen, hz, -List.getD_eq_getElem?_getD]; try first | (with_reducible refine zZ ?_) | subst hK_) | subst hK_) | (with_reducible first | refine zA ?_ | refine zB ?_ | refine zC ?_ | refine zD ?_ | refine zE ?_ | refine zF ?_ | refine zG ?_ | refine zH ?_ | refine zI ?_ | refine zJ ?_ | refine zK ?_ | refine zL ?_ | refine zM ?_ | refine zN ?_ | refine zO ?_) | ((with_reducible refine yG ?_ ?_); (focus decide)) | ((with_reducible refine yA ?_); refine yB rfl ?_; (with_reducible first | refine yC ?_ | refine yD ?_)))
  refine AW.iterI (true :: true :: false :: false :: false :: true :: true :: false :: false :: false :: false :: false :: false :: false :: false :: false :: false :: false :: false :: false :: false :: false :: true :: true :: false :: false :: false :: false :: false :: false :: false :: false :: false :: false :: false :: false :: false :: false :: false :: false :: false :: false :: false :: false :: false :: false :: false :: false :: false :: false :: false :: false :: false :: false :: false :: false :: false :: false :: false :: false :: false :: false :: false :: false :: false :: false :: false :: false :: false :: false :: false :: false :: false :: false :: false :: false :: false :: false :: false :: false :: false :: false :: false :: false :: false :: false :: false :: false :: false :: false :: false :: false :: false :: false :: false :: false :: false :: false :: false :: false :: false :: false :: false :: false :: false :: false :: false :: false :: false :: false :: false :: false :: false :: false :: false :: false :: false :: false :: false :: false :: false :: false :: false :: false :: false :: false :: false :: false :: false :: false :: []) ps.length (fun m σ => ∃ k, σ = bSt ps nl y S k ∧ m = ps.length - k ∧ k ≤ ps.length ∧ (aT (ps.take k)).length ≤ 21 * k ∧ (bT S (ps.take k)).length ≤ 23 * k) (τ := bSt ps nl y S 0) ?_ ⟨0, rfl, by omega, by omega, by simp [aT], by simp [bT]⟩ ?_
  · unfold bSt; simp (maxSteps := 1000000) (disch := refine hold_ ?_; first | (simp [aT, bT, txt_nil, -List.getD_eq_getElem?_getD]; done) | omega) [aT, bT, txt_nil, -List.getD_eq_getElem?_getD]
  rintro m σ ⟨k, rfl, hm, hk, ha, hb⟩
  unfold bSt
  have e1 : IntKind.i64.wrap ((k : Int) + 1) = k + 1 := wrap_i64 _ (by omega) (by omega)
  repeat (first | ((first | (with_reducible first | refine zP fun K_ hK_ => ?_ | refine zQ fun K_ hK_ => ?_ | refine zT ?_ | refine zU ?_ | refine zV ?_ | refine zW ?_ | refine zX ?_ | refine zY ?_) | ((with_reducible first | refine zR ?_ ?_ fun K_ hK_ => ?_ | refine zS ?_ ?_ fun K_ hK_ => ?_); (focus kernel_rfl); (focus kernel_rfl))); first | (simp (maxSteps := 1000000) (disch := refine hold_ ?_; first | (simp [-List.getD_eq_getElem?_getD]; done) | omega) [-List.getD_eq_getElem?_getD]; try first | (with_reducible refine zZ ?_) | subst hK_) | subst hK_) | (with_reducible first | refine zA ?_ | refine zB ?_ | refine zC ?_ | refine zD ?_ | refine zE ?_ | refine zF ?_ | refine zG ?_ | refine zH ?_ | refine zI ?_ | refine zJ ?_ | refine zK ?_ | refine zL ?_ | refine zM ?_ | refine zN ?_ | refine zO ?_) | ((with_reducible refine yG ?_ ?_); (focus decide)) | ((with_reducible refine yA ?_); refine yB rfl ?_; (with_reducible first | refine yC ?_ | refine yD ?_)))
  first | refine AW.condD rfl (fun hc => ?_) (fun hc => ?_) | refine AW.cond rfl (fun hc => ?_) (fun hc => ?_)
  · have hk2 : k < ps.length := by omega
    have hek := hel k hk2
    have sa := aT_step ps k hk2
    have sb := bT_step S ps k hk2
    have sz := txt_size (ps.getD k [])
    repeat (first | ((first | (with_reducible first | refine zP fun K_ hK_ => ?_ | refine zQ fun K_ hK_ => ?_ | refine zT ?_ | refine zU ?_ | refine zV ?_ | refine zW ?_ | refine zX ?_ | refine zY ?_) | ((with_reducible first | refine zR ?_ ?_ fun K_ hK_ => ?_ | refine zS ?_ ?_ fun K_ hK_ => ?_); (focus kernel_rfl); (focus kernel_rfl))); first | (simp (maxSteps := 1000000) (disch := refine hold_ ?_; first | (simp [hk2, hek, hlen, hsz, sz, -List.getD_eq_getElem?_getD]; done) | omega) [hk2, hek, hlen, hsz, sz, -List.getD_eq_getElem?_getD]; try first | (with_reducible refine zZ ?_) | subst hK_) | subst hK_) | (with_reducible first | refine zA ?_ | refine zB ?_ | refine zC ?_ | refine zD ?_ | refine zE ?_ | refine zF ?_ | refine zG ?_ | refine zH ?_ | refine zI ?_ | refine zJ ?_ | refine zK ?_ | refine zL ?_ | refine zM ?_ | refine zN ?_ | refine zO ?_) | ((with_reducible refine yG ?_ ?_); (focus decide)) | ((with_reducible refine yA ?_); refine yB rfl ?_; (with_reducible first | refine yC ?_ | refine yD ?_)))
    first | refine AW.condD rfl (fun hc => ?_) (fun hc => ?_) | refine AW.cond rfl (fun hc => ?_) (fun hc => ?_)
    · repeat (first | ((first | (with_reducible first | refine zP fun K_ hK_ => ?_ | refine zQ fun K_ hK_ => ?_ | refine zT ?_ | refine zU ?_ | refine zV ?_ | refine zW ?_ | refine zX ?_ | refine zY ?_) | ((with_reducible first | refine zR ?_ ?_ fun K_ hK_ => ?_ | refine zS ?_ ?_ fun K_ hK_ => ?_); (focus kernel_rfl); (focus kernel_rfl))); first | (simp (maxSteps := 1000000) (disch := refine hold_ ?_; first | (simp [-List.getD_eq_getElem?_getD]; done) | omega) [-List.getD_eq_getElem?_getD]; try first | (with_reducible refine zZ ?_) | subst hK_) | subst hK_) | (with_reducible first | refine zA ?_ | refine zB ?_ | refine zC ?_ | refine zD ?_ | refine zE ?_ | refine zF ?_ | refine zG ?_ | refine zH ?_ | refine zI ?_ | refine zJ ?_ | refine zK ?_ | refine zL ?_ | refine zM ?_ | refine zN ?_ | refine zO ?_) | ((with_reducible refine yG ?_ ?_); (focus decide)) | ((with_reducible refine yA ?_); refine yB rfl ?_; (with_reducible first | refine yC ?_ | refine yD ?_)))
      simp (maxSteps := 1000000) (disch := refine hold_ ?_; first | (simp [-List.getD_eq_getElem?_getD]; done) | omega) [-List.getD_eq_getElem?_getD]
    · have hc : (ps.getD k []).length ≤ 20 := by omega
      have a1 : strBin .add (txt (aT (ps.take k))) (txt (ps.getD k [])) = some (.str (txt (aT (ps.take k) ++ ps.getD k []))) := txt_add _ _ (by omega)
      have a2 : strBin .add (txt (aT (ps.take k) ++ ps.getD k [])) (ByteArray.mk #[32]) = some (.str (txt (aT (ps.take (k + 1))))) := by
        rw [sa]; exact txt_add _ [32#8] (by simp only [List.length_append, List.length_cons, List.length_nil]; omega)
      have b2 : strBin .add (txt (bT S (ps.take k) ++ S)) (txt (ps.getD k [])) = some (.str (txt ((bT S (ps.take k) ++ S) ++ ps.getD k []))) := txt_add _ _ (by simp only [List.length_append]; omega)
      have b3 : strBin .add (txt ((bT S (ps.take k) ++ S) ++ ps.getD k [])) (ByteArray.mk #[32]) = some (.str (txt (bT S (ps.take (k + 1))))) := by
        rw [sb]; exact txt_add _ [32#8] (by simp only [List.length_append, List.length_cons, List.length_nil]; omega)
      have na : (aT (ps.take (k + 1))).length ≤ 21 * (k + 1) := by rw [sa]; simp only [List.length_append, List.length_cons, List.length_nil]; omega
      have nb : (bT S (ps.take (k + 1))).length ≤ 23 * (k + 1) := by rw [sb]; simp only [List.length_append, List.length_cons, List.length_nil]; omega
      have b1 : strBin .add (txt (bT S (ps.take k))) (txt S) = some (.str (txt (bT S (ps.take k) ++ S))) := txt_add _ _ (by omega)
      clear sa sb ha hb
      generalize txt (bT S (ps.take k)) = B0 at *
      generalize txt (bT S (ps.take k) ++ S) = B1 at *
      generalize txt (bT S (ps.take k) ++ S ++ ps.getD k []) = B2 at *
      generalize txt (aT (ps.take k)) = A0 at *
      generalize txt (aT (ps.take k) ++ ps.getD k []) = A1 at *
      rcases hj4 with rfl | rfl | rfl | rfl
      all_goals
        simp only [sepsL, List.getD_cons_zero, List.getD_cons_succ] at hS
        subst hS
        first | change strBin .add B0 (ByteArray.mk #[32, 32]) = _ at b1 | change strBin .add B0 (ByteArray.mk #[9]) = _ at b1 | change strBin .add B0 (ByteArray.mk #[10, 32]) = _ at b1 | change strBin .add B0 (ByteArray.mk #[32, 13]) = _ at b1
        repeat (first | ((first | (with_reducible first | refine zP fun K_ hK_ => ?_ | refine zQ fun K_ hK_ => ?_ | refine zT ?_ | refine zU ?_ | refine zV ?_ | refine zW ?_ | refine zX ?_ | refine zY ?_) | ((with_reducible first | refine zR ?_ ?_ fun K_ hK_ => ?_ | refine zS ?_ ?_ fun K_ hK_ => ?_); (focus kernel_rfl); (focus kernel_rfl))); first | (simp (maxSteps := 1000000) (disch := refine hold_ ?_; first | (simp [hk2, hek, hlen, hsz, sz, a1, a2, e1, hy, b1, b2, b3, -List.getD_eq_getElem?_getD]; done) | omega) [hk2, hek, hlen, hsz, sz, a1, a2, e1, hy, b1, b2, b3, -List.getD_eq_getElem?_getD]; try first | (with_reducible refine zZ ?_) | subst hK_) | subst hK_) | (with_reducible first | refine zA ?_ | refine zB ?_ | refine zC ?_ | refine zD ?_ | refine zE ?_ | refine zF ?_ | refine zG ?_ | refine zH ?_ | refine zI ?_ | refine zJ ?_ | refine zK ?_ | refine zL ?_ | refine zM ?_ | refine zN ?_ | refine zO ?_) | ((with_reducible refine yG ?_ ?_); (focus decide)) | ((with_reducible refine yA ?_); refine yB rfl ?_; (with_reducible first | refine yC ?_ | refine yD ?_)))
        refine ⟨ps.length - (k + 1), bSt ps nl y _ (k + 1), by omega, ?_, k + 1, rfl, rfl, by omega, na, nb⟩
        unfold bSt; simp (maxSteps := 1000000) (disch := refine hold_ ?_; first | (simp [-List.getD_eq_getElem?_getD]; done) | omega) [-List.getD_eq_getElem?_getD]
  · have hk2 : k = ps.length := by omega
    subst hk2
    rw [List.take_length] at ha hb ⊢
    have hbr := br_lex (br_ab S (by rw [← hS]; exact seps_blank j hj) ps) (by omega) (by omega)
    have k8a := lex_ct (aT ps) (by omega)
    have k8b := lex_ct (bT S ps) (by omega)
    have la := lexL_len (aT ps)
    unfold lexV lexN at k8a k8b
    generalize lexL (aT ps) = Ra at *
    generalize lexL (bT S ps) = Rb at *
    obtain ⟨ea, Ta, na⟩ := Ra
    obtain ⟨eb, Tb, nb⟩ := Rb
    obtain ⟨h1, h2⟩ := hbr
    simp only at h1 h2 la k8a k8b
    subst h1
    generalize txt (aT ps) = A at *
    generalize txt (bT S ps) = B at *
    by_cases he : ea = 0
    · subst he
      simp only [if_true] at k8a k8b
      have hT : Tb.length = Ta.length := by have := congrArg List.length h2; simpa using this.symm
      have hela := tkR_elem Ta
      have helb := tkR_elem Tb
      repeat (first | ((first | (with_reducible first | refine zP fun K_ hK_ => ?_ | refine zQ fun K_ hK_ => ?_ | refine zT ?_ | refine zU ?_ | refine zV ?_ | refine zW ?_ | refine zX ?_ | refine zY ?_) | ((with_reducible first | refine zR ?_ ?_ fun K_ hK_ => ?_ | refine zS ?_ ?_ fun K_ hK_ => ?_); (focus kernel_rfl); (focus kernel_rfl))); first | (simp (maxSteps := 1000000) (disch := refine hold_ ?_; first | (simp [-List.getD_eq_getElem?_getD]; done) | omega) [-List.getD_eq_getElem?_getD]; try first | (with_reducible refine zZ ?_) | subst hK_) | subst hK_) | (with_reducible first | refine zA ?_ | refine zB ?_ | refine zC ?_ | refine zD ?_ | refine zE ?_ | refine zF ?_ | refine zG ?_ | refine zH ?_ | refine zI ?_ | refine zJ ?_ | refine zK ?_ | refine zL ?_ | refine zM ?_ | refine zN ?_ | refine zO ?_) | ((with_reducible refine yG ?_ ?_); (focus decide)) | ((with_reducible refine yA ?_); refine yB rfl ?_; (with_reducible first | refine yC ?_ | refine yD ?_)))
      repeat (first | ((with_reducible first | refine callK_at 8 ?_); refine callK_p ?_; simp (maxSteps := 1000000) (disch := refine hold_ ?_; first | (simp [hT, -List.getD_eq_getElem?_getD]; done) | omega) [hT, -List.getD_eq_getElem?_getD]; (first | refine callK1_of (Fn.ct k8a Tryd.call8) ?_ | refine callK1_of (Fn.ct k8b Tryd.call8) ?_); (try simp (maxSteps := 1000000) (disch := refine hold_ ?_; first | (simp [hT, -List.getD_eq_getElem?_getD]; done) | omega) [hT, -List.getD_eq_getElem?_getD]); first | (with_reducible refine zZ ?_) | subst hK_) | ((first | (with_reducible first | refine zP fun K_ hK_ => ?_ | refine zQ fun K_ hK_ => ?_ | refine zT ?_ | refine zU ?_ | refine zV ?_ | refine zW ?_ | refine zX ?_ | refine zY ?_) | ((with_reducible first | refine zR ?_ ?_ fun K_ hK_ => ?_ | refine zS ?_ ?_ fun K_ hK_ => ?_); (focus kernel_rfl); (focus kernel_rfl))); first | (simp (maxSteps := 1000000) (disch := refine hold_ ?_; first | (simp [hT, -List.getD_eq_getElem?_getD]; done) | omega) [hT, -List.getD_eq_getElem?_getD]; try first | (with_reducible refine zZ ?_) | subst hK_) | subst hK_) | (with_reducible first | refine zA ?_ | refine zB ?_ | refine zC ?_ | refine zD ?_ | refine zE ?_ | refine zF ?_ | refine zG ?_ | refine zH ?_ | refine zI ?_ | refine zJ ?_ | refine zK ?_ | refine zL ?_ | refine zM ?_ | refine zN ?_ | refine zO ?_) | ((with_reducible refine yG ?_ ?_); (focus decide)) | ((with_reducible refine yA ?_); refine yB rfl ?_; (with_reducible first | refine yC ?_ | refine yD ?_)))
      refine AW.iter (false :: false :: false :: false :: false :: false :: false :: false :: true :: false :: true :: false :: false :: false :: false :: false :: false :: false :: false :: false :: false :: false :: false :: false :: false :: false :: false :: false :: false :: false :: false :: false :: false :: false :: false :: false :: false :: false :: false :: false :: false :: false :: false :: false :: false :: false :: false :: false :: false :: false :: false :: false :: false :: false :: false :: false :: false :: false :: false :: false :: false :: false :: false :: false :: false :: false :: false :: false :: false :: false :: false :: false :: false :: false :: false :: false :: false :: false :: false :: false :: true :: true :: false :: false :: false :: false :: false :: false :: false :: false :: false :: false :: false :: false :: false :: false :: false :: false :: false :: false :: false :: false :: false :: false :: false :: false :: false :: false :: false :: false :: false :: false :: false :: false :: false :: false :: false :: false :: false :: false :: false :: false :: false :: false :: false :: false :: false :: false :: false :: false :: []) Ta.length (fun k => ⟨(V.junk :: V.junk :: V.junk :: V.junk :: V.junk :: V.junk :: V.junk :: V.junk :: .row (tkR Ta) 0 0 na :: V.junk :: .row (tkR Tb) 1 0 nb :: V.junk :: V.junk :: V.junk :: V.junk :: V.junk :: V.junk :: V.junk :: V.junk :: V.junk :: V.junk :: V.junk :: V.junk :: V.junk :: V.junk :: V.junk :: V.junk :: V.junk :: V.junk :: V.junk :: V.junk :: V.junk :: V.junk :: V.junk :: V.junk :: V.junk :: V.junk :: V.junk :: V.junk :: V.junk :: V.junk :: V.junk :: V.junk :: V.junk :: V.junk :: V.junk :: V.junk :: V.junk :: V.junk :: V.junk :: V.junk :: V.junk :: V.junk :: V.junk :: V.junk :: V.junk :: V.junk :: V.junk :: V.junk :: V.junk :: V.junk :: V.junk :: V.junk :: V.junk :: V.junk :: V.junk :: V.junk :: V.junk :: V.junk :: V.junk :: V.junk :: V.junk :: V.junk :: V.junk :: V.junk :: V.junk :: V.junk :: V.junk :: V.junk :: V.junk :: .p (.int .i64 Ta.length) :: .p (.int .i64 k) :: V.junk :: V.junk :: V.junk :: V.junk :: V.junk :: V.junk :: V.junk :: V.junk :: V.junk :: V.junk :: V.junk :: V.junk :: V.junk :: V.junk :: V.junk :: V.junk :: V.junk :: V.junk :: V.junk :: V.junk :: V.junk :: V.junk :: V.junk :: V.junk :: V.junk :: V.junk :: V.junk :: V.junk :: V.junk :: V.junk :: V.junk :: V.junk :: V.junk :: V.junk :: V.junk :: V.junk :: V.junk :: V.junk :: V.junk :: V.junk :: V.junk :: V.junk :: V.junk :: V.junk :: V.junk :: V.junk :: V.junk :: V.junk :: []), ⟨[], [(0, 0), (1, 0)]⟩⟩) ?_ ?_
      · simp (maxSteps := 1000000) (disch := refine hold_ ?_; first | (simp [-List.getD_eq_getElem?_getD]; done) | omega) [-List.getD_eq_getElem?_getD]
      intro k hk
      have e1 : IntKind.i64.wrap ((k : Int) + 1) = k + 1 := wrap_i64 _ (by omega) (by omega)
      repeat (first | ((first | (with_reducible first | refine zP fun K_ hK_ => ?_ | refine zQ fun K_ hK_ => ?_ | refine zT ?_ | refine zU ?_ | refine zV ?_ | refine zW ?_ | refine zX ?_ | refine zY ?_) | ((with_reducible first | refine zR ?_ ?_ fun K_ hK_ => ?_ | refine zS ?_ ?_ fun K_ hK_ => ?_); (focus kernel_rfl); (focus kernel_rfl))); first | (simp (maxSteps := 1000000) (disch := refine hold_ ?_; first | (simp [-List.getD_eq_getElem?_getD]; done) | omega) [-List.getD_eq_getElem?_getD]; try first | (with_reducible refine zZ ?_) | subst hK_) | subst hK_) | (with_reducible first | refine zA ?_ | refine zB ?_ | refine zC ?_ | refine zD ?_ | refine zE ?_ | refine zF ?_ | refine zG ?_ | refine zH ?_ | refine zI ?_ | refine zJ ?_ | refine zK ?_ | refine zL ?_ | refine zM ?_ | refine zN ?_ | refine zO ?_) | ((with_reducible refine yG ?_ ?_); (focus decide)) | ((with_reducible refine yA ?_); refine yB rfl ?_; (with_reducible first | refine yC ?_ | refine yD ?_)))
      first | refine AW.condD rfl (fun hc => ?_) (fun hc => ?_) | refine AW.cond rfl (fun hc => ?_) (fun hc => ?_)
      · have hk2 : k < Ta.length := by omega
        have hkb : k < Tb.length := by omega
        have hka := hela k hk2
        have hkb2 := helb k hkb
        have hkey : tkey (Ta.getD k ⟨0, [], 0⟩) = tkey (Tb.getD k ⟨0, [], 0⟩) := by
          have := congrArg (fun l => l[k]?) h2
          simp only [List.getElem?_map, List.getElem?_eq_getElem hk2, List.getElem?_eq_getElem hkb, Option.map_some, Option.some.injEq] at this
          rw [List.getD_eq_getElem?_getD, List.getD_eq_getElem?_getD, List.getElem?_eq_getElem hk2, List.getElem?_eq_getElem hkb]
          exact this
        unfold tokP at hka hkb2
        generalize Ta.getD k ⟨0, [], 0⟩ = ta at *
        generalize Tb.getD k ⟨0, [], 0⟩ = tb at *
        obtain ⟨ca, xa, va⟩ := ta
        obtain ⟨cb, xb, vb⟩ := tb
        simp only [tkey, Prod.mk.injEq] at hkey
        obtain ⟨rfl, rfl, hx⟩ := hkey
        simp only at hka hkb2
        by_cases h2 : ca = 2
        · subst h2
          repeat (first | ((first | (with_reducible first | refine zP fun K_ hK_ => ?_ | refine zQ fun K_ hK_ => ?_ | refine zT ?_ | refine zU ?_ | refine zV ?_ | refine zW ?_ | refine zX ?_ | refine zY ?_) | ((with_reducible first | refine zR ?_ ?_ fun K_ hK_ => ?_ | refine zS ?_ ?_ fun K_ hK_ => ?_); (focus kernel_rfl); (focus kernel_rfl))); first | (simp (maxSteps := 1000000) (disch := refine hold_ ?_; first | (simp [hk2, hka, hkb2, hT, e1, -List.getD_eq_getElem?_getD]; done) | omega) [hk2, hka, hkb2, hT, e1, -List.getD_eq_getElem?_getD]; try first | (with_reducible refine zZ ?_) | subst hK_) | subst hK_) | (with_reducible first | refine zA ?_ | refine zB ?_ | refine zC ?_ | refine zD ?_ | refine zE ?_ | refine zF ?_ | refine zG ?_ | refine zH ?_ | refine zI ?_ | refine zJ ?_ | refine zK ?_ | refine zL ?_ | refine zM ?_ | refine zN ?_ | refine zO ?_) | ((with_reducible refine yG ?_ ?_); (focus decide)) | ((with_reducible refine yA ?_); refine yB rfl ?_; (with_reducible first | refine yC ?_ | refine yD ?_)))
          refine ⟨hk2, ?_⟩
          simp (maxSteps := 1000000) (disch := refine hold_ ?_; first | (simp [-List.getD_eq_getElem?_getD]; done) | omega) [-List.getD_eq_getElem?_getD]
        · have q : ((ca : Int) != 2) = true := by rw [bne_iff_ne]; omega
          rw [if_neg h2, if_neg h2] at hx
          subst hx
          have ne : strBin .neq (txt xa) (txt xa) = some (.bool false) := by rw [str_neq_txt]; simp
          repeat (first | ((first | (with_reducible first | refine zP fun K_ hK_ => ?_ | refine zQ fun K_ hK_ => ?_ | refine zT ?_ | refine zU ?_ | refine zV ?_ | refine zW ?_ | refine zX ?_ | refine zY ?_) | ((with_reducible first | refine zR ?_ ?_ fun K_ hK_ => ?_ | refine zS ?_ ?_ fun K_ hK_ => ?_); (focus kernel_rfl); (focus kernel_rfl))); first | (simp (maxSteps := 1000000) (disch := refine hold_ ?_; first | (simp [hk2, hka, hkb2, hT, e1, q, ne, -List.getD_eq_getElem?_getD]; done) | omega) [hk2, hka, hkb2, hT, e1, q, ne, -List.getD_eq_getElem?_getD]; try first | (with_reducible refine zZ ?_) | subst hK_) | subst hK_) | (with_reducible first | refine zA ?_ | refine zB ?_ | refine zC ?_ | refine zD ?_ | refine zE ?_ | refine zF ?_ | refine zG ?_ | refine zH ?_ | refine zI ?_ | refine zJ ?_ | refine zK ?_ | refine zL ?_ | refine zM ?_ | refine zN ?_ | refine zO ?_) | ((with_reducible refine yG ?_ ?_); (focus decide)) | ((with_reducible refine yA ?_); refine yB rfl ?_; (with_reducible first | refine yC ?_ | refine yD ?_)))
          refine ⟨hk2, ?_⟩
          simp (maxSteps := 1000000) (disch := refine hold_ ?_; first | (simp [-List.getD_eq_getElem?_getD]; done) | omega) [-List.getD_eq_getElem?_getD]
      · have hk2 : k = Ta.length := by omega
        subst hk2
        repeat (first | ((first | (with_reducible first | refine zP fun K_ hK_ => ?_ | refine zQ fun K_ hK_ => ?_ | refine zT ?_ | refine zU ?_ | refine zV ?_ | refine zW ?_ | refine zX ?_ | refine zY ?_) | ((with_reducible first | refine zR ?_ ?_ fun K_ hK_ => ?_ | refine zS ?_ ?_ fun K_ hK_ => ?_); (focus kernel_rfl); (focus kernel_rfl))); first | (simp (maxSteps := 1000000) (disch := refine hold_ ?_; first | (simp [-List.getD_eq_getElem?_getD]; done) | omega) [-List.getD_eq_getElem?_getD]; try first | (with_reducible refine zZ ?_) | subst hK_) | subst hK_) | (with_reducible first | refine zA ?_ | refine zB ?_ | refine zC ?_ | refine zD ?_ | refine zE ?_ | refine zF ?_ | refine zG ?_ | refine zH ?_ | refine zI ?_ | refine zJ ?_ | refine zK ?_ | refine zL ?_ | refine zM ?_ | refine zN ?_ | refine zO ?_) | ((with_reducible refine yG ?_ ?_); (focus decide)) | ((with_reducible refine yA ?_); refine yB rfl ?_; (with_reducible first | refine yC ?_ | refine yD ?_)))
        simp (maxSteps := 1000000) (disch := refine hold_ ?_; first | (simp [-List.getD_eq_getElem?_getD]; done) | omega) [-List.getD_eq_getElem?_getD]
    · simp only [if_neg he] at k8a k8b
      repeat (first | ((first | (with_reducible first | refine zP fun K_ hK_ => ?_ | refine zQ fun K_ hK_ => ?_ | refine zT ?_ | refine zU ?_ | refine zV ?_ | refine zW ?_ | refine zX ?_ | refine zY ?_) | ((with_reducible first | refine zR ?_ ?_ fun K_ hK_ => ?_ | refine zS ?_ ?_ fun K_ hK_ => ?_); (focus kernel_rfl); (focus kernel_rfl))); first | (simp (maxSteps := 1000000) (disch := refine hold_ ?_; first | (simp [-List.getD_eq_getElem?_getD]; done) | omega) [-List.getD_eq_getElem?_getD]; try first | (with_reducible refine zZ ?_) | subst hK_) | subst hK_) | (with_reducible first | refine zA ?_ | refine zB ?_ | refine zC ?_ | refine zD ?_ | refine zE ?_ | refine zF ?_ | refine zG ?_ | refine zH ?_ | refine zI ?_ | refine zJ ?_ | refine zK ?_ | refine zL ?_ | refine zM ?_ | refine zN ?_ | refine zO ?_) | ((with_reducible refine yG ?_ ?_); (focus decide)) | ((with_reducible refine yA ?_); refine yB rfl ?_; (with_reducible first | refine yC ?_ | refine yD ?_)))
      repeat (first | ((with_reducible first | refine callK_at 8 ?_); refine callK_p ?_; simp (maxSteps := 1000000) (disch := refine hold_ ?_; first | (simp [-List.getD_eq_getElem?_getD]; done) | omega) [-List.getD_eq_getElem?_getD]; (first | refine callK1_of (Fn.ct k8a Tryd.call8) ?_ | refine callK1_of (Fn.ct k8b Tryd.call8) ?_); (try simp (maxSteps := 1000000) (disch := refine hold_ ?_; first | (simp [-List.getD_eq_getElem?_getD]; done) | omega) [-List.getD_eq_getElem?_getD]); first | (with_reducible refine zZ ?_) | subst hK_) | ((first | (with_reducible first | refine zP fun K_ hK_ => ?_ | refine zQ fun K_ hK_ => ?_ | refine zT ?_ | refine zU ?_ | refine zV ?_ | refine zW ?_ | refine zX ?_ | refine zY ?_) | ((with_reducible first | refine zR ?_ ?_ fun K_ hK_ => ?_ | refine zS ?_ ?_ fun K_ hK_ => ?_); (focus kernel_rfl); (focus kernel_rfl))); first | (simp (maxSteps := 1000000) (disch := refine hold_ ?_; first | (simp [-List.getD_eq_getElem?_getD]; done) | omega) [-List.getD_eq_getElem?_getD]; try first | (with_reducible refine zZ ?_) | subst hK_) | subst hK_) | (with_reducible first | refine zA ?_ | refine zB ?_ | refine zC ?_ | refine zD ?_ | refine zE ?_ | refine zF ?_ | refine zG ?_ | refine zH ?_ | refine zI ?_ | refine zJ ?_ | refine zK ?_ | refine zL ?_ | refine zM ?_ | refine zN ?_ | refine zO ?_) | ((with_reducible refine yG ?_ ?_); (focus decide)) | ((with_reducible refine yA ?_); refine yB rfl ?_; (with_reducible first | refine yC ?_ | refine yD ?_)))
      refine AW.iter (false :: false :: false :: false :: false :: false :: false :: false :: false :: false :: false :: false :: false :: false :: false :: false :: false :: false :: false :: false :: false :: false :: false :: false :: false :: false :: false :: false :: false :: false :: false :: false :: false :: false :: false :: false :: false :: false :: false :: false :: false :: false :: false :: false :: false :: false :: false :: false :: false :: false :: false :: false :: false :: false :: false :: false :: false :: false :: false :: false :: false :: false :: false :: false :: false :: false :: false :: false :: false :: false :: false :: false :: false :: false :: false :: false :: false :: false :: false :: false :: true :: true :: false :: false :: false :: false :: false :: false :: false :: false :: false :: false :: false :: false :: false :: false :: false :: false :: false :: false :: false :: false :: false :: false :: false :: false :: false :: false :: false :: false :: false :: false :: false :: false :: false :: false :: false :: false :: false :: false :: false :: false :: false :: false :: false :: false :: false :: false :: false :: false :: []) 0 (fun k => ⟨(V.junk :: V.junk :: V.junk :: V.junk :: V.junk :: V.junk :: V.junk :: V.junk :: V.junk :: V.junk :: V.junk :: V.junk :: V.junk :: V.junk :: V.junk :: V.junk :: V.junk :: V.junk :: V.junk :: V.junk :: V.junk :: V.junk :: V.junk :: V.junk :: V.junk :: V.junk :: V.junk :: V.junk :: V.junk :: V.junk :: V.junk :: V.junk :: V.junk :: V.junk :: V.junk :: V.junk :: V.junk :: V.junk :: V.junk :: V.junk :: V.junk :: V.junk :: V.junk :: V.junk :: V.junk :: V.junk :: V.junk :: V.junk :: V.junk :: V.junk :: V.junk :: V.junk :: V.junk :: V.junk :: V.junk :: V.junk :: V.junk :: V.junk :: V.junk :: V.junk :: V.junk :: V.junk :: V.junk :: V.junk :: V.junk :: V.junk :: V.junk :: V.junk :: V.junk :: V.junk :: V.junk :: V.junk :: V.junk :: V.junk :: V.junk :: V.junk :: V.junk :: V.junk :: V.junk :: V.junk :: .p (.int .i64 0) :: .p (.int .i64 k) :: V.junk :: V.junk :: V.junk :: V.junk :: V.junk :: V.junk :: V.junk :: V.junk :: V.junk :: V.junk :: V.junk :: V.junk :: V.junk :: V.junk :: V.junk :: V.junk :: V.junk :: V.junk :: V.junk :: V.junk :: V.junk :: V.junk :: V.junk :: V.junk :: V.junk :: V.junk :: V.junk :: V.junk :: V.junk :: V.junk :: V.junk :: V.junk :: V.junk :: V.junk :: V.junk :: V.junk :: V.junk :: V.junk :: V.junk :: V.junk :: V.junk :: V.junk :: V.junk :: V.junk :: V.junk :: V.junk :: V.junk :: V.junk :: []), ⟨[], []⟩⟩) ?_ ?_
      · simp (maxSteps := 1000000) (disch := refine hold_ ?_; first | (simp [-List.getD_eq_getElem?_getD]; done) | omega) [-List.getD_eq_getElem?_getD]
      intro k hk
      have hk2 : k = 0 := by omega
      subst hk2
      repeat (first | ((first | (with_reducible first | refine zP fun K_ hK_ => ?_ | refine zQ fun K_ hK_ => ?_ | refine zT ?_ | refine zU ?_ | refine zV ?_ | refine zW ?_ | refine zX ?_ | refine zY ?_) | ((with_reducible first | refine zR ?_ ?_ fun K_ hK_ => ?_ | refine zS ?_ ?_ fun K_ hK_ => ?_); (focus kernel_rfl); (focus kernel_rfl))); first | (simp (maxSteps := 1000000) (disch := refine hold_ ?_; first | (simp [-List.getD_eq_getElem?_getD]; done) | omega) [-List.getD_eq_getElem?_getD]; try first | (with_reducible refine zZ ?_) | subst hK_) | subst hK_) | (with_reducible first | refine zA ?_ | refine zB ?_ | refine zC ?_ | refine zD ?_ | refine zE ?_ | refine zF ?_ | refine zG ?_ | refine zH ?_ | refine zI ?_ | refine zJ ?_ | refine zK ?_ | refine zL ?_ | refine zM ?_ | refine zN ?_ | refine zO ?_) | ((with_reducible refine yG ?_ ?_); (focus decide)) | ((with_reducible refine yA ?_); refine yB rfl ?_; (with_reducible first | refine yC ?_ | refine yD ?_)))
      simp (maxSteps := 1000000) (disch := refine hold_ ?_; first | (simp [-List.getD_eq_getElem?_getD]; done) | omega) [-List.getD_eq_getElem?_getD]
theorem blanks_ct (ps : List (List (BitVec 8))) (nl : Bool) (y : Int) (hy : 0 ≤ y ∧ y < 256) : Fn Tryd.prog 4 [.sl (sR ps) nl, .int .u8 y] [.p (.bool true)] := by
  by_cases h : ps.length ≤ 30
  · obtain ⟨j, hj, hm⟩ : ∃ j : Nat, j < 4 ∧ Int.tmod y 4 = (j : Int) := by
      obtain ⟨m, rfl⟩ := Int.eq_ofNat_of_zero_le hy.1
      exact ⟨m % 4, Nat.mod_lt _ (by decide), by have := tmod_nat m 4; simpa using this⟩
    exact blanks_loop ps nl y j hj hm h
  · have hlen : (sR ps).len = ps.length := by simp [sR]
    have hz : (30 : Int) < ps.length := by omega
    refine Fn.of_body Tryd.func4 rfl ?_
    repeat (first | ((with_reducible first | refine callK_at 7 ?_); refine callK_p ?_; simp (maxSteps := 1000000) (disch := refine hold_ ?_; first | (simp [hlen, hz, -List.getD_eq_getElem?_getD]; done) | omega) [hlen, hz, -List.getD_eq_getElem?_getD]; (first | refine callK1_of (Fn.ct awake_ct Tryd.call7) ?_ | refine callK1_of (Fn.ct awake_ct Tryd.call7) ?_); (try simp (maxSteps := 1000000) (disch := refine hold_ ?_; first | (simp [hlen, hz, -List.getD_eq_getElem?_getD]; done) | omega) [hlen, hz, -List.getD_eq_getElem?_getD]); first | (with_reducible refine zZ ?_) | subst hK_) | ((first | (with_reducible first | refine zP fun K_ hK_ => ?_ | refine zQ fun K_ hK_ => ?_ | refine zT ?_ | refine zU ?_ | refine zV ?_ | refine zW ?_ | refine zX ?_ | refine zY ?_) | ((with_reducible first | refine zR ?_ ?_ fun K_ hK_ => ?_ | refine zS ?_ ?_ fun K_ hK_ => ?_); (focus kernel_rfl); (focus kernel_rfl))); first | (simp (maxSteps := 1000000) (disch := refine hold_ ?_; first | (simp [hlen, hz, -List.getD_eq_getElem?_getD]; done) | omega) [hlen, hz, -List.getD_eq_getElem?_getD]; try first | (with_reducible refine zZ ?_) | subst hK_) | subst hK_) | (with_reducible first | refine zA ?_ | refine zB ?_ | refine zC ?_ | refine zD ?_ | refine zE ?_ | refine zF ?_ | refine zG ?_ | refine zH ?_ | refine zI ?_ | refine zJ ?_ | refine zK ?_ | refine zL ?_ | refine zM ?_ | refine zN ?_ | refine zO ?_) | ((with_reducible refine yG ?_ ?_); (focus decide)) | ((with_reducible refine yA ?_); refine yB rfl ?_; (with_reducible first | refine yC ?_ | refine yD ?_)))
    all_goals simp (maxSteps := 1000000) (disch := refine hold_ ?_; first | (simp [-List.getD_eq_getElem?_getD]; done) | omega) [-List.getD_eq_getElem?_getD]
end Go.Av.Lex
end
section
set_option linter.unusedSimpArgs false
set_option linter.unusedVariables false
namespace Go.Av
open Go Go.Proofs
section
open Go.ChangeShapes Go.WideShapes Go.RowKit Go.ChangeAt
variable {P : Program} {H : Type} {enc : TypeId × Value → H} {w : World} {base : Nat} {spare : Nat → Bool} {held : Bool}
theorem open_strs {r : Reach} {b0 t e : Nat} {v : Value} {d : DataW H} {ps : List MemPlace} (ht : P.underlying t = some (.slice e)) (he : P.underlying e = some .string) (hc : P.cellsOf e = 1)
    (hval : Value.okWide P w r b0 t v) (hd : DataW.Trod enc P w base spare held t v d ps) :
    ∃ (l : List (List (BitVec 8))) (nl : Bool), RepP (cellsOf w) (.sl (.strs (l.map txt)) nl) v ∧ l.length ≤ maxLen := by
  obtain ⟨a0, len0, cap0, rfl⟩ := okWide_slice ht hval
  obtain ⟨fuel, hf⟩ := hd
  have back : ∀ ss : List ByteArray, ∃ l : List (List (BitVec 8)), l.map txt = ss := by
    intro ss
    induction ss with
    | nil => exact ⟨[], rfl⟩
    | cons s ss ih =>
      obtain ⟨l, hl⟩ := ih
      obtain ⟨u, rfl⟩ := txt_of s
      exact ⟨u :: l, by rw [List.map_cons, hl]⟩
  rcases open_strings ht he hc hf with ⟨hcs, _⟩ | ⟨a, len, cap, ss, hcs, _, hl, hm, hz, _, hcell, hwz⟩
  · simp [Value.cells] at hcs
    obtain ⟨rfl, rfl, rfl⟩ := hcs
    exact ⟨[], true, .slNil _ rfl, Nat.zero_le _⟩
  · simp [Value.cells] at hcs
    obtain ⟨rfl, rfl, rfl⟩ := hcs
    have hzl : len0 ≤ ss.length := by rw [hz]; split <;> omega
    obtain ⟨l, hl2⟩ := back (ss.take len0)
    have hll : l.length = len0 := by have := congrArg List.length hl2; simp at this; omega
    refine ⟨l, false, ?_, by omega⟩
    rw [hl2]
    have e : (Row.strs (ss.take len0) : Row PV).len = len0 := by simp [Row.len]; omega
    have := RepP.sl (m := cellsOf w) (.strs (ss.take len0)) a cap0 (fun i _ => .string (ss.getD i ByteArray.empty)) (by rw [e]; exact hl) ?_ ?_ ?_ ?_ ?_
    · rw [e] at this; exact this
    · by_cases h0 : len0 = 0
      · left; rw [e]; exact h0
      · right
        have := World.cell?_spot (hcell 0 (by omega))
        simpa [Addr.add] using this
    · intro i hi; rfl
    · intro i j hi hj
      rw [e] at hi
      simp only [Row.sz] at hj ⊢
      obtain rfl : j = 0 := by omega
      simp only [Nat.mul_one, Nat.add_zero]
      exact cell_add (hcell i (by omega))
    · intro i j hi hj; rfl
    · intro i j hi hj
      rw [e] at hi
      simp only [Row.elem, PV.cell]
      have : (ss.take len0).getD i ByteArray.empty = ss.getD i ByteArray.empty := by simp [List.getD_eq_getElem?_getD, List.getElem?_take, hi]
      rw [this]; exact .str _
end
end Go.Av
namespace Go.Av.Lex
open Go Go.Av Go.Proofs
theorem blanks_law (l : List (List (BitVec 8))) (nl : Bool) (y : Int) (wy : (Lit.int .u8 y).wf = true) : Fn Tryd.prog 4 [.sl (.strs (l.map txt)) nl, .int .u8 y] [.p (.bool true)] := blanks_ct l nl y (wf_u8 wy)
end Go.Av.Lex
end
