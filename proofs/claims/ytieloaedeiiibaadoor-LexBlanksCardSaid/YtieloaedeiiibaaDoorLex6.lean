/- The walks of this seat's functions, and what is known of what they reckon (Lex6). Conditions: those that each theorem names. -/
import Derived.Test.YtieloaedeiiibaaDoorLex5
import Derived.Lib.LaidU8
section
set_option linter.unusedSimpArgs false
set_option linter.unusedVariables false
open Go Go.Av Go.Proofs
namespace Go.Av.Lex
set_option maxHeartbeats 16000000 in
theorem named_ct (S : List (BitVec 8)) (T : List Tok) (nl : Bool) (hl : S.length ≤ 100000) (hT : T.length ≤ 100000) (hok : okB S) :
    FnG Tryd.prog 33 [.ptr 10000 0 0] [rdH S T 10000 0 nl] 1 [.p (.bool (namedR S T nl).1)] [rdH (namedR S T nl).2.1 (namedR S T nl).2.2.1 0 0 (namedR S T nl).2.2.2] 1 := by
  have hsz := txt_size S
  have k46 := word_ct1 S (by omega) hok
  have hwl := wordL_le S
  have hws := txt_size (wordL S)
  have x1 : (txt S).extract (wordL S).length S.length = txt (S.drop (wordL S).length) := by rw [txt_extract, List.take_length]
  have hwz : ((wordL S).length : Int) ≤ S.length := by omega
  have hq : strBin .eql (txt (wordL S)) (ByteArray.mk #[]) = some (.bool (wordL S == [])) := str_eq_txt (wordL S) []
  have hrl : (S.drop (wordL S).length).length = S.length - (wordL S).length := List.length_drop
  have hokr := okB_word hok
  have t0 : ByteArray.mk #[] = txt [] := rfl
  unfold namedR
  by_cases hw : wordL S = []
  · rw [hw] at hq k46
    rw [hw]
    unfold rdH
    simp only [beq_self_eq_true, if_true]
    refine FnG.of_body Tryd.func33 rfl ?_
    repeat (first | ((with_reducible first | refine callK_at 46 ?_); refine callK_p ?_; simp (maxSteps := 1000000) (disch := refine hold_ ?_; first | (simp [hsz, hq, -List.getD_eq_getElem?_getD]; done) | omega) [hsz, hq, -List.getD_eq_getElem?_getD]; (first | refine callK1_of (Fn.ct k46 Tryd.call46) ?_); (try simp (maxSteps := 1000000) (disch := refine hold_ ?_; first | (simp [hsz, hq, -List.getD_eq_getElem?_getD]; done) | omega) [hsz, hq, -List.getD_eq_getElem?_getD]); first | (with_reducible refine zZ ?_) | subst hK_) | ((first | (with_reducible first | refine zP fun K_ hK_ => ?_ | refine zQ fun K_ hK_ => ?_ | refine zT ?_ | refine zU ?_ | refine zV ?_ | refine zW ?_ | refine zX ?_ | refine zY ?_) | ((with_reducible first | refine zR ?_ ?_ fun K_ hK_ => ?_ | refine zS ?_ ?_ fun K_ hK_ => ?_); (focus kernel_rfl); (focus kernel_rfl))); first | (simp (maxSteps := 1000000) (disch := refine hold_ ?_; first | (simp [hsz, hq, -List.getD_eq_getElem?_getD]; done) | omega) [hsz, hq, -List.getD_eq_getElem?_getD]; try first | (with_reducible refine zZ ?_) | subst hK_) | subst hK_) | (with_reducible first | refine zA ?_ | refine zB ?_ | refine zC ?_ | refine zD ?_ | refine zE ?_ | refine zF ?_ | refine zG ?_ | refine zH ?_ | refine zI ?_ | refine zJ ?_ | refine zK ?_ | refine zL ?_ | refine zM ?_ | refine zN ?_ | refine zO ?_) | ((with_reducible refine yG ?_ ?_); (focus decide)) | ((with_reducible refine yA ?_); refine yB rfl ?_; (with_reducible first | refine yC ?_ | refine yD ?_)))
    all_goals simp (maxSteps := 1000000) (disch := refine hold_ ?_; first | (simp [-List.getD_eq_getElem?_getD]; done) | omega) [-List.getD_eq_getElem?_getD]
  have hwf : (wordL S == []) = false := beq_eq_false_iff_ne.2 hw
  rw [hwf] at hq
  rw [hwf]
  simp only [Bool.false_eq_true, if_false]
  generalize hwg : wordL S = w at *
  generalize hrg : S.drop w.length = rest at *
  have hrsz := txt_size rest
  have k1 := hp_ct rest [58#8, 42#8]
  by_cases hB : preB rest [58#8, 42#8] = true
  · rw [hB] at k1
    rw [hB]
    simp only [if_true]
    have h2 : 2 ≤ rest.length := (preB_cons hB).1
    have h2z : (2 : Int) ≤ rest.length := by omega
    have x2 : (txt rest).extract 2 rest.length = txt (rest.drop 2) := by rw [txt_extract, List.take_length]
    have kp := put_ct (rest.drop 2) T nl ⟨5, w, 0⟩ hT
    unfold rdH at *
    refine FnG.of_body Tryd.func33 rfl ?_
    repeat (first | ((with_reducible first | refine callK_at 46 ?_ | refine callK_at 42 ?_); refine callK_p ?_; simp (maxSteps := 1000000) (disch := refine hold_ ?_; first | (simp [hsz, hq, hws, hwl, hwz, x1, hrsz, h2, h2z, x2, -List.getD_eq_getElem?_getD]; done) | omega) [hsz, hq, hws, hwl, hwz, x1, hrsz, h2, h2z, x2, -List.getD_eq_getElem?_getD]; (first | refine callK1_of (Fn.ct k46 Tryd.call46) ?_ | refine callK1_of (Fn.ct k1 Tryd.call42) ?_); (try simp (maxSteps := 1000000) (disch := refine hold_ ?_; first | (simp [hsz, hq, hws, hwl, hwz, x1, hrsz, h2, h2z, x2, -List.getD_eq_getElem?_getD]; done) | omega) [hsz, hq, hws, hwl, hwz, x1, hrsz, h2, h2z, x2, -List.getD_eq_getElem?_getD]); first | (with_reducible refine zZ ?_) | subst hK_) | ((with_reducible first | refine callK_at 28 ?_); refine callK_o (by decide) ?_; simp (maxSteps := 1000000) (disch := refine hold_ ?_; first | (simp [hsz, hq, hws, hwl, hwz, x1, hrsz, h2, h2z, x2, -List.getD_eq_getElem?_getD]; done) | omega) [hsz, hq, hws, hwl, hwz, x1, hrsz, h2, h2z, x2, -List.getD_eq_getElem?_getD]; (first | refine callK3_of (FnG.ct kp Tryd.call28) ?_); (try simp (maxSteps := 1000000) (disch := refine hold_ ?_; first | (simp [hsz, hq, hws, hwl, hwz, x1, hrsz, h2, h2z, x2, -List.getD_eq_getElem?_getD]; done) | omega) [hsz, hq, hws, hwl, hwz, x1, hrsz, h2, h2z, x2, -List.getD_eq_getElem?_getD]); first | (with_reducible refine zZ ?_) | subst hK_) | ((first | (with_reducible first | refine zP fun K_ hK_ => ?_ | refine zQ fun K_ hK_ => ?_ | refine zT ?_ | refine zU ?_ | refine zV ?_ | refine zW ?_ | refine zX ?_ | refine zY ?_) | ((with_reducible first | refine zR ?_ ?_ fun K_ hK_ => ?_ | refine zS ?_ ?_ fun K_ hK_ => ?_); (focus kernel_rfl); (focus kernel_rfl))); first | (simp (maxSteps := 1000000) (disch := refine hold_ ?_; first | (simp [hsz, hq, hws, hwl, hwz, x1, hrsz, h2, h2z, x2, -List.getD_eq_getElem?_getD]; done) | omega) [hsz, hq, hws, hwl, hwz, x1, hrsz, h2, h2z, x2, -List.getD_eq_getElem?_getD]; try first | (with_reducible refine zZ ?_) | subst hK_) | subst hK_) | (with_reducible first | refine zA ?_ | refine zB ?_ | refine zC ?_ | refine zD ?_ | refine zE ?_ | refine zF ?_ | refine zG ?_ | refine zH ?_ | refine zI ?_ | refine zJ ?_ | refine zK ?_ | refine zL ?_ | refine zM ?_ | refine zN ?_ | refine zO ?_) | ((with_reducible refine yG ?_ ?_); (focus decide)) | ((with_reducible refine yA ?_); refine yB rfl ?_; (with_reducible first | refine yC ?_ | refine yD ?_)))
    all_goals simp (maxSteps := 1000000) (disch := refine hold_ ?_; first | (simp [-List.getD_eq_getElem?_getD]; done) | omega) [-List.getD_eq_getElem?_getD]
  have hBf : preB rest [58#8, 42#8] = false := by simpa using hB
  rw [hBf] at k1
  rw [hBf]
  simp only [Bool.false_eq_true, if_false]
  have kc := cp_ct rest [58#8]
  have tailK : ∀ w2 rest2 : List (BitVec 8), Fn Tryd.prog 12 [.str (txt rest2)] [.p (.str (txt (skL rest2)))] ∧
      Fn Tryd.prog 42 [.str (txt (skL rest2)), .str (txt [58#8, 58#8])] [.p (.bool (preB (skL rest2) [58#8, 58#8]))] ∧ Fn Tryd.prog 47 [.str (txt w2), .str (txt [58#8])] [.p (.bool (w2.contains 58#8))] ∧
      Fn Tryd.prog 42 [.str (txt (skL rest2)), .str (txt [40#8])] [.p (.bool (preB (skL rest2) [40#8]))] ∧
      Fn Tryd.prog 44 [.sl (.strs [ByteArray.mk #[99, 111, 109, 109, 101, 110, 116], ByteArray.mk #[116, 101, 120, 116], ByteArray.mk #[112, 114, 111, 99, 101, 115, 115, 105, 110, 103, 45, 105, 110, 115, 116, 114, 117, 99, 116, 105, 111, 110], ByteArray.mk #[110, 111, 100, 101]]) false, .str (txt w2)] [.p (.bool (typesL.contains w2))] :=
    fun w2 rest2 => ⟨skip_ct rest2, hp_ct _ _, contains_ct w2 58#8, hp_ct _ _, scont_ct typesL false w2 (by decide)⟩
  have kput : ∀ (w2 rest2 : List (BitVec 8)) (k : Nat), FnG Tryd.prog 28 [.ptr 10000 0 0, .p (.int .i64 k), .p (.str (txt w2)), .p (.int .i64 (0 : Nat))] [rdH rest2 T 10000 0 nl] 1 [] [rdH rest2 (T ++ [⟨k, w2, 0⟩]) 0 0 false] 1 := fun w2 rest2 k => put_ct rest2 T nl ⟨k, w2, 0⟩ hT
  by_cases hC : preB rest [58#8] = true
  · rw [hC] at kc
    simp only [if_true, List.length_cons, List.length_nil, Nat.zero_add] at kc
    have hokl : okB (rest.drop 1) := okB_pre1 hokr hC (by decide)
    have hc1 := (preB_cons hC).1
    simp only [List.length_cons, List.length_nil, Nat.zero_add] at hc1
    have kw := word_ct1 (rest.drop 1) (by rw [List.length_drop]; omega) hokl
    have hwl2 := wordL_le (rest.drop 1)
    have hdl2 : (rest.drop 1).length = rest.length - 1 := List.length_drop
    have hfull : fullB rest = !(wordL (rest.drop 1) == []) := by unfold fullB; rw [hC]; rfl
    rw [hfull]
    have hq2 : strBin .neq (txt (wordL (rest.drop 1))) (ByteArray.mk #[]) = some (.bool !(wordL (rest.drop 1) == [])) := str_neq_txt (wordL (rest.drop 1)) []
    by_cases hE : wordL (rest.drop 1) = []
    · have hEb : (wordL (rest.drop 1) == []) = true := beq_iff_eq.2 hE
      rw [hEb] at hq2
      rw [hEb]
      simp only [Bool.not_true, Bool.false_eq_true, if_false] at hq2 ⊢
      generalize txt (wordL (rest.drop 1)) = WL at *
      generalize txt (rest.drop 1) = LO at *
      obtain ⟨ks, kd, ke, kf, kg⟩ := tailK (w) (rest)
      have kp6 := kput (w) (rest) 6
      have kp7 := kput (w) (rest) 7
      have kp8 := kput (w) (rest) 8
      have kp9 := kput (w) (rest) 9
      unfold namedT kindN
      unfold rdH at *
      generalize skL (rest) = next at *
      generalize preB next [58#8, 58#8] = D at *
      generalize List.contains (w) 58#8 = E at *
      generalize preB next [40#8] = F at *
      generalize typesL.contains (w) = G at *
      refine FnG.of_body Tryd.func33 rfl ?_
      cases D <;> cases E <;> cases F <;> cases G
      all_goals
        repeat (first | ((with_reducible first | refine callK_at 46 ?_ | refine callK_at 42 ?_ | refine callK_at 45 ?_ | refine callK_at 12 ?_ | refine callK_at 47 ?_ | refine callK_at 44 ?_); refine callK_p ?_; simp (maxSteps := 1000000) (disch := refine hold_ ?_; first | (simp [hsz, hq, hws, hwl, hwz, x1, hrsz, hq2, -List.getD_eq_getElem?_getD]; done) | omega) [hsz, hq, hws, hwl, hwz, x1, hrsz, hq2, -List.getD_eq_getElem?_getD]; (first | refine callK1_of (Fn.ct k46 Tryd.call46) ?_ | refine callK1_of (Fn.ct k1 Tryd.call42) ?_ | refine callK1_of (Fn.ct kc Tryd.call45) ?_ | refine callK1_of (Fn.ct kw Tryd.call46) ?_ | refine callK1_of (Fn.ct ks Tryd.call12) ?_ | refine callK1_of (Fn.ct kd Tryd.call42) ?_ | refine callK1_of (Fn.ct ke Tryd.call47) ?_ | refine callK1_of (Fn.ct kf Tryd.call42) ?_ | refine callK1_of (Fn.ct kg Tryd.call44) ?_); (try simp (maxSteps := 1000000) (disch := refine hold_ ?_; first | (simp [hsz, hq, hws, hwl, hwz, x1, hrsz, hq2, -List.getD_eq_getElem?_getD]; done) | omega) [hsz, hq, hws, hwl, hwz, x1, hrsz, hq2, -List.getD_eq_getElem?_getD]); first | (with_reducible refine zZ ?_) | subst hK_) | ((with_reducible first | refine callK_at 28 ?_); refine callK_o (by decide) ?_; simp (maxSteps := 1000000) (disch := refine hold_ ?_; first | (simp [hsz, hq, hws, hwl, hwz, x1, hrsz, hq2, -List.getD_eq_getElem?_getD]; done) | omega) [hsz, hq, hws, hwl, hwz, x1, hrsz, hq2, -List.getD_eq_getElem?_getD]; (first | refine callK3_of (FnG.ct kp6 Tryd.call28) ?_ | refine callK3_of (FnG.ct kp7 Tryd.call28) ?_ | refine callK3_of (FnG.ct kp8 Tryd.call28) ?_ | refine callK3_of (FnG.ct kp9 Tryd.call28) ?_); (try simp (maxSteps := 1000000) (disch := refine hold_ ?_; first | (simp [hsz, hq, hws, hwl, hwz, x1, hrsz, hq2, -List.getD_eq_getElem?_getD]; done) | omega) [hsz, hq, hws, hwl, hwz, x1, hrsz, hq2, -List.getD_eq_getElem?_getD]); first | (with_reducible refine zZ ?_) | subst hK_) | ((first | (with_reducible first | refine zP fun K_ hK_ => ?_ | refine zQ fun K_ hK_ => ?_ | refine zT ?_ | refine zU ?_ | refine zV ?_ | refine zW ?_ | refine zX ?_ | refine zY ?_) | ((with_reducible first | refine zR ?_ ?_ fun K_ hK_ => ?_ | refine zS ?_ ?_ fun K_ hK_ => ?_); (focus kernel_rfl); (focus kernel_rfl))); first | (simp (maxSteps := 1000000) (disch := refine hold_ ?_; first | (simp [hsz, hq, hws, hwl, hwz, x1, hrsz, hq2, -List.getD_eq_getElem?_getD]; done) | omega) [hsz, hq, hws, hwl, hwz, x1, hrsz, hq2, -List.getD_eq_getElem?_getD]; try first | (with_reducible refine zZ ?_) | subst hK_) | subst hK_) | (with_reducible first | refine zA ?_ | refine zB ?_ | refine zC ?_ | refine zD ?_ | refine zE ?_ | refine zF ?_ | refine zG ?_ | refine zH ?_ | refine zI ?_ | refine zJ ?_ | refine zK ?_ | refine zL ?_ | refine zM ?_ | refine zN ?_ | refine zO ?_) | ((with_reducible refine yG ?_ ?_); (focus decide)) | ((with_reducible refine yA ?_); refine yB rfl ?_; (with_reducible first | refine yC ?_ | refine yD ?_)))
        simp (maxSteps := 1000000) (disch := refine hold_ ?_; first | (simp [-List.getD_eq_getElem?_getD]; done) | omega) [-List.getD_eq_getElem?_getD]
    · have hEb : (wordL (rest.drop 1) == []) = false := beq_eq_false_iff_ne.2 hE
      rw [hEb] at hq2
      rw [hEb]
      simp only [Bool.not_false, if_true] at hq2 ⊢
      have p1 : strBin .add (ByteArray.mk #[58]) (txt (wordL (rest.drop 1))) = some (.str (txt (58#8 :: wordL (rest.drop 1)))) := txt_add [58#8] (wordL (rest.drop 1)) (by simp only [List.length_cons, List.length_nil]; omega)
      have p2 : strBin .add (txt w) (txt (58#8 :: wordL (rest.drop 1))) = some (.str (txt (w ++ 58#8 :: wordL (rest.drop 1)))) := txt_add w (58#8 :: wordL (rest.drop 1)) (by simp only [List.length_cons]; omega)
      have hw2l : (w ++ 58#8 :: wordL (rest.drop 1)).length ≤ S.length := by simp only [List.length_append, List.length_cons]; omega
      generalize hW : w ++ 58#8 :: wordL (rest.drop 1) = w2 at *
      have hw2s := txt_size w2
      have hw2z : (w2.length : Int) ≤ S.length := by omega
      have x3 : (txt S).extract w2.length S.length = txt (S.drop w2.length) := by rw [txt_extract, List.take_length]
      generalize hr2 : S.drop w2.length = rest2 at *
      generalize txt (wordL (rest.drop 1)) = WL at *
      generalize txt (58#8 :: wordL (rest.drop 1)) = WL2 at *
      generalize txt (rest.drop 1) = LO at *
      obtain ⟨ks, kd, ke, kf, kg⟩ := tailK (w2) (rest2)
      have kp6 := kput (w2) (rest2) 6
      have kp7 := kput (w2) (rest2) 7
      have kp8 := kput (w2) (rest2) 8
      have kp9 := kput (w2) (rest2) 9
      unfold namedT kindN
      unfold rdH at *
      generalize skL (rest2) = next at *
      generalize preB next [58#8, 58#8] = D at *
      generalize List.contains (w2) 58#8 = E at *
      generalize preB next [40#8] = F at *
      generalize typesL.contains (w2) = G at *
      refine FnG.of_body Tryd.func33 rfl ?_
      cases D <;> cases E <;> cases F <;> cases G
      all_goals
        repeat (first | ((with_reducible first | refine callK_at 46 ?_ | refine callK_at 42 ?_ | refine callK_at 45 ?_ | refine callK_at 12 ?_ | refine callK_at 47 ?_ | refine callK_at 44 ?_); refine callK_p ?_; simp (maxSteps := 1000000) (disch := refine hold_ ?_; first | (simp [hsz, hq, hws, hwl, hwz, x1, hrsz, hq2, p1, p2, hw2l, hw2s, hw2z, x3, -List.getD_eq_getElem?_getD]; done) | omega) [hsz, hq, hws, hwl, hwz, x1, hrsz, hq2, p1, p2, hw2l, hw2s, hw2z, x3, -List.getD_eq_getElem?_getD]; (first | refine callK1_of (Fn.ct k46 Tryd.call46) ?_ | refine callK1_of (Fn.ct k1 Tryd.call42) ?_ | refine callK1_of (Fn.ct kc Tryd.call45) ?_ | refine callK1_of (Fn.ct kw Tryd.call46) ?_ | refine callK1_of (Fn.ct ks Tryd.call12) ?_ | refine callK1_of (Fn.ct kd Tryd.call42) ?_ | refine callK1_of (Fn.ct ke Tryd.call47) ?_ | refine callK1_of (Fn.ct kf Tryd.call42) ?_ | refine callK1_of (Fn.ct kg Tryd.call44) ?_); (try simp (maxSteps := 1000000) (disch := refine hold_ ?_; first | (simp [hsz, hq, hws, hwl, hwz, x1, hrsz, hq2, p1, p2, hw2l, hw2s, hw2z, x3, -List.getD_eq_getElem?_getD]; done) | omega) [hsz, hq, hws, hwl, hwz, x1, hrsz, hq2, p1, p2, hw2l, hw2s, hw2z, x3, -List.getD_eq_getElem?_getD]); first | (with_reducible refine zZ ?_) | subst hK_) | ((with_reducible first | refine callK_at 28 ?_); refine callK_o (by decide) ?_; simp (maxSteps := 1000000) (disch := refine hold_ ?_; first | (simp [hsz, hq, hws, hwl, hwz, x1, hrsz, hq2, p1, p2, hw2l, hw2s, hw2z, x3, -List.getD_eq_getElem?_getD]; done) | omega) [hsz, hq, hws, hwl, hwz, x1, hrsz, hq2, p1, p2, hw2l, hw2s, hw2z, x3, -List.getD_eq_getElem?_getD]; (first | refine callK3_of (FnG.ct kp6 Tryd.call28) ?_ | refine callK3_of (FnG.ct kp7 Tryd.call28) ?_ | refine callK3_of (FnG.ct kp8 Tryd.call28) ?_ | refine callK3_of (FnG.ct kp9 Tryd.call28) ?_); (try simp (maxSteps := 1000000) (disch := refine hold_ ?_; first | (simp [hsz, hq, hws, hwl, hwz, x1, hrsz, hq2, p1, p2, hw2l, hw2s, hw2z, x3, -List.getD_eq_getElem?_getD]; done) | omega) [hsz, hq, hws, hwl, hwz, x1, hrsz, hq2, p1, p2, hw2l, hw2s, hw2z, x3, -List.getD_eq_getElem?_getD]); first | (with_reducible refine zZ ?_) | subst hK_) | ((first | (with_reducible first | refine zP fun K_ hK_ => ?_ | refine zQ fun K_ hK_ => ?_ | refine zT ?_ | refine zU ?_ | refine zV ?_ | refine zW ?_ | refine zX ?_ | refine zY ?_) | ((with_reducible first | refine zR ?_ ?_ fun K_ hK_ => ?_ | refine zS ?_ ?_ fun K_ hK_ => ?_); (focus kernel_rfl); (focus kernel_rfl))); first | (simp (maxSteps := 1000000) (disch := refine hold_ ?_; first | (simp [hsz, hq, hws, hwl, hwz, x1, hrsz, hq2, p1, p2, hw2l, hw2s, hw2z, x3, -List.getD_eq_getElem?_getD]; done) | omega) [hsz, hq, hws, hwl, hwz, x1, hrsz, hq2, p1, p2, hw2l, hw2s, hw2z, x3, -List.getD_eq_getElem?_getD]; try first | (with_reducible refine zZ ?_) | subst hK_) | subst hK_) | (with_reducible first | refine zA ?_ | refine zB ?_ | refine zC ?_ | refine zD ?_ | refine zE ?_ | refine zF ?_ | refine zG ?_ | refine zH ?_ | refine zI ?_ | refine zJ ?_ | refine zK ?_ | refine zL ?_ | refine zM ?_ | refine zN ?_ | refine zO ?_) | ((with_reducible refine yG ?_ ?_); (focus decide)) | ((with_reducible refine yA ?_); refine yB rfl ?_; (with_reducible first | refine yC ?_ | refine yD ?_)))
        simp (maxSteps := 1000000) (disch := refine hold_ ?_; first | (simp [-List.getD_eq_getElem?_getD]; done) | omega) [-List.getD_eq_getElem?_getD]
  · have hCf : preB rest [58#8] = false := by simpa using hC
    rw [hCf] at kc
    have hfull : fullB rest = false := by unfold fullB; rw [hCf]; rfl
    rw [hfull]
    simp only [Bool.false_eq_true, if_false] at kc ⊢
    obtain ⟨ks, kd, ke, kf, kg⟩ := tailK (w) (rest)
    have kp6 := kput (w) (rest) 6
    have kp7 := kput (w) (rest) 7
    have kp8 := kput (w) (rest) 8
    have kp9 := kput (w) (rest) 9
    unfold namedT kindN
    unfold rdH at *
    generalize skL (rest) = next at *
    generalize preB next [58#8, 58#8] = D at *
    generalize List.contains (w) 58#8 = E at *
    generalize preB next [40#8] = F at *
    generalize typesL.contains (w) = G at *
    refine FnG.of_body Tryd.func33 rfl ?_
    cases D <;> cases E <;> cases F <;> cases G
    all_goals
      repeat (first | ((with_reducible first | refine callK_at 46 ?_ | refine callK_at 42 ?_ | refine callK_at 45 ?_ | refine callK_at 12 ?_ | refine callK_at 47 ?_ | refine callK_at 44 ?_); refine callK_p ?_; simp (maxSteps := 1000000) (disch := refine hold_ ?_; first | (simp [hsz, hq, hws, hwl, hwz, x1, hrsz, -List.getD_eq_getElem?_getD]; done) | omega) [hsz, hq, hws, hwl, hwz, x1, hrsz, -List.getD_eq_getElem?_getD]; (first | refine callK1_of (Fn.ct k46 Tryd.call46) ?_ | refine callK1_of (Fn.ct k1 Tryd.call42) ?_ | refine callK1_of (Fn.ct kc Tryd.call45) ?_ | refine callK1_of (Fn.ct ks Tryd.call12) ?_ | refine callK1_of (Fn.ct kd Tryd.call42) ?_ | refine callK1_of (Fn.ct ke Tryd.call47) ?_ | refine callK1_of (Fn.ct kf Tryd.call42) ?_ | refine callK1_of (Fn.ct kg Tryd.call44) ?_); (try simp (maxSteps := 1000000) (disch := refine hold_ ?_; first | (simp [hsz, hq, hws, hwl, hwz, x1, hrsz, -List.getD_eq_getElem?_getD]; done) | omega) [hsz, hq, hws, hwl, hwz, x1, hrsz, -List.getD_eq_getElem?_getD]); first | (with_reducible refine zZ ?_) | subst hK_) | ((with_reducible first | refine callK_at 28 ?_); refine callK_o (by decide) ?_; simp (maxSteps := 1000000) (disch := refine hold_ ?_; first | (simp [hsz, hq, hws, hwl, hwz, x1, hrsz, -List.getD_eq_getElem?_getD]; done) | omega) [hsz, hq, hws, hwl, hwz, x1, hrsz, -List.getD_eq_getElem?_getD]; (first | refine callK3_of (FnG.ct kp6 Tryd.call28) ?_ | refine callK3_of (FnG.ct kp7 Tryd.call28) ?_ | refine callK3_of (FnG.ct kp8 Tryd.call28) ?_ | refine callK3_of (FnG.ct kp9 Tryd.call28) ?_); (try simp (maxSteps := 1000000) (disch := refine hold_ ?_; first | (simp [hsz, hq, hws, hwl, hwz, x1, hrsz, -List.getD_eq_getElem?_getD]; done) | omega) [hsz, hq, hws, hwl, hwz, x1, hrsz, -List.getD_eq_getElem?_getD]); first | (with_reducible refine zZ ?_) | subst hK_) | ((first | (with_reducible first | refine zP fun K_ hK_ => ?_ | refine zQ fun K_ hK_ => ?_ | refine zT ?_ | refine zU ?_ | refine zV ?_ | refine zW ?_ | refine zX ?_ | refine zY ?_) | ((with_reducible first | refine zR ?_ ?_ fun K_ hK_ => ?_ | refine zS ?_ ?_ fun K_ hK_ => ?_); (focus kernel_rfl); (focus kernel_rfl))); first | (simp (maxSteps := 1000000) (disch := refine hold_ ?_; first | (simp [hsz, hq, hws, hwl, hwz, x1, hrsz, -List.getD_eq_getElem?_getD]; done) | omega) [hsz, hq, hws, hwl, hwz, x1, hrsz, -List.getD_eq_getElem?_getD]; try first | (with_reducible refine zZ ?_) | subst hK_) | subst hK_) | (with_reducible first | refine zA ?_ | refine zB ?_ | refine zC ?_ | refine zD ?_ | refine zE ?_ | refine zF ?_ | refine zG ?_ | refine zH ?_ | refine zI ?_ | refine zJ ?_ | refine zK ?_ | refine zL ?_ | refine zM ?_ | refine zN ?_ | refine zO ?_) | ((with_reducible refine yG ?_ ?_); (focus decide)) | ((with_reducible refine yA ?_); refine yB rfl ?_; (with_reducible first | refine yC ?_ | refine yD ?_)))
      simp (maxSteps := 1000000) (disch := refine hold_ ?_; first | (simp [-List.getD_eq_getElem?_getD]; done) | omega) [-List.getD_eq_getElem?_getD]
end Go.Av.Lex
end
section
set_option linter.unusedSimpArgs false
set_option linter.unusedVariables false
open Go Go.Av Go.Proofs
namespace Go.Av.Lex
def signL (S : List (BitVec 8)) : Option (Nat × List (BitVec 8)) := match takeL marksL S with
  | some x => some (0, x)
  | none => (takeL opsL S).map fun x => (1, x)
def stepR (S : List (BitVec 8)) (T : List Tok) (nl : Bool) : Int × List (BitVec 8) × List Tok × Bool :=
  if digB (S.getD 0 0#8) then ((numR S T nl).1, S.drop (digs S), (numR S T nl).2.1, (numR S T nl).2.2)
  else if S.getD 0 0#8 = 34#8 ∨ S.getD 0 0#8 = 39#8 then (if (litL S T).1 then 0 else 4, (litL S T).2.1, (litL S T).2.2, false)
  else if S.getD 0 0#8 = 42#8 then (0, S.drop 1, T ++ [if lookB T then ⟨1, [42#8], 0⟩ else ⟨4, [], 0⟩], false)
  else match signL S with
    | some q => (0, S.drop q.2.length, T ++ [⟨q.1, q.2, 0⟩], false)
    | none => if lookB T then (if (opR S T nl).1 then 0 else 4, (opR S T nl).2.1, (opR S T nl).2.2.1, (opR S T nl).2.2.2)
      else (if (namedR S T nl).1 then 0 else 4, (namedR S T nl).2.1, (namedR S T nl).2.2.1, (namedR S T nl).2.2.2)
set_option maxHeartbeats 16000000 in
theorem step_ct (S : List (BitVec 8)) (T : List Tok) (nl : Bool) (hS : 0 < S.length) (hl : S.length ≤ 100000) (hT : T.length ≤ 100000) (hok : okB S) :
    FnG Tryd.prog 13 [.ptr 10000 0 0] [rdH S T 10000 0 nl] 1 [.p (.int .i64 (stepR S T nl).1)] [rdH (stepR S T nl).2.1 (stepR S T nl).2.2.1 0 0 (stepR S T nl).2.2.2] 1 := by
  have hsz := txt_size S
  have hg := txt_get S 0
  have hub : ub (S.getD 0 0#8) = ((S.getD 0 0#8).toNat : Int) := rfl
  have kN := number_ct S T nl hl hT
  have kL := literal_ct S T nl hS hl hT
  have kLk := looked_ct S T nl hT
  have kTm := take_ct S T nl marksL (by decide)
  have kTo := take_ct S T nl opsL (by decide)
  have kO := operator_ct S T nl hl hT hok
  have kNm := named_ct S T nl hl hT hok
  have kPx : ∀ (k : Nat) (x Y : List (BitVec 8)), FnG Tryd.prog 28 [.ptr 10000 0 0, .p (.int .i64 k), .p (.str (txt x)), .p (.int .i64 (0 : Nat))] [rdH Y T 10000 0 nl] 1 [] [rdH Y (T ++ [⟨k, x, 0⟩]) 0 0 false] 1 := fun k x Y => put_ct Y T nl ⟨k, x, 0⟩ hT
  have h1 : 1 ≤ S.length := hS
  have h1z : (1 : Int) ≤ S.length := by omega
  have x1 : (txt S).extract 1 S.length = txt (S.drop 1) := by rw [txt_extract, List.take_length]
  have e34 : ub (S.getD 0 0#8) = 34 ↔ S.getD 0 0#8 = 34#8 := ⟨fun e => ub_inj (b := 34#8) e, fun e => by rw [e]; rfl⟩
  have e39 : ub (S.getD 0 0#8) = 39 ↔ S.getD 0 0#8 = 39#8 := ⟨fun e => ub_inj (b := 39#8) e, fun e => by rw [e]; rfl⟩
  have e42 : ub (S.getD 0 0#8) = 42 ↔ S.getD 0 0#8 = 42#8 := ⟨fun e => ub_inj (b := 42#8) e, fun e => by rw [e]; rfl⟩
  unfold stepR
  by_cases hd : digB (S.getD 0 0#8) = true
  · rw [if_pos hd]
    simp only
    unfold digB at hd
    rw [Bool.and_eq_true, decide_eq_true_eq, decide_eq_true_eq] at hd
    have d1 : (48 : Int) ≤ ub (S.getD 0 0#8) := by omega
    have d2 : ub (S.getD 0 0#8) ≤ 57 := by omega
    generalize S.drop (digs S) = Y at *
    generalize numR S T nl = R at *
    obtain ⟨re, rT, rn⟩ := R
    clear kL kLk kTm kTo kO kNm e34 e39 e42
    generalize ub (S.getD 0 0#8) = U at *
    unfold rdH at *
    refine FnG.of_body Tryd.func13 rfl ?_
    repeat (first | ((with_reducible first | refine callK_at 25 ?_); refine callK_o (by decide) ?_; simp (maxSteps := 1000000) (disch := refine hold_ ?_; first | (simp [hsz, hg, hS, d1, d2, -List.getD_eq_getElem?_getD]; done) | omega) [hsz, hg, hS, d1, d2, -List.getD_eq_getElem?_getD]; (first | refine callK3_of (FnG.ct kN Tryd.call25) ?_); (try simp (maxSteps := 1000000) (disch := refine hold_ ?_; first | (simp [hsz, hg, hS, d1, d2, -List.getD_eq_getElem?_getD]; done) | omega) [hsz, hg, hS, d1, d2, -List.getD_eq_getElem?_getD]); first | (with_reducible refine zZ ?_) | subst hK_) | ((first | (with_reducible first | refine zP fun K_ hK_ => ?_ | refine zQ fun K_ hK_ => ?_ | refine zT ?_ | refine zU ?_ | refine zV ?_ | refine zW ?_ | refine zX ?_ | refine zY ?_) | ((with_reducible first | refine zR ?_ ?_ fun K_ hK_ => ?_ | refine zS ?_ ?_ fun K_ hK_ => ?_); (focus kernel_rfl); (focus kernel_rfl))); first | (simp (maxSteps := 1000000) (disch := refine hold_ ?_; first | (simp [hsz, hg, hS, d1, d2, -List.getD_eq_getElem?_getD]; done) | omega) [hsz, hg, hS, d1, d2, -List.getD_eq_getElem?_getD]; try first | (with_reducible refine zZ ?_) | subst hK_) | subst hK_) | (with_reducible first | refine zA ?_ | refine zB ?_ | refine zC ?_ | refine zD ?_ | refine zE ?_ | refine zF ?_ | refine zG ?_ | refine zH ?_ | refine zI ?_ | refine zJ ?_ | refine zK ?_ | refine zL ?_ | refine zM ?_ | refine zN ?_ | refine zO ?_) | ((with_reducible refine yG ?_ ?_); (focus decide)) | ((with_reducible refine yA ?_); refine yB rfl ?_; (with_reducible first | refine yC ?_ | refine yD ?_)))
    all_goals simp (maxSteps := 1000000) (disch := refine hold_ ?_; first | (simp [-List.getD_eq_getElem?_getD]; done) | omega) [-List.getD_eq_getElem?_getD]
  rw [if_neg hd]
  have hnd : ub (S.getD 0 0#8) < 48 ∨ (48 ≤ ub (S.getD 0 0#8) ∧ 57 < ub (S.getD 0 0#8)) := by
    unfold digB at hd
    rw [Bool.and_eq_true, decide_eq_true_eq, decide_eq_true_eq] at hd
    omega
  by_cases hq : S.getD 0 0#8 = 34#8 ∨ S.getD 0 0#8 = 39#8
  · rw [if_pos hq]
    rw [← e34, ← e39] at hq
    generalize litL S T = R at *
    obtain ⟨re, rS, rT⟩ := R
    clear kN kLk kTm kTo kO kNm e34 e39 e42 hd
    generalize ub (S.getD 0 0#8) = U at *
    unfold rdH at *
    simp only at kL ⊢
    rcases hq with rfl | rfl <;> cases re
    all_goals
      refine FnG.of_body Tryd.func13 rfl ?_
      repeat (first | ((with_reducible first | refine callK_at 26 ?_); refine callK_o (by decide) ?_; simp (maxSteps := 1000000) (disch := refine hold_ ?_; first | (simp [hsz, hg, hS, -List.getD_eq_getElem?_getD]; done) | omega) [hsz, hg, hS, -List.getD_eq_getElem?_getD]; (first | refine callK3_of (FnG.ct kL Tryd.call26) ?_); (try simp (maxSteps := 1000000) (disch := refine hold_ ?_; first | (simp [hsz, hg, hS, -List.getD_eq_getElem?_getD]; done) | omega) [hsz, hg, hS, -List.getD_eq_getElem?_getD]); first | (with_reducible refine zZ ?_) | subst hK_) | ((first | (with_reducible first | refine zP fun K_ hK_ => ?_ | refine zQ fun K_ hK_ => ?_ | refine zT ?_ | refine zU ?_ | refine zV ?_ | refine zW ?_ | refine zX ?_ | refine zY ?_) | ((with_reducible first | refine zR ?_ ?_ fun K_ hK_ => ?_ | refine zS ?_ ?_ fun K_ hK_ => ?_); (focus kernel_rfl); (focus kernel_rfl))); first | (simp (maxSteps := 1000000) (disch := refine hold_ ?_; first | (simp [hsz, hg, hS, -List.getD_eq_getElem?_getD]; done) | omega) [hsz, hg, hS, -List.getD_eq_getElem?_getD]; try first | (with_reducible refine zZ ?_) | subst hK_) | subst hK_) | (with_reducible first | refine zA ?_ | refine zB ?_ | refine zC ?_ | refine zD ?_ | refine zE ?_ | refine zF ?_ | refine zG ?_ | refine zH ?_ | refine zI ?_ | refine zJ ?_ | refine zK ?_ | refine zL ?_ | refine zM ?_ | refine zN ?_ | refine zO ?_) | ((with_reducible refine yG ?_ ?_); (focus decide)) | ((with_reducible refine yA ?_); refine yB rfl ?_; (with_reducible first | refine yC ?_ | refine yD ?_)))
      simp (maxSteps := 1000000) (disch := refine hold_ ?_; first | (simp [-List.getD_eq_getElem?_getD]; done) | omega) [-List.getD_eq_getElem?_getD]
  rw [if_neg hq]
  rw [← e34, ← e39] at hq
  by_cases hs : S.getD 0 0#8 = 42#8
  · rw [if_pos hs]
    rw [← e42] at hs
    clear kN kL kTm kTo kO kNm e34 e39 e42 hd hnd hq
    generalize ub (S.getD 0 0#8) = U at *
    subst hs
    have kp1 := kPx 1 [42#8] (S.drop 1)
    have kp4 := kPx 4 [] (S.drop 1)
    clear kPx
    generalize S.drop 1 = Y at *
    unfold rdH at *
    cases hL : lookB T
    all_goals
      rw [hL] at kLk
      simp only [if_true, Bool.false_eq_true, if_false]
      refine FnG.of_body Tryd.func13 rfl ?_
      repeat (first | ((with_reducible first | refine callK_at 27 ?_ | refine callK_at 28 ?_); refine callK_o (by decide) ?_; simp (maxSteps := 1000000) (disch := refine hold_ ?_; first | (simp [hsz, hg, hS, h1, h1z, x1, -List.getD_eq_getElem?_getD]; done) | omega) [hsz, hg, hS, h1, h1z, x1, -List.getD_eq_getElem?_getD]; (first | refine callK3_of (FnG.ct kLk Tryd.call27) ?_ | refine callK3_of (FnG.ct kp1 Tryd.call28) ?_ | refine callK3_of (FnG.ct kp4 Tryd.call28) ?_); (try simp (maxSteps := 1000000) (disch := refine hold_ ?_; first | (simp [hsz, hg, hS, h1, h1z, x1, -List.getD_eq_getElem?_getD]; done) | omega) [hsz, hg, hS, h1, h1z, x1, -List.getD_eq_getElem?_getD]); first | (with_reducible refine zZ ?_) | subst hK_) | ((first | (with_reducible first | refine zP fun K_ hK_ => ?_ | refine zQ fun K_ hK_ => ?_ | refine zT ?_ | refine zU ?_ | refine zV ?_ | refine zW ?_ | refine zX ?_ | refine zY ?_) | ((with_reducible first | refine zR ?_ ?_ fun K_ hK_ => ?_ | refine zS ?_ ?_ fun K_ hK_ => ?_); (focus kernel_rfl); (focus kernel_rfl))); first | (simp (maxSteps := 1000000) (disch := refine hold_ ?_; first | (simp [hsz, hg, hS, h1, h1z, x1, -List.getD_eq_getElem?_getD]; done) | omega) [hsz, hg, hS, h1, h1z, x1, -List.getD_eq_getElem?_getD]; try first | (with_reducible refine zZ ?_) | subst hK_) | subst hK_) | (with_reducible first | refine zA ?_ | refine zB ?_ | refine zC ?_ | refine zD ?_ | refine zE ?_ | refine zF ?_ | refine zG ?_ | refine zH ?_ | refine zI ?_ | refine zJ ?_ | refine zK ?_ | refine zL ?_ | refine zM ?_ | refine zN ?_ | refine zO ?_) | ((with_reducible refine yG ?_ ?_); (focus decide)) | ((with_reducible refine yA ?_); refine yB rfl ?_; (with_reducible first | refine yC ?_ | refine yD ?_)))
      simp (maxSteps := 1000000) (disch := refine hold_ ?_; first | (simp [-List.getD_eq_getElem?_getD]; done) | omega) [-List.getD_eq_getElem?_getD]
  rw [if_neg hs]
  rw [← e42] at hs
  have n34 : (ub (S.getD 0 0#8) == 34) = false := beq_eq_false_iff_ne.2 fun e => hq (.inl e)
  have n39 : (ub (S.getD 0 0#8) == 39) = false := beq_eq_false_iff_ne.2 fun e => hq (.inr e)
  have n42 : (ub (S.getD 0 0#8) == 42) = false := beq_eq_false_iff_ne.2 hs
  have hdn : (decide (48 ≤ ub (S.getD 0 0#8)) = false) ∨ (decide (48 ≤ ub (S.getD 0 0#8)) = true ∧ decide (ub (S.getD 0 0#8) ≤ 57) = false) := by
    rcases hnd with h | ⟨h, h2⟩
    · left; exact decide_eq_false (by omega)
    · right; exact ⟨decide_eq_true h, decide_eq_false (by omega)⟩
  clear e34 e39 e42 hd hnd hq hs hub kN kL
  generalize ub (S.getD 0 0#8) = U at *
  unfold signL
  cases hm : takeL marksL S with
  | some x =>
    rw [hm] at kTm
    simp only [takeR] at kTm ⊢
    have kp := kPx 0 x (S.drop x.length)
    clear kTo kO kNm kLk kPx
    generalize S.drop x.length = Y at *
    unfold rdH at *
    rcases hdn with a1 | ⟨a1, a2⟩
    · refine FnG.of_body Tryd.func13 rfl ?_
      repeat (first | ((with_reducible first | refine callK_at 30 ?_); refine callK_p ?_; simp (maxSteps := 1000000) (disch := refine hold_ ?_; first | (simp [hsz, hg, hS, n34, n39, n42, a1, -List.getD_eq_getElem?_getD]; done) | omega) [hsz, hg, hS, n34, n39, n42, a1, -List.getD_eq_getElem?_getD]; (first | refine callK1_of (Fn.ct marks_ct Tryd.call30) ?_); (try simp (maxSteps := 1000000) (disch := refine hold_ ?_; first | (simp [hsz, hg, hS, n34, n39, n42, a1, -List.getD_eq_getElem?_getD]; done) | omega) [hsz, hg, hS, n34, n39, n42, a1, -List.getD_eq_getElem?_getD]); first | (with_reducible refine zZ ?_) | subst hK_) | ((with_reducible first | refine callK_at 29 ?_ | refine callK_at 28 ?_); refine callK_o (by decide) ?_; simp (maxSteps := 1000000) (disch := refine hold_ ?_; first | (simp [hsz, hg, hS, n34, n39, n42, a1, -List.getD_eq_getElem?_getD]; done) | omega) [hsz, hg, hS, n34, n39, n42, a1, -List.getD_eq_getElem?_getD]; (first | refine callK3_of (FnG.ct kTm Tryd.call29) ?_ | refine callK3_of (FnG.ct kp Tryd.call28) ?_); (try simp (maxSteps := 1000000) (disch := refine hold_ ?_; first | (simp [hsz, hg, hS, n34, n39, n42, a1, -List.getD_eq_getElem?_getD]; done) | omega) [hsz, hg, hS, n34, n39, n42, a1, -List.getD_eq_getElem?_getD]); first | (with_reducible refine zZ ?_) | subst hK_) | ((first | (with_reducible first | refine zP fun K_ hK_ => ?_ | refine zQ fun K_ hK_ => ?_ | refine zT ?_ | refine zU ?_ | refine zV ?_ | refine zW ?_ | refine zX ?_ | refine zY ?_) | ((with_reducible first | refine zR ?_ ?_ fun K_ hK_ => ?_ | refine zS ?_ ?_ fun K_ hK_ => ?_); (focus kernel_rfl); (focus kernel_rfl))); first | (simp (maxSteps := 1000000) (disch := refine hold_ ?_; first | (simp [hsz, hg, hS, n34, n39, n42, a1, -List.getD_eq_getElem?_getD]; done) | omega) [hsz, hg, hS, n34, n39, n42, a1, -List.getD_eq_getElem?_getD]; try first | (with_reducible refine zZ ?_) | subst hK_) | subst hK_) | (with_reducible first | refine zA ?_ | refine zB ?_ | refine zC ?_ | refine zD ?_ | refine zE ?_ | refine zF ?_ | refine zG ?_ | refine zH ?_ | refine zI ?_ | refine zJ ?_ | refine zK ?_ | refine zL ?_ | refine zM ?_ | refine zN ?_ | refine zO ?_) | ((with_reducible refine yG ?_ ?_); (focus decide)) | ((with_reducible refine yA ?_); refine yB rfl ?_; (with_reducible first | refine yC ?_ | refine yD ?_)))
      all_goals simp (maxSteps := 1000000) (disch := refine hold_ ?_; first | (simp [-List.getD_eq_getElem?_getD]; done) | omega) [-List.getD_eq_getElem?_getD]
    · refine FnG.of_body Tryd.func13 rfl ?_
      repeat (first | ((with_reducible first | refine callK_at 30 ?_); refine callK_p ?_; simp (maxSteps := 1000000) (disch := refine hold_ ?_; first | (simp [hsz, hg, hS, n34, n39, n42, a1, a2, -List.getD_eq_getElem?_getD]; done) | omega) [hsz, hg, hS, n34, n39, n42, a1, a2, -List.getD_eq_getElem?_getD]; (first | refine callK1_of (Fn.ct marks_ct Tryd.call30) ?_); (try simp (maxSteps := 1000000) (disch := refine hold_ ?_; first | (simp [hsz, hg, hS, n34, n39, n42, a1, a2, -List.getD_eq_getElem?_getD]; done) | omega) [hsz, hg, hS, n34, n39, n42, a1, a2, -List.getD_eq_getElem?_getD]); first | (with_reducible refine zZ ?_) | subst hK_) | ((with_reducible first | refine callK_at 29 ?_ | refine callK_at 28 ?_); refine callK_o (by decide) ?_; simp (maxSteps := 1000000) (disch := refine hold_ ?_; first | (simp [hsz, hg, hS, n34, n39, n42, a1, a2, -List.getD_eq_getElem?_getD]; done) | omega) [hsz, hg, hS, n34, n39, n42, a1, a2, -List.getD_eq_getElem?_getD]; (first | refine callK3_of (FnG.ct kTm Tryd.call29) ?_ | refine callK3_of (FnG.ct kp Tryd.call28) ?_); (try simp (maxSteps := 1000000) (disch := refine hold_ ?_; first | (simp [hsz, hg, hS, n34, n39, n42, a1, a2, -List.getD_eq_getElem?_getD]; done) | omega) [hsz, hg, hS, n34, n39, n42, a1, a2, -List.getD_eq_getElem?_getD]); first | (with_reducible refine zZ ?_) | subst hK_) | ((first | (with_reducible first | refine zP fun K_ hK_ => ?_ | refine zQ fun K_ hK_ => ?_ | refine zT ?_ | refine zU ?_ | refine zV ?_ | refine zW ?_ | refine zX ?_ | refine zY ?_) | ((with_reducible first | refine zR ?_ ?_ fun K_ hK_ => ?_ | refine zS ?_ ?_ fun K_ hK_ => ?_); (focus kernel_rfl); (focus kernel_rfl))); first | (simp (maxSteps := 1000000) (disch := refine hold_ ?_; first | (simp [hsz, hg, hS, n34, n39, n42, a1, a2, -List.getD_eq_getElem?_getD]; done) | omega) [hsz, hg, hS, n34, n39, n42, a1, a2, -List.getD_eq_getElem?_getD]; try first | (with_reducible refine zZ ?_) | subst hK_) | subst hK_) | (with_reducible first | refine zA ?_ | refine zB ?_ | refine zC ?_ | refine zD ?_ | refine zE ?_ | refine zF ?_ | refine zG ?_ | refine zH ?_ | refine zI ?_ | refine zJ ?_ | refine zK ?_ | refine zL ?_ | refine zM ?_ | refine zN ?_ | refine zO ?_) | ((with_reducible refine yG ?_ ?_); (focus decide)) | ((with_reducible refine yA ?_); refine yB rfl ?_; (with_reducible first | refine yC ?_ | refine yD ?_)))
      all_goals simp (maxSteps := 1000000) (disch := refine hold_ ?_; first | (simp [-List.getD_eq_getElem?_getD]; done) | omega) [-List.getD_eq_getElem?_getD]
  | none =>
    rw [hm] at kTm
    simp only [takeR] at kTm ⊢
    cases ho : takeL opsL S with
    | some x =>
      rw [ho] at kTo
      simp only [takeR, Option.map_some] at kTo ⊢
      have kp := kPx 1 x (S.drop x.length)
      clear kO kNm kLk kPx
      generalize S.drop x.length = Y at *
      unfold rdH at *
      rcases hdn with a1 | ⟨a1, a2⟩
      · refine FnG.of_body Tryd.func13 rfl ?_
        repeat (first | ((with_reducible first | refine callK_at 30 ?_ | refine callK_at 31 ?_); refine callK_p ?_; simp (maxSteps := 1000000) (disch := refine hold_ ?_; first | (simp [hsz, hg, hS, n34, n39, n42, a1, -List.getD_eq_getElem?_getD]; done) | omega) [hsz, hg, hS, n34, n39, n42, a1, -List.getD_eq_getElem?_getD]; (first | refine callK1_of (Fn.ct marks_ct Tryd.call30) ?_ | refine callK1_of (Fn.ct operators_ct Tryd.call31) ?_); (try simp (maxSteps := 1000000) (disch := refine hold_ ?_; first | (simp [hsz, hg, hS, n34, n39, n42, a1, -List.getD_eq_getElem?_getD]; done) | omega) [hsz, hg, hS, n34, n39, n42, a1, -List.getD_eq_getElem?_getD]); first | (with_reducible refine zZ ?_) | subst hK_) | ((with_reducible first | refine callK_at 29 ?_ | refine callK_at 28 ?_); refine callK_o (by decide) ?_; simp (maxSteps := 1000000) (disch := refine hold_ ?_; first | (simp [hsz, hg, hS, n34, n39, n42, a1, -List.getD_eq_getElem?_getD]; done) | omega) [hsz, hg, hS, n34, n39, n42, a1, -List.getD_eq_getElem?_getD]; (first | refine callK3_of (FnG.ct kTm Tryd.call29) ?_ | refine callK3_of (FnG.ct kTo Tryd.call29) ?_ | refine callK3_of (FnG.ct kp Tryd.call28) ?_); (try simp (maxSteps := 1000000) (disch := refine hold_ ?_; first | (simp [hsz, hg, hS, n34, n39, n42, a1, -List.getD_eq_getElem?_getD]; done) | omega) [hsz, hg, hS, n34, n39, n42, a1, -List.getD_eq_getElem?_getD]); first | (with_reducible refine zZ ?_) | subst hK_) | ((first | (with_reducible first | refine zP fun K_ hK_ => ?_ | refine zQ fun K_ hK_ => ?_ | refine zT ?_ | refine zU ?_ | refine zV ?_ | refine zW ?_ | refine zX ?_ | refine zY ?_) | ((with_reducible first | refine zR ?_ ?_ fun K_ hK_ => ?_ | refine zS ?_ ?_ fun K_ hK_ => ?_); (focus kernel_rfl); (focus kernel_rfl))); first | (simp (maxSteps := 1000000) (disch := refine hold_ ?_; first | (simp [hsz, hg, hS, n34, n39, n42, a1, -List.getD_eq_getElem?_getD]; done) | omega) [hsz, hg, hS, n34, n39, n42, a1, -List.getD_eq_getElem?_getD]; try first | (with_reducible refine zZ ?_) | subst hK_) | subst hK_) | (with_reducible first | refine zA ?_ | refine zB ?_ | refine zC ?_ | refine zD ?_ | refine zE ?_ | refine zF ?_ | refine zG ?_ | refine zH ?_ | refine zI ?_ | refine zJ ?_ | refine zK ?_ | refine zL ?_ | refine zM ?_ | refine zN ?_ | refine zO ?_) | ((with_reducible refine yG ?_ ?_); (focus decide)) | ((with_reducible refine yA ?_); refine yB rfl ?_; (with_reducible first | refine yC ?_ | refine yD ?_)))
        all_goals simp (maxSteps := 1000000) (disch := refine hold_ ?_; first | (simp [-List.getD_eq_getElem?_getD]; done) | omega) [-List.getD_eq_getElem?_getD]
      · refine FnG.of_body Tryd.func13 rfl ?_
        repeat (first | ((with_reducible first | refine callK_at 30 ?_ | refine callK_at 31 ?_); refine callK_p ?_; simp (maxSteps := 1000000) (disch := refine hold_ ?_; first | (simp [hsz, hg, hS, n34, n39, n42, a1, a2, -List.getD_eq_getElem?_getD]; done) | omega) [hsz, hg, hS, n34, n39, n42, a1, a2, -List.getD_eq_getElem?_getD]; (first | refine callK1_of (Fn.ct marks_ct Tryd.call30) ?_ | refine callK1_of (Fn.ct operators_ct Tryd.call31) ?_); (try simp (maxSteps := 1000000) (disch := refine hold_ ?_; first | (simp [hsz, hg, hS, n34, n39, n42, a1, a2, -List.getD_eq_getElem?_getD]; done) | omega) [hsz, hg, hS, n34, n39, n42, a1, a2, -List.getD_eq_getElem?_getD]); first | (with_reducible refine zZ ?_) | subst hK_) | ((with_reducible first | refine callK_at 29 ?_ | refine callK_at 28 ?_); refine callK_o (by decide) ?_; simp (maxSteps := 1000000) (disch := refine hold_ ?_; first | (simp [hsz, hg, hS, n34, n39, n42, a1, a2, -List.getD_eq_getElem?_getD]; done) | omega) [hsz, hg, hS, n34, n39, n42, a1, a2, -List.getD_eq_getElem?_getD]; (first | refine callK3_of (FnG.ct kTm Tryd.call29) ?_ | refine callK3_of (FnG.ct kTo Tryd.call29) ?_ | refine callK3_of (FnG.ct kp Tryd.call28) ?_); (try simp (maxSteps := 1000000) (disch := refine hold_ ?_; first | (simp [hsz, hg, hS, n34, n39, n42, a1, a2, -List.getD_eq_getElem?_getD]; done) | omega) [hsz, hg, hS, n34, n39, n42, a1, a2, -List.getD_eq_getElem?_getD]); first | (with_reducible refine zZ ?_) | subst hK_) | ((first | (with_reducible first | refine zP fun K_ hK_ => ?_ | refine zQ fun K_ hK_ => ?_ | refine zT ?_ | refine zU ?_ | refine zV ?_ | refine zW ?_ | refine zX ?_ | refine zY ?_) | ((with_reducible first | refine zR ?_ ?_ fun K_ hK_ => ?_ | refine zS ?_ ?_ fun K_ hK_ => ?_); (focus kernel_rfl); (focus kernel_rfl))); first | (simp (maxSteps := 1000000) (disch := refine hold_ ?_; first | (simp [hsz, hg, hS, n34, n39, n42, a1, a2, -List.getD_eq_getElem?_getD]; done) | omega) [hsz, hg, hS, n34, n39, n42, a1, a2, -List.getD_eq_getElem?_getD]; try first | (with_reducible refine zZ ?_) | subst hK_) | subst hK_) | (with_reducible first | refine zA ?_ | refine zB ?_ | refine zC ?_ | refine zD ?_ | refine zE ?_ | refine zF ?_ | refine zG ?_ | refine zH ?_ | refine zI ?_ | refine zJ ?_ | refine zK ?_ | refine zL ?_ | refine zM ?_ | refine zN ?_ | refine zO ?_) | ((with_reducible refine yG ?_ ?_); (focus decide)) | ((with_reducible refine yA ?_); refine yB rfl ?_; (with_reducible first | refine yC ?_ | refine yD ?_)))
        all_goals simp (maxSteps := 1000000) (disch := refine hold_ ?_; first | (simp [-List.getD_eq_getElem?_getD]; done) | omega) [-List.getD_eq_getElem?_getD]
    | none =>
      rw [ho] at kTo
      simp only [takeR, Option.map_none] at kTo ⊢
      clear kPx
      cases hL : lookB T with
      | true =>
        rw [hL] at kLk
        simp only [if_true]
        clear kNm
        generalize opR S T nl = R at *
        obtain ⟨r1, r2, r3, r4⟩ := R
        unfold rdH at *
        simp only at kO ⊢
        cases r1
        all_goals
          rcases hdn with a1 | ⟨a1, a2⟩
          · refine FnG.of_body Tryd.func13 rfl ?_
            repeat (first | ((with_reducible first | refine callK_at 30 ?_ | refine callK_at 31 ?_); refine callK_p ?_; simp (maxSteps := 1000000) (disch := refine hold_ ?_; first | (simp [hsz, hg, hS, n34, n39, n42, a1, -List.getD_eq_getElem?_getD]; done) | omega) [hsz, hg, hS, n34, n39, n42, a1, -List.getD_eq_getElem?_getD]; (first | refine callK1_of (Fn.ct marks_ct Tryd.call30) ?_ | refine callK1_of (Fn.ct operators_ct Tryd.call31) ?_); (try simp (maxSteps := 1000000) (disch := refine hold_ ?_; first | (simp [hsz, hg, hS, n34, n39, n42, a1, -List.getD_eq_getElem?_getD]; done) | omega) [hsz, hg, hS, n34, n39, n42, a1, -List.getD_eq_getElem?_getD]); first | (with_reducible refine zZ ?_) | subst hK_) | ((with_reducible first | refine callK_at 29 ?_ | refine callK_at 27 ?_ | refine callK_at 32 ?_); refine callK_o (by decide) ?_; simp (maxSteps := 1000000) (disch := refine hold_ ?_; first | (simp [hsz, hg, hS, n34, n39, n42, a1, -List.getD_eq_getElem?_getD]; done) | omega) [hsz, hg, hS, n34, n39, n42, a1, -List.getD_eq_getElem?_getD]; (first | refine callK3_of (FnG.ct kTm Tryd.call29) ?_ | refine callK3_of (FnG.ct kTo Tryd.call29) ?_ | refine callK3_of (FnG.ct kLk Tryd.call27) ?_ | refine callK3_of (FnG.ct kO Tryd.call32) ?_); (try simp (maxSteps := 1000000) (disch := refine hold_ ?_; first | (simp [hsz, hg, hS, n34, n39, n42, a1, -List.getD_eq_getElem?_getD]; done) | omega) [hsz, hg, hS, n34, n39, n42, a1, -List.getD_eq_getElem?_getD]); first | (with_reducible refine zZ ?_) | subst hK_) | ((first | (with_reducible first | refine zP fun K_ hK_ => ?_ | refine zQ fun K_ hK_ => ?_ | refine zT ?_ | refine zU ?_ | refine zV ?_ | refine zW ?_ | refine zX ?_ | refine zY ?_) | ((with_reducible first | refine zR ?_ ?_ fun K_ hK_ => ?_ | refine zS ?_ ?_ fun K_ hK_ => ?_); (focus kernel_rfl); (focus kernel_rfl))); first | (simp (maxSteps := 1000000) (disch := refine hold_ ?_; first | (simp [hsz, hg, hS, n34, n39, n42, a1, -List.getD_eq_getElem?_getD]; done) | omega) [hsz, hg, hS, n34, n39, n42, a1, -List.getD_eq_getElem?_getD]; try first | (with_reducible refine zZ ?_) | subst hK_) | subst hK_) | (with_reducible first | refine zA ?_ | refine zB ?_ | refine zC ?_ | refine zD ?_ | refine zE ?_ | refine zF ?_ | refine zG ?_ | refine zH ?_ | refine zI ?_ | refine zJ ?_ | refine zK ?_ | refine zL ?_ | refine zM ?_ | refine zN ?_ | refine zO ?_) | ((with_reducible refine yG ?_ ?_); (focus decide)) | ((with_reducible refine yA ?_); refine yB rfl ?_; (with_reducible first | refine yC ?_ | refine yD ?_)))
            all_goals simp (maxSteps := 1000000) (disch := refine hold_ ?_; first | (simp [-List.getD_eq_getElem?_getD]; done) | omega) [-List.getD_eq_getElem?_getD]
          · refine FnG.of_body Tryd.func13 rfl ?_
            repeat (first | ((with_reducible first | refine callK_at 30 ?_ | refine callK_at 31 ?_); refine callK_p ?_; simp (maxSteps := 1000000) (disch := refine hold_ ?_; first | (simp [hsz, hg, hS, n34, n39, n42, a1, a2, -List.getD_eq_getElem?_getD]; done) | omega) [hsz, hg, hS, n34, n39, n42, a1, a2, -List.getD_eq_getElem?_getD]; (first | refine callK1_of (Fn.ct marks_ct Tryd.call30) ?_ | refine callK1_of (Fn.ct operators_ct Tryd.call31) ?_); (try simp (maxSteps := 1000000) (disch := refine hold_ ?_; first | (simp [hsz, hg, hS, n34, n39, n42, a1, a2, -List.getD_eq_getElem?_getD]; done) | omega) [hsz, hg, hS, n34, n39, n42, a1, a2, -List.getD_eq_getElem?_getD]); first | (with_reducible refine zZ ?_) | subst hK_) | ((with_reducible first | refine callK_at 29 ?_ | refine callK_at 27 ?_ | refine callK_at 32 ?_); refine callK_o (by decide) ?_; simp (maxSteps := 1000000) (disch := refine hold_ ?_; first | (simp [hsz, hg, hS, n34, n39, n42, a1, a2, -List.getD_eq_getElem?_getD]; done) | omega) [hsz, hg, hS, n34, n39, n42, a1, a2, -List.getD_eq_getElem?_getD]; (first | refine callK3_of (FnG.ct kTm Tryd.call29) ?_ | refine callK3_of (FnG.ct kTo Tryd.call29) ?_ | refine callK3_of (FnG.ct kLk Tryd.call27) ?_ | refine callK3_of (FnG.ct kO Tryd.call32) ?_); (try simp (maxSteps := 1000000) (disch := refine hold_ ?_; first | (simp [hsz, hg, hS, n34, n39, n42, a1, a2, -List.getD_eq_getElem?_getD]; done) | omega) [hsz, hg, hS, n34, n39, n42, a1, a2, -List.getD_eq_getElem?_getD]); first | (with_reducible refine zZ ?_) | subst hK_) | ((first | (with_reducible first | refine zP fun K_ hK_ => ?_ | refine zQ fun K_ hK_ => ?_ | refine zT ?_ | refine zU ?_ | refine zV ?_ | refine zW ?_ | refine zX ?_ | refine zY ?_) | ((with_reducible first | refine zR ?_ ?_ fun K_ hK_ => ?_ | refine zS ?_ ?_ fun K_ hK_ => ?_); (focus kernel_rfl); (focus kernel_rfl))); first | (simp (maxSteps := 1000000) (disch := refine hold_ ?_; first | (simp [hsz, hg, hS, n34, n39, n42, a1, a2, -List.getD_eq_getElem?_getD]; done) | omega) [hsz, hg, hS, n34, n39, n42, a1, a2, -List.getD_eq_getElem?_getD]; try first | (with_reducible refine zZ ?_) | subst hK_) | subst hK_) | (with_reducible first | refine zA ?_ | refine zB ?_ | refine zC ?_ | refine zD ?_ | refine zE ?_ | refine zF ?_ | refine zG ?_ | refine zH ?_ | refine zI ?_ | refine zJ ?_ | refine zK ?_ | refine zL ?_ | refine zM ?_ | refine zN ?_ | refine zO ?_) | ((with_reducible refine yG ?_ ?_); (focus decide)) | ((with_reducible refine yA ?_); refine yB rfl ?_; (with_reducible first | refine yC ?_ | refine yD ?_)))
            all_goals simp (maxSteps := 1000000) (disch := refine hold_ ?_; first | (simp [-List.getD_eq_getElem?_getD]; done) | omega) [-List.getD_eq_getElem?_getD]
      | false =>
        rw [hL] at kLk
        simp only [Bool.false_eq_true, if_false]
        clear kO
        generalize namedR S T nl = R at *
        obtain ⟨r1, r2, r3, r4⟩ := R
        unfold rdH at *
        simp only at kNm ⊢
        cases r1
        all_goals
          rcases hdn with a1 | ⟨a1, a2⟩
          · refine FnG.of_body Tryd.func13 rfl ?_
            repeat (first | ((with_reducible first | refine callK_at 30 ?_ | refine callK_at 31 ?_); refine callK_p ?_; simp (maxSteps := 1000000) (disch := refine hold_ ?_; first | (simp [hsz, hg, hS, n34, n39, n42, a1, -List.getD_eq_getElem?_getD]; done) | omega) [hsz, hg, hS, n34, n39, n42, a1, -List.getD_eq_getElem?_getD]; (first | refine callK1_of (Fn.ct marks_ct Tryd.call30) ?_ | refine callK1_of (Fn.ct operators_ct Tryd.call31) ?_); (try simp (maxSteps := 1000000) (disch := refine hold_ ?_; first | (simp [hsz, hg, hS, n34, n39, n42, a1, -List.getD_eq_getElem?_getD]; done) | omega) [hsz, hg, hS, n34, n39, n42, a1, -List.getD_eq_getElem?_getD]); first | (with_reducible refine zZ ?_) | subst hK_) | ((with_reducible first | refine callK_at 29 ?_ | refine callK_at 27 ?_ | refine callK_at 33 ?_); refine callK_o (by decide) ?_; simp (maxSteps := 1000000) (disch := refine hold_ ?_; first | (simp [hsz, hg, hS, n34, n39, n42, a1, -List.getD_eq_getElem?_getD]; done) | omega) [hsz, hg, hS, n34, n39, n42, a1, -List.getD_eq_getElem?_getD]; (first | refine callK3_of (FnG.ct kTm Tryd.call29) ?_ | refine callK3_of (FnG.ct kTo Tryd.call29) ?_ | refine callK3_of (FnG.ct kLk Tryd.call27) ?_ | refine callK3_of (FnG.ct kNm Tryd.call33) ?_); (try simp (maxSteps := 1000000) (disch := refine hold_ ?_; first | (simp [hsz, hg, hS, n34, n39, n42, a1, -List.getD_eq_getElem?_getD]; done) | omega) [hsz, hg, hS, n34, n39, n42, a1, -List.getD_eq_getElem?_getD]); first | (with_reducible refine zZ ?_) | subst hK_) | ((first | (with_reducible first | refine zP fun K_ hK_ => ?_ | refine zQ fun K_ hK_ => ?_ | refine zT ?_ | refine zU ?_ | refine zV ?_ | refine zW ?_ | refine zX ?_ | refine zY ?_) | ((with_reducible first | refine zR ?_ ?_ fun K_ hK_ => ?_ | refine zS ?_ ?_ fun K_ hK_ => ?_); (focus kernel_rfl); (focus kernel_rfl))); first | (simp (maxSteps := 1000000) (disch := refine hold_ ?_; first | (simp [hsz, hg, hS, n34, n39, n42, a1, -List.getD_eq_getElem?_getD]; done) | omega) [hsz, hg, hS, n34, n39, n42, a1, -List.getD_eq_getElem?_getD]; try first | (with_reducible refine zZ ?_) | subst hK_) | subst hK_) | (with_reducible first | refine zA ?_ | refine zB ?_ | refine zC ?_ | refine zD ?_ | refine zE ?_ | refine zF ?_ | refine zG ?_ | refine zH ?_ | refine zI ?_ | refine zJ ?_ | refine zK ?_ | refine zL ?_ | refine zM ?_ | refine zN ?_ | refine zO ?_) | ((with_reducible refine yG ?_ ?_); (focus decide)) | ((with_reducible refine yA ?_); refine yB rfl ?_; (with_reducible first | refine yC ?_ | refine yD ?_)))
            all_goals simp (maxSteps := 1000000) (disch := refine hold_ ?_; first | (simp [-List.getD_eq_getElem?_getD]; done) | omega) [-List.getD_eq_getElem?_getD]
          · refine FnG.of_body Tryd.func13 rfl ?_
            repeat (first | ((with_reducible first | refine callK_at 30 ?_ | refine callK_at 31 ?_); refine callK_p ?_; simp (maxSteps := 1000000) (disch := refine hold_ ?_; first | (simp [hsz, hg, hS, n34, n39, n42, a1, a2, -List.getD_eq_getElem?_getD]; done) | omega) [hsz, hg, hS, n34, n39, n42, a1, a2, -List.getD_eq_getElem?_getD]; (first | refine callK1_of (Fn.ct marks_ct Tryd.call30) ?_ | refine callK1_of (Fn.ct operators_ct Tryd.call31) ?_); (try simp (maxSteps := 1000000) (disch := refine hold_ ?_; first | (simp [hsz, hg, hS, n34, n39, n42, a1, a2, -List.getD_eq_getElem?_getD]; done) | omega) [hsz, hg, hS, n34, n39, n42, a1, a2, -List.getD_eq_getElem?_getD]); first | (with_reducible refine zZ ?_) | subst hK_) | ((with_reducible first | refine callK_at 29 ?_ | refine callK_at 27 ?_ | refine callK_at 33 ?_); refine callK_o (by decide) ?_; simp (maxSteps := 1000000) (disch := refine hold_ ?_; first | (simp [hsz, hg, hS, n34, n39, n42, a1, a2, -List.getD_eq_getElem?_getD]; done) | omega) [hsz, hg, hS, n34, n39, n42, a1, a2, -List.getD_eq_getElem?_getD]; (first | refine callK3_of (FnG.ct kTm Tryd.call29) ?_ | refine callK3_of (FnG.ct kTo Tryd.call29) ?_ | refine callK3_of (FnG.ct kLk Tryd.call27) ?_ | refine callK3_of (FnG.ct kNm Tryd.call33) ?_); (try simp (maxSteps := 1000000) (disch := refine hold_ ?_; first | (simp [hsz, hg, hS, n34, n39, n42, a1, a2, -List.getD_eq_getElem?_getD]; done) | omega) [hsz, hg, hS, n34, n39, n42, a1, a2, -List.getD_eq_getElem?_getD]); first | (with_reducible refine zZ ?_) | subst hK_) | ((first | (with_reducible first | refine zP fun K_ hK_ => ?_ | refine zQ fun K_ hK_ => ?_ | refine zT ?_ | refine zU ?_ | refine zV ?_ | refine zW ?_ | refine zX ?_ | refine zY ?_) | ((with_reducible first | refine zR ?_ ?_ fun K_ hK_ => ?_ | refine zS ?_ ?_ fun K_ hK_ => ?_); (focus kernel_rfl); (focus kernel_rfl))); first | (simp (maxSteps := 1000000) (disch := refine hold_ ?_; first | (simp [hsz, hg, hS, n34, n39, n42, a1, a2, -List.getD_eq_getElem?_getD]; done) | omega) [hsz, hg, hS, n34, n39, n42, a1, a2, -List.getD_eq_getElem?_getD]; try first | (with_reducible refine zZ ?_) | subst hK_) | subst hK_) | (with_reducible first | refine zA ?_ | refine zB ?_ | refine zC ?_ | refine zD ?_ | refine zE ?_ | refine zF ?_ | refine zG ?_ | refine zH ?_ | refine zI ?_ | refine zJ ?_ | refine zK ?_ | refine zL ?_ | refine zM ?_ | refine zN ?_ | refine zO ?_) | ((with_reducible refine yG ?_ ?_); (focus decide)) | ((with_reducible refine yA ?_); refine yB rfl ?_; (with_reducible first | refine yC ?_ | refine yD ?_)))
            all_goals simp (maxSteps := 1000000) (disch := refine hold_ ?_; first | (simp [-List.getD_eq_getElem?_getD]; done) | omega) [-List.getD_eq_getElem?_getD]
end Go.Av.Lex
end
section
set_option linter.unusedSimpArgs false
set_option linter.unusedVariables false
open Go Go.Av Go.Proofs
namespace Go.Av.Lex
theorem okB_at : ∀ (n : Nat) (l : List (BitVec 8)) (k : Nat), l.length ≤ n → okB l → k < l.length → bt l k < 128 → okB (l.drop k) := by
  intro n
  induction n with
  | zero => intro l k h _ hk; omega
  | succ n ih =>
    intro l k h hok hk hb
    by_cases h0 : k = 0
    · subst h0; exact hok
    obtain ⟨h1, h2⟩ := okB_cons hok (by omega)
    obtain ⟨_, hc⟩ := okS_nat l h1
    have hlen := okS_len l
    have hge : okS l ≤ k := by
      apply Nat.le_of_not_lt
      intro hlt
      have b1 := bt_bn l 1
      have b2 := bt_bn l 2
      have b3 := bt_bn l 3
      rcases hc with ⟨c1, c2, c3⟩ | ⟨c1, c1', c2, c3, c4, c5, c6⟩ | ⟨c1, c1', c2, c3, c4, c5, c6, c7, c8, c9, c10⟩ | ⟨c1, c1', c2, c3, c4, c5, c6, c7, c8, c9, c10, c11, c12⟩
      · omega
      · obtain rfl : k = 1 := by omega
        omega
      · have : k = 1 ∨ k = 2 := by omega
        rcases this with rfl | rfl <;> omega
      · have : k = 1 ∨ k = 2 ∨ k = 3 := by omega
        rcases this with rfl | rfl | rfl <;> omega
    have hbt : bt (l.drop (okS l)) (k - okS l) = bt l k := by
      unfold bt
      simp only [List.getD_eq_getElem?_getD, List.getElem?_drop]
      rw [show okS l + (k - okS l) = k by omega]
    have := ih (l.drop (okS l)) (k - okS l) (by rw [List.length_drop]; omega) h2 (by rw [List.length_drop]; omega) (by rw [hbt]; exact hb)
    rw [List.drop_drop, show okS l + (k - okS l) = k by omega] at this
    exact this
theorem okB_next {l : List (BitVec 8)} {k : Nat} (h : okB l) (hk : k < l.length) (hb : bt l k < 128) : okB (l.drop (k + 1)) := by
  have h1 := okB_at _ l k (Nat.le_refl _) h hk hb
  have h2 : bt (l.drop k) 0 = bt l k := by unfold bt; simp [List.getD_eq_getElem?_getD]
  have := okB_asc h1 (by rw [List.length_drop]; omega) (by rw [h2]; exact hb)
  rwa [List.drop_drop] at this
theorem okB_tw (p : BitVec 8 → Bool) (hp : ∀ c, p c = true → c.toNat < 128) : ∀ (l : List (BitVec 8)), okB l → okB (l.dropWhile p)
  | [], h => h
  | c :: l, h => by
    rw [List.dropWhile_cons]
    split
    · rename_i hc
      have := okB_asc h (by simp) (by have := hp c hc; show ((c.toNat : Nat) : Int) < 128; omega)
      exact okB_tw p hp l (by simpa using this)
    · exact h
theorem okB_skL {l : List (BitVec 8)} (h : okB l) : okB (skL l) := by
  refine okB_tw bd ?_ l h
  intro c hc
  unfold bd blankB at hc
  have : ub c = (c.toNat : Int) := rfl
  simp only [Bool.or_eq_true, beq_iff_eq] at hc
  omega
theorem skL_len (l : List (BitVec 8)) : (skL l).length ≤ l.length := by
  unfold skL; rw [dw_drop, List.length_drop]; omega
theorem okB_pre : ∀ (x S : List (BitVec 8)), okB S → preB S x = true → (∀ c ∈ x, c.toNat < 128) → okB (S.drop x.length)
  | [], S, h, _, _ => h
  | d :: x, [], h, hp, _ => by have := (preB_cons hp).1; simp at this
  | d :: x, c :: S, h, hp, hx => by
    obtain ⟨h1, h2⟩ := preB_cons hp
    simp only [List.length_cons, List.take_succ_cons, List.cons.injEq] at h1 h2
    obtain ⟨rfl, h2⟩ := h2
    have := okB_asc h (by simp) (by have := hx c (by simp); show ((c.toNat : Nat) : Int) < 128; omega)
    simp only [List.length_cons, List.drop_succ_cons]
    refine okB_pre x S (by simpa using this) ?_ (fun c hc => hx c (List.mem_cons_of_mem _ hc))
    unfold preB
    rw [Bool.and_eq_true, decide_eq_true_eq, beq_iff_eq]
    exact ⟨by omega, h2⟩
theorem takeL_some {ps : List (List (BitVec 8))} {S x : List (BitVec 8)} (h : takeL ps S = some x) : x ∈ ps ∧ preB S x = true := by
  rcases take_or ps S with ⟨h1, _⟩ | ⟨n, hn, h2, h3, _⟩
  · rw [h1] at h; cases h
  · rw [h2] at h; cases h
    refine ⟨?_, h3⟩
    rw [List.getD_eq_getElem?_getD, List.getElem?_eq_getElem hn]; exact List.getElem_mem hn
theorem signs_asc : ∀ x ∈ marksL ++ opsL, 0 < x.length ∧ ∀ c ∈ x, c.toNat < 128 := by decide
theorem signL_some {S : List (BitVec 8)} {q : Nat × List (BitVec 8)} (h : signL S = some q) : preB S q.2 = true ∧ 0 < q.2.length ∧ ∀ c ∈ q.2, c.toNat < 128 := by
  unfold signL at h
  cases hm : takeL marksL S with
  | some x =>
    rw [hm] at h; cases h
    obtain ⟨h1, h2⟩ := takeL_some hm
    exact ⟨h2, signs_asc x (by simp [h1])⟩
  | none =>
    rw [hm] at h
    simp only [Option.map_eq_some_iff] at h
    obtain ⟨x, hx, rfl⟩ := h
    obtain ⟨h1, h2⟩ := takeL_some hx
    exact ⟨h2, signs_asc x (by simp [h1])⟩
theorem bt_ub (l : List (BitVec 8)) (k : Nat) : bt l k = ub (l.getD k 0#8) := rfl
theorem step_less (S : List (BitVec 8)) (T : List Tok) (nl : Bool) (hS : 0 < S.length) (hok : okB S) (h : (stepR S T nl).1 = 0) :
    (stepR S T nl).2.1.length < S.length ∧ okB (stepR S T nl).2.1 ∧ (stepR S T nl).2.2.1.length = T.length + 1 ∧ (stepR S T nl).2.2.2 = false := by
  unfold stepR at h ⊢
  by_cases hd : digB (S.getD 0 0#8) = true
  · rw [if_pos hd] at h ⊢
    simp only at h ⊢
    have h1 : digs S ≠ 0 := by
      match S, hS with
      | c :: l, _ =>
        unfold digs
        rw [List.takeWhile_cons, if_pos (show digB c = true from hd)]; simp
    have h2 := tw_le digB S
    have h3 : okB (S.drop (digs S)) := by
      have := okB_tw digB (fun c hc => by unfold digB at hc; simp at hc; omega) S hok
      rwa [dw_drop] at this
    unfold numR at h ⊢
    split at h
    · exact absurd h (by simp)
    · rename_i c1
      split at h
      · exact absurd h (by simp)
      · rename_i c2
        rw [if_neg c1, if_neg c2]
        exact ⟨by rw [List.length_drop]; omega, h3, by simp, rfl⟩
  rw [if_neg hd] at h ⊢
  by_cases hq : S.getD 0 0#8 = 34#8 ∨ S.getD 0 0#8 = 39#8
  · rw [if_pos hq] at h ⊢
    simp only at h ⊢
    have hlt : (S.getD 0 0#8).toNat < 128 := by rcases hq with e | e <;> rw [e] <;> decide
    have hok1 : okB (S.drop 1) := okB_asc hok hS (by show ((S.getD 0 0#8).toNat : Int) < 128; omega)
    have hdl : (S.drop 1).length = S.length - 1 := List.length_drop
    unfold litL at h ⊢
    rcases cutB_idx (S.getD 0 0#8) (S.drop 1) with ⟨h1, _⟩ | ⟨k, hi, hk, h1⟩
    · rw [h1] at h; exact absurd h (by simp)
    · rw [h1] at h ⊢
      simp only at h ⊢
      refine ⟨by rw [List.length_drop]; omega, ?_, by simp, by trivial⟩
      refine okB_next hok1 hk ?_
      rcases idxI_spec (S.drop 1) (S.getD 0 0#8) with ⟨e, _⟩ | ⟨k', e, hk', hg, _⟩
      · rw [e] at hi; omega
      · have : k' = k := by rw [e] at hi; omega
        subst this
        rw [bt_ub, show (S.drop 1).getD k' 0#8 = S.getD 0 0#8 from hg]
        show ((S.getD 0 0#8).toNat : Int) < 128; omega
  rw [if_neg hq] at h ⊢
  by_cases hs : S.getD 0 0#8 = 42#8
  · rw [if_pos hs] at h ⊢
    refine ⟨by show (S.drop 1).length < _; rw [List.length_drop]; omega, ?_, by simp, rfl⟩
    exact okB_asc hok hS (by rw [bt_ub, hs]; decide)
  rw [if_neg hs] at h ⊢
  cases hsg : signL S with
  | some q =>
    rw [hsg] at h
    obtain ⟨p1, p2, p3⟩ := signL_some hsg
    have := (preB_cons p1).1
    exact ⟨by show (S.drop q.2.length).length < _; rw [List.length_drop]; omega, okB_pre q.2 S hok p1 p3, by simp, rfl⟩
  | none =>
    rw [hsg] at h
    simp only at h ⊢
    have hwl := wordL_le S
    have hokw := okB_word hok
    cases hL : lookB T with
    | true =>
      rw [hL] at h
      simp only [if_true] at h ⊢
      unfold opR at h ⊢
      cases ho : opB S with
      | false => rw [ho] at h; exact absurd h (by simp)
      | true =>
        rw [ho] at h
        simp only [if_true] at h ⊢
        have hne : (wordL S).length ≠ 0 := by
          intro e
          unfold opB at ho
          rw [List.eq_nil_of_length_eq_zero e] at ho
          exact absurd ho (by simp [opwL])
        exact ⟨by rw [List.length_drop]; omega, hokw, by simp, by trivial⟩
    | false =>
      rw [hL] at h
      simp only [Bool.false_eq_true, if_false] at h ⊢
      unfold namedR at h ⊢
      by_cases hw : (wordL S == []) = true
      · rw [if_pos hw] at h; exact absurd h (by simp)
      rw [if_neg hw] at h ⊢
      have hne : (wordL S).length ≠ 0 := fun e => hw (beq_iff_eq.2 (List.eq_nil_of_length_eq_zero e))
      have hrl : (S.drop (wordL S).length).length = S.length - (wordL S).length := List.length_drop
      by_cases hB : preB (S.drop (wordL S).length) [58#8, 42#8] = true
      · rw [if_pos hB] at h ⊢
        have := (preB_cons hB).1
        refine ⟨by show ((S.drop (wordL S).length).drop 2).length < _; rw [List.length_drop]; omega, ?_, by simp, rfl⟩
        exact okB_pre [58#8, 42#8] _ hokw hB (by decide)
      rw [if_neg hB] at h ⊢
      have tl : ∀ (w2 rest2 : List (BitVec 8)), okB rest2 → rest2.length < S.length → (if (namedT S w2 rest2 T nl).1 = true then (0 : Int) else 4) = 0 →
          (namedT S w2 rest2 T nl).2.1.length < S.length ∧ okB (namedT S w2 rest2 T nl).2.1 ∧ (namedT S w2 rest2 T nl).2.2.1.length = T.length + 1 ∧ (namedT S w2 rest2 T nl).2.2.2 = false := by
        intro w2 rest2 h1 h2 h3
        unfold namedT at h3 ⊢
        cases hk : kindN w2 (skL rest2) with
        | none => rw [hk] at h3; exact absurd h3 (by simp)
        | some k => exact ⟨h2, h1, by simp, rfl⟩
      by_cases hF : fullB (S.drop (wordL S).length) = true
      · rw [if_pos hF] at h ⊢
        refine tl _ _ ?_ ?_ h
        · have hp : preB (S.drop (wordL S).length) [58#8] = true := by
            unfold fullB at hF; rw [Bool.and_eq_true] at hF; exact hF.1
          have h1 := okB_word (okB_pre1 hokw hp (by decide))
          rw [List.drop_drop, List.drop_drop] at h1
          rw [List.length_append, List.length_cons, show (wordL S).length + ((wordL ((S.drop (wordL S).length).drop 1)).length + 1) = (wordL S).length + 1 + (wordL ((S.drop (wordL S).length).drop 1)).length by omega]
          simpa [List.drop_drop, Nat.add_assoc] using h1
        · rw [List.length_drop, List.length_append, List.length_cons]; omega
      · rw [if_neg hF] at h ⊢
        exact tl _ _ hokw (by omega) h
end Go.Av.Lex
end
section
set_option linter.unusedSimpArgs false
set_option linter.unusedVariables false
open Go Go.Av Go.Proofs
namespace Go.Av.Lex
def lexG : Nat → List (BitVec 8) → List Tok → Bool → Int × List Tok × Bool
  | 0, _, T, nl => (0, T, nl)
  | n + 1, S, T, nl => if S == [] then (0, T, nl)
    else if (stepR S T nl).1 = 0 then lexG n (skL (stepR S T nl).2.1) (stepR S T nl).2.2.1 (stepR S T nl).2.2.2
    else ((stepR S T nl).1, [], true)
theorem lexG_nil (n : Nat) (T : List Tok) (nl : Bool) : lexG n [] T nl = (0, T, nl) := by cases n <;> rfl
theorem lexG_more : ∀ (n m : Nat) (S : List (BitVec 8)) (T : List Tok) (nl : Bool), S.length ≤ n → S.length ≤ m → okB S → lexG n S T nl = lexG m S T nl
  | 0, m, S, T, nl, h, _, _ => by
    obtain rfl := List.eq_nil_of_length_eq_zero (Nat.le_zero.1 h)
    rw [lexG_nil, lexG_nil]
  | n + 1, 0, S, T, nl, _, h, _ => by
    obtain rfl := List.eq_nil_of_length_eq_zero (Nat.le_zero.1 h)
    rw [lexG_nil, lexG_nil]
  | n + 1, m + 1, S, T, nl, h1, h2, hok => by
    simp only [lexG]
    by_cases hS : (S == []) = true
    · rw [if_pos hS, if_pos hS]
    rw [if_neg hS, if_neg hS]
    by_cases h0 : (stepR S T nl).1 = 0
    · rw [if_pos h0, if_pos h0]
      have hp : 0 < S.length := by
        cases S with
        | nil => simp at hS
        | cons c l => simp
      obtain ⟨a, b, c, d⟩ := step_less S T nl hp hok h0
      have := skL_len (stepR S T nl).2.1
      exact lexG_more n m _ _ _ (by omega) (by omega) (okB_skL b)
    · rw [if_neg h0, if_neg h0]
def lexL (s : List (BitVec 8)) : Int × List Tok × Bool :=
  if s.length > 1000 then (3, [], true) else if textB s then lexG s.length (skL s) [] true else (4, [], true)
def lexV (R : Int × List Tok × Bool) : List V := if R.1 = 0 then [.row (tkR R.2.1) 0 0 R.2.2, .p (.int .i64 0)] else [.p (.sl (.vals 1 []) true), .p (.int .i64 R.1)]
def lexN (R : Int × List Tok × Bool) : Nat := if R.1 = 0 then 1 else 0
theorem textB_ok {s : List (BitVec 8)} (h : textB s = true) : okB s := by
  unfold textB at h
  cases hc : charsL s with
  | none => rw [hc] at h; cases h
  | some c => exact ⟨c, hc⟩
def lxSt (S : List (BitVec 8)) (T : List Tok) (nl : Bool) : St := ⟨(V.junk :: V.junk :: V.junk :: V.junk :: .ptr 18 0 0 :: V.junk :: V.junk :: V.junk :: V.junk :: V.junk :: V.junk :: V.junk :: V.junk :: V.junk :: V.junk :: V.junk :: V.junk :: V.junk :: V.junk :: V.junk :: V.junk :: V.junk :: V.junk :: V.junk :: V.junk :: V.junk :: V.junk :: V.junk :: V.junk :: V.junk :: V.junk :: V.junk :: V.junk :: V.junk :: V.junk :: V.junk :: V.junk :: V.junk :: V.junk :: V.junk :: V.junk :: []), ⟨[(18, (0, .cells [.p (.str (txt S)), .row (tkR T) 0 0 nl]))], [(0, 0)]⟩⟩
set_option maxHeartbeats 4000000 in
theorem lex_ct (s : List (BitVec 8)) (hl : s.length ≤ 4000000) : Fn Tryd.prog 8 [.str (txt s)] (lexV (lexL s)) (lexN (lexL s)) := by
  have hsz := txt_size s
  have hb := txt_bytes s
  have k11 := utext_ct false s hl
  unfold lexL
  by_cases h1 : s.length > 1000
  · rw [if_pos h1]
    have hz : (1000 : Int) < s.length := by omega
    refine Fn.of_body Tryd.func8 rfl ?_
    repeat (first | ((first | (with_reducible first | refine zP fun K_ hK_ => ?_ | refine zQ fun K_ hK_ => ?_ | refine zT ?_ | refine zU ?_ | refine zV ?_ | refine zW ?_ | refine zX ?_ | refine zY ?_) | ((with_reducible first | refine zR ?_ ?_ fun K_ hK_ => ?_ | refine zS ?_ ?_ fun K_ hK_ => ?_); (focus kernel_rfl); (focus kernel_rfl))); first | (simp (maxSteps := 1000000) (disch := refine hold_ ?_; first | (simp [hsz, hz, -List.getD_eq_getElem?_getD]; done) | omega) [hsz, hz, -List.getD_eq_getElem?_getD]; try first | (with_reducible refine zZ ?_) | subst hK_) | subst hK_) | (with_reducible first | refine zA ?_ | refine zB ?_ | refine zC ?_ | refine zD ?_ | refine zE ?_ | refine zF ?_ | refine zG ?_ | refine zH ?_ | refine zI ?_ | refine zJ ?_ | refine zK ?_ | refine zL ?_ | refine zM ?_ | refine zN ?_ | refine zO ?_) | ((with_reducible refine yG ?_ ?_); (focus decide)) | ((with_reducible refine yA ?_); refine yB rfl ?_; (with_reducible first | refine yC ?_ | refine yD ?_)))
    all_goals simp (maxSteps := 1000000) (disch := refine hold_ ?_; first | (simp [lexV, lexN, -List.getD_eq_getElem?_getD]; done) | omega) [lexV, lexN, -List.getD_eq_getElem?_getD]
  rw [if_neg h1]
  have hz : ¬ (1000 : Int) < s.length := by omega
  cases ht : textB s with
  | false =>
    rw [ht] at k11
    simp only [Bool.false_eq_true, if_false]
    refine Fn.of_body Tryd.func8 rfl ?_
    repeat (first | ((with_reducible first | refine callK_at 11 ?_); refine callK_p ?_; simp (maxSteps := 1000000) (disch := refine hold_ ?_; first | (simp [hsz, hz, hb, atobytes, -List.getD_eq_getElem?_getD]; done) | omega) [hsz, hz, hb, atobytes, -List.getD_eq_getElem?_getD]; (first | refine callK1_of (Fn.ct k11 Tryd.call11) ?_); (try simp (maxSteps := 1000000) (disch := refine hold_ ?_; first | (simp [hsz, hz, hb, atobytes, -List.getD_eq_getElem?_getD]; done) | omega) [hsz, hz, hb, atobytes, -List.getD_eq_getElem?_getD]); first | (with_reducible refine zZ ?_) | subst hK_) | ((first | (with_reducible first | refine zP fun K_ hK_ => ?_ | refine zQ fun K_ hK_ => ?_ | refine zT ?_ | refine zU ?_ | refine zV ?_ | refine zW ?_ | refine zX ?_ | refine zY ?_) | ((with_reducible first | refine zR ?_ ?_ fun K_ hK_ => ?_ | refine zS ?_ ?_ fun K_ hK_ => ?_); (focus kernel_rfl); (focus kernel_rfl))); first | (simp (maxSteps := 1000000) (disch := refine hold_ ?_; first | (simp [hsz, hz, hb, atobytes, -List.getD_eq_getElem?_getD]; done) | omega) [hsz, hz, hb, atobytes, -List.getD_eq_getElem?_getD]; try first | (with_reducible refine zZ ?_) | subst hK_) | subst hK_) | (with_reducible first | refine zA ?_ | refine zB ?_ | refine zC ?_ | refine zD ?_ | refine zE ?_ | refine zF ?_ | refine zG ?_ | refine zH ?_ | refine zI ?_ | refine zJ ?_ | refine zK ?_ | refine zL ?_ | refine zM ?_ | refine zN ?_ | refine zO ?_) | ((with_reducible refine yG ?_ ?_); (focus decide)) | ((with_reducible refine yA ?_); refine yB rfl ?_; (with_reducible first | refine yC ?_ | refine yD ?_)))
    all_goals simp (maxSteps := 1000000) (disch := refine hold_ ?_; first | (simp [lexV, lexN, -List.getD_eq_getElem?_getD]; done) | omega) [lexV, lexN, -List.getD_eq_getElem?_getD]
  | true =>
    rw [ht] at k11
    simp only [if_true]
    have hok := okB_skL (textB_ok ht)
    have k12 := skip_ct s
    have hsl := skL_len s
    generalize hR : lexG s.length (skL s) [] true = R
    have hR' : lexG (skL s).length (skL s) [] true = R := by rw [← hR]; exact lexG_more _ _ _ _ _ (Nat.le_refl _) hsl hok
    clear hR
    generalize skL s = S0 at *
    refine Fn.of_body Tryd.func8 rfl ?_
    repeat (first | ((with_reducible first | refine callK_at 11 ?_ | refine callK_at 12 ?_); refine callK_p ?_; simp (maxSteps := 1000000) (disch := refine hold_ ?_; first | (simp [hsz, hz, hb, atobytes, -List.getD_eq_getElem?_getD]; done) | omega) [hsz, hz, hb, atobytes, -List.getD_eq_getElem?_getD]; (first | refine callK1_of (Fn.ct k11 Tryd.call11) ?_ | refine callK1_of (Fn.ct k12 Tryd.call12) ?_); (try simp (maxSteps := 1000000) (disch := refine hold_ ?_; first | (simp [hsz, hz, hb, atobytes, -List.getD_eq_getElem?_getD]; done) | omega) [hsz, hz, hb, atobytes, -List.getD_eq_getElem?_getD]); first | (with_reducible refine zZ ?_) | subst hK_) | ((first | (with_reducible first | refine zP fun K_ hK_ => ?_ | refine zQ fun K_ hK_ => ?_ | refine zT ?_ | refine zU ?_ | refine zV ?_ | refine zW ?_ | refine zX ?_ | refine zY ?_) | ((with_reducible first | refine zR ?_ ?_ fun K_ hK_ => ?_ | refine zS ?_ ?_ fun K_ hK_ => ?_); (focus kernel_rfl); (focus kernel_rfl))); first | (simp (maxSteps := 1000000) (disch := refine hold_ ?_; first | (simp [hsz, hz, hb, atobytes, -List.getD_eq_getElem?_getD]; done) | omega) [hsz, hz, hb, atobytes, -List.getD_eq_getElem?_getD]; try first | (with_reducible refine zZ ?_) | subst hK_) | subst hK_) | (with_reducible first | refine zA ?_ | refine zB ?_ | refine zC ?_ | refine zD ?_ | refine zE ?_ | refine zF ?_ | refine zG ?_ | refine zH ?_ | refine zI ?_ | refine zJ ?_ | refine zK ?_ | refine zL ?_ | refine zM ?_ | refine zN ?_ | refine zO ?_) | ((with_reducible refine yG ?_ ?_); (focus decide)) | ((with_reducible refine yA ?_); refine yB rfl ?_; (with_reducible first | refine yC ?_ | refine yD ?_)))
    refine AW.nilCell 18 1 (tkR []) 18 0 _ _ rfl rfl rfl ?_
    refine AW.iterI (τ := lxSt S0 [] true) (false :: false :: false :: false :: true :: false :: false :: false :: false :: false :: false :: false :: false :: false :: false :: false :: false :: false :: false :: false :: false :: false :: false :: false :: false :: false :: false :: false :: false :: false :: false :: false :: false :: false :: false :: false :: false :: false :: false :: false :: false :: []) S0.length (fun m σ => ∃ S T nl, S.length = m ∧ okB S ∧ T.length + S.length ≤ 1000 ∧ lexG S.length S T nl = R ∧ σ = lxSt S T nl) ?_ ⟨S0, [], true, rfl, hok, by simp; omega, hR', rfl⟩ ?_
    · (unfold lxSt; simp (maxSteps := 1000000) (disch := refine hold_ ?_; first | (simp [-List.getD_eq_getElem?_getD]; done) | omega) [-List.getD_eq_getElem?_getD])
    rintro m σ ⟨S, T, nl, rfl, hokS, hTS, hlex, rfl⟩
    unfold lxSt
    have hne : strBin .neq (txt S) (ByteArray.mk #[]) = some (.bool !(S == [])) := str_neq_txt S []
    by_cases hS : S = []
    · subst hS
      rw [lexG_nil] at hlex
      subst hlex
      have e : (([] : List (BitVec 8)) == []) = true := rfl
      rw [e] at hne
      repeat (first | ((first | (with_reducible first | refine zP fun K_ hK_ => ?_ | refine zQ fun K_ hK_ => ?_ | refine zT ?_ | refine zU ?_ | refine zV ?_ | refine zW ?_ | refine zX ?_ | refine zY ?_) | ((with_reducible first | refine zR ?_ ?_ fun K_ hK_ => ?_ | refine zS ?_ ?_ fun K_ hK_ => ?_); (focus kernel_rfl); (focus kernel_rfl))); first | (simp (maxSteps := 1000000) (disch := refine hold_ ?_; first | (simp [hne, -List.getD_eq_getElem?_getD]; done) | omega) [hne, -List.getD_eq_getElem?_getD]; try first | (with_reducible refine zZ ?_) | subst hK_) | subst hK_) | (with_reducible first | refine zA ?_ | refine zB ?_ | refine zC ?_ | refine zD ?_ | refine zE ?_ | refine zF ?_ | refine zG ?_ | refine zH ?_ | refine zI ?_ | refine zJ ?_ | refine zK ?_ | refine zL ?_ | refine zM ?_ | refine zN ?_ | refine zO ?_) | ((with_reducible refine yG ?_ ?_); (focus decide)) | ((with_reducible refine yA ?_); refine yB rfl ?_; (with_reducible first | refine yC ?_ | refine yD ?_)))
      all_goals simp (maxSteps := 1000000) (disch := refine hold_ ?_; first | (simp [lexV, lexN, -List.getD_eq_getElem?_getD]; done) | omega) [lexV, lexN, -List.getD_eq_getElem?_getD]
    · have e : (S == []) = false := beq_eq_false_iff_ne.2 hS
      rw [e] at hne
      have hp : 0 < S.length := List.length_pos_iff.2 hS
      have k13 := step_ct S T nl hp (by omega) (by omega) hokS
      obtain ⟨q, hq⟩ : ∃ q, S.length = q + 1 := ⟨S.length - 1, by omega⟩
      rw [hq] at hlex
      simp only [lexG, e, Bool.false_eq_true, if_false] at hlex
      by_cases h0 : (stepR S T nl).1 = 0
      · rw [if_pos h0] at hlex
        obtain ⟨a, b, c, d⟩ := step_less S T nl hp hokS h0
        have k12' := skip_ct (stepR S T nl).2.1
        have hsl2 := skL_len (stepR S T nl).2.1
        have hok2 := okB_skL b
        have hlex2 : lexG (skL (stepR S T nl).2.1).length (skL (stepR S T nl).2.1) (stepR S T nl).2.2.1 (stepR S T nl).2.2.2 = R := by
          rw [← hlex]; exact lexG_more _ _ _ _ _ (Nat.le_refl _) (by omega) hok2
        clear hlex
        generalize stepR S T nl = r at *
        obtain ⟨r1, r2, r3, r4⟩ := r
        simp only at h0 a b c d k12' hsl2 hok2 hlex2 k13
        subst h0
        generalize skL r2 = S2 at *
        unfold rdH at k13
        repeat (first | ((with_reducible first | refine callK_at 13 ?_); refine callK_o (by decide) ?_; simp (maxSteps := 1000000) (disch := refine hold_ ?_; first | (simp [hne, -List.getD_eq_getElem?_getD]; done) | omega) [hne, -List.getD_eq_getElem?_getD]; (first | refine callK3_of (FnG.ct k13 Tryd.call13) ?_); (try simp (maxSteps := 1000000) (disch := refine hold_ ?_; first | (simp [hne, -List.getD_eq_getElem?_getD]; done) | omega) [hne, -List.getD_eq_getElem?_getD]); first | (with_reducible refine zZ ?_) | subst hK_) | ((with_reducible first | refine callK_at 12 ?_); refine callK_p ?_; simp (maxSteps := 1000000) (disch := refine hold_ ?_; first | (simp [hne, -List.getD_eq_getElem?_getD]; done) | omega) [hne, -List.getD_eq_getElem?_getD]; (first | refine callK1_of (Fn.ct k12' Tryd.call12) ?_); (try simp (maxSteps := 1000000) (disch := refine hold_ ?_; first | (simp [hne, -List.getD_eq_getElem?_getD]; done) | omega) [hne, -List.getD_eq_getElem?_getD]); first | (with_reducible refine zZ ?_) | subst hK_) | ((first | (with_reducible first | refine zP fun K_ hK_ => ?_ | refine zQ fun K_ hK_ => ?_ | refine zT ?_ | refine zU ?_ | refine zV ?_ | refine zW ?_ | refine zX ?_ | refine zY ?_) | ((with_reducible first | refine zR ?_ ?_ fun K_ hK_ => ?_ | refine zS ?_ ?_ fun K_ hK_ => ?_); (focus kernel_rfl); (focus kernel_rfl))); first | (simp (maxSteps := 1000000) (disch := refine hold_ ?_; first | (simp [hne, -List.getD_eq_getElem?_getD]; done) | omega) [hne, -List.getD_eq_getElem?_getD]; try first | (with_reducible refine zZ ?_) | subst hK_) | subst hK_) | (with_reducible first | refine zA ?_ | refine zB ?_ | refine zC ?_ | refine zD ?_ | refine zE ?_ | refine zF ?_ | refine zG ?_ | refine zH ?_ | refine zI ?_ | refine zJ ?_ | refine zK ?_ | refine zL ?_ | refine zM ?_ | refine zN ?_ | refine zO ?_) | ((with_reducible refine yG ?_ ?_); (focus decide)) | ((with_reducible refine yA ?_); refine yB rfl ?_; (with_reducible first | refine yC ?_ | refine yD ?_)))
        refine ⟨S2.length, lxSt S2 r3 r4, by omega, ?_, S2, r3, r4, rfl, hok2, by omega, hlex2, rfl⟩
        (unfold lxSt; simp (maxSteps := 1000000) (disch := refine hold_ ?_; first | (simp [-List.getD_eq_getElem?_getD]; done) | omega) [-List.getD_eq_getElem?_getD])
      · rw [if_neg h0] at hlex
        subst hlex
        generalize stepR S T nl = r at *
        obtain ⟨r1, r2, r3, r4⟩ := r
        simp only at h0 k13 ⊢
        have hb1 : (r1 != 0) = true := bne_iff_ne.2 h0
        unfold rdH at k13
        repeat (first | ((with_reducible first | refine callK_at 13 ?_); refine callK_o (by decide) ?_; simp (maxSteps := 1000000) (disch := refine hold_ ?_; first | (simp [hne, hb1, -List.getD_eq_getElem?_getD]; done) | omega) [hne, hb1, -List.getD_eq_getElem?_getD]; (first | refine callK3_of (FnG.ct k13 Tryd.call13) ?_); (try simp (maxSteps := 1000000) (disch := refine hold_ ?_; first | (simp [hne, hb1, -List.getD_eq_getElem?_getD]; done) | omega) [hne, hb1, -List.getD_eq_getElem?_getD]); first | (with_reducible refine zZ ?_) | subst hK_) | ((first | (with_reducible first | refine zP fun K_ hK_ => ?_ | refine zQ fun K_ hK_ => ?_ | refine zT ?_ | refine zU ?_ | refine zV ?_ | refine zW ?_ | refine zX ?_ | refine zY ?_) | ((with_reducible first | refine zR ?_ ?_ fun K_ hK_ => ?_ | refine zS ?_ ?_ fun K_ hK_ => ?_); (focus kernel_rfl); (focus kernel_rfl))); first | (simp (maxSteps := 1000000) (disch := refine hold_ ?_; first | (simp [hne, hb1, -List.getD_eq_getElem?_getD]; done) | omega) [hne, hb1, -List.getD_eq_getElem?_getD]; try first | (with_reducible refine zZ ?_) | subst hK_) | subst hK_) | (with_reducible first | refine zA ?_ | refine zB ?_ | refine zC ?_ | refine zD ?_ | refine zE ?_ | refine zF ?_ | refine zG ?_ | refine zH ?_ | refine zI ?_ | refine zJ ?_ | refine zK ?_ | refine zL ?_ | refine zM ?_ | refine zN ?_ | refine zO ?_) | ((with_reducible refine yG ?_ ?_); (focus decide)) | ((with_reducible refine yA ?_); refine yB rfl ?_; (with_reducible first | refine yC ?_ | refine yD ?_)))
        all_goals simp (maxSteps := 1000000) (disch := refine hold_ ?_; first | (simp [lexV, lexN, h0, -List.getD_eq_getElem?_getD]; done) | omega) [lexV, lexN, h0, -List.getD_eq_getElem?_getD]
end Go.Av.Lex
end
section
set_option linter.unusedSimpArgs false
set_option linter.unusedVariables false
open Go Go.Av Go.Proofs
namespace Go.Av.Lex
theorem okS_asc (c : BitVec 8) (x : List (BitVec 8)) (h : c.toNat < 128) : okS (c :: x) = 1 ∧ runeN (c :: x) = ub c := by
  have h1 : bt (c :: x) 0 = ub c := rfl
  have h2 : ub c < 128 := by unfold ub; omega
  refine ⟨?_, ?_⟩
  · unfold okS; rw [if_neg (by simp), if_pos (by rw [h1]; exact h2)]
  · unfold runeN; rw [if_pos (by rw [h1]; exact h2), h1]
theorem textB_nil : textB [] = true := by unfold textB; rw [charsL_nil]; rfl
theorem textB_step (l : List (BitVec 8)) (h : l.length ≠ 0) (h2 : okS l ≠ 0) : textB l = (xmlB (runeN l) && textB (l.drop (okS l))) := by
  unfold textB; rw [charsL_step l h h2]
  cases charsL (l.drop (okS l)) with
  | none => simp
  | some c => simp
theorem longF_nocol : ∀ (n : Nat) (f : Bool) (l : List (BitVec 8)), l.length ≤ n → 58#8 ∉ l.take (longF f l) := by
  intro n
  induction n with
  | zero =>
    intro f l h
    obtain rfl := List.eq_nil_of_length_eq_zero (Nat.le_zero.1 h)
    simp
  | succ n ih =>
    intro f l h
    by_cases h0 : l.length = 0
    · obtain rfl := List.eq_nil_of_length_eq_zero h0
      simp
    by_cases h2 : okS l = 0
    · rw [longF_bad f l h0 h2]; simp
    cases hs : ((f && !begB (runeN l)) || !staB (runeN l)) with
    | true => rw [longF_stop f l h0 h2 hs]; simp
    | false =>
      rw [longF_step f l h0 h2 hs, List.take_add]
      have hsta : staB (runeN l) = true := by
        cases hh : staB (runeN l) with
        | true => rfl
        | false => rw [hh] at hs; simp at hs
      intro hm
      rcases List.mem_append.1 hm with h1 | h1
      · obtain ⟨i, hi, he⟩ := List.getElem_of_mem h1
        rw [List.length_take] at hi
        have hlt : i < l.length := by omega
        rw [List.getElem_take] at he
        have hbt : bn l i = 58 := by unfold bn; rw [List.getD_eq_getElem?_getD, List.getElem?_eq_getElem hlt]; simp [he]
        have hle : i < okS l := by omega
        obtain ⟨_, hc⟩ := okS_nat l h2
        rcases hc with ⟨c1, c2, c3⟩ | ⟨c1, c1', c2, c3, c4, c5, c6⟩ | ⟨c1, c1', c2, c3, c4, c5, c6, c7, c8, c9, c10⟩ | ⟨c1, c1', c2, c3, c4, c5, c6, c7, c8, c9, c10, c11, c12⟩
        · obtain rfl : i = 0 := by omega
          rw [c3, hbt] at hsta
          exact absurd hsta (by decide)
        · have : i = 0 ∨ i = 1 := by omega
          rcases this with rfl | rfl <;> omega
        · have : i = 0 ∨ i = 1 ∨ i = 2 := by omega
          rcases this with rfl | rfl | rfl <;> omega
        · have : i = 0 ∨ i = 1 ∨ i = 2 ∨ i = 3 := by omega
          rcases this with rfl | rfl | rfl | rfl <;> omega
      · exact ih false (l.drop (okS l)) (by rw [List.length_drop]; omega) h1
theorem text_asc0 (c : BitVec 8) (b : List (BitVec 8)) (h : c.toNat < 128) (hx : xmlB (ub c) = true) : textB (c :: b) = textB b := by
  obtain ⟨a1, a2⟩ := okS_asc c b h
  rw [textB_step _ (by simp) (by omega), a1, a2, hx]; rfl
def stars : List (BitVec 8) := [42#8, 32#8, 42#8, 32#8, 42#8]
theorem lex_stars : lexL stars = (0, [⟨4, [], 0⟩, ⟨1, [42#8], 0⟩, ⟨4, [], 0⟩], false) := by
  have h : textB stars = true := by
    unfold stars
    rw [text_asc0 _ _ (by decide) (by decide), text_asc0 _ _ (by decide) (by decide), text_asc0 _ _ (by decide) (by decide), text_asc0 _ _ (by decide) (by decide), text_asc0 _ _ (by decide) (by decide)]
    exact textB_nil
  unfold lexL
  rw [if_neg (by decide), h, if_pos rfl]
  rfl
theorem awake_ct : Fn Tryd.prog 7 [] [.p (.bool true)] := by
  have k8 : Fn Tryd.prog 8 [.str (ByteArray.mk #[42, 32, 42, 32, 42])] [.row (.vals 3 [.agg (.vals 1 [.int .i64 4, .str (txt []), .int .i64 0]), .agg (.vals 1 [.int .i64 1, .str (txt [42#8]), .int .i64 0]), .agg (.vals 1 [.int .i64 4, .str (txt []), .int .i64 0])]) 0 0 false, .p (.int .i64 0)] 1 := by
    have k := lex_ct stars (by decide)
    rw [lex_stars] at k; exact k
  have e : (txt [42#8] == ByteArray.mk #[42]) = true := by
    rw [show ByteArray.mk #[42] = txt [42#8] from rfl, txt_beq']; rfl
  generalize txt [42#8] = X at *
  generalize txt ([] : List (BitVec 8)) = Y at *
  refine Fn.of_body Tryd.func7 rfl ?_
  repeat (first | ((first | (with_reducible first | refine zP fun K_ hK_ => ?_ | refine zQ fun K_ hK_ => ?_ | refine zT ?_ | refine zU ?_ | refine zV ?_ | refine zW ?_ | refine zX ?_ | refine zY ?_) | ((with_reducible first | refine zR ?_ ?_ fun K_ hK_ => ?_ | refine zS ?_ ?_ fun K_ hK_ => ?_); (focus kernel_rfl); (focus kernel_rfl))); first | (simp (maxSteps := 1000000) (disch := refine hold_ ?_; first | (simp [-List.getD_eq_getElem?_getD]; done) | omega) [-List.getD_eq_getElem?_getD]; try first | (with_reducible refine zZ ?_) | subst hK_) | subst hK_) | (with_reducible first | refine zA ?_ | refine zB ?_ | refine zC ?_ | refine zD ?_ | refine zE ?_ | refine zF ?_ | refine zG ?_ | refine zH ?_ | refine zI ?_ | refine zJ ?_ | refine zK ?_ | refine zL ?_ | refine zM ?_ | refine zN ?_ | refine zO ?_) | ((with_reducible refine yG ?_ ?_); (focus decide)) | ((with_reducible refine yA ?_); refine yB rfl ?_; (with_reducible first | refine yC ?_ | refine yD ?_)))
  (refine callK_p ?_; simp (maxSteps := 1000000) (disch := refine hold_ ?_; first | (simp [-List.getD_eq_getElem?_getD]; done) | omega) [-List.getD_eq_getElem?_getD]; refine callK1_of (Fn.ct k8 Tryd.call8) ?_; (try simp (maxSteps := 1000000) (disch := refine hold_ ?_; first | (simp [-List.getD_eq_getElem?_getD]; done) | omega) [-List.getD_eq_getElem?_getD]); first | refine zZ ?_ | subst hK_)
  repeat (first | ((first | (with_reducible first | refine zP fun K_ hK_ => ?_ | refine zQ fun K_ hK_ => ?_ | refine zT ?_ | refine zU ?_ | refine zV ?_ | refine zW ?_ | refine zX ?_ | refine zY ?_) | ((with_reducible first | refine zR ?_ ?_ fun K_ hK_ => ?_ | refine zS ?_ ?_ fun K_ hK_ => ?_); (focus kernel_rfl); (focus kernel_rfl))); first | (simp (maxSteps := 1000000) (disch := refine hold_ ?_; first | (simp [e, -List.getD_eq_getElem?_getD]; done) | omega) [e, -List.getD_eq_getElem?_getD]; try first | (with_reducible refine zZ ?_) | subst hK_) | subst hK_) | (with_reducible first | refine zA ?_ | refine zB ?_ | refine zC ?_ | refine zD ?_ | refine zE ?_ | refine zF ?_ | refine zG ?_ | refine zH ?_ | refine zI ?_ | refine zJ ?_ | refine zK ?_ | refine zL ?_ | refine zM ?_ | refine zN ?_ | refine zO ?_) | ((with_reducible refine yG ?_ ?_); (focus decide)) | ((with_reducible refine yA ?_); refine yB rfl ?_; (with_reducible first | refine yC ?_ | refine yD ?_)))
  simp (maxSteps := 1000000) (disch := refine hold_ ?_; first | (simp [e, -List.getD_eq_getElem?_getD]; done) | omega) [e, -List.getD_eq_getElem?_getD]
theorem lexG_len : ∀ (n : Nat) (S : List (BitVec 8)) (T : List Tok) (nl : Bool), S.length ≤ n → okB S → (lexG n S T nl).2.1.length ≤ T.length + S.length
  | 0, S, T, nl, h, _ => by
    obtain rfl := List.eq_nil_of_length_eq_zero (Nat.le_zero.1 h)
    rw [lexG_nil]; simp
  | n + 1, S, T, nl, h, hok => by
    simp only [lexG]
    by_cases hS : (S == []) = true
    · rw [if_pos hS]; show T.length ≤ _; omega
    rw [if_neg hS]
    by_cases h0 : (stepR S T nl).1 = 0
    · rw [if_pos h0]
      have hp : 0 < S.length := by
        cases S with
        | nil => simp at hS
        | cons c l => simp
      obtain ⟨a, b, c, d⟩ := step_less S T nl hp hok h0
      have := skL_len (stepR S T nl).2.1
      have := lexG_len n _ (stepR S T nl).2.2.1 (stepR S T nl).2.2.2 (by omega : (skL (stepR S T nl).2.1).length ≤ n) (okB_skL b)
      omega
    · rw [if_neg h0]; simp
theorem lexL_len (s : List (BitVec 8)) : (lexL s).2.1.length ≤ 1000 := by
  unfold lexL
  split
  · simp
  cases ht : textB s with
  | false => simp
  | true =>
    have h1 := skL_len s
    have := lexG_len s.length (skL s) [] true h1 (okB_skL (textB_ok ht))
    simp only [if_true]
    simp at this; omega
theorem txt_room {s : ByteArray} (h : s.size ≤ reachBytes) : ∃ l, s = txt l ∧ l.length ≤ 200000000000000 := by
  obtain ⟨l, rfl⟩ := txt_of s
  rw [txt_size] at h
  have : reachBytes ≤ 200000000000000 := by decide
  exact ⟨l, rfl, by omega⟩
end Go.Av.Lex
namespace Go.Proofs.YtieloaedeiiibaaDoor
open Go Go.Av Go.Av.Lex
theorem firstL_at (c : Nat) (h : c < 256) : firstL.getD c 0 = ((Lib.firstT c : Nat) : Int) := by
  rw [first_get c h]
  unfold firstF Lib.firstT
  (repeat' split) <;> omega
theorem accL_at : ∀ i : Fin 16, accL.getD (2 * i.val) 0 = ((Lib.accLo i.val : Nat) : Int) ∧ accL.getD (2 * i.val + 1) 0 = ((Lib.accHi i.val : Nat) : Int) := by decide
theorem noVars (W : World) (h : Lib.Utf8Tabs 0 1 W) : ∀ g r, Tables.gl g = some r → RepP (cellsOf W) (.eptr r 0 0) (.pointer (some ⟨g, 0, none⟩)) := by
  intro g r hg
  have one : ∀ (l : List Int) (n : Nat), l.length = n → n ≠ 0 → (∀ j, j < n → W.cell? ⟨g, j, none⟩ = some (.int .u8 (l.getD j 0))) → RepP (cellsOf W) (.eptr (.vals n [.agg (.ints .u8 l)]) 0 0) (.pointer (some ⟨g, 0, none⟩)) := by
    intro l n hl h0 hc
    have := RepP.eptr (m := cellsOf W) (.vals n [.agg (.ints .u8 l)]) 0 0 g 0 (fun _ j => .int .u8 (l.getD j 0)) (by simp [Row.len]) ?_ ?_ ?_ ?_
    · simpa using this
    · intro i hi
      simp only [Row.len, List.length_singleton] at hi
      obtain rfl : i = 0 := by omega
      simpa [Row.elem, PV.width, Row.len, Row.sz] using hl
    · intro i j hi hj
      simp only [Row.len, List.length_singleton] at hi
      obtain rfl : i = 0 := by omega
      show W.cell? ⟨g, 0 + 0 * n + j, none⟩ = _
      rw [show 0 + 0 * n + j = j by omega]; exact hc j (by simpa [Row.sz] using hj)
    · intro i j hi hj
      simp only [Row.len, List.length_singleton] at hi
      obtain rfl : i = 0 := by omega
      rfl
    · intro i j hi hj
      simp only [Row.len, List.length_singleton] at hi
      obtain rfl : i = 0 := by omega
      exact .int .u8 _
  match g, hg with
  | 0, hg =>
    have : r = .vals 256 [.agg (.ints .u8 firstL)] := (Option.some.inj hg).symm
    subst this
    exact one firstL 256 (by simp [firstL]) (by omega) fun j hj => by rw [h.1 j hj, firstL_at j hj]
  | 1, hg =>
    have : r = .vals 32 [.agg (.ints .u8 accL)] := (Option.some.inj hg).symm
    subst this
    refine one accL 32 rfl (by omega) fun j hj => ?_
    obtain ⟨k, hk⟩ : ∃ k, j = 2 * k ∨ j = 2 * k + 1 := ⟨j / 2, by omega⟩
    have hk16 : k < 16 := by omega
    obtain ⟨q1, q2⟩ := h.2 k hk16
    obtain ⟨a1, a2⟩ := accL_at ⟨k, hk16⟩
    rcases hk with rfl | rfl
    · rw [q1, a1]
    · rw [q2, a2]
end Go.Proofs.YtieloaedeiiibaaDoor
end
