/- The walks of this seat's functions, and what is known of what they reckon (Lex7). Conditions: those that each theorem names. -/
import Derived.Test.YtieloaedeiiibaaDoorLex6
section
set_option linter.unusedSimpArgs false
set_option linter.unusedVariables false
open Go Go.Av Go.Proofs
namespace Go.Av.Lex
theorem rat_ct (s p : List (BitVec 8)) (n : Nat) (hn : n ≤ s.length) (hl : s.length ≤ 4000000) (hpl : p.length ≤ 4000000) : Fn Tryd.prog 20 [.str (txt s), .int .i64 n, .str (txt p)] [.p (.bool (preB (s.drop n) p))] := by
  have sl := txt_size s
  have sp := txt_size p
  have hdl : (s.drop n).length = s.length - n := List.length_drop
  have hq := str_eq_txt ((s.drop n).take p.length) p
  have w1 : IntKind.i64.wrap ((s.length : Int) - n) = (s.length : Int) - n := wrap_i64 _ (by omega) (by omega)
  have w2 : IntKind.i64.wrap ((n : Int) + p.length) = ((n + p.length : Nat) : Int) := by rw [wrap_i64 _ (by omega) (by omega)]; omega
  by_cases h : p.length ≤ s.length - n
  · have hz : (p.length : Int) ≤ (s.length : Int) - n := by omega
    have e : preB (s.drop n) p = ((s.drop n).take p.length == p) := by unfold preB; rw [hdl]; simp [h]
    have hx : (txt s).extract n (n + p.length) = txt ((s.drop n).take p.length) := by
      rw [txt_extract, ← List.take_drop]
    have h1 : n ≤ n + p.length := by omega
    have h2 : n + p.length ≤ s.length := by omega
    have h3 : (n : Int) ≤ ((n + p.length : Nat) : Int) := by omega
    rw [e]
    generalize (s.drop n).take p.length = q at *
    generalize n + p.length = m at *
    refine Fn.of_body Tryd.func20 rfl ?_
    repeat (first | ((first | (with_reducible first | refine zP fun K_ hK_ => ?_ | refine zQ fun K_ hK_ => ?_ | refine zT ?_ | refine zU ?_ | refine zV ?_ | refine zW ?_ | refine zX ?_ | refine zY ?_) | ((with_reducible first | refine zR ?_ ?_ fun K_ hK_ => ?_ | refine zS ?_ ?_ fun K_ hK_ => ?_); (focus kernel_rfl); (focus kernel_rfl))); first | (simp (maxSteps := 1000000) (disch := refine hold_ ?_; first | (simp [sl, sp, w1, w2, hz, hx, hq, h1, h2, h3, -List.getD_eq_getElem?_getD]; done) | omega) [sl, sp, w1, w2, hz, hx, hq, h1, h2, h3, -List.getD_eq_getElem?_getD]; try first | (with_reducible refine zZ ?_) | subst hK_) | subst hK_) | (with_reducible first | refine zA ?_ | refine zB ?_ | refine zC ?_ | refine zD ?_ | refine zE ?_ | refine zF ?_ | refine zG ?_ | refine zH ?_ | refine zI ?_ | refine zJ ?_ | refine zK ?_ | refine zL ?_ | refine zM ?_ | refine zN ?_ | refine zO ?_) | ((with_reducible refine yG ?_ ?_); (focus decide)) | ((with_reducible refine yA ?_); refine yB rfl ?_; (with_reducible first | refine yC ?_ | refine yD ?_)))
    all_goals simp (maxSteps := 1000000) (disch := refine hold_ ?_; first | (simp [-List.getD_eq_getElem?_getD]; done) | omega) [-List.getD_eq_getElem?_getD]
  · have hz : ¬ (p.length : Int) ≤ (s.length : Int) - n := by omega
    have e : preB (s.drop n) p = false := by unfold preB; rw [hdl]; simp [h]
    rw [e]
    refine Fn.of_body Tryd.func20 rfl ?_
    repeat (first | ((first | (with_reducible first | refine zP fun K_ hK_ => ?_ | refine zQ fun K_ hK_ => ?_ | refine zT ?_ | refine zU ?_ | refine zV ?_ | refine zW ?_ | refine zX ?_ | refine zY ?_) | ((with_reducible first | refine zR ?_ ?_ fun K_ hK_ => ?_ | refine zS ?_ ?_ fun K_ hK_ => ?_); (focus kernel_rfl); (focus kernel_rfl))); first | (simp (maxSteps := 1000000) (disch := refine hold_ ?_; first | (simp [sl, sp, w1, hz, -List.getD_eq_getElem?_getD]; done) | omega) [sl, sp, w1, hz, -List.getD_eq_getElem?_getD]; try first | (with_reducible refine zZ ?_) | subst hK_) | subst hK_) | (with_reducible first | refine zA ?_ | refine zB ?_ | refine zC ?_ | refine zD ?_ | refine zE ?_ | refine zF ?_ | refine zG ?_ | refine zH ?_ | refine zI ?_ | refine zJ ?_ | refine zK ?_ | refine zL ?_ | refine zM ?_ | refine zN ?_ | refine zO ?_) | ((with_reducible refine yG ?_ ?_); (focus decide)) | ((with_reducible refine yA ?_); refine yB rfl ?_; (with_reducible first | refine yC ?_ | refine yD ?_)))
    all_goals simp (maxSteps := 1000000) (disch := refine hold_ ?_; first | (simp [-List.getD_eq_getElem?_getD]; done) | omega) [-List.getD_eq_getElem?_getD]
def blks (S : List (BitVec 8)) : Nat := (S.takeWhile bd).length
theorem rskip_ct (s : List (BitVec 8)) (n : Nat) (hn : n ≤ s.length) (hl : s.length ≤ 4000000) : Fn Tryd.prog 15 [.str (txt s), .int .i64 n] [.p (.int .i64 (n + blks (s.drop n) : Nat))] := by
  have hsz := txt_size s
  have hdl : (s.drop n).length = s.length - n := List.length_drop
  have hle := tw_le bd (s.drop n)
  refine Fn.of_body Tryd.func15 rfl ?_
  repeat (first | ((first | (with_reducible first | refine zP fun K_ hK_ => ?_ | refine zQ fun K_ hK_ => ?_ | refine zT ?_ | refine zU ?_ | refine zV ?_ | refine zW ?_ | refine zX ?_ | refine zY ?_) | ((with_reducible first | refine zR ?_ ?_ fun K_ hK_ => ?_ | refine zS ?_ ?_ fun K_ hK_ => ?_); (focus kernel_rfl); (focus kernel_rfl))); first | (simp (maxSteps := 1000000) (disch := refine hold_ ?_; first | (simp [-List.getD_eq_getElem?_getD]; done) | omega) [-List.getD_eq_getElem?_getD]; try first | (with_reducible refine zZ ?_) | subst hK_) | subst hK_) | (with_reducible first | refine zA ?_ | refine zB ?_ | refine zC ?_ | refine zD ?_ | refine zE ?_ | refine zF ?_ | refine zG ?_ | refine zH ?_ | refine zI ?_ | refine zJ ?_ | refine zK ?_ | refine zL ?_ | refine zM ?_ | refine zN ?_ | refine zO ?_) | ((with_reducible refine yG ?_ ?_); (focus decide)) | ((with_reducible refine yA ?_); refine yB rfl ?_; (with_reducible first | refine yC ?_ | refine yD ?_)))
  refine AW.iter (true :: true :: false :: false :: false :: false :: false :: false :: false :: false :: false :: false :: false :: false :: false :: false :: false :: false :: []) (blks (s.drop n)) (fun k => ⟨(.p (.str (txt s)) :: .p (.int .i64 (n + k : Nat)) :: V.junk :: V.junk :: V.junk :: V.junk :: V.junk :: V.junk :: V.junk :: V.junk :: V.junk :: V.junk :: V.junk :: V.junk :: V.junk :: V.junk :: V.junk :: V.junk :: []), ⟨[], []⟩⟩) ?_ ?_
  · simp (maxSteps := 1000000) (disch := refine hold_ ?_; first | (simp [-List.getD_eq_getElem?_getD]; done) | omega) [-List.getD_eq_getElem?_getD]
  intro k hk
  have hg := txt_get s (n + k)
  have hg0 : s.getD (n + k) 0#8 = (s.drop n).getD k 0#8 := by simp [List.getD_eq_getElem?_getD]
  have kb := rblank_ct (ub ((s.drop n).getD k 0#8))
  rw [← hg0] at kb
  have hkl : blks (s.drop n) = ((s.drop n).takeWhile bd).length := rfl
  have e1 : IntKind.i64.wrap (((n + k : Nat) : Int) + 1) = ((n + (k + 1) : Nat) : Int) := by rw [wrap_i64 _ (by omega) (by omega)]; omega
  by_cases hkm : k < blks (s.drop n)
  · have hb : blankB (ub ((s.drop n).getD k 0#8)) = true := tw_get bd (s.drop n) k hkm
    rw [← hg0] at hb
    rw [hb] at kb
    have h1 : n + k < s.length := by omega
    have h2 : ((n + k : Nat) : Int) < s.length := by omega
    generalize hnk1 : n + (k + 1) = m1 at *
    generalize n + k = m at *
    repeat (first | ((with_reducible first | refine callK_at 36 ?_); refine callK_p ?_; simp (maxSteps := 1000000) (disch := refine hold_ ?_; first | (simp [hsz, hg, h1, h2, e1, -List.getD_eq_getElem?_getD]; done) | omega) [hsz, hg, h1, h2, e1, -List.getD_eq_getElem?_getD]; (first | refine callK1_of (Fn.ct kb Tryd.call36) ?_); (try simp (maxSteps := 1000000) (disch := refine hold_ ?_; first | (simp [hsz, hg, h1, h2, e1, -List.getD_eq_getElem?_getD]; done) | omega) [hsz, hg, h1, h2, e1, -List.getD_eq_getElem?_getD]); first | (with_reducible refine zZ ?_) | subst hK_) | ((first | (with_reducible first | refine zP fun K_ hK_ => ?_ | refine zQ fun K_ hK_ => ?_ | refine zT ?_ | refine zU ?_ | refine zV ?_ | refine zW ?_ | refine zX ?_ | refine zY ?_) | ((with_reducible first | refine zR ?_ ?_ fun K_ hK_ => ?_ | refine zS ?_ ?_ fun K_ hK_ => ?_); (focus kernel_rfl); (focus kernel_rfl))); first | (simp (maxSteps := 1000000) (disch := refine hold_ ?_; first | (simp [hsz, hg, h1, h2, e1, -List.getD_eq_getElem?_getD]; done) | omega) [hsz, hg, h1, h2, e1, -List.getD_eq_getElem?_getD]; try first | (with_reducible refine zZ ?_) | subst hK_) | subst hK_) | (with_reducible first | refine zA ?_ | refine zB ?_ | refine zC ?_ | refine zD ?_ | refine zE ?_ | refine zF ?_ | refine zG ?_ | refine zH ?_ | refine zI ?_ | refine zJ ?_ | refine zK ?_ | refine zL ?_ | refine zM ?_ | refine zN ?_ | refine zO ?_) | ((with_reducible refine yG ?_ ?_); (focus decide)) | ((with_reducible refine yA ?_); refine yB rfl ?_; (with_reducible first | refine yC ?_ | refine yD ?_)))
    refine ⟨hkm, ?_⟩
    simp (maxSteps := 1000000) (disch := refine hold_ ?_; first | (simp [-List.getD_eq_getElem?_getD]; done) | omega) [-List.getD_eq_getElem?_getD]
  · obtain rfl : k = blks (s.drop n) := by omega
    by_cases hlt : n + blks (s.drop n) < s.length
    · have hb : blankB (ub ((s.drop n).getD (blks (s.drop n)) 0#8)) = false := dw_stop bd (s.drop n) (by show blks (s.drop n) < _; omega)
      rw [← hg0] at hb
      rw [hb] at kb
      have h2 : ((n + blks (s.drop n) : Nat) : Int) < s.length := by omega
      clear e1 hg0
      generalize n + blks (s.drop n) = m at *
      repeat (first | ((with_reducible first | refine callK_at 36 ?_); refine callK_p ?_; simp (maxSteps := 1000000) (disch := refine hold_ ?_; first | (simp [hsz, hg, hlt, h2, -List.getD_eq_getElem?_getD]; done) | omega) [hsz, hg, hlt, h2, -List.getD_eq_getElem?_getD]; (first | refine callK1_of (Fn.ct kb Tryd.call36) ?_); (try simp (maxSteps := 1000000) (disch := refine hold_ ?_; first | (simp [hsz, hg, hlt, h2, -List.getD_eq_getElem?_getD]; done) | omega) [hsz, hg, hlt, h2, -List.getD_eq_getElem?_getD]); first | (with_reducible refine zZ ?_) | subst hK_) | ((first | (with_reducible first | refine zP fun K_ hK_ => ?_ | refine zQ fun K_ hK_ => ?_ | refine zT ?_ | refine zU ?_ | refine zV ?_ | refine zW ?_ | refine zX ?_ | refine zY ?_) | ((with_reducible first | refine zR ?_ ?_ fun K_ hK_ => ?_ | refine zS ?_ ?_ fun K_ hK_ => ?_); (focus kernel_rfl); (focus kernel_rfl))); first | (simp (maxSteps := 1000000) (disch := refine hold_ ?_; first | (simp [hsz, hg, hlt, h2, -List.getD_eq_getElem?_getD]; done) | omega) [hsz, hg, hlt, h2, -List.getD_eq_getElem?_getD]; try first | (with_reducible refine zZ ?_) | subst hK_) | subst hK_) | (with_reducible first | refine zA ?_ | refine zB ?_ | refine zC ?_ | refine zD ?_ | refine zE ?_ | refine zF ?_ | refine zG ?_ | refine zH ?_ | refine zI ?_ | refine zJ ?_ | refine zK ?_ | refine zL ?_ | refine zM ?_ | refine zN ?_ | refine zO ?_) | ((with_reducible refine yG ?_ ?_); (focus decide)) | ((with_reducible refine yA ?_); refine yB rfl ?_; (with_reducible first | refine yC ?_ | refine yD ?_)))
      all_goals simp (maxSteps := 1000000) (disch := refine hold_ ?_; first | (simp [-List.getD_eq_getElem?_getD]; done) | omega) [-List.getD_eq_getElem?_getD]
    · have h2 : ¬ ((n + blks (s.drop n) : Nat) : Int) < s.length := by omega
      clear e1 hg0
      generalize n + blks (s.drop n) = m at *
      repeat (first | ((first | (with_reducible first | refine zP fun K_ hK_ => ?_ | refine zQ fun K_ hK_ => ?_ | refine zT ?_ | refine zU ?_ | refine zV ?_ | refine zW ?_ | refine zX ?_ | refine zY ?_) | ((with_reducible first | refine zR ?_ ?_ fun K_ hK_ => ?_ | refine zS ?_ ?_ fun K_ hK_ => ?_); (focus kernel_rfl); (focus kernel_rfl))); first | (simp (maxSteps := 1000000) (disch := refine hold_ ?_; first | (simp [hsz, hlt, h2, -List.getD_eq_getElem?_getD]; done) | omega) [hsz, hlt, h2, -List.getD_eq_getElem?_getD]; try first | (with_reducible refine zZ ?_) | subst hK_) | subst hK_) | (with_reducible first | refine zA ?_ | refine zB ?_ | refine zC ?_ | refine zD ?_ | refine zE ?_ | refine zF ?_ | refine zG ?_ | refine zH ?_ | refine zI ?_ | refine zJ ?_ | refine zK ?_ | refine zL ?_ | refine zM ?_ | refine zN ?_ | refine zO ?_) | ((with_reducible refine yG ?_ ?_); (focus decide)) | ((with_reducible refine yA ?_); refine yB rfl ?_; (with_reducible first | refine yC ?_ | refine yD ?_)))
      all_goals simp (maxSteps := 1000000) (disch := refine hold_ ?_; first | (simp [-List.getD_eq_getElem?_getD]; done) | omega) [-List.getD_eq_getElem?_getD]
set_option maxHeartbeats 4000000 in
theorem rlook_ct (T : List Tok) (nl : Bool) (hT : T.length ≤ 100000) : Fn Tryd.prog 18 [.sl (tkR T) nl] [.p (.bool (lookB T))] := by
  have hlen := tkR_len T
  have hsz := tkR_sz T
  by_cases hE : T = []
  · subst hE
    refine Fn.of_body Tryd.func18 rfl ?_
    repeat (first | ((first | (with_reducible first | refine zP fun K_ hK_ => ?_ | refine zQ fun K_ hK_ => ?_ | refine zT ?_ | refine zU ?_ | refine zV ?_ | refine zW ?_ | refine zX ?_ | refine zY ?_) | ((with_reducible first | refine zR ?_ ?_ fun K_ hK_ => ?_ | refine zS ?_ ?_ fun K_ hK_ => ?_); (focus kernel_rfl); (focus kernel_rfl))); first | (simp (maxSteps := 1000000) (disch := refine hold_ ?_; first | (simp [hlen, -List.getD_eq_getElem?_getD]; done) | omega) [hlen, -List.getD_eq_getElem?_getD]; try first | (with_reducible refine zZ ?_) | subst hK_) | subst hK_) | (with_reducible first | refine zA ?_ | refine zB ?_ | refine zC ?_ | refine zD ?_ | refine zE ?_ | refine zF ?_ | refine zG ?_ | refine zH ?_ | refine zI ?_ | refine zJ ?_ | refine zK ?_ | refine zL ?_ | refine zM ?_ | refine zN ?_ | refine zO ?_) | ((with_reducible refine yG ?_ ?_); (focus decide)) | ((with_reducible refine yA ?_); refine yB rfl ?_; (with_reducible first | refine yC ?_ | refine yD ?_)))
    all_goals simp (maxSteps := 1000000) (disch := refine hold_ ?_; first | (simp [lookB, -List.getD_eq_getElem?_getD]; done) | omega) [lookB, -List.getD_eq_getElem?_getD]
  · have hpos : 0 < T.length := List.length_pos_iff.2 hE
    have hlast : T.getLast? = some (T.getD (T.length - 1) ⟨0, [], 0⟩) := by
      rw [List.getLast?_eq_getElem?, List.getD_eq_getElem?_getD, List.getElem?_eq_getElem (by omega)]; rfl
    have hz : ((T.length : Int) == 0) = false := beq_eq_false_iff_ne.2 (by omega)
    have w1 : IntKind.i64.wrap ((T.length : Int) - 1) = ((T.length - 1 : Nat) : Int) := by rw [wrap_i64 _ (by omega) (by omega)]; omega
    have hl1 : T.length - 1 < T.length := by omega
    have hel := tkR_elem T (T.length - 1) hl1
    have hB : lookB T = lookT (T.getD (T.length - 1) ⟨0, [], 0⟩) := by unfold lookB; rw [hlast]
    rw [hB]
    generalize T.getD (T.length - 1) ⟨0, [], 0⟩ = t at *
    obtain ⟨k, x, n⟩ := t
    unfold lookT tokP at *
    simp only at hel ⊢
    generalize T.length - 1 = m at *
    have q0 : ((k : Int) == 1) = (k == 1) := by
      by_cases h : k = 1
      · subst h; rfl
      · rw [beq_eq_false_iff_ne.2 h, beq_eq_false_iff_ne.2 (by omega)]
    have q1 : ((k : Int) != 0) = (k != 0) := by
      by_cases h : k = 0
      · subst h; rfl
      · rw [bne_iff_ne.2 h, bne_iff_ne.2 (by omega)]
    have qa : (k != 1) = !(k == 1) := rfl
    have n1 : strBin .neq (txt x) (ByteArray.mk #[40]) = some (.bool !(x == [40#8])) := str_neq_txt x [40#8]
    have n2 : strBin .neq (txt x) (ByteArray.mk #[91]) = some (.bool !(x == [91#8])) := str_neq_txt x [91#8]
    have n3 : strBin .neq (txt x) (ByteArray.mk #[64]) = some (.bool !(x == [64#8])) := str_neq_txt x [64#8]
    have n4 : strBin .neq (txt x) (ByteArray.mk #[44]) = some (.bool !(x == [44#8])) := str_neq_txt x [44#8]
    have n5 : strBin .neq (txt x) (ByteArray.mk #[58, 58]) = some (.bool !(x == [58#8, 58#8])) := str_neq_txt x [58#8, 58#8]
    have hcon : lookL.contains x = ((x == [40#8]) || ((x == [91#8]) || ((x == [64#8]) || ((x == [44#8]) || ((x == [58#8, 58#8]) || false))))) := rfl
    rw [hcon, qa]
    generalize (k == 1) = A at *
    generalize (k != 0) = B at *
    generalize (x == [40#8]) = C1 at *
    generalize (x == [91#8]) = C2 at *
    generalize (x == [64#8]) = C3 at *
    generalize (x == [44#8]) = C4 at *
    generalize (x == [58#8, 58#8]) = C5 at *
    refine Fn.of_body Tryd.func18 rfl ?_
    cases A
    · cases B
      · cases C1
        · cases C2
          · cases C3
            · cases C4 <;> cases C5
              all_goals
                repeat (first | ((first | (with_reducible first | refine zP fun K_ hK_ => ?_ | refine zQ fun K_ hK_ => ?_ | refine zT ?_ | refine zU ?_ | refine zV ?_ | refine zW ?_ | refine zX ?_ | refine zY ?_) | ((with_reducible first | refine zR ?_ ?_ fun K_ hK_ => ?_ | refine zS ?_ ?_ fun K_ hK_ => ?_); (focus kernel_rfl); (focus kernel_rfl))); first | (simp (maxSteps := 1000000) (disch := refine hold_ ?_; first | (simp [hlen, hsz, hz, w1, hl1, hel, q0, q1, n1, n2, n3, n4, n5, -List.getD_eq_getElem?_getD]; done) | omega) [hlen, hsz, hz, w1, hl1, hel, q0, q1, n1, n2, n3, n4, n5, -List.getD_eq_getElem?_getD]; try first | (with_reducible refine zZ ?_) | subst hK_) | subst hK_) | (with_reducible first | refine zA ?_ | refine zB ?_ | refine zC ?_ | refine zD ?_ | refine zE ?_ | refine zF ?_ | refine zG ?_ | refine zH ?_ | refine zI ?_ | refine zJ ?_ | refine zK ?_ | refine zL ?_ | refine zM ?_ | refine zN ?_ | refine zO ?_) | ((with_reducible refine yG ?_ ?_); (focus decide)) | ((with_reducible refine yA ?_); refine yB rfl ?_; (with_reducible first | refine yC ?_ | refine yD ?_)))
                simp (maxSteps := 1000000) (disch := refine hold_ ?_; first | (simp [-List.getD_eq_getElem?_getD]; done) | omega) [-List.getD_eq_getElem?_getD]
            · repeat (first | ((first | (with_reducible first | refine zP fun K_ hK_ => ?_ | refine zQ fun K_ hK_ => ?_ | refine zT ?_ | refine zU ?_ | refine zV ?_ | refine zW ?_ | refine zX ?_ | refine zY ?_) | ((with_reducible first | refine zR ?_ ?_ fun K_ hK_ => ?_ | refine zS ?_ ?_ fun K_ hK_ => ?_); (focus kernel_rfl); (focus kernel_rfl))); first | (simp (maxSteps := 1000000) (disch := refine hold_ ?_; first | (simp [hlen, hsz, hz, w1, hl1, hel, q0, q1, n1, n2, n3, n4, n5, -List.getD_eq_getElem?_getD]; done) | omega) [hlen, hsz, hz, w1, hl1, hel, q0, q1, n1, n2, n3, n4, n5, -List.getD_eq_getElem?_getD]; try first | (with_reducible refine zZ ?_) | subst hK_) | subst hK_) | (with_reducible first | refine zA ?_ | refine zB ?_ | refine zC ?_ | refine zD ?_ | refine zE ?_ | refine zF ?_ | refine zG ?_ | refine zH ?_ | refine zI ?_ | refine zJ ?_ | refine zK ?_ | refine zL ?_ | refine zM ?_ | refine zN ?_ | refine zO ?_) | ((with_reducible refine yG ?_ ?_); (focus decide)) | ((with_reducible refine yA ?_); refine yB rfl ?_; (with_reducible first | refine yC ?_ | refine yD ?_)))
              all_goals simp (maxSteps := 1000000) (disch := refine hold_ ?_; first | (simp [-List.getD_eq_getElem?_getD]; done) | omega) [-List.getD_eq_getElem?_getD]
          · repeat (first | ((first | (with_reducible first | refine zP fun K_ hK_ => ?_ | refine zQ fun K_ hK_ => ?_ | refine zT ?_ | refine zU ?_ | refine zV ?_ | refine zW ?_ | refine zX ?_ | refine zY ?_) | ((with_reducible first | refine zR ?_ ?_ fun K_ hK_ => ?_ | refine zS ?_ ?_ fun K_ hK_ => ?_); (focus kernel_rfl); (focus kernel_rfl))); first | (simp (maxSteps := 1000000) (disch := refine hold_ ?_; first | (simp [hlen, hsz, hz, w1, hl1, hel, q0, q1, n1, n2, n3, n4, n5, -List.getD_eq_getElem?_getD]; done) | omega) [hlen, hsz, hz, w1, hl1, hel, q0, q1, n1, n2, n3, n4, n5, -List.getD_eq_getElem?_getD]; try first | (with_reducible refine zZ ?_) | subst hK_) | subst hK_) | (with_reducible first | refine zA ?_ | refine zB ?_ | refine zC ?_ | refine zD ?_ | refine zE ?_ | refine zF ?_ | refine zG ?_ | refine zH ?_ | refine zI ?_ | refine zJ ?_ | refine zK ?_ | refine zL ?_ | refine zM ?_ | refine zN ?_ | refine zO ?_) | ((with_reducible refine yG ?_ ?_); (focus decide)) | ((with_reducible refine yA ?_); refine yB rfl ?_; (with_reducible first | refine yC ?_ | refine yD ?_)))
            all_goals simp (maxSteps := 1000000) (disch := refine hold_ ?_; first | (simp [-List.getD_eq_getElem?_getD]; done) | omega) [-List.getD_eq_getElem?_getD]
        · repeat (first | ((first | (with_reducible first | refine zP fun K_ hK_ => ?_ | refine zQ fun K_ hK_ => ?_ | refine zT ?_ | refine zU ?_ | refine zV ?_ | refine zW ?_ | refine zX ?_ | refine zY ?_) | ((with_reducible first | refine zR ?_ ?_ fun K_ hK_ => ?_ | refine zS ?_ ?_ fun K_ hK_ => ?_); (focus kernel_rfl); (focus kernel_rfl))); first | (simp (maxSteps := 1000000) (disch := refine hold_ ?_; first | (simp [hlen, hsz, hz, w1, hl1, hel, q0, q1, n1, n2, n3, n4, n5, -List.getD_eq_getElem?_getD]; done) | omega) [hlen, hsz, hz, w1, hl1, hel, q0, q1, n1, n2, n3, n4, n5, -List.getD_eq_getElem?_getD]; try first | (with_reducible refine zZ ?_) | subst hK_) | subst hK_) | (with_reducible first | refine zA ?_ | refine zB ?_ | refine zC ?_ | refine zD ?_ | refine zE ?_ | refine zF ?_ | refine zG ?_ | refine zH ?_ | refine zI ?_ | refine zJ ?_ | refine zK ?_ | refine zL ?_ | refine zM ?_ | refine zN ?_ | refine zO ?_) | ((with_reducible refine yG ?_ ?_); (focus decide)) | ((with_reducible refine yA ?_); refine yB rfl ?_; (with_reducible first | refine yC ?_ | refine yD ?_)))
          all_goals simp (maxSteps := 1000000) (disch := refine hold_ ?_; first | (simp [-List.getD_eq_getElem?_getD]; done) | omega) [-List.getD_eq_getElem?_getD]
      · repeat (first | ((first | (with_reducible first | refine zP fun K_ hK_ => ?_ | refine zQ fun K_ hK_ => ?_ | refine zT ?_ | refine zU ?_ | refine zV ?_ | refine zW ?_ | refine zX ?_ | refine zY ?_) | ((with_reducible first | refine zR ?_ ?_ fun K_ hK_ => ?_ | refine zS ?_ ?_ fun K_ hK_ => ?_); (focus kernel_rfl); (focus kernel_rfl))); first | (simp (maxSteps := 1000000) (disch := refine hold_ ?_; first | (simp [hlen, hsz, hz, w1, hl1, hel, q0, q1, -List.getD_eq_getElem?_getD]; done) | omega) [hlen, hsz, hz, w1, hl1, hel, q0, q1, -List.getD_eq_getElem?_getD]; try first | (with_reducible refine zZ ?_) | subst hK_) | subst hK_) | (with_reducible first | refine zA ?_ | refine zB ?_ | refine zC ?_ | refine zD ?_ | refine zE ?_ | refine zF ?_ | refine zG ?_ | refine zH ?_ | refine zI ?_ | refine zJ ?_ | refine zK ?_ | refine zL ?_ | refine zM ?_ | refine zN ?_ | refine zO ?_) | ((with_reducible refine yG ?_ ?_); (focus decide)) | ((with_reducible refine yA ?_); refine yB rfl ?_; (with_reducible first | refine yC ?_ | refine yD ?_)))
        all_goals simp (maxSteps := 1000000) (disch := refine hold_ ?_; first | (simp [-List.getD_eq_getElem?_getD]; done) | omega) [-List.getD_eq_getElem?_getD]
    · repeat (first | ((first | (with_reducible first | refine zP fun K_ hK_ => ?_ | refine zQ fun K_ hK_ => ?_ | refine zT ?_ | refine zU ?_ | refine zV ?_ | refine zW ?_ | refine zX ?_ | refine zY ?_) | ((with_reducible first | refine zR ?_ ?_ fun K_ hK_ => ?_ | refine zS ?_ ?_ fun K_ hK_ => ?_); (focus kernel_rfl); (focus kernel_rfl))); first | (simp (maxSteps := 1000000) (disch := refine hold_ ?_; first | (simp [hlen, hsz, hz, w1, hl1, hel, q0, q1, -List.getD_eq_getElem?_getD]; done) | omega) [hlen, hsz, hz, w1, hl1, hel, q0, q1, -List.getD_eq_getElem?_getD]; try first | (with_reducible refine zZ ?_) | subst hK_) | subst hK_) | (with_reducible first | refine zA ?_ | refine zB ?_ | refine zC ?_ | refine zD ?_ | refine zE ?_ | refine zF ?_ | refine zG ?_ | refine zH ?_ | refine zI ?_ | refine zJ ?_ | refine zK ?_ | refine zL ?_ | refine zM ?_ | refine zN ?_ | refine zO ?_) | ((with_reducible refine yG ?_ ?_); (focus decide)) | ((with_reducible refine yA ?_); refine yB rfl ?_; (with_reducible first | refine yC ?_ | refine yD ?_)))
      all_goals simp (maxSteps := 1000000) (disch := refine hold_ ?_; first | (simp [-List.getD_eq_getElem?_getD]; done) | omega) [-List.getD_eq_getElem?_getD]
end Go.Av.Lex
end
section
set_option linter.unusedSimpArgs false
set_option linter.unusedVariables false
open Go Go.Av Go.Proofs
namespace Go.Av.Lex
def rnumS (n : Nat) (c : BitVec 8) : Nat := if n ≤ 9007199254740992 then n * 10 + (c.toNat - 48) else n
def rnumV (ds : List (BitVec 8)) : Nat := ds.foldl rnumS 0
theorem rnumV_or (ds : List (BitVec 8)) : (∀ c ∈ ds, digB c = true) → (rnumV ds ≤ 9007199254740992 ∧ numV ds = rnumV ds) ∨ (rnumV ds > 9007199254740992 ∧ rnumV ds ≤ 100000000000000000 ∧ numV ds = 9007199254740993) := by
  have : ∀ (l : List (BitVec 8)) (n m : Nat), (∀ c ∈ l, digB c = true) → (n ≤ 9007199254740992 ∧ m = n) ∨ (n > 9007199254740992 ∧ n ≤ 100000000000000000 ∧ m = 9007199254740993) →
      (l.foldl rnumS n ≤ 9007199254740992 ∧ l.foldl numS m = l.foldl rnumS n) ∨ (l.foldl rnumS n > 9007199254740992 ∧ l.foldl rnumS n ≤ 100000000000000000 ∧ l.foldl numS m = 9007199254740993) := by
    intro l
    induction l with
    | nil => intro n m _ h; exact h
    | cons c l ih =>
      intro n m hd h
      refine ih _ _ (fun c hc => hd c (List.mem_cons_of_mem _ hc)) ?_
      have hc := hd c (by simp)
      unfold digB at hc
      rw [Bool.and_eq_true, decide_eq_true_eq, decide_eq_true_eq] at hc
      unfold rnumS numS
      rcases h with ⟨h1, rfl⟩ | ⟨h1, h2, rfl⟩
      · rw [if_pos h1]
        by_cases h3 : m * 10 + (c.toNat - 48) ≤ 9007199254740992
        · left; exact ⟨h3, by omega⟩
        · right; exact ⟨by omega, by omega, by omega⟩
      · rw [if_neg (by omega)]
        right; exact ⟨h1, h2, by omega⟩
  intro hd
  exact this ds 0 0 hd (.inl ⟨by omega, rfl⟩)
theorem rnumV_succ (S : List (BitVec 8)) (k : Nat) (h : k < S.length) : rnumV (S.take (k + 1)) = rnumS (rnumV (S.take k)) (S.getD k 0#8) := by
  have e : S.take (k + 1) = S.take k ++ [S.getD k 0#8] := by
    rw [List.take_add_one, List.getElem?_eq_getElem h, List.getD_eq_getElem?_getD, List.getElem?_eq_getElem h]; rfl
  unfold rnumV
  rw [e, List.foldl_append]; rfl
theorem tw_all (p : BitVec 8 → Bool) : ∀ (t : List (BitVec 8)), ∀ c ∈ t.takeWhile p, p c = true
  | [], c, h => by simp at h
  | x :: t, c, h => by
    rw [List.takeWhile_cons] at h
    split at h
    · rename_i hx
      rcases List.mem_cons.1 h with rfl | h
      · exact hx
      · exact tw_all p t c h
    · simp at h
theorem take_all {p : BitVec 8 → Bool} {S : List (BitVec 8)} {k : Nat} (hk : k ≤ (S.takeWhile p).length) : ∀ c ∈ S.take k, p c = true := by
  intro c hc
  have : S.take k = (S.takeWhile p).take k := by
    rw [← tw_take p S, List.take_take, Nat.min_eq_left hk]
  rw [this] at hc
  exact tw_all p S c (List.mem_of_mem_take hc)
def rnumR (S : List (BitVec 8)) (n : Nat) : List V :=
  if numV (S.takeWhile digB) > 9007199254740992 then [.p (.int .i64 0), .p (.int .i64 (n + digs S : Nat)), .p (.int .i64 6)]
  else if preB (S.drop (digs S)) [46#8] then [.p (.int .i64 0), .p (.int .i64 (n + digs S : Nat)), .p (.int .i64 4)]
  else [.p (.int .i64 (numV (S.takeWhile digB) : Nat)), .p (.int .i64 (n + digs S : Nat)), .p (.int .i64 0)]
set_option maxHeartbeats 4000000 in
theorem rnumber_ct (s : List (BitVec 8)) (n : Nat) (hn : n ≤ s.length) (hl : s.length ≤ 1000000) : Fn Tryd.prog 17 [.str (txt s), .int .i64 n] (rnumR (s.drop n) n) := by
  have hsz := txt_size s
  have hdl : (s.drop n).length = s.length - n := List.length_drop
  generalize hSg : s.drop n = S at *
  have hm := tw_le digB S
  have htk := tw_take digB S
  have hst := dw_stop digB S
  have hdg : digs S = (S.takeWhile digB).length := rfl
  have hgS : ∀ k, s.getD (n + k) 0#8 = S.getD k 0#8 := fun k => by rw [← hSg]; simp [List.getD_eq_getElem?_getD]
  refine Fn.of_body Tryd.func17 rfl ?_
  repeat (first | ((first | (with_reducible first | refine zP fun K_ hK_ => ?_ | refine zQ fun K_ hK_ => ?_ | refine zT ?_ | refine zU ?_ | refine zV ?_ | refine zW ?_ | refine zX ?_ | refine zY ?_) | ((with_reducible first | refine zR ?_ ?_ fun K_ hK_ => ?_ | refine zS ?_ ?_ fun K_ hK_ => ?_); (focus kernel_rfl); (focus kernel_rfl))); first | (simp (maxSteps := 1000000) (disch := refine hold_ ?_; first | (simp [-List.getD_eq_getElem?_getD]; done) | omega) [-List.getD_eq_getElem?_getD]; try first | (with_reducible refine zZ ?_) | subst hK_) | subst hK_) | (with_reducible first | refine zA ?_ | refine zB ?_ | refine zC ?_ | refine zD ?_ | refine zE ?_ | refine zF ?_ | refine zG ?_ | refine zH ?_ | refine zI ?_ | refine zJ ?_ | refine zK ?_ | refine zL ?_ | refine zM ?_ | refine zN ?_ | refine zO ?_) | ((with_reducible refine yG ?_ ?_); (focus decide)) | ((with_reducible refine yA ?_); refine yB rfl ?_; (with_reducible first | refine yC ?_ | refine yD ?_)))
  refine AW.iter (true :: true :: false :: false :: false :: false :: false :: true :: false :: false :: false :: false :: false :: false :: false :: false :: false :: false :: false :: false :: false :: false :: false :: false :: false :: false :: false :: false :: false :: false :: false :: false :: false :: false :: false :: false :: false :: false :: false :: false :: false :: false :: false :: false :: false :: []) (digs S) (fun k => ⟨(.p (.str (txt s)) :: .p (.int .i64 (n + k : Nat)) :: V.junk :: V.junk :: V.junk :: V.junk :: V.junk :: .p (.int .i64 (rnumV (S.take k) : Nat)) :: V.junk :: V.junk :: V.junk :: V.junk :: V.junk :: V.junk :: V.junk :: V.junk :: V.junk :: V.junk :: V.junk :: V.junk :: V.junk :: V.junk :: V.junk :: V.junk :: V.junk :: V.junk :: V.junk :: V.junk :: V.junk :: V.junk :: V.junk :: V.junk :: V.junk :: V.junk :: V.junk :: V.junk :: V.junk :: V.junk :: V.junk :: V.junk :: V.junk :: V.junk :: V.junk :: V.junk :: V.junk :: []), ⟨[], []⟩⟩) ?_ ?_
  · simp (maxSteps := 1000000) (disch := refine hold_ ?_; first | (simp [rnumV, -List.getD_eq_getElem?_getD]; done) | omega) [rnumV, -List.getD_eq_getElem?_getD]
  intro k hk
  have hg := txt_get s (n + k)
  rw [show s.getD (n + k) 0 = S.getD k 0#8 from hgS k] at hg
  have e1 : IntKind.i64.wrap (((n + k : Nat) : Int) + 1) = ((n + (k + 1) : Nat) : Int) := by rw [wrap_i64 _ (by omega) (by omega)]; omega
  have hor := rnumV_or (S.take k) (take_all hk)
  by_cases hkm : k < digs S
  · have hd := tw_get digB S k hkm
    have hkl : n + k < s.length := by omega
    have hkz : ((n + k : Nat) : Int) < s.length := by omega
    have hs := rnumV_succ S k (by omega)
    generalize hN2 : rnumV (S.take (k + 1)) = N2 at *
    generalize rnumV (S.take k) = N at *
    generalize hc : S.getD k 0#8 = c at *
    unfold digB at hd
    rw [Bool.and_eq_true, decide_eq_true_eq, decide_eq_true_eq] at hd
    have hub : ub c = (c.toNat : Int) := rfl
    have d1 : (48 : Int) ≤ ub c := by omega
    have d2 : ub c ≤ 57 := by omega
    have w2 : IntKind.u8.wrap (ub c - 48) = ub c - 48 := wrap_u8' _ (by omega) (by omega)
    have w3 : IntKind.i64.wrap (ub c - 48) = ub c - 48 := wrap_i64 _ (by omega) (by omega)
    clear hgS hst htk
    generalize hm1 : n + (k + 1) = m1 at *
    generalize n + k = m at *
    unfold rnumS at hs
    by_cases hN : N ≤ 9007199254740992
    · have hNz : (N : Int) ≤ 9007199254740992 := by omega
      have w1 : IntKind.i64.wrap ((N : Int) * 10) = N * 10 := wrap_i64 _ (by omega) (by omega)
      have w4 : IntKind.i64.wrap ((N : Int) * 10 + (ub c - 48)) = (N2 : Int) := by rw [hs, if_pos hN, wrap_i64 _ (by omega) (by omega)]; omega
      repeat (first | ((first | (with_reducible first | refine zP fun K_ hK_ => ?_ | refine zQ fun K_ hK_ => ?_ | refine zT ?_ | refine zU ?_ | refine zV ?_ | refine zW ?_ | refine zX ?_ | refine zY ?_) | ((with_reducible first | refine zR ?_ ?_ fun K_ hK_ => ?_ | refine zS ?_ ?_ fun K_ hK_ => ?_); (focus kernel_rfl); (focus kernel_rfl))); first | (simp (maxSteps := 1000000) (disch := refine hold_ ?_; first | (simp [hkl, hkz, hsz, hg, d1, d2, w1, w2, w3, w4, e1, hNz, -List.getD_eq_getElem?_getD]; done) | omega) [hkl, hkz, hsz, hg, d1, d2, w1, w2, w3, w4, e1, hNz, -List.getD_eq_getElem?_getD]; try first | (with_reducible refine zZ ?_) | subst hK_) | subst hK_) | (with_reducible first | refine zA ?_ | refine zB ?_ | refine zC ?_ | refine zD ?_ | refine zE ?_ | refine zF ?_ | refine zG ?_ | refine zH ?_ | refine zI ?_ | refine zJ ?_ | refine zK ?_ | refine zL ?_ | refine zM ?_ | refine zN ?_ | refine zO ?_) | ((with_reducible refine yG ?_ ?_); (focus decide)) | ((with_reducible refine yA ?_); refine yB rfl ?_; (with_reducible first | refine yC ?_ | refine yD ?_)))
      refine ⟨hkm, ?_⟩
      simp (maxSteps := 1000000) (disch := refine hold_ ?_; first | (simp [-List.getD_eq_getElem?_getD]; done) | omega) [-List.getD_eq_getElem?_getD]
    · have hNz : ¬ (N : Int) ≤ 9007199254740992 := by omega
      rw [if_neg hN] at hs
      subst hs
      repeat (first | ((first | (with_reducible first | refine zP fun K_ hK_ => ?_ | refine zQ fun K_ hK_ => ?_ | refine zT ?_ | refine zU ?_ | refine zV ?_ | refine zW ?_ | refine zX ?_ | refine zY ?_) | ((with_reducible first | refine zR ?_ ?_ fun K_ hK_ => ?_ | refine zS ?_ ?_ fun K_ hK_ => ?_); (focus kernel_rfl); (focus kernel_rfl))); first | (simp (maxSteps := 1000000) (disch := refine hold_ ?_; first | (simp [hkl, hkz, hsz, hg, d1, d2, e1, hNz, -List.getD_eq_getElem?_getD]; done) | omega) [hkl, hkz, hsz, hg, d1, d2, e1, hNz, -List.getD_eq_getElem?_getD]; try first | (with_reducible refine zZ ?_) | subst hK_) | subst hK_) | (with_reducible first | refine zA ?_ | refine zB ?_ | refine zC ?_ | refine zD ?_ | refine zE ?_ | refine zF ?_ | refine zG ?_ | refine zH ?_ | refine zI ?_ | refine zJ ?_ | refine zK ?_ | refine zL ?_ | refine zM ?_ | refine zN ?_ | refine zO ?_) | ((with_reducible refine yG ?_ ?_); (focus decide)) | ((with_reducible refine yA ?_); refine yB rfl ?_; (with_reducible first | refine yC ?_ | refine yD ?_)))
      refine ⟨hkm, ?_⟩
      simp (maxSteps := 1000000) (disch := refine hold_ ?_; first | (simp [-List.getD_eq_getElem?_getD]; done) | omega) [-List.getD_eq_getElem?_getD]
  · obtain rfl : k = digs S := by omega
    have hrd : s.drop (n + digs S) = S.drop (digs S) := by rw [← hSg, List.drop_drop]
    have kat := rat_ct s [46#8] (n + digs S) (by omega) (by omega) (by simp)
    rw [hrd] at kat
    rw [hdg, htk] at hor ⊢
    rw [← hdg] at *
    unfold rnumR
    clear hgS htk hrd
    have fin : ∀ (facts : ((n + digs S < s.length ∧ (¬ 48 ≤ ub (S.getD (digs S) 0#8) ∨ (48 ≤ ub (S.getD (digs S) 0#8) ∧ ¬ ub (S.getD (digs S) 0#8) ≤ 57))) ∨ ¬ n + digs S < s.length)), True := fun _ => trivial
    have facts : ((n + digs S < s.length ∧ (¬ 48 ≤ ub (S.getD (digs S) 0#8) ∨ (48 ≤ ub (S.getD (digs S) 0#8) ∧ ¬ ub (S.getD (digs S) 0#8) ≤ 57))) ∨ ¬ n + digs S < s.length) := by
      by_cases hlt : n + digs S < s.length
      · left
        refine ⟨hlt, ?_⟩
        have hns := hst (by show digs S < _; omega)
        change digB (S.getD (digs S) 0#8) = false at hns
        have hub : ub (S.getD (digs S) 0#8) = ((S.getD (digs S) 0#8).toNat : Int) := rfl
        unfold digB at hns
        rw [Bool.and_eq_false_iff, decide_eq_false_iff_not, decide_eq_false_iff_not] at hns
        omega
      · exact .inr hlt
    clear hst fin
    generalize ub (S.getD (digs S) 0#8) = U at *
    generalize numV (S.takeWhile digB) = N at *
    generalize rnumV (S.takeWhile digB) = M at *
    generalize preB (S.drop (digs S)) [46#8] = B at *
    clear e1
    generalize n + digs S = m at *
    rcases hor with ⟨h1, rfl⟩ | ⟨h1, h2, rfl⟩
    · have hNz : ¬ (9007199254740992 : Int) < N := by omega
      rw [if_neg (by omega)]
      rcases facts with ⟨hlt, g1 | ⟨g1, g2⟩⟩ | hlt
      · have hltz : (m : Int) < s.length := by omega
        cases B
        all_goals
          repeat (first | ((with_reducible first | refine callK_at 20 ?_); refine callK_p ?_; simp (maxSteps := 1000000) (disch := refine hold_ ?_; first | (simp [hlt, hltz, hsz, hg, g1, hNz, -List.getD_eq_getElem?_getD]; done) | omega) [hlt, hltz, hsz, hg, g1, hNz, -List.getD_eq_getElem?_getD]; (first | refine callK1_of (Fn.ct kat Tryd.call20) ?_); (try simp (maxSteps := 1000000) (disch := refine hold_ ?_; first | (simp [hlt, hltz, hsz, hg, g1, hNz, -List.getD_eq_getElem?_getD]; done) | omega) [hlt, hltz, hsz, hg, g1, hNz, -List.getD_eq_getElem?_getD]); first | (with_reducible refine zZ ?_) | subst hK_) | ((first | (with_reducible first | refine zP fun K_ hK_ => ?_ | refine zQ fun K_ hK_ => ?_ | refine zT ?_ | refine zU ?_ | refine zV ?_ | refine zW ?_ | refine zX ?_ | refine zY ?_) | ((with_reducible first | refine zR ?_ ?_ fun K_ hK_ => ?_ | refine zS ?_ ?_ fun K_ hK_ => ?_); (focus kernel_rfl); (focus kernel_rfl))); first | (simp (maxSteps := 1000000) (disch := refine hold_ ?_; first | (simp [hlt, hltz, hsz, hg, g1, hNz, -List.getD_eq_getElem?_getD]; done) | omega) [hlt, hltz, hsz, hg, g1, hNz, -List.getD_eq_getElem?_getD]; try first | (with_reducible refine zZ ?_) | subst hK_) | subst hK_) | (with_reducible first | refine zA ?_ | refine zB ?_ | refine zC ?_ | refine zD ?_ | refine zE ?_ | refine zF ?_ | refine zG ?_ | refine zH ?_ | refine zI ?_ | refine zJ ?_ | refine zK ?_ | refine zL ?_ | refine zM ?_ | refine zN ?_ | refine zO ?_) | ((with_reducible refine yG ?_ ?_); (focus decide)) | ((with_reducible refine yA ?_); refine yB rfl ?_; (with_reducible first | refine yC ?_ | refine yD ?_)))
          simp (maxSteps := 1000000) (disch := refine hold_ ?_; first | (simp [-List.getD_eq_getElem?_getD]; done) | omega) [-List.getD_eq_getElem?_getD]
      · have hltz : (m : Int) < s.length := by omega
        cases B
        all_goals
          repeat (first | ((with_reducible first | refine callK_at 20 ?_); refine callK_p ?_; simp (maxSteps := 1000000) (disch := refine hold_ ?_; first | (simp [hlt, hltz, hsz, hg, g1, g2, hNz, -List.getD_eq_getElem?_getD]; done) | omega) [hlt, hltz, hsz, hg, g1, g2, hNz, -List.getD_eq_getElem?_getD]; (first | refine callK1_of (Fn.ct kat Tryd.call20) ?_); (try simp (maxSteps := 1000000) (disch := refine hold_ ?_; first | (simp [hlt, hltz, hsz, hg, g1, g2, hNz, -List.getD_eq_getElem?_getD]; done) | omega) [hlt, hltz, hsz, hg, g1, g2, hNz, -List.getD_eq_getElem?_getD]); first | (with_reducible refine zZ ?_) | subst hK_) | ((first | (with_reducible first | refine zP fun K_ hK_ => ?_ | refine zQ fun K_ hK_ => ?_ | refine zT ?_ | refine zU ?_ | refine zV ?_ | refine zW ?_ | refine zX ?_ | refine zY ?_) | ((with_reducible first | refine zR ?_ ?_ fun K_ hK_ => ?_ | refine zS ?_ ?_ fun K_ hK_ => ?_); (focus kernel_rfl); (focus kernel_rfl))); first | (simp (maxSteps := 1000000) (disch := refine hold_ ?_; first | (simp [hlt, hltz, hsz, hg, g1, g2, hNz, -List.getD_eq_getElem?_getD]; done) | omega) [hlt, hltz, hsz, hg, g1, g2, hNz, -List.getD_eq_getElem?_getD]; try first | (with_reducible refine zZ ?_) | subst hK_) | subst hK_) | (with_reducible first | refine zA ?_ | refine zB ?_ | refine zC ?_ | refine zD ?_ | refine zE ?_ | refine zF ?_ | refine zG ?_ | refine zH ?_ | refine zI ?_ | refine zJ ?_ | refine zK ?_ | refine zL ?_ | refine zM ?_ | refine zN ?_ | refine zO ?_) | ((with_reducible refine yG ?_ ?_); (focus decide)) | ((with_reducible refine yA ?_); refine yB rfl ?_; (with_reducible first | refine yC ?_ | refine yD ?_)))
          simp (maxSteps := 1000000) (disch := refine hold_ ?_; first | (simp [-List.getD_eq_getElem?_getD]; done) | omega) [-List.getD_eq_getElem?_getD]
      · have hltz : ¬ (m : Int) < s.length := by omega
        cases B
        all_goals
          repeat (first | ((with_reducible first | refine callK_at 20 ?_); refine callK_p ?_; simp (maxSteps := 1000000) (disch := refine hold_ ?_; first | (simp [hltz, hsz, hNz, -List.getD_eq_getElem?_getD]; done) | omega) [hltz, hsz, hNz, -List.getD_eq_getElem?_getD]; (first | refine callK1_of (Fn.ct kat Tryd.call20) ?_); (try simp (maxSteps := 1000000) (disch := refine hold_ ?_; first | (simp [hltz, hsz, hNz, -List.getD_eq_getElem?_getD]; done) | omega) [hltz, hsz, hNz, -List.getD_eq_getElem?_getD]); first | (with_reducible refine zZ ?_) | subst hK_) | ((first | (with_reducible first | refine zP fun K_ hK_ => ?_ | refine zQ fun K_ hK_ => ?_ | refine zT ?_ | refine zU ?_ | refine zV ?_ | refine zW ?_ | refine zX ?_ | refine zY ?_) | ((with_reducible first | refine zR ?_ ?_ fun K_ hK_ => ?_ | refine zS ?_ ?_ fun K_ hK_ => ?_); (focus kernel_rfl); (focus kernel_rfl))); first | (simp (maxSteps := 1000000) (disch := refine hold_ ?_; first | (simp [hltz, hsz, hNz, -List.getD_eq_getElem?_getD]; done) | omega) [hltz, hsz, hNz, -List.getD_eq_getElem?_getD]; try first | (with_reducible refine zZ ?_) | subst hK_) | subst hK_) | (with_reducible first | refine zA ?_ | refine zB ?_ | refine zC ?_ | refine zD ?_ | refine zE ?_ | refine zF ?_ | refine zG ?_ | refine zH ?_ | refine zI ?_ | refine zJ ?_ | refine zK ?_ | refine zL ?_ | refine zM ?_ | refine zN ?_ | refine zO ?_) | ((with_reducible refine yG ?_ ?_); (focus decide)) | ((with_reducible refine yA ?_); refine yB rfl ?_; (with_reducible first | refine yC ?_ | refine yD ?_)))
          simp (maxSteps := 1000000) (disch := refine hold_ ?_; first | (simp [-List.getD_eq_getElem?_getD]; done) | omega) [-List.getD_eq_getElem?_getD]
    · have hNz : (9007199254740992 : Int) < M := by omega
      rw [if_pos (by omega)]
      rcases facts with ⟨hlt, g1 | ⟨g1, g2⟩⟩ | hlt
      · have hltz : (m : Int) < s.length := by omega
        repeat (first | ((with_reducible first | refine callK_at 20 ?_); refine callK_p ?_; simp (maxSteps := 1000000) (disch := refine hold_ ?_; first | (simp [hlt, hltz, hsz, hg, g1, hNz, -List.getD_eq_getElem?_getD]; done) | omega) [hlt, hltz, hsz, hg, g1, hNz, -List.getD_eq_getElem?_getD]; (first | refine callK1_of (Fn.ct kat Tryd.call20) ?_); (try simp (maxSteps := 1000000) (disch := refine hold_ ?_; first | (simp [hlt, hltz, hsz, hg, g1, hNz, -List.getD_eq_getElem?_getD]; done) | omega) [hlt, hltz, hsz, hg, g1, hNz, -List.getD_eq_getElem?_getD]); first | (with_reducible refine zZ ?_) | subst hK_) | ((first | (with_reducible first | refine zP fun K_ hK_ => ?_ | refine zQ fun K_ hK_ => ?_ | refine zT ?_ | refine zU ?_ | refine zV ?_ | refine zW ?_ | refine zX ?_ | refine zY ?_) | ((with_reducible first | refine zR ?_ ?_ fun K_ hK_ => ?_ | refine zS ?_ ?_ fun K_ hK_ => ?_); (focus kernel_rfl); (focus kernel_rfl))); first | (simp (maxSteps := 1000000) (disch := refine hold_ ?_; first | (simp [hlt, hltz, hsz, hg, g1, hNz, -List.getD_eq_getElem?_getD]; done) | omega) [hlt, hltz, hsz, hg, g1, hNz, -List.getD_eq_getElem?_getD]; try first | (with_reducible refine zZ ?_) | subst hK_) | subst hK_) | (with_reducible first | refine zA ?_ | refine zB ?_ | refine zC ?_ | refine zD ?_ | refine zE ?_ | refine zF ?_ | refine zG ?_ | refine zH ?_ | refine zI ?_ | refine zJ ?_ | refine zK ?_ | refine zL ?_ | refine zM ?_ | refine zN ?_ | refine zO ?_) | ((with_reducible refine yG ?_ ?_); (focus decide)) | ((with_reducible refine yA ?_); refine yB rfl ?_; (with_reducible first | refine yC ?_ | refine yD ?_)))
        all_goals simp (maxSteps := 1000000) (disch := refine hold_ ?_; first | (simp [-List.getD_eq_getElem?_getD]; done) | omega) [-List.getD_eq_getElem?_getD]
      · have hltz : (m : Int) < s.length := by omega
        repeat (first | ((with_reducible first | refine callK_at 20 ?_); refine callK_p ?_; simp (maxSteps := 1000000) (disch := refine hold_ ?_; first | (simp [hlt, hltz, hsz, hg, g1, g2, hNz, -List.getD_eq_getElem?_getD]; done) | omega) [hlt, hltz, hsz, hg, g1, g2, hNz, -List.getD_eq_getElem?_getD]; (first | refine callK1_of (Fn.ct kat Tryd.call20) ?_); (try simp (maxSteps := 1000000) (disch := refine hold_ ?_; first | (simp [hlt, hltz, hsz, hg, g1, g2, hNz, -List.getD_eq_getElem?_getD]; done) | omega) [hlt, hltz, hsz, hg, g1, g2, hNz, -List.getD_eq_getElem?_getD]); first | (with_reducible refine zZ ?_) | subst hK_) | ((first | (with_reducible first | refine zP fun K_ hK_ => ?_ | refine zQ fun K_ hK_ => ?_ | refine zT ?_ | refine zU ?_ | refine zV ?_ | refine zW ?_ | refine zX ?_ | refine zY ?_) | ((with_reducible first | refine zR ?_ ?_ fun K_ hK_ => ?_ | refine zS ?_ ?_ fun K_ hK_ => ?_); (focus kernel_rfl); (focus kernel_rfl))); first | (simp (maxSteps := 1000000) (disch := refine hold_ ?_; first | (simp [hlt, hltz, hsz, hg, g1, g2, hNz, -List.getD_eq_getElem?_getD]; done) | omega) [hlt, hltz, hsz, hg, g1, g2, hNz, -List.getD_eq_getElem?_getD]; try first | (with_reducible refine zZ ?_) | subst hK_) | subst hK_) | (with_reducible first | refine zA ?_ | refine zB ?_ | refine zC ?_ | refine zD ?_ | refine zE ?_ | refine zF ?_ | refine zG ?_ | refine zH ?_ | refine zI ?_ | refine zJ ?_ | refine zK ?_ | refine zL ?_ | refine zM ?_ | refine zN ?_ | refine zO ?_) | ((with_reducible refine yG ?_ ?_); (focus decide)) | ((with_reducible refine yA ?_); refine yB rfl ?_; (with_reducible first | refine yC ?_ | refine yD ?_)))
        all_goals simp (maxSteps := 1000000) (disch := refine hold_ ?_; first | (simp [-List.getD_eq_getElem?_getD]; done) | omega) [-List.getD_eq_getElem?_getD]
      · have hltz : ¬ (m : Int) < s.length := by omega
        repeat (first | ((with_reducible first | refine callK_at 20 ?_); refine callK_p ?_; simp (maxSteps := 1000000) (disch := refine hold_ ?_; first | (simp [hltz, hsz, hNz, -List.getD_eq_getElem?_getD]; done) | omega) [hltz, hsz, hNz, -List.getD_eq_getElem?_getD]; (first | refine callK1_of (Fn.ct kat Tryd.call20) ?_); (try simp (maxSteps := 1000000) (disch := refine hold_ ?_; first | (simp [hltz, hsz, hNz, -List.getD_eq_getElem?_getD]; done) | omega) [hltz, hsz, hNz, -List.getD_eq_getElem?_getD]); first | (with_reducible refine zZ ?_) | subst hK_) | ((first | (with_reducible first | refine zP fun K_ hK_ => ?_ | refine zQ fun K_ hK_ => ?_ | refine zT ?_ | refine zU ?_ | refine zV ?_ | refine zW ?_ | refine zX ?_ | refine zY ?_) | ((with_reducible first | refine zR ?_ ?_ fun K_ hK_ => ?_ | refine zS ?_ ?_ fun K_ hK_ => ?_); (focus kernel_rfl); (focus kernel_rfl))); first | (simp (maxSteps := 1000000) (disch := refine hold_ ?_; first | (simp [hltz, hsz, hNz, -List.getD_eq_getElem?_getD]; done) | omega) [hltz, hsz, hNz, -List.getD_eq_getElem?_getD]; try first | (with_reducible refine zZ ?_) | subst hK_) | subst hK_) | (with_reducible first | refine zA ?_ | refine zB ?_ | refine zC ?_ | refine zD ?_ | refine zE ?_ | refine zF ?_ | refine zG ?_ | refine zH ?_ | refine zI ?_ | refine zJ ?_ | refine zK ?_ | refine zL ?_ | refine zM ?_ | refine zN ?_ | refine zO ?_) | ((with_reducible refine yG ?_ ?_); (focus decide)) | ((with_reducible refine yA ?_); refine yB rfl ?_; (with_reducible first | refine yC ?_ | refine yD ?_)))
        all_goals simp (maxSteps := 1000000) (disch := refine hold_ ?_; first | (simp [-List.getD_eq_getElem?_getD]; done) | omega) [-List.getD_eq_getElem?_getD]
end Go.Av.Lex
end
section
set_option linter.unusedSimpArgs false
set_option linter.unusedVariables false
open Go Go.Av Go.Proofs
namespace Go.Av.Lex
def twoL : List (List (BitVec 8)) := [[46#8, 46#8], [58#8, 58#8], [47#8, 47#8], [33#8, 61#8], [60#8, 61#8], [62#8, 61#8]]
def oneA (c : BitVec 8) : Bool := c == 40#8 || (c == 41#8 || (c == 91#8 || (c == 93#8 || (c == 46#8 || (c == 64#8 || c == 44#8)))))
def oneB (c : BitVec 8) : Bool := c == 47#8 || (c == 124#8 || (c == 43#8 || (c == 45#8 || (c == 61#8 || (c == 60#8 || c == 62#8)))))
def twoN (S : List (BitVec 8)) : Option Nat := twoL.findIdx? (preB S)
def rsign (S : List (BitVec 8)) : Nat × List (BitVec 8) := match twoN S with
  | some k => (if k < 2 then 0 else 1, twoL.getD k [])
  | none => if oneA (S.getD 0 0#8) then (0, [S.getD 0 0#8]) else if oneB (S.getD 0 0#8) then (1, [S.getD 0 0#8]) else (0, [])
theorem twoN_or (S : List (BitVec 8)) : (twoN S = none ∧ ∀ k, k < 6 → preB S (twoL.getD k []) = false) ∨ ∃ n, n < 6 ∧ twoN S = some n ∧ preB S (twoL.getD n []) = true ∧ ∀ k, k < n → preB S (twoL.getD k []) = false := by
  unfold twoN
  have gen : ∀ (ps : List (List (BitVec 8))), (ps.findIdx? (preB S) = none ∧ ∀ k, k < ps.length → preB S (ps.getD k []) = false) ∨ ∃ n, n < ps.length ∧ ps.findIdx? (preB S) = some n ∧ preB S (ps.getD n []) = true ∧ ∀ k, k < n → preB S (ps.getD k []) = false := by
    intro ps
    induction ps with
    | nil => left; exact ⟨rfl, fun k hk => by simp at hk⟩
    | cons p ps ih =>
      rw [List.findIdx?_cons]
      cases hp : preB S p with
      | true => right; exact ⟨0, by simp, rfl, hp, fun k hk => by omega⟩
      | false =>
        rcases ih with ⟨h1, h2⟩ | ⟨n, h1, h2, h3, h4⟩
        · left
          refine ⟨by simp [h1], ?_⟩
          intro k hk
          cases k with
          | zero => exact hp
          | succ k => exact h2 k (by simpa using hk)
        · right
          refine ⟨n + 1, by simpa using h1, by simp [h2], h3, ?_⟩
          intro k hk
          cases k with
          | zero => exact hp
          | succ k => exact h4 k (by omega)
  exact gen twoL
theorem preB_two (a b : BitVec 8) (S : List (BitVec 8)) : preB S [a, b] = (decide (S.getD 0 0#8 = a) && (decide (S.getD 1 0#8 = b) && decide (2 ≤ S.length))) := by
  match S with
  | [] => simp [preB]
  | [c] => simp [preB]
  | c :: d :: r =>
    unfold preB
    simp only [List.length_cons, List.length_nil, List.take_succ_cons, List.take_zero, List.getD_cons_zero, List.getD_cons_succ]
    by_cases h1 : c = a <;> by_cases h2 : d = b <;> simp [h1, h2]
theorem preB_one (a : BitVec 8) (S : List (BitVec 8)) (hS : 0 < S.length) : preB S [a] = decide (S.getD 0 0#8 = a) := by
  match S, hS with
  | c :: r, _ =>
    unfold preB
    simp only [List.length_cons, List.length_nil, List.take_succ_cons, List.take_zero, List.getD_cons_zero]
    by_cases h1 : c = a <;> simp [h1]
set_option maxHeartbeats 4000000 in
theorem rsign_eq (S : List (BitVec 8)) (hS : 0 < S.length) : rsign S = match signL S with
    | some q => q
    | none => (0, []) := by
  unfold rsign signL takeL twoN marksL opsL twoL
  simp only [List.find?_cons, List.find?_nil, List.findIdx?_cons, List.findIdx?_nil, preB_two, preB_one _ S hS, oneA, oneB]
  generalize S.getD 0 0#8 = c
  generalize S.getD 1 0#8 = d
  generalize decide (2 ≤ S.length) = L
  by_cases c1 : c = 46#8
  · subst c1; by_cases e : d = 46#8 <;> cases L <;> simp [e]
  by_cases c2 : c = 58#8
  · subst c2; by_cases e : d = 58#8 <;> cases L <;> simp [e]
  by_cases c3 : c = 47#8
  · subst c3; by_cases e : d = 47#8 <;> cases L <;> simp [e]
  by_cases c4 : c = 33#8
  · subst c4; by_cases e : d = 61#8 <;> cases L <;> simp [e]
  by_cases c5 : c = 60#8
  · subst c5; by_cases e : d = 61#8 <;> cases L <;> simp [e]
  by_cases c6 : c = 62#8
  · subst c6; by_cases e : d = 61#8 <;> cases L <;> simp [e]
  by_cases k1 : c = 40#8
  · subst k1; simp
  by_cases k2 : c = 41#8
  · subst k2; simp
  by_cases k3 : c = 91#8
  · subst k3; simp
  by_cases k4 : c = 93#8
  · subst k4; simp
  by_cases k5 : c = 64#8
  · subst k5; simp
  by_cases k6 : c = 44#8
  · subst k6; simp
  by_cases k7 : c = 124#8
  · subst k7; simp
  by_cases k8 : c = 43#8
  · subst k8; simp
  by_cases k9 : c = 45#8
  · subst k9; simp
  by_cases k10 : c = 61#8
  · subst k10; simp
  simp [c1, c2, c3, c4, c5, c6, k1, k2, k3, k4, k5, k6, k7, k8, k9, k10]
set_option maxHeartbeats 16000000 in
theorem rsign_ct (s : List (BitVec 8)) (n : Nat) (hn : n < s.length) (hl : s.length ≤ 1000000) : Fn Tryd.prog 16 [.str (txt s), .int .i64 n] [.p (.int .i64 ((rsign (s.drop n)).1 : Nat)), .p (.str (txt (rsign (s.drop n)).2))] := by
  have hsz := txt_size s
  have kat := fun p (hp : p.length ≤ 10) => rat_ct s p n (by omega) (by omega) (Nat.le_trans hp (by decide))
  have hg := txt_get s n
  have hg0 : s.getD n 0 = (s.drop n).getD 0 0#8 := by simp [List.getD_eq_getElem?_getD]
  rw [hg0] at hg
  have hx : (txt s).extract n (n + 1) = txt [(s.drop n).getD 0 0#8] := by
    rw [txt_extract, ← List.take_drop]
    congr 1
    have : 0 < (s.drop n).length := by rw [List.length_drop]; omega
    match s.drop n, this with
    | c :: r, _ => rfl
  generalize s.drop n = S at *
  have hnz : (n : Int) < s.length := by omega
  have w1 : IntKind.i64.wrap ((n : Int) + 1) = n + 1 := wrap_i64 _ (by omega) (by omega)
  have tn : ((n : Int) + 1).toNat = n + 1 := by omega
  have hn1 : n ≤ n + 1 := by omega
  have hn2 : n + 1 ≤ s.length := by omega
  have hn3 : (n : Int) ≤ (n : Int) + 1 := by omega
  have hn4 : (n : Int) + 1 ≤ s.length := by omega
  have hn5 : (0 : Int) ≤ (n : Int) + 1 := by omega
  have hlit : (Row.strs [ByteArray.mk #[46, 46], ByteArray.mk #[58, 58], ByteArray.mk #[47, 47], ByteArray.mk #[33, 61], ByteArray.mk #[60, 61], ByteArray.mk #[62, 61]] : Row PV) = sR twoL := rfl
  have hlen : (sR twoL).len = 6 := rfl
  have hsR : (sR twoL).sz = 1 := rfl
  have hel : ∀ k, k < 6 → (sR twoL).elem k = .str (txt (twoL.getD k [])) := by
    intro k hk
    have : k < twoL.length := hk
    simp [sR, List.getD_eq_getElem?_getD, this]
  have hpl : ∀ k, (twoL.getD k []).length ≤ 10 := by
    intro k
    by_cases h : k < 6
    · have : ∀ j : Fin 6, (twoL.getD j.val []).length ≤ 10 := by decide
      exact this ⟨k, h⟩
    · rw [List.getD_eq_getElem?_getD, List.getElem?_eq_none (by simpa [twoL] using h)]; simp
  have t0 : txt [] = ByteArray.mk #[] := rfl
  unfold rsign
  refine Fn.of_body Tryd.func16 rfl ?_
  repeat (first | ((first | (with_reducible first | refine zP fun K_ hK_ => ?_ | refine zQ fun K_ hK_ => ?_ | refine zT ?_ | refine zU ?_ | refine zV ?_ | refine zW ?_ | refine zX ?_ | refine zY ?_) | ((with_reducible first | refine zR ?_ ?_ fun K_ hK_ => ?_ | refine zS ?_ ?_ fun K_ hK_ => ?_); (focus kernel_rfl); (focus kernel_rfl))); first | (simp (maxSteps := 1000000) (disch := refine hold_ ?_; first | (simp [hlit, hlen, -List.getD_eq_getElem?_getD]; done) | omega) [hlit, hlen, -List.getD_eq_getElem?_getD]; try first | (with_reducible refine zZ ?_) | subst hK_) | subst hK_) | (with_reducible first | refine zA ?_ | refine zB ?_ | refine zC ?_ | refine zD ?_ | refine zE ?_ | refine zF ?_ | refine zG ?_ | refine zH ?_ | refine zI ?_ | refine zJ ?_ | refine zK ?_ | refine zL ?_ | refine zM ?_ | refine zN ?_ | refine zO ?_) | ((with_reducible refine yG ?_ ?_); (focus decide)) | ((with_reducible refine yA ?_); refine yB rfl ?_; (with_reducible first | refine yC ?_ | refine yD ?_)))
  generalize hRR : sR twoL = RR at *
  rcases twoN_or S with ⟨h1, h2⟩ | ⟨q, h1, h2, h3, h4⟩
  · rw [h1]
    simp only
    refine AW.iter (true :: true :: false :: false :: false :: false :: true :: false :: false :: true :: true :: true :: false :: false :: false :: false :: false :: false :: false :: false :: false :: false :: false :: false :: false :: false :: false :: false :: false :: false :: false :: false :: false :: false :: false :: false :: false :: false :: false :: false :: false :: false :: false :: false :: false :: false :: false :: false :: false :: false :: false :: false :: false :: false :: false :: false :: false :: false :: false :: false :: false :: []) 6 (fun k => ⟨(.p (.str (txt s)) :: .p (.int .i64 n) :: V.junk :: V.junk :: V.junk :: V.junk :: .row RR 0 0 false :: V.junk :: V.junk :: .row RR 0 0 false :: .p (.int .i64 6) :: .p (.int .i64 k) :: V.junk :: V.junk :: V.junk :: V.junk :: V.junk :: V.junk :: V.junk :: V.junk :: V.junk :: V.junk :: V.junk :: V.junk :: V.junk :: V.junk :: V.junk :: V.junk :: V.junk :: V.junk :: V.junk :: V.junk :: V.junk :: V.junk :: V.junk :: V.junk :: V.junk :: V.junk :: V.junk :: V.junk :: V.junk :: V.junk :: V.junk :: V.junk :: V.junk :: V.junk :: V.junk :: V.junk :: V.junk :: V.junk :: V.junk :: V.junk :: V.junk :: V.junk :: V.junk :: V.junk :: V.junk :: V.junk :: V.junk :: V.junk :: V.junk :: []), ⟨[], [(0, 0)]⟩⟩) ?_ ?_
    · simp (maxSteps := 1000000) (disch := refine hold_ ?_; first | (simp [-List.getD_eq_getElem?_getD]; done) | omega) [-List.getD_eq_getElem?_getD]
    intro k hk
    have e1 : IntKind.i64.wrap ((k : Int) + 1) = k + 1 := wrap_i64 _ (by omega) (by omega)
    by_cases hkc : k < 6
    · have hkz : (k : Int) < 6 := by omega
      have he := hel k hkc
      have kk := kat _ (hpl k)
      rw [h2 k hkc] at kk
      generalize twoL.getD k [] = x at *
      repeat (first | ((with_reducible first | refine callK_at 20 ?_); refine callK_p ?_; simp (maxSteps := 1000000) (disch := refine hold_ ?_; first | (simp [hlen, hsR, hkc, hkz, he, e1, -List.getD_eq_getElem?_getD]; done) | omega) [hlen, hsR, hkc, hkz, he, e1, -List.getD_eq_getElem?_getD]; (first | refine callK1_of (Fn.ct kk Tryd.call20) ?_); (try simp (maxSteps := 1000000) (disch := refine hold_ ?_; first | (simp [hlen, hsR, hkc, hkz, he, e1, -List.getD_eq_getElem?_getD]; done) | omega) [hlen, hsR, hkc, hkz, he, e1, -List.getD_eq_getElem?_getD]); first | (with_reducible refine zZ ?_) | subst hK_) | ((first | (with_reducible first | refine zP fun K_ hK_ => ?_ | refine zQ fun K_ hK_ => ?_ | refine zT ?_ | refine zU ?_ | refine zV ?_ | refine zW ?_ | refine zX ?_ | refine zY ?_) | ((with_reducible first | refine zR ?_ ?_ fun K_ hK_ => ?_ | refine zS ?_ ?_ fun K_ hK_ => ?_); (focus kernel_rfl); (focus kernel_rfl))); first | (simp (maxSteps := 1000000) (disch := refine hold_ ?_; first | (simp [hlen, hsR, hkc, hkz, he, e1, -List.getD_eq_getElem?_getD]; done) | omega) [hlen, hsR, hkc, hkz, he, e1, -List.getD_eq_getElem?_getD]; try first | (with_reducible refine zZ ?_) | subst hK_) | subst hK_) | (with_reducible first | refine zA ?_ | refine zB ?_ | refine zC ?_ | refine zD ?_ | refine zE ?_ | refine zF ?_ | refine zG ?_ | refine zH ?_ | refine zI ?_ | refine zJ ?_ | refine zK ?_ | refine zL ?_ | refine zM ?_ | refine zN ?_ | refine zO ?_) | ((with_reducible refine yG ?_ ?_); (focus decide)) | ((with_reducible refine yA ?_); refine yB rfl ?_; (with_reducible first | refine yC ?_ | refine yD ?_)))
      refine ⟨hkc, ?_⟩
      simp (maxSteps := 1000000) (disch := refine hold_ ?_; first | (simp [-List.getD_eq_getElem?_getD]; done) | omega) [-List.getD_eq_getElem?_getD]
    · obtain rfl : k = 6 := by omega
      clear e1 hel hpl kat h2 hkc
      generalize S.getD 0 0#8 = c at *
      by_cases c40 : c = 40#8
      · subst c40
        rw [show ub 40#8 = 40 from rfl] at hg
        repeat (first | ((first | (with_reducible first | refine zP fun K_ hK_ => ?_ | refine zQ fun K_ hK_ => ?_ | refine zT ?_ | refine zU ?_ | refine zV ?_ | refine zW ?_ | refine zX ?_ | refine zY ?_) | ((with_reducible first | refine zR ?_ ?_ fun K_ hK_ => ?_ | refine zS ?_ ?_ fun K_ hK_ => ?_); (focus kernel_rfl); (focus kernel_rfl))); first | (simp (maxSteps := 1000000) (disch := refine hold_ ?_; first | (simp [hsz, hg, hn, hnz, w1, tn, hn1, hn2, hn3, hn4, hn5, hx, -List.getD_eq_getElem?_getD]; done) | omega) [hsz, hg, hn, hnz, w1, tn, hn1, hn2, hn3, hn4, hn5, hx, -List.getD_eq_getElem?_getD]; try first | (with_reducible refine zZ ?_) | subst hK_) | subst hK_) | (with_reducible first | refine zA ?_ | refine zB ?_ | refine zC ?_ | refine zD ?_ | refine zE ?_ | refine zF ?_ | refine zG ?_ | refine zH ?_ | refine zI ?_ | refine zJ ?_ | refine zK ?_ | refine zL ?_ | refine zM ?_ | refine zN ?_ | refine zO ?_) | ((with_reducible refine yG ?_ ?_); (focus decide)) | ((with_reducible refine yA ?_); refine yB rfl ?_; (with_reducible first | refine yC ?_ | refine yD ?_)))
        all_goals simp (maxSteps := 1000000) (disch := refine hold_ ?_; first | (simp [oneA, oneB, -List.getD_eq_getElem?_getD]; done) | omega) [oneA, oneB, -List.getD_eq_getElem?_getD]
      have n40 : (ub c == 40) = false := beq_eq_false_iff_ne.2 fun e => c40 (ub_inj (b := 40#8) e)
      by_cases c41 : c = 41#8
      · subst c41
        rw [show ub 41#8 = 41 from rfl] at hg
        repeat (first | ((first | (with_reducible first | refine zP fun K_ hK_ => ?_ | refine zQ fun K_ hK_ => ?_ | refine zT ?_ | refine zU ?_ | refine zV ?_ | refine zW ?_ | refine zX ?_ | refine zY ?_) | ((with_reducible first | refine zR ?_ ?_ fun K_ hK_ => ?_ | refine zS ?_ ?_ fun K_ hK_ => ?_); (focus kernel_rfl); (focus kernel_rfl))); first | (simp (maxSteps := 1000000) (disch := refine hold_ ?_; first | (simp [hsz, hg, hn, hnz, w1, tn, hn1, hn2, hn3, hn4, hn5, hx, -List.getD_eq_getElem?_getD]; done) | omega) [hsz, hg, hn, hnz, w1, tn, hn1, hn2, hn3, hn4, hn5, hx, -List.getD_eq_getElem?_getD]; try first | (with_reducible refine zZ ?_) | subst hK_) | subst hK_) | (with_reducible first | refine zA ?_ | refine zB ?_ | refine zC ?_ | refine zD ?_ | refine zE ?_ | refine zF ?_ | refine zG ?_ | refine zH ?_ | refine zI ?_ | refine zJ ?_ | refine zK ?_ | refine zL ?_ | refine zM ?_ | refine zN ?_ | refine zO ?_) | ((with_reducible refine yG ?_ ?_); (focus decide)) | ((with_reducible refine yA ?_); refine yB rfl ?_; (with_reducible first | refine yC ?_ | refine yD ?_)))
        all_goals simp (maxSteps := 1000000) (disch := refine hold_ ?_; first | (simp [oneA, oneB, -List.getD_eq_getElem?_getD]; done) | omega) [oneA, oneB, -List.getD_eq_getElem?_getD]
      have n41 : (ub c == 41) = false := beq_eq_false_iff_ne.2 fun e => c41 (ub_inj (b := 41#8) e)
      by_cases c91 : c = 91#8
      · subst c91
        rw [show ub 91#8 = 91 from rfl] at hg
        repeat (first | ((first | (with_reducible first | refine zP fun K_ hK_ => ?_ | refine zQ fun K_ hK_ => ?_ | refine zT ?_ | refine zU ?_ | refine zV ?_ | refine zW ?_ | refine zX ?_ | refine zY ?_) | ((with_reducible first | refine zR ?_ ?_ fun K_ hK_ => ?_ | refine zS ?_ ?_ fun K_ hK_ => ?_); (focus kernel_rfl); (focus kernel_rfl))); first | (simp (maxSteps := 1000000) (disch := refine hold_ ?_; first | (simp [hsz, hg, hn, hnz, w1, tn, hn1, hn2, hn3, hn4, hn5, hx, -List.getD_eq_getElem?_getD]; done) | omega) [hsz, hg, hn, hnz, w1, tn, hn1, hn2, hn3, hn4, hn5, hx, -List.getD_eq_getElem?_getD]; try first | (with_reducible refine zZ ?_) | subst hK_) | subst hK_) | (with_reducible first | refine zA ?_ | refine zB ?_ | refine zC ?_ | refine zD ?_ | refine zE ?_ | refine zF ?_ | refine zG ?_ | refine zH ?_ | refine zI ?_ | refine zJ ?_ | refine zK ?_ | refine zL ?_ | refine zM ?_ | refine zN ?_ | refine zO ?_) | ((with_reducible refine yG ?_ ?_); (focus decide)) | ((with_reducible refine yA ?_); refine yB rfl ?_; (with_reducible first | refine yC ?_ | refine yD ?_)))
        all_goals simp (maxSteps := 1000000) (disch := refine hold_ ?_; first | (simp [oneA, oneB, -List.getD_eq_getElem?_getD]; done) | omega) [oneA, oneB, -List.getD_eq_getElem?_getD]
      have n91 : (ub c == 91) = false := beq_eq_false_iff_ne.2 fun e => c91 (ub_inj (b := 91#8) e)
      by_cases c93 : c = 93#8
      · subst c93
        rw [show ub 93#8 = 93 from rfl] at hg
        repeat (first | ((first | (with_reducible first | refine zP fun K_ hK_ => ?_ | refine zQ fun K_ hK_ => ?_ | refine zT ?_ | refine zU ?_ | refine zV ?_ | refine zW ?_ | refine zX ?_ | refine zY ?_) | ((with_reducible first | refine zR ?_ ?_ fun K_ hK_ => ?_ | refine zS ?_ ?_ fun K_ hK_ => ?_); (focus kernel_rfl); (focus kernel_rfl))); first | (simp (maxSteps := 1000000) (disch := refine hold_ ?_; first | (simp [hsz, hg, hn, hnz, w1, tn, hn1, hn2, hn3, hn4, hn5, hx, -List.getD_eq_getElem?_getD]; done) | omega) [hsz, hg, hn, hnz, w1, tn, hn1, hn2, hn3, hn4, hn5, hx, -List.getD_eq_getElem?_getD]; try first | (with_reducible refine zZ ?_) | subst hK_) | subst hK_) | (with_reducible first | refine zA ?_ | refine zB ?_ | refine zC ?_ | refine zD ?_ | refine zE ?_ | refine zF ?_ | refine zG ?_ | refine zH ?_ | refine zI ?_ | refine zJ ?_ | refine zK ?_ | refine zL ?_ | refine zM ?_ | refine zN ?_ | refine zO ?_) | ((with_reducible refine yG ?_ ?_); (focus decide)) | ((with_reducible refine yA ?_); refine yB rfl ?_; (with_reducible first | refine yC ?_ | refine yD ?_)))
        all_goals simp (maxSteps := 1000000) (disch := refine hold_ ?_; first | (simp [oneA, oneB, -List.getD_eq_getElem?_getD]; done) | omega) [oneA, oneB, -List.getD_eq_getElem?_getD]
      have n93 : (ub c == 93) = false := beq_eq_false_iff_ne.2 fun e => c93 (ub_inj (b := 93#8) e)
      by_cases c46 : c = 46#8
      · subst c46
        rw [show ub 46#8 = 46 from rfl] at hg
        repeat (first | ((first | (with_reducible first | refine zP fun K_ hK_ => ?_ | refine zQ fun K_ hK_ => ?_ | refine zT ?_ | refine zU ?_ | refine zV ?_ | refine zW ?_ | refine zX ?_ | refine zY ?_) | ((with_reducible first | refine zR ?_ ?_ fun K_ hK_ => ?_ | refine zS ?_ ?_ fun K_ hK_ => ?_); (focus kernel_rfl); (focus kernel_rfl))); first | (simp (maxSteps := 1000000) (disch := refine hold_ ?_; first | (simp [hsz, hg, hn, hnz, w1, tn, hn1, hn2, hn3, hn4, hn5, hx, -List.getD_eq_getElem?_getD]; done) | omega) [hsz, hg, hn, hnz, w1, tn, hn1, hn2, hn3, hn4, hn5, hx, -List.getD_eq_getElem?_getD]; try first | (with_reducible refine zZ ?_) | subst hK_) | subst hK_) | (with_reducible first | refine zA ?_ | refine zB ?_ | refine zC ?_ | refine zD ?_ | refine zE ?_ | refine zF ?_ | refine zG ?_ | refine zH ?_ | refine zI ?_ | refine zJ ?_ | refine zK ?_ | refine zL ?_ | refine zM ?_ | refine zN ?_ | refine zO ?_) | ((with_reducible refine yG ?_ ?_); (focus decide)) | ((with_reducible refine yA ?_); refine yB rfl ?_; (with_reducible first | refine yC ?_ | refine yD ?_)))
        all_goals simp (maxSteps := 1000000) (disch := refine hold_ ?_; first | (simp [oneA, oneB, -List.getD_eq_getElem?_getD]; done) | omega) [oneA, oneB, -List.getD_eq_getElem?_getD]
      have n46 : (ub c == 46) = false := beq_eq_false_iff_ne.2 fun e => c46 (ub_inj (b := 46#8) e)
      by_cases c64 : c = 64#8
      · subst c64
        rw [show ub 64#8 = 64 from rfl] at hg
        repeat (first | ((first | (with_reducible first | refine zP fun K_ hK_ => ?_ | refine zQ fun K_ hK_ => ?_ | refine zT ?_ | refine zU ?_ | refine zV ?_ | refine zW ?_ | refine zX ?_ | refine zY ?_) | ((with_reducible first | refine zR ?_ ?_ fun K_ hK_ => ?_ | refine zS ?_ ?_ fun K_ hK_ => ?_); (focus kernel_rfl); (focus kernel_rfl))); first | (simp (maxSteps := 1000000) (disch := refine hold_ ?_; first | (simp [hsz, hg, hn, hnz, w1, tn, hn1, hn2, hn3, hn4, hn5, hx, -List.getD_eq_getElem?_getD]; done) | omega) [hsz, hg, hn, hnz, w1, tn, hn1, hn2, hn3, hn4, hn5, hx, -List.getD_eq_getElem?_getD]; try first | (with_reducible refine zZ ?_) | subst hK_) | subst hK_) | (with_reducible first | refine zA ?_ | refine zB ?_ | refine zC ?_ | refine zD ?_ | refine zE ?_ | refine zF ?_ | refine zG ?_ | refine zH ?_ | refine zI ?_ | refine zJ ?_ | refine zK ?_ | refine zL ?_ | refine zM ?_ | refine zN ?_ | refine zO ?_) | ((with_reducible refine yG ?_ ?_); (focus decide)) | ((with_reducible refine yA ?_); refine yB rfl ?_; (with_reducible first | refine yC ?_ | refine yD ?_)))
        all_goals simp (maxSteps := 1000000) (disch := refine hold_ ?_; first | (simp [oneA, oneB, -List.getD_eq_getElem?_getD]; done) | omega) [oneA, oneB, -List.getD_eq_getElem?_getD]
      have n64 : (ub c == 64) = false := beq_eq_false_iff_ne.2 fun e => c64 (ub_inj (b := 64#8) e)
      by_cases c44 : c = 44#8
      · subst c44
        rw [show ub 44#8 = 44 from rfl] at hg
        repeat (first | ((first | (with_reducible first | refine zP fun K_ hK_ => ?_ | refine zQ fun K_ hK_ => ?_ | refine zT ?_ | refine zU ?_ | refine zV ?_ | refine zW ?_ | refine zX ?_ | refine zY ?_) | ((with_reducible first | refine zR ?_ ?_ fun K_ hK_ => ?_ | refine zS ?_ ?_ fun K_ hK_ => ?_); (focus kernel_rfl); (focus kernel_rfl))); first | (simp (maxSteps := 1000000) (disch := refine hold_ ?_; first | (simp [hsz, hg, hn, hnz, w1, tn, hn1, hn2, hn3, hn4, hn5, hx, -List.getD_eq_getElem?_getD]; done) | omega) [hsz, hg, hn, hnz, w1, tn, hn1, hn2, hn3, hn4, hn5, hx, -List.getD_eq_getElem?_getD]; try first | (with_reducible refine zZ ?_) | subst hK_) | subst hK_) | (with_reducible first | refine zA ?_ | refine zB ?_ | refine zC ?_ | refine zD ?_ | refine zE ?_ | refine zF ?_ | refine zG ?_ | refine zH ?_ | refine zI ?_ | refine zJ ?_ | refine zK ?_ | refine zL ?_ | refine zM ?_ | refine zN ?_ | refine zO ?_) | ((with_reducible refine yG ?_ ?_); (focus decide)) | ((with_reducible refine yA ?_); refine yB rfl ?_; (with_reducible first | refine yC ?_ | refine yD ?_)))
        all_goals simp (maxSteps := 1000000) (disch := refine hold_ ?_; first | (simp [oneA, oneB, -List.getD_eq_getElem?_getD]; done) | omega) [oneA, oneB, -List.getD_eq_getElem?_getD]
      have n44 : (ub c == 44) = false := beq_eq_false_iff_ne.2 fun e => c44 (ub_inj (b := 44#8) e)
      by_cases c47 : c = 47#8
      · subst c47
        rw [show ub 47#8 = 47 from rfl] at hg
        repeat (first | ((first | (with_reducible first | refine zP fun K_ hK_ => ?_ | refine zQ fun K_ hK_ => ?_ | refine zT ?_ | refine zU ?_ | refine zV ?_ | refine zW ?_ | refine zX ?_ | refine zY ?_) | ((with_reducible first | refine zR ?_ ?_ fun K_ hK_ => ?_ | refine zS ?_ ?_ fun K_ hK_ => ?_); (focus kernel_rfl); (focus kernel_rfl))); first | (simp (maxSteps := 1000000) (disch := refine hold_ ?_; first | (simp [hsz, hg, hn, hnz, w1, tn, hn1, hn2, hn3, hn4, hn5, hx, -List.getD_eq_getElem?_getD]; done) | omega) [hsz, hg, hn, hnz, w1, tn, hn1, hn2, hn3, hn4, hn5, hx, -List.getD_eq_getElem?_getD]; try first | (with_reducible refine zZ ?_) | subst hK_) | subst hK_) | (with_reducible first | refine zA ?_ | refine zB ?_ | refine zC ?_ | refine zD ?_ | refine zE ?_ | refine zF ?_ | refine zG ?_ | refine zH ?_ | refine zI ?_ | refine zJ ?_ | refine zK ?_ | refine zL ?_ | refine zM ?_ | refine zN ?_ | refine zO ?_) | ((with_reducible refine yG ?_ ?_); (focus decide)) | ((with_reducible refine yA ?_); refine yB rfl ?_; (with_reducible first | refine yC ?_ | refine yD ?_)))
        all_goals simp (maxSteps := 1000000) (disch := refine hold_ ?_; first | (simp [oneA, oneB, -List.getD_eq_getElem?_getD]; done) | omega) [oneA, oneB, -List.getD_eq_getElem?_getD]
      have n47 : (ub c == 47) = false := beq_eq_false_iff_ne.2 fun e => c47 (ub_inj (b := 47#8) e)
      by_cases c124 : c = 124#8
      · subst c124
        rw [show ub 124#8 = 124 from rfl] at hg
        repeat (first | ((first | (with_reducible first | refine zP fun K_ hK_ => ?_ | refine zQ fun K_ hK_ => ?_ | refine zT ?_ | refine zU ?_ | refine zV ?_ | refine zW ?_ | refine zX ?_ | refine zY ?_) | ((with_reducible first | refine zR ?_ ?_ fun K_ hK_ => ?_ | refine zS ?_ ?_ fun K_ hK_ => ?_); (focus kernel_rfl); (focus kernel_rfl))); first | (simp (maxSteps := 1000000) (disch := refine hold_ ?_; first | (simp [hsz, hg, hn, hnz, w1, tn, hn1, hn2, hn3, hn4, hn5, hx, -List.getD_eq_getElem?_getD]; done) | omega) [hsz, hg, hn, hnz, w1, tn, hn1, hn2, hn3, hn4, hn5, hx, -List.getD_eq_getElem?_getD]; try first | (with_reducible refine zZ ?_) | subst hK_) | subst hK_) | (with_reducible first | refine zA ?_ | refine zB ?_ | refine zC ?_ | refine zD ?_ | refine zE ?_ | refine zF ?_ | refine zG ?_ | refine zH ?_ | refine zI ?_ | refine zJ ?_ | refine zK ?_ | refine zL ?_ | refine zM ?_ | refine zN ?_ | refine zO ?_) | ((with_reducible refine yG ?_ ?_); (focus decide)) | ((with_reducible refine yA ?_); refine yB rfl ?_; (with_reducible first | refine yC ?_ | refine yD ?_)))
        all_goals simp (maxSteps := 1000000) (disch := refine hold_ ?_; first | (simp [oneA, oneB, -List.getD_eq_getElem?_getD]; done) | omega) [oneA, oneB, -List.getD_eq_getElem?_getD]
      have n124 : (ub c == 124) = false := beq_eq_false_iff_ne.2 fun e => c124 (ub_inj (b := 124#8) e)
      by_cases c43 : c = 43#8
      · subst c43
        rw [show ub 43#8 = 43 from rfl] at hg
        repeat (first | ((first | (with_reducible first | refine zP fun K_ hK_ => ?_ | refine zQ fun K_ hK_ => ?_ | refine zT ?_ | refine zU ?_ | refine zV ?_ | refine zW ?_ | refine zX ?_ | refine zY ?_) | ((with_reducible first | refine zR ?_ ?_ fun K_ hK_ => ?_ | refine zS ?_ ?_ fun K_ hK_ => ?_); (focus kernel_rfl); (focus kernel_rfl))); first | (simp (maxSteps := 1000000) (disch := refine hold_ ?_; first | (simp [hsz, hg, hn, hnz, w1, tn, hn1, hn2, hn3, hn4, hn5, hx, -List.getD_eq_getElem?_getD]; done) | omega) [hsz, hg, hn, hnz, w1, tn, hn1, hn2, hn3, hn4, hn5, hx, -List.getD_eq_getElem?_getD]; try first | (with_reducible refine zZ ?_) | subst hK_) | subst hK_) | (with_reducible first | refine zA ?_ | refine zB ?_ | refine zC ?_ | refine zD ?_ | refine zE ?_ | refine zF ?_ | refine zG ?_ | refine zH ?_ | refine zI ?_ | refine zJ ?_ | refine zK ?_ | refine zL ?_ | refine zM ?_ | refine zN ?_ | refine zO ?_) | ((with_reducible refine yG ?_ ?_); (focus decide)) | ((with_reducible refine yA ?_); refine yB rfl ?_; (with_reducible first | refine yC ?_ | refine yD ?_)))
        all_goals simp (maxSteps := 1000000) (disch := refine hold_ ?_; first | (simp [oneA, oneB, -List.getD_eq_getElem?_getD]; done) | omega) [oneA, oneB, -List.getD_eq_getElem?_getD]
      have n43 : (ub c == 43) = false := beq_eq_false_iff_ne.2 fun e => c43 (ub_inj (b := 43#8) e)
      by_cases c45 : c = 45#8
      · subst c45
        rw [show ub 45#8 = 45 from rfl] at hg
        repeat (first | ((first | (with_reducible first | refine zP fun K_ hK_ => ?_ | refine zQ fun K_ hK_ => ?_ | refine zT ?_ | refine zU ?_ | refine zV ?_ | refine zW ?_ | refine zX ?_ | refine zY ?_) | ((with_reducible first | refine zR ?_ ?_ fun K_ hK_ => ?_ | refine zS ?_ ?_ fun K_ hK_ => ?_); (focus kernel_rfl); (focus kernel_rfl))); first | (simp (maxSteps := 1000000) (disch := refine hold_ ?_; first | (simp [hsz, hg, hn, hnz, w1, tn, hn1, hn2, hn3, hn4, hn5, hx, -List.getD_eq_getElem?_getD]; done) | omega) [hsz, hg, hn, hnz, w1, tn, hn1, hn2, hn3, hn4, hn5, hx, -List.getD_eq_getElem?_getD]; try first | (with_reducible refine zZ ?_) | subst hK_) | subst hK_) | (with_reducible first | refine zA ?_ | refine zB ?_ | refine zC ?_ | refine zD ?_ | refine zE ?_ | refine zF ?_ | refine zG ?_ | refine zH ?_ | refine zI ?_ | refine zJ ?_ | refine zK ?_ | refine zL ?_ | refine zM ?_ | refine zN ?_ | refine zO ?_) | ((with_reducible refine yG ?_ ?_); (focus decide)) | ((with_reducible refine yA ?_); refine yB rfl ?_; (with_reducible first | refine yC ?_ | refine yD ?_)))
        all_goals simp (maxSteps := 1000000) (disch := refine hold_ ?_; first | (simp [oneA, oneB, -List.getD_eq_getElem?_getD]; done) | omega) [oneA, oneB, -List.getD_eq_getElem?_getD]
      have n45 : (ub c == 45) = false := beq_eq_false_iff_ne.2 fun e => c45 (ub_inj (b := 45#8) e)
      by_cases c61 : c = 61#8
      · subst c61
        rw [show ub 61#8 = 61 from rfl] at hg
        repeat (first | ((first | (with_reducible first | refine zP fun K_ hK_ => ?_ | refine zQ fun K_ hK_ => ?_ | refine zT ?_ | refine zU ?_ | refine zV ?_ | refine zW ?_ | refine zX ?_ | refine zY ?_) | ((with_reducible first | refine zR ?_ ?_ fun K_ hK_ => ?_ | refine zS ?_ ?_ fun K_ hK_ => ?_); (focus kernel_rfl); (focus kernel_rfl))); first | (simp (maxSteps := 1000000) (disch := refine hold_ ?_; first | (simp [hsz, hg, hn, hnz, w1, tn, hn1, hn2, hn3, hn4, hn5, hx, -List.getD_eq_getElem?_getD]; done) | omega) [hsz, hg, hn, hnz, w1, tn, hn1, hn2, hn3, hn4, hn5, hx, -List.getD_eq_getElem?_getD]; try first | (with_reducible refine zZ ?_) | subst hK_) | subst hK_) | (with_reducible first | refine zA ?_ | refine zB ?_ | refine zC ?_ | refine zD ?_ | refine zE ?_ | refine zF ?_ | refine zG ?_ | refine zH ?_ | refine zI ?_ | refine zJ ?_ | refine zK ?_ | refine zL ?_ | refine zM ?_ | refine zN ?_ | refine zO ?_) | ((with_reducible refine yG ?_ ?_); (focus decide)) | ((with_reducible refine yA ?_); refine yB rfl ?_; (with_reducible first | refine yC ?_ | refine yD ?_)))
        all_goals simp (maxSteps := 1000000) (disch := refine hold_ ?_; first | (simp [oneA, oneB, -List.getD_eq_getElem?_getD]; done) | omega) [oneA, oneB, -List.getD_eq_getElem?_getD]
      have n61 : (ub c == 61) = false := beq_eq_false_iff_ne.2 fun e => c61 (ub_inj (b := 61#8) e)
      by_cases c60 : c = 60#8
      · subst c60
        rw [show ub 60#8 = 60 from rfl] at hg
        repeat (first | ((first | (with_reducible first | refine zP fun K_ hK_ => ?_ | refine zQ fun K_ hK_ => ?_ | refine zT ?_ | refine zU ?_ | refine zV ?_ | refine zW ?_ | refine zX ?_ | refine zY ?_) | ((with_reducible first | refine zR ?_ ?_ fun K_ hK_ => ?_ | refine zS ?_ ?_ fun K_ hK_ => ?_); (focus kernel_rfl); (focus kernel_rfl))); first | (simp (maxSteps := 1000000) (disch := refine hold_ ?_; first | (simp [hsz, hg, hn, hnz, w1, tn, hn1, hn2, hn3, hn4, hn5, hx, -List.getD_eq_getElem?_getD]; done) | omega) [hsz, hg, hn, hnz, w1, tn, hn1, hn2, hn3, hn4, hn5, hx, -List.getD_eq_getElem?_getD]; try first | (with_reducible refine zZ ?_) | subst hK_) | subst hK_) | (with_reducible first | refine zA ?_ | refine zB ?_ | refine zC ?_ | refine zD ?_ | refine zE ?_ | refine zF ?_ | refine zG ?_ | refine zH ?_ | refine zI ?_ | refine zJ ?_ | refine zK ?_ | refine zL ?_ | refine zM ?_ | refine zN ?_ | refine zO ?_) | ((with_reducible refine yG ?_ ?_); (focus decide)) | ((with_reducible refine yA ?_); refine yB rfl ?_; (with_reducible first | refine yC ?_ | refine yD ?_)))
        all_goals simp (maxSteps := 1000000) (disch := refine hold_ ?_; first | (simp [oneA, oneB, -List.getD_eq_getElem?_getD]; done) | omega) [oneA, oneB, -List.getD_eq_getElem?_getD]
      have n60 : (ub c == 60) = false := beq_eq_false_iff_ne.2 fun e => c60 (ub_inj (b := 60#8) e)
      by_cases c62 : c = 62#8
      · subst c62
        rw [show ub 62#8 = 62 from rfl] at hg
        repeat (first | ((first | (with_reducible first | refine zP fun K_ hK_ => ?_ | refine zQ fun K_ hK_ => ?_ | refine zT ?_ | refine zU ?_ | refine zV ?_ | refine zW ?_ | refine zX ?_ | refine zY ?_) | ((with_reducible first | refine zR ?_ ?_ fun K_ hK_ => ?_ | refine zS ?_ ?_ fun K_ hK_ => ?_); (focus kernel_rfl); (focus kernel_rfl))); first | (simp (maxSteps := 1000000) (disch := refine hold_ ?_; first | (simp [hsz, hg, hn, hnz, w1, tn, hn1, hn2, hn3, hn4, hn5, hx, -List.getD_eq_getElem?_getD]; done) | omega) [hsz, hg, hn, hnz, w1, tn, hn1, hn2, hn3, hn4, hn5, hx, -List.getD_eq_getElem?_getD]; try first | (with_reducible refine zZ ?_) | subst hK_) | subst hK_) | (with_reducible first | refine zA ?_ | refine zB ?_ | refine zC ?_ | refine zD ?_ | refine zE ?_ | refine zF ?_ | refine zG ?_ | refine zH ?_ | refine zI ?_ | refine zJ ?_ | refine zK ?_ | refine zL ?_ | refine zM ?_ | refine zN ?_ | refine zO ?_) | ((with_reducible refine yG ?_ ?_); (focus decide)) | ((with_reducible refine yA ?_); refine yB rfl ?_; (with_reducible first | refine yC ?_ | refine yD ?_)))
        all_goals simp (maxSteps := 1000000) (disch := refine hold_ ?_; first | (simp [oneA, oneB, -List.getD_eq_getElem?_getD]; done) | omega) [oneA, oneB, -List.getD_eq_getElem?_getD]
      have n62 : (ub c == 62) = false := beq_eq_false_iff_ne.2 fun e => c62 (ub_inj (b := 62#8) e)
      have hA : oneA c = false := by unfold oneA; simp [c40, c41, c91, c93, c46, c64, c44]
      have hB : oneB c = false := by unfold oneB; simp [c47, c124, c43, c45, c61, c60, c62]
      rw [hA, hB]
      generalize ub c = C at *
      repeat (first | ((first | (with_reducible first | refine zP fun K_ hK_ => ?_ | refine zQ fun K_ hK_ => ?_ | refine zT ?_ | refine zU ?_ | refine zV ?_ | refine zW ?_ | refine zX ?_ | refine zY ?_) | ((with_reducible first | refine zR ?_ ?_ fun K_ hK_ => ?_ | refine zS ?_ ?_ fun K_ hK_ => ?_); (focus kernel_rfl); (focus kernel_rfl))); first | (simp (maxSteps := 1000000) (disch := refine hold_ ?_; first | (simp [hsz, hg, hn, hnz, n40, n41, n91, n93, n46, n64, n44, n47, n124, n43, n45, n61, n60, n62, -List.getD_eq_getElem?_getD]; done) | omega) [hsz, hg, hn, hnz, n40, n41, n91, n93, n46, n64, n44, n47, n124, n43, n45, n61, n60, n62, -List.getD_eq_getElem?_getD]; try first | (with_reducible refine zZ ?_) | subst hK_) | subst hK_) | (with_reducible first | refine zA ?_ | refine zB ?_ | refine zC ?_ | refine zD ?_ | refine zE ?_ | refine zF ?_ | refine zG ?_ | refine zH ?_ | refine zI ?_ | refine zJ ?_ | refine zK ?_ | refine zL ?_ | refine zM ?_ | refine zN ?_ | refine zO ?_) | ((with_reducible refine yG ?_ ?_); (focus decide)) | ((with_reducible refine yA ?_); refine yB rfl ?_; (with_reducible first | refine yC ?_ | refine yD ?_)))
      all_goals simp (maxSteps := 1000000) (disch := refine hold_ ?_; first | (simp [t0, -List.getD_eq_getElem?_getD]; done) | omega) [t0, -List.getD_eq_getElem?_getD]
  · rw [h2]
    simp only
    refine AW.iter (true :: true :: false :: false :: false :: false :: true :: false :: false :: true :: true :: true :: false :: false :: false :: false :: false :: false :: false :: false :: false :: false :: false :: false :: false :: false :: false :: false :: false :: false :: false :: false :: false :: false :: false :: false :: false :: false :: false :: false :: false :: false :: false :: false :: false :: false :: false :: false :: false :: false :: false :: false :: false :: false :: false :: false :: false :: false :: false :: false :: false :: []) q (fun k => ⟨(.p (.str (txt s)) :: .p (.int .i64 n) :: V.junk :: V.junk :: V.junk :: V.junk :: .row RR 0 0 false :: V.junk :: V.junk :: .row RR 0 0 false :: .p (.int .i64 6) :: .p (.int .i64 k) :: V.junk :: V.junk :: V.junk :: V.junk :: V.junk :: V.junk :: V.junk :: V.junk :: V.junk :: V.junk :: V.junk :: V.junk :: V.junk :: V.junk :: V.junk :: V.junk :: V.junk :: V.junk :: V.junk :: V.junk :: V.junk :: V.junk :: V.junk :: V.junk :: V.junk :: V.junk :: V.junk :: V.junk :: V.junk :: V.junk :: V.junk :: V.junk :: V.junk :: V.junk :: V.junk :: V.junk :: V.junk :: V.junk :: V.junk :: V.junk :: V.junk :: V.junk :: V.junk :: V.junk :: V.junk :: V.junk :: V.junk :: V.junk :: V.junk :: []), ⟨[], [(0, 0)]⟩⟩) ?_ ?_
    · simp (maxSteps := 1000000) (disch := refine hold_ ?_; first | (simp [-List.getD_eq_getElem?_getD]; done) | omega) [-List.getD_eq_getElem?_getD]
    intro k hk
    have e1 : IntKind.i64.wrap ((k : Int) + 1) = k + 1 := wrap_i64 _ (by omega) (by omega)
    have hkc : k < 6 := by omega
    have hkz : (k : Int) < 6 := by omega
    have he := hel k hkc
    have kk := kat _ (hpl k)
    by_cases hkq : k < q
    · rw [h4 k hkq] at kk
      clear kat
      generalize twoL.getD k [] = x at *
      repeat (first | ((with_reducible first | refine callK_at 20 ?_); refine callK_p ?_; simp (maxSteps := 1000000) (disch := refine hold_ ?_; first | (simp [hlen, hsR, hkc, hkz, he, e1, -List.getD_eq_getElem?_getD]; done) | omega) [hlen, hsR, hkc, hkz, he, e1, -List.getD_eq_getElem?_getD]; (first | refine callK1_of (Fn.ct kk Tryd.call20) ?_); (try simp (maxSteps := 1000000) (disch := refine hold_ ?_; first | (simp [hlen, hsR, hkc, hkz, he, e1, -List.getD_eq_getElem?_getD]; done) | omega) [hlen, hsR, hkc, hkz, he, e1, -List.getD_eq_getElem?_getD]); first | (with_reducible refine zZ ?_) | subst hK_) | ((first | (with_reducible first | refine zP fun K_ hK_ => ?_ | refine zQ fun K_ hK_ => ?_ | refine zT ?_ | refine zU ?_ | refine zV ?_ | refine zW ?_ | refine zX ?_ | refine zY ?_) | ((with_reducible first | refine zR ?_ ?_ fun K_ hK_ => ?_ | refine zS ?_ ?_ fun K_ hK_ => ?_); (focus kernel_rfl); (focus kernel_rfl))); first | (simp (maxSteps := 1000000) (disch := refine hold_ ?_; first | (simp [hlen, hsR, hkc, hkz, he, e1, -List.getD_eq_getElem?_getD]; done) | omega) [hlen, hsR, hkc, hkz, he, e1, -List.getD_eq_getElem?_getD]; try first | (with_reducible refine zZ ?_) | subst hK_) | subst hK_) | (with_reducible first | refine zA ?_ | refine zB ?_ | refine zC ?_ | refine zD ?_ | refine zE ?_ | refine zF ?_ | refine zG ?_ | refine zH ?_ | refine zI ?_ | refine zJ ?_ | refine zK ?_ | refine zL ?_ | refine zM ?_ | refine zN ?_ | refine zO ?_) | ((with_reducible refine yG ?_ ?_); (focus decide)) | ((with_reducible refine yA ?_); refine yB rfl ?_; (with_reducible first | refine yC ?_ | refine yD ?_)))
      refine ⟨hkq, ?_⟩
      simp (maxSteps := 1000000) (disch := refine hold_ ?_; first | (simp [-List.getD_eq_getElem?_getD]; done) | omega) [-List.getD_eq_getElem?_getD]
    · obtain rfl : k = q := by omega
      rw [h3] at kk
      clear kat
      generalize twoL.getD k [] = x at *
      by_cases hk2 : k < 2
      · have hk2z : (k : Int) < 2 := by omega
        repeat (first | ((with_reducible first | refine callK_at 20 ?_); refine callK_p ?_; simp (maxSteps := 1000000) (disch := refine hold_ ?_; first | (simp [hlen, hsR, hkc, hkz, he, hk2z, -List.getD_eq_getElem?_getD]; done) | omega) [hlen, hsR, hkc, hkz, he, hk2z, -List.getD_eq_getElem?_getD]; (first | refine callK1_of (Fn.ct kk Tryd.call20) ?_); (try simp (maxSteps := 1000000) (disch := refine hold_ ?_; first | (simp [hlen, hsR, hkc, hkz, he, hk2z, -List.getD_eq_getElem?_getD]; done) | omega) [hlen, hsR, hkc, hkz, he, hk2z, -List.getD_eq_getElem?_getD]); first | (with_reducible refine zZ ?_) | subst hK_) | ((first | (with_reducible first | refine zP fun K_ hK_ => ?_ | refine zQ fun K_ hK_ => ?_ | refine zT ?_ | refine zU ?_ | refine zV ?_ | refine zW ?_ | refine zX ?_ | refine zY ?_) | ((with_reducible first | refine zR ?_ ?_ fun K_ hK_ => ?_ | refine zS ?_ ?_ fun K_ hK_ => ?_); (focus kernel_rfl); (focus kernel_rfl))); first | (simp (maxSteps := 1000000) (disch := refine hold_ ?_; first | (simp [hlen, hsR, hkc, hkz, he, hk2z, -List.getD_eq_getElem?_getD]; done) | omega) [hlen, hsR, hkc, hkz, he, hk2z, -List.getD_eq_getElem?_getD]; try first | (with_reducible refine zZ ?_) | subst hK_) | subst hK_) | (with_reducible first | refine zA ?_ | refine zB ?_ | refine zC ?_ | refine zD ?_ | refine zE ?_ | refine zF ?_ | refine zG ?_ | refine zH ?_ | refine zI ?_ | refine zJ ?_ | refine zK ?_ | refine zL ?_ | refine zM ?_ | refine zN ?_ | refine zO ?_) | ((with_reducible refine yG ?_ ?_); (focus decide)) | ((with_reducible refine yA ?_); refine yB rfl ?_; (with_reducible first | refine yC ?_ | refine yD ?_)))
        all_goals simp (maxSteps := 1000000) (disch := refine hold_ ?_; first | (simp [hk2, -List.getD_eq_getElem?_getD]; done) | omega) [hk2, -List.getD_eq_getElem?_getD]
      · have hk2z : ¬ (k : Int) < 2 := by omega
        repeat (first | ((with_reducible first | refine callK_at 20 ?_); refine callK_p ?_; simp (maxSteps := 1000000) (disch := refine hold_ ?_; first | (simp [hlen, hsR, hkc, hkz, he, hk2z, -List.getD_eq_getElem?_getD]; done) | omega) [hlen, hsR, hkc, hkz, he, hk2z, -List.getD_eq_getElem?_getD]; (first | refine callK1_of (Fn.ct kk Tryd.call20) ?_); (try simp (maxSteps := 1000000) (disch := refine hold_ ?_; first | (simp [hlen, hsR, hkc, hkz, he, hk2z, -List.getD_eq_getElem?_getD]; done) | omega) [hlen, hsR, hkc, hkz, he, hk2z, -List.getD_eq_getElem?_getD]); first | (with_reducible refine zZ ?_) | subst hK_) | ((first | (with_reducible first | refine zP fun K_ hK_ => ?_ | refine zQ fun K_ hK_ => ?_ | refine zT ?_ | refine zU ?_ | refine zV ?_ | refine zW ?_ | refine zX ?_ | refine zY ?_) | ((with_reducible first | refine zR ?_ ?_ fun K_ hK_ => ?_ | refine zS ?_ ?_ fun K_ hK_ => ?_); (focus kernel_rfl); (focus kernel_rfl))); first | (simp (maxSteps := 1000000) (disch := refine hold_ ?_; first | (simp [hlen, hsR, hkc, hkz, he, hk2z, -List.getD_eq_getElem?_getD]; done) | omega) [hlen, hsR, hkc, hkz, he, hk2z, -List.getD_eq_getElem?_getD]; try first | (with_reducible refine zZ ?_) | subst hK_) | subst hK_) | (with_reducible first | refine zA ?_ | refine zB ?_ | refine zC ?_ | refine zD ?_ | refine zE ?_ | refine zF ?_ | refine zG ?_ | refine zH ?_ | refine zI ?_ | refine zJ ?_ | refine zK ?_ | refine zL ?_ | refine zM ?_ | refine zN ?_ | refine zO ?_) | ((with_reducible refine yG ?_ ?_); (focus decide)) | ((with_reducible refine yA ?_); refine yB rfl ?_; (with_reducible first | refine yC ?_ | refine yD ?_)))
        all_goals simp (maxSteps := 1000000) (disch := refine hold_ ?_; first | (simp [hk2, -List.getD_eq_getElem?_getD]; done) | omega) [hk2, -List.getD_eq_getElem?_getD]
end Go.Av.Lex
end
section
set_option linter.unusedSimpArgs false
set_option linter.unusedVariables false
open Go Go.Av Go.Proofs
namespace Go.Av.Lex
theorem word_nocol (S : List (BitVec 8)) : (wordL S).contains 58#8 = false := by
  have this : 58#8 ∉ wordL S := longF_nocol _ true S (Nat.le_refl _)
  cases h : (wordL S).contains 58#8 with
  | false => rfl
  | true => exact absurd (by simpa using h) this
def nameW (S : List (BitVec 8)) : List (BitVec 8) := if fullB (S.drop (wordL S).length) then wordL S ++ 58#8 :: wordL ((S.drop (wordL S).length).drop 1) else wordL S
def rkind (S : List (BitVec 8)) : Int :=
  if preB (skL (S.drop (nameW S).length)) [58#8, 58#8] then (if fullB (S.drop (wordL S).length) then -1 else 8)
  else if preB (skL (S.drop (nameW S).length)) [40#8] then (if typesL.contains (nameW S) then 7 else 6) else 9
def rnamed (S : List (BitVec 8)) : (Int × List (BitVec 8)) × Nat :=
  if wordL S == [] then ((-1, []), 0)
  else if preB (S.drop (wordL S).length) [58#8, 42#8] then ((5, wordL S), (wordL S).length + 2)
  else ((rkind S, nameW S), (nameW S).length)
theorem nameW_contains (S : List (BitVec 8)) : (nameW S).contains 58#8 = fullB (S.drop (wordL S).length) := by
  unfold nameW
  cases h : fullB (S.drop (wordL S).length) with
  | true => simp
  | false => simpa using word_nocol S
theorem kindN_eq (S : List (BitVec 8)) : kindN (nameW S) (skL (S.drop (nameW S).length)) = if rkind S < 0 then none else some (rkind S).toNat := by
  unfold kindN rkind
  rw [nameW_contains]
  generalize skL (S.drop (nameW S).length) = N
  generalize typesL.contains (nameW S) = G
  cases preB N [58#8, 58#8] <;> cases fullB (S.drop (wordL S).length) <;> cases preB N [40#8] <;> cases G <;> rfl
theorem named_eq (S : List (BitVec 8)) (T : List Tok) (nl : Bool) : namedR S T nl = if (rnamed S).1.1 < 0 then (false, S, T, nl) else (true, S.drop (rnamed S).2, T ++ [⟨(rnamed S).1.1.toNat, (rnamed S).1.2, 0⟩], false) := by
  unfold namedR rnamed
  by_cases hw : (wordL S == []) = true
  · rw [if_pos hw, if_pos hw]; rfl
  rw [if_neg hw, if_neg hw]
  by_cases hB : preB (S.drop (wordL S).length) [58#8, 42#8] = true
  · rw [if_pos hB, if_pos hB, List.drop_drop]; rfl
  rw [if_neg hB, if_neg hB]
  have key : namedT S (nameW S) (S.drop (nameW S).length) T nl = if rkind S < 0 then (false, S, T, nl) else (true, S.drop (nameW S).length, T ++ [⟨(rkind S).toNat, nameW S, 0⟩], false) := by
    unfold namedT
    rw [kindN_eq]
    by_cases h : rkind S < 0
    · rw [if_pos h, if_pos h]
    · rw [if_neg h, if_neg h]
  simp only
  rw [← key]
  unfold nameW
  by_cases hF : fullB (S.drop (wordL S).length) = true
  · rw [if_pos hF, if_pos hF]
  · rw [if_neg hF, if_neg hF]
theorem wordL_take (S : List (BitVec 8)) : S.take (wordL S).length = wordL S := by rw [wordL_len]; rfl
theorem nameW_take (S : List (BitVec 8)) : S.take (nameW S).length = nameW S := by
  unfold nameW
  by_cases hF : fullB (S.drop (wordL S).length) = true
  · rw [if_pos hF]
    have hp : preB (S.drop (wordL S).length) [58#8] = true := by
      unfold fullB at hF; rw [Bool.and_eq_true] at hF; exact hF.1
    obtain ⟨h1, h2⟩ := preB_cons hp
    have hr : S.drop (wordL S).length = 58#8 :: (S.drop (wordL S).length).drop 1 := by
      generalize S.drop (wordL S).length = R at *
      match R, h1, h2 with
      | c :: r, _, h2 =>
        simp only [List.length_cons, List.length_nil, List.take_succ_cons, List.take_zero, List.cons.injEq] at h2
        rw [h2.1]; rfl
    rw [List.length_append, List.length_cons, List.take_add, wordL_take]
    congr 1
    generalize (S.drop (wordL S).length).drop 1 = U at *
    rw [hr, List.take_succ_cons, wordL_take]
  · rw [if_neg hF]; exact wordL_take S
theorem nameW_le (S : List (BitVec 8)) : (nameW S).length ≤ S.length := by
  have := congrArg List.length (nameW_take S)
  rw [List.length_take] at this; omega
theorem skL_pos (l : List (BitVec 8)) : skL l = l.drop (blks l) := dw_drop bd l
theorem blks_le (l : List (BitVec 8)) : blks l ≤ l.length := tw_le bd l
def rnV (S : List (BitVec 8)) (n : Nat) : List V := [.p (.agg (.vals 1 [.int .i64 (rnamed S).1.1, .str (txt (rnamed S).1.2), .int .i64 0])), .p (.int .i64 (n + (rnamed S).2 : Nat))]
set_option maxHeartbeats 16000000 in
theorem rnamed_ct (s : List (BitVec 8)) (n : Nat) (hn : n ≤ s.length) (hl : s.length ≤ 1000000) : Fn Tryd.prog 21 [.str (txt s), .int .i64 n] (rnV (s.drop n) n) := by
  have hsz := txt_size s
  have hdl : (s.drop n).length = s.length - n := List.length_drop
  have x0 : (txt s).extract n s.length = txt (s.drop n) := by rw [txt_extract, List.take_length]
  generalize hSg : s.drop n = S at *
  have hnz : (n : Int) ≤ s.length := by omega
  have k19 := rlong_ct S (by omega)
  rw [← wordL_len] at k19
  have hwl := wordL_le S
  have w1 : IntKind.i64.wrap ((n : Int) + (wordL S).length) = ((n + (wordL S).length : Nat) : Int) := by rw [wrap_i64 _ (by omega) (by omega)]; omega
  have hm : n + (wordL S).length ≤ s.length := by omega
  have hrd : s.drop (n + (wordL S).length) = S.drop (wordL S).length := by rw [← hSg, List.drop_drop]
  have ka : ∀ p : List (BitVec 8), p.length ≤ 10 → Fn Tryd.prog 20 [.str (txt s), .int .i64 (n + (wordL S).length : Nat), .str (txt p)] [.p (.bool (preB (S.drop (wordL S).length) p))] := fun p hp => by
    have := rat_ct s p (n + (wordL S).length) hm (by omega) (by omega)
    rw [hrd] at this; exact this
  have t0 : ByteArray.mk #[] = ByteArray.empty := rfl
  unfold rnV rnamed
  by_cases hw : wordL S = []
  · have w0 : IntKind.i64.wrap (n : Int) = n := wrap_i64 _ (by omega) (by omega)
    rw [hw]
    rw [hw] at k19
    simp only [beq_self_eq_true, if_true]
    clear w1 ka hrd
    refine Fn.of_body Tryd.func21 rfl ?_
    repeat (first | ((with_reducible first | refine callK_at 19 ?_); refine callK_p ?_; simp (maxSteps := 1000000) (disch := refine hold_ ?_; first | (simp [hsz, x0, hnz, hn, w0, -List.getD_eq_getElem?_getD]; done) | omega) [hsz, x0, hnz, hn, w0, -List.getD_eq_getElem?_getD]; (first | refine callK1_of (Fn.ct k19 Tryd.call19) ?_); (try simp (maxSteps := 1000000) (disch := refine hold_ ?_; first | (simp [hsz, x0, hnz, hn, w0, -List.getD_eq_getElem?_getD]; done) | omega) [hsz, x0, hnz, hn, w0, -List.getD_eq_getElem?_getD]); first | (with_reducible refine zZ ?_) | subst hK_) | ((first | (with_reducible first | refine zP fun K_ hK_ => ?_ | refine zQ fun K_ hK_ => ?_ | refine zT ?_ | refine zU ?_ | refine zV ?_ | refine zW ?_ | refine zX ?_ | refine zY ?_) | ((with_reducible first | refine zR ?_ ?_ fun K_ hK_ => ?_ | refine zS ?_ ?_ fun K_ hK_ => ?_); (focus kernel_rfl); (focus kernel_rfl))); first | (simp (maxSteps := 1000000) (disch := refine hold_ ?_; first | (simp [hsz, x0, hnz, hn, w0, -List.getD_eq_getElem?_getD]; done) | omega) [hsz, x0, hnz, hn, w0, -List.getD_eq_getElem?_getD]; try first | (with_reducible refine zZ ?_) | subst hK_) | subst hK_) | (with_reducible first | refine zA ?_ | refine zB ?_ | refine zC ?_ | refine zD ?_ | refine zE ?_ | refine zF ?_ | refine zG ?_ | refine zH ?_ | refine zI ?_ | refine zJ ?_ | refine zK ?_ | refine zL ?_ | refine zM ?_ | refine zN ?_ | refine zO ?_) | ((with_reducible refine yG ?_ ?_); (focus decide)) | ((with_reducible refine yA ?_); refine yB rfl ?_; (with_reducible first | refine yC ?_ | refine yD ?_)))
    all_goals simp (maxSteps := 1000000) (disch := refine hold_ ?_; first | (simp [t0, show txt [] = ByteArray.empty from rfl, -List.getD_eq_getElem?_getD]; done) | omega) [t0, show txt [] = ByteArray.empty from rfl, -List.getD_eq_getElem?_getD]
  have hwf : (wordL S == []) = false := beq_eq_false_iff_ne.2 hw
  have hwp : (wordL S).length ≠ 0 := fun e => hw (List.eq_nil_of_length_eq_zero e)
  have hq : ((((n + (wordL S).length : Nat) : Int)) == (n : Int)) = false := beq_eq_false_iff_ne.2 (by omega)
  rw [hwf]
  simp only [Bool.false_eq_true, if_false]
  have hmz : ((n + (wordL S).length : Nat) : Int) ≤ s.length := by omega
  have kB := ka [58#8, 42#8] (by simp)
  by_cases hB : preB (S.drop (wordL S).length) [58#8, 42#8] = true
  · rw [hB] at kB
    rw [hB]
    simp only [if_true]
    have x1 : (txt s).extract n (n + (wordL S).length) = txt (wordL S) := by
      rw [txt_extract, ← List.take_drop, hSg, wordL_take]
    have w2 : IntKind.i64.wrap (((n + (wordL S).length : Nat) : Int) + 2) = ((n + ((wordL S).length + 2) : Nat) : Int) := by rw [wrap_i64 _ (by omega) (by omega)]; omega
    have hnm : n ≤ n + (wordL S).length := by omega
    have hnmz : (n : Int) ≤ ((n + (wordL S).length : Nat) : Int) := by omega
    generalize n + ((wordL S).length + 2) = m2 at *
    generalize n + (wordL S).length = m at *
    refine Fn.of_body Tryd.func21 rfl ?_
    repeat (first | ((with_reducible first | refine callK_at 19 ?_ | refine callK_at 20 ?_); refine callK_p ?_; simp (maxSteps := 1000000) (disch := refine hold_ ?_; first | (simp [hsz, x0, hnz, hn, w1, hq, hm, hmz, x1, w2, hnm, hnmz, -List.getD_eq_getElem?_getD]; done) | omega) [hsz, x0, hnz, hn, w1, hq, hm, hmz, x1, w2, hnm, hnmz, -List.getD_eq_getElem?_getD]; (first | refine callK1_of (Fn.ct k19 Tryd.call19) ?_ | refine callK1_of (Fn.ct kB Tryd.call20) ?_); (try simp (maxSteps := 1000000) (disch := refine hold_ ?_; first | (simp [hsz, x0, hnz, hn, w1, hq, hm, hmz, x1, w2, hnm, hnmz, -List.getD_eq_getElem?_getD]; done) | omega) [hsz, x0, hnz, hn, w1, hq, hm, hmz, x1, w2, hnm, hnmz, -List.getD_eq_getElem?_getD]); first | (with_reducible refine zZ ?_) | subst hK_) | ((first | (with_reducible first | refine zP fun K_ hK_ => ?_ | refine zQ fun K_ hK_ => ?_ | refine zT ?_ | refine zU ?_ | refine zV ?_ | refine zW ?_ | refine zX ?_ | refine zY ?_) | ((with_reducible first | refine zR ?_ ?_ fun K_ hK_ => ?_ | refine zS ?_ ?_ fun K_ hK_ => ?_); (focus kernel_rfl); (focus kernel_rfl))); first | (simp (maxSteps := 1000000) (disch := refine hold_ ?_; first | (simp [hsz, x0, hnz, hn, w1, hq, hm, hmz, x1, w2, hnm, hnmz, -List.getD_eq_getElem?_getD]; done) | omega) [hsz, x0, hnz, hn, w1, hq, hm, hmz, x1, w2, hnm, hnmz, -List.getD_eq_getElem?_getD]; try first | (with_reducible refine zZ ?_) | subst hK_) | subst hK_) | (with_reducible first | refine zA ?_ | refine zB ?_ | refine zC ?_ | refine zD ?_ | refine zE ?_ | refine zF ?_ | refine zG ?_ | refine zH ?_ | refine zI ?_ | refine zJ ?_ | refine zK ?_ | refine zL ?_ | refine zM ?_ | refine zN ?_ | refine zO ?_) | ((with_reducible refine yG ?_ ?_); (focus decide)) | ((with_reducible refine yA ?_); refine yB rfl ?_; (with_reducible first | refine yC ?_ | refine yD ?_)))
    all_goals simp (maxSteps := 1000000) (disch := refine hold_ ?_; first | (simp [-List.getD_eq_getElem?_getD]; done) | omega) [-List.getD_eq_getElem?_getD]
  have hBf : preB (S.drop (wordL S).length) [58#8, 42#8] = false := by simpa using hB
  rw [hBf] at kB
  rw [hBf]
  simp only [Bool.false_eq_true, if_false]
  have kC := ka [58#8] (by simp)
  have hnl := nameW_le S
  have x2 : (txt s).extract n (n + (nameW S).length) = txt (nameW S) := by rw [txt_extract, ← List.take_drop, hSg, nameW_take]
  have hm2 : n + (nameW S).length ≤ s.length := by omega
  have hr2 : s.drop (n + (nameW S).length) = S.drop (nameW S).length := by rw [← hSg, List.drop_drop]
  have k15 := rskip_ct s (n + (nameW S).length) hm2 (by omega)
  have hb2 := blks_le (S.drop (nameW S).length)
  rw [List.length_drop] at hb2
  rw [hr2] at k15
  have hr3 : s.drop (n + (nameW S).length + blks (S.drop (nameW S).length)) = skL (S.drop (nameW S).length) := by rw [skL_pos, ← List.drop_drop, hr2]
  have ka3 : ∀ p : List (BitVec 8), p.length ≤ 10 → Fn Tryd.prog 20 [.str (txt s), .int .i64 (n + (nameW S).length + blks (S.drop (nameW S).length) : Nat), .str (txt p)] [.p (.bool (preB (skL (S.drop (nameW S).length)) p))] := fun p hp => by
    have := rat_ct s p (n + (nameW S).length + blks (S.drop (nameW S).length)) (by omega) (by omega) (by omega)
    rw [hr3] at this; exact this
  have kD := ka3 [58#8, 58#8] (by simp)
  have kE := ka3 [40#8] (by simp)
  have hty : typesL.contains (nameW S) = ((nameW S == [99#8, 111#8, 109#8, 109#8, 101#8, 110#8, 116#8]) || ((nameW S == [116#8, 101#8, 120#8, 116#8]) || ((nameW S == [112#8, 114#8, 111#8, 99#8, 101#8, 115#8, 115#8, 105#8, 110#8, 103#8, 45#8, 105#8, 110#8, 115#8, 116#8, 114#8, 117#8, 99#8, 116#8, 105#8, 111#8, 110#8]) || ((nameW S == [110#8, 111#8, 100#8, 101#8]) || false)))) := rfl
  have n1 : strBin .eql (txt (nameW S)) (ByteArray.mk #[99, 111, 109, 109, 101, 110, 116]) = some (.bool (nameW S == [99#8, 111#8, 109#8, 109#8, 101#8, 110#8, 116#8])) := str_eq_txt (nameW S) [99#8, 111#8, 109#8, 109#8, 101#8, 110#8, 116#8]
  have n2 : strBin .eql (txt (nameW S)) (ByteArray.mk #[116, 101, 120, 116]) = some (.bool (nameW S == [116#8, 101#8, 120#8, 116#8])) := str_eq_txt (nameW S) [116#8, 101#8, 120#8, 116#8]
  have n3 : strBin .eql (txt (nameW S)) (ByteArray.mk #[112, 114, 111, 99, 101, 115, 115, 105, 110, 103, 45, 105, 110, 115, 116, 114, 117, 99, 116, 105, 111, 110]) = some (.bool (nameW S == [112#8, 114#8, 111#8, 99#8, 101#8, 115#8, 115#8, 105#8, 110#8, 103#8, 45#8, 105#8, 110#8, 115#8, 116#8, 114#8, 117#8, 99#8, 116#8, 105#8, 111#8, 110#8])) := str_eq_txt (nameW S) [112#8, 114#8, 111#8, 99#8, 101#8, 115#8, 115#8, 105#8, 110#8, 103#8, 45#8, 105#8, 110#8, 115#8, 116#8, 114#8, 117#8, 99#8, 116#8, 105#8, 111#8, 110#8]
  have n4 : strBin .eql (txt (nameW S)) (ByteArray.mk #[110, 111, 100, 101]) = some (.bool (nameW S == [110#8, 111#8, 100#8, 101#8])) := str_eq_txt (nameW S) [110#8, 111#8, 100#8, 101#8]
  have hnm2 : n ≤ n + (nameW S).length := by omega
  have hnm2z : (n : Int) ≤ ((n + (nameW S).length : Nat) : Int) := by omega
  have hm2z : ((n + (nameW S).length : Nat) : Int) ≤ s.length := by omega
  unfold rkind
  rw [hty]
  clear hty hr2 hr3 ka ka3 hb2
  generalize preB (skL (S.drop (nameW S).length)) [58#8, 58#8] = D at *
  generalize preB (skL (S.drop (nameW S).length)) [40#8] = E at *
  generalize (nameW S == [99#8, 111#8, 109#8, 109#8, 101#8, 110#8, 116#8]) = G1 at *
  generalize (nameW S == [116#8, 101#8, 120#8, 116#8]) = G2 at *
  generalize (nameW S == [112#8, 114#8, 111#8, 99#8, 101#8, 115#8, 115#8, 105#8, 110#8, 103#8, 45#8, 105#8, 110#8, 115#8, 116#8, 114#8, 117#8, 99#8, 116#8, 105#8, 111#8, 110#8]) = G3 at *
  generalize (nameW S == [110#8, 111#8, 100#8, 101#8]) = G4 at *
  generalize n + (nameW S).length + blks (S.drop (nameW S).length) = m3 at *
  by_cases hC : preB (S.drop (wordL S).length) [58#8] = true
  · rw [hC] at kC
    have hc1 := (preB_cons hC).1
    simp only [List.length_cons, List.length_nil, Nat.zero_add, List.length_drop] at hc1
    have k19b := rlong_ct ((S.drop (wordL S).length).drop 1) (by rw [List.length_drop, List.length_drop]; omega)
    rw [← wordL_len] at k19b
    have hwl2 := wordL_le ((S.drop (wordL S).length).drop 1)
    rw [List.length_drop, List.length_drop] at hwl2
    have w3 : IntKind.i64.wrap (((n + (wordL S).length : Nat) : Int) + 1) = ((n + (wordL S).length + 1 : Nat) : Int) := by rw [wrap_i64 _ (by omega) (by omega)]; omega
    have hm1 : n + (wordL S).length + 1 ≤ s.length := by omega
    have hm1z : ((n + (wordL S).length + 1 : Nat) : Int) ≤ s.length := by omega
    have x3 : (txt s).extract (n + (wordL S).length + 1) s.length = txt ((S.drop (wordL S).length).drop 1) := by rw [txt_extract, List.take_length, ← List.drop_drop, hrd]
    have hfull : fullB (S.drop (wordL S).length) = !(wordL ((S.drop (wordL S).length).drop 1) == []) := by unfold fullB; rw [hC]; rfl
    have w4 : IntKind.i64.wrap (((n + (wordL S).length + 1 : Nat) : Int) + ((wordL ((S.drop (wordL S).length).drop 1)).length : Int)) = ((n + (wordL S).length + 1 + (wordL ((S.drop (wordL S).length).drop 1)).length : Nat) : Int) := by rw [wrap_i64 _ (by omega) (by omega)]; omega
    by_cases hE : wordL ((S.drop (wordL S).length).drop 1) = []
    · have hEb : (wordL ((S.drop (wordL S).length).drop 1) == []) = true := beq_iff_eq.2 hE
      rw [hEb] at hfull
      have hNW : nameW S = wordL S := by unfold nameW; rw [hfull]; rfl
      have h0 : True := trivial
      rw [hE] at k19b
      rw [hfull, hNW]
      rw [hNW] at x2 k15 hnm2 hnm2z hm2z n1 n2 n3 n4 hm2
      clear w4 hwl2 hE hEb
      generalize txt ((S.drop (wordL S).length).drop 1) = LO at *
      clear hfull
      generalize n + (wordL S).length + 1 = m1 at *
      generalize n + (wordL S).length = m at *
      refine Fn.of_body Tryd.func21 rfl ?_
      cases D
      · cases E
        · repeat (first | ((with_reducible first | refine callK_at 19 ?_ | refine callK_at 20 ?_ | refine callK_at 15 ?_); refine callK_p ?_; simp (maxSteps := 1000000) (disch := refine hold_ ?_; first | (simp [hsz, x0, hnz, hn, w1, hq, hm, hmz, x2, w3, hm1, hm1z, x3, h0, hnm2, hnm2z, hm2, hm2z, -List.getD_eq_getElem?_getD]; done) | omega) [hsz, x0, hnz, hn, w1, hq, hm, hmz, x2, w3, hm1, hm1z, x3, h0, hnm2, hnm2z, hm2, hm2z, -List.getD_eq_getElem?_getD]; (first | refine callK1_of (Fn.ct k19 Tryd.call19) ?_ | refine callK1_of (Fn.ct k19b Tryd.call19) ?_ | refine callK1_of (Fn.ct kB Tryd.call20) ?_ | refine callK1_of (Fn.ct kC Tryd.call20) ?_ | refine callK1_of (Fn.ct k15 Tryd.call15) ?_ | refine callK1_of (Fn.ct kD Tryd.call20) ?_ | refine callK1_of (Fn.ct kE Tryd.call20) ?_); (try simp (maxSteps := 1000000) (disch := refine hold_ ?_; first | (simp [hsz, x0, hnz, hn, w1, hq, hm, hmz, x2, w3, hm1, hm1z, x3, h0, hnm2, hnm2z, hm2, hm2z, -List.getD_eq_getElem?_getD]; done) | omega) [hsz, x0, hnz, hn, w1, hq, hm, hmz, x2, w3, hm1, hm1z, x3, h0, hnm2, hnm2z, hm2, hm2z, -List.getD_eq_getElem?_getD]); first | (with_reducible refine zZ ?_) | subst hK_) | ((first | (with_reducible first | refine zP fun K_ hK_ => ?_ | refine zQ fun K_ hK_ => ?_ | refine zT ?_ | refine zU ?_ | refine zV ?_ | refine zW ?_ | refine zX ?_ | refine zY ?_) | ((with_reducible first | refine zR ?_ ?_ fun K_ hK_ => ?_ | refine zS ?_ ?_ fun K_ hK_ => ?_); (focus kernel_rfl); (focus kernel_rfl))); first | (simp (maxSteps := 1000000) (disch := refine hold_ ?_; first | (simp [hsz, x0, hnz, hn, w1, hq, hm, hmz, x2, w3, hm1, hm1z, x3, h0, hnm2, hnm2z, hm2, hm2z, -List.getD_eq_getElem?_getD]; done) | omega) [hsz, x0, hnz, hn, w1, hq, hm, hmz, x2, w3, hm1, hm1z, x3, h0, hnm2, hnm2z, hm2, hm2z, -List.getD_eq_getElem?_getD]; try first | (with_reducible refine zZ ?_) | subst hK_) | subst hK_) | (with_reducible first | refine zA ?_ | refine zB ?_ | refine zC ?_ | refine zD ?_ | refine zE ?_ | refine zF ?_ | refine zG ?_ | refine zH ?_ | refine zI ?_ | refine zJ ?_ | refine zK ?_ | refine zL ?_ | refine zM ?_ | refine zN ?_ | refine zO ?_) | ((with_reducible refine yG ?_ ?_); (focus decide)) | ((with_reducible refine yA ?_); refine yB rfl ?_; (with_reducible first | refine yC ?_ | refine yD ?_)))
          all_goals simp (maxSteps := 1000000) (disch := refine hold_ ?_; first | (simp [-List.getD_eq_getElem?_getD]; done) | omega) [-List.getD_eq_getElem?_getD]
        · cases G1 <;> cases G2 <;> cases G3 <;> cases G4
          all_goals
            repeat (first | ((with_reducible first | refine callK_at 19 ?_ | refine callK_at 20 ?_ | refine callK_at 15 ?_); refine callK_p ?_; simp (maxSteps := 1000000) (disch := refine hold_ ?_; first | (simp [hsz, x0, hnz, hn, w1, hq, hm, hmz, x2, w3, hm1, hm1z, x3, h0, hnm2, hnm2z, hm2, hm2z, n1, n2, n3, n4, -List.getD_eq_getElem?_getD]; done) | omega) [hsz, x0, hnz, hn, w1, hq, hm, hmz, x2, w3, hm1, hm1z, x3, h0, hnm2, hnm2z, hm2, hm2z, n1, n2, n3, n4, -List.getD_eq_getElem?_getD]; (first | refine callK1_of (Fn.ct k19 Tryd.call19) ?_ | refine callK1_of (Fn.ct k19b Tryd.call19) ?_ | refine callK1_of (Fn.ct kB Tryd.call20) ?_ | refine callK1_of (Fn.ct kC Tryd.call20) ?_ | refine callK1_of (Fn.ct k15 Tryd.call15) ?_ | refine callK1_of (Fn.ct kD Tryd.call20) ?_ | refine callK1_of (Fn.ct kE Tryd.call20) ?_); (try simp (maxSteps := 1000000) (disch := refine hold_ ?_; first | (simp [hsz, x0, hnz, hn, w1, hq, hm, hmz, x2, w3, hm1, hm1z, x3, h0, hnm2, hnm2z, hm2, hm2z, n1, n2, n3, n4, -List.getD_eq_getElem?_getD]; done) | omega) [hsz, x0, hnz, hn, w1, hq, hm, hmz, x2, w3, hm1, hm1z, x3, h0, hnm2, hnm2z, hm2, hm2z, n1, n2, n3, n4, -List.getD_eq_getElem?_getD]); first | (with_reducible refine zZ ?_) | subst hK_) | ((first | (with_reducible first | refine zP fun K_ hK_ => ?_ | refine zQ fun K_ hK_ => ?_ | refine zT ?_ | refine zU ?_ | refine zV ?_ | refine zW ?_ | refine zX ?_ | refine zY ?_) | ((with_reducible first | refine zR ?_ ?_ fun K_ hK_ => ?_ | refine zS ?_ ?_ fun K_ hK_ => ?_); (focus kernel_rfl); (focus kernel_rfl))); first | (simp (maxSteps := 1000000) (disch := refine hold_ ?_; first | (simp [hsz, x0, hnz, hn, w1, hq, hm, hmz, x2, w3, hm1, hm1z, x3, h0, hnm2, hnm2z, hm2, hm2z, n1, n2, n3, n4, -List.getD_eq_getElem?_getD]; done) | omega) [hsz, x0, hnz, hn, w1, hq, hm, hmz, x2, w3, hm1, hm1z, x3, h0, hnm2, hnm2z, hm2, hm2z, n1, n2, n3, n4, -List.getD_eq_getElem?_getD]; try first | (with_reducible refine zZ ?_) | subst hK_) | subst hK_) | (with_reducible first | refine zA ?_ | refine zB ?_ | refine zC ?_ | refine zD ?_ | refine zE ?_ | refine zF ?_ | refine zG ?_ | refine zH ?_ | refine zI ?_ | refine zJ ?_ | refine zK ?_ | refine zL ?_ | refine zM ?_ | refine zN ?_ | refine zO ?_) | ((with_reducible refine yG ?_ ?_); (focus decide)) | ((with_reducible refine yA ?_); refine yB rfl ?_; (with_reducible first | refine yC ?_ | refine yD ?_)))
            simp (maxSteps := 1000000) (disch := refine hold_ ?_; first | (simp [-List.getD_eq_getElem?_getD]; done) | omega) [-List.getD_eq_getElem?_getD]
      · repeat (first | ((with_reducible first | refine callK_at 19 ?_ | refine callK_at 20 ?_ | refine callK_at 15 ?_); refine callK_p ?_; simp (maxSteps := 1000000) (disch := refine hold_ ?_; first | (simp [hsz, x0, hnz, hn, w1, hq, hm, hmz, x2, w3, hm1, hm1z, x3, h0, hnm2, hnm2z, hm2, hm2z, -List.getD_eq_getElem?_getD]; done) | omega) [hsz, x0, hnz, hn, w1, hq, hm, hmz, x2, w3, hm1, hm1z, x3, h0, hnm2, hnm2z, hm2, hm2z, -List.getD_eq_getElem?_getD]; (first | refine callK1_of (Fn.ct k19 Tryd.call19) ?_ | refine callK1_of (Fn.ct k19b Tryd.call19) ?_ | refine callK1_of (Fn.ct kB Tryd.call20) ?_ | refine callK1_of (Fn.ct kC Tryd.call20) ?_ | refine callK1_of (Fn.ct k15 Tryd.call15) ?_ | refine callK1_of (Fn.ct kD Tryd.call20) ?_ | refine callK1_of (Fn.ct kE Tryd.call20) ?_); (try simp (maxSteps := 1000000) (disch := refine hold_ ?_; first | (simp [hsz, x0, hnz, hn, w1, hq, hm, hmz, x2, w3, hm1, hm1z, x3, h0, hnm2, hnm2z, hm2, hm2z, -List.getD_eq_getElem?_getD]; done) | omega) [hsz, x0, hnz, hn, w1, hq, hm, hmz, x2, w3, hm1, hm1z, x3, h0, hnm2, hnm2z, hm2, hm2z, -List.getD_eq_getElem?_getD]); first | (with_reducible refine zZ ?_) | subst hK_) | ((first | (with_reducible first | refine zP fun K_ hK_ => ?_ | refine zQ fun K_ hK_ => ?_ | refine zT ?_ | refine zU ?_ | refine zV ?_ | refine zW ?_ | refine zX ?_ | refine zY ?_) | ((with_reducible first | refine zR ?_ ?_ fun K_ hK_ => ?_ | refine zS ?_ ?_ fun K_ hK_ => ?_); (focus kernel_rfl); (focus kernel_rfl))); first | (simp (maxSteps := 1000000) (disch := refine hold_ ?_; first | (simp [hsz, x0, hnz, hn, w1, hq, hm, hmz, x2, w3, hm1, hm1z, x3, h0, hnm2, hnm2z, hm2, hm2z, -List.getD_eq_getElem?_getD]; done) | omega) [hsz, x0, hnz, hn, w1, hq, hm, hmz, x2, w3, hm1, hm1z, x3, h0, hnm2, hnm2z, hm2, hm2z, -List.getD_eq_getElem?_getD]; try first | (with_reducible refine zZ ?_) | subst hK_) | subst hK_) | (with_reducible first | refine zA ?_ | refine zB ?_ | refine zC ?_ | refine zD ?_ | refine zE ?_ | refine zF ?_ | refine zG ?_ | refine zH ?_ | refine zI ?_ | refine zJ ?_ | refine zK ?_ | refine zL ?_ | refine zM ?_ | refine zN ?_ | refine zO ?_) | ((with_reducible refine yG ?_ ?_); (focus decide)) | ((with_reducible refine yA ?_); refine yB rfl ?_; (with_reducible first | refine yC ?_ | refine yD ?_)))
        all_goals simp (maxSteps := 1000000) (disch := refine hold_ ?_; first | (simp [-List.getD_eq_getElem?_getD]; done) | omega) [-List.getD_eq_getElem?_getD]
    · have hEb : (wordL ((S.drop (wordL S).length).drop 1) == []) = false := beq_eq_false_iff_ne.2 hE
      rw [hEb] at hfull
      have hNW : (nameW S).length = (wordL S).length + 1 + (wordL ((S.drop (wordL S).length).drop 1)).length := by
        unfold nameW; rw [hfull]; simp only [Bool.not_false, if_true, List.length_append, List.length_cons]; omega
      have hpos : (wordL ((S.drop (wordL S).length).drop 1)).length ≠ 0 := fun e => hE (List.eq_nil_of_length_eq_zero e)
      have h0 : (0 : Int) < ((wordL ((S.drop (wordL S).length).drop 1)).length : Int) := by omega
      have e9 : n + (wordL S).length + 1 + (wordL ((S.drop (wordL S).length).drop 1)).length = n + (nameW S).length := by omega
      rw [e9] at w4
      rw [hfull]
      have h0n : 0 < (wordL ((S.drop (wordL S).length).drop 1)).length := by omega
      clear hwl2 hE hEb e9 hNW hpos
      generalize (wordL ((S.drop (wordL S).length).drop 1)).length = WW at *
      generalize txt ((S.drop (wordL S).length).drop 1) = LO at *
      clear hfull
      generalize n + (wordL S).length + 1 = m1 at *
      generalize n + (wordL S).length = m at *
      generalize n + (nameW S).length = m2 at *
      generalize nameW S = NW at *
      refine Fn.of_body Tryd.func21 rfl ?_
      cases D
      · cases E
        · repeat (first | ((with_reducible first | refine callK_at 19 ?_ | refine callK_at 20 ?_ | refine callK_at 15 ?_); refine callK_p ?_; simp (maxSteps := 1000000) (disch := refine hold_ ?_; first | (simp [hsz, x0, hnz, hn, w1, hq, hm, hmz, x2, w3, w4, hm1, hm1z, x3, h0, h0n, hnm2, hnm2z, hm2, hm2z, -List.getD_eq_getElem?_getD]; done) | omega) [hsz, x0, hnz, hn, w1, hq, hm, hmz, x2, w3, w4, hm1, hm1z, x3, h0, h0n, hnm2, hnm2z, hm2, hm2z, -List.getD_eq_getElem?_getD]; (first | refine callK1_of (Fn.ct k19 Tryd.call19) ?_ | refine callK1_of (Fn.ct k19b Tryd.call19) ?_ | refine callK1_of (Fn.ct kB Tryd.call20) ?_ | refine callK1_of (Fn.ct kC Tryd.call20) ?_ | refine callK1_of (Fn.ct k15 Tryd.call15) ?_ | refine callK1_of (Fn.ct kD Tryd.call20) ?_ | refine callK1_of (Fn.ct kE Tryd.call20) ?_); (try simp (maxSteps := 1000000) (disch := refine hold_ ?_; first | (simp [hsz, x0, hnz, hn, w1, hq, hm, hmz, x2, w3, w4, hm1, hm1z, x3, h0, h0n, hnm2, hnm2z, hm2, hm2z, -List.getD_eq_getElem?_getD]; done) | omega) [hsz, x0, hnz, hn, w1, hq, hm, hmz, x2, w3, w4, hm1, hm1z, x3, h0, h0n, hnm2, hnm2z, hm2, hm2z, -List.getD_eq_getElem?_getD]); first | (with_reducible refine zZ ?_) | subst hK_) | ((first | (with_reducible first | refine zP fun K_ hK_ => ?_ | refine zQ fun K_ hK_ => ?_ | refine zT ?_ | refine zU ?_ | refine zV ?_ | refine zW ?_ | refine zX ?_ | refine zY ?_) | ((with_reducible first | refine zR ?_ ?_ fun K_ hK_ => ?_ | refine zS ?_ ?_ fun K_ hK_ => ?_); (focus kernel_rfl); (focus kernel_rfl))); first | (simp (maxSteps := 1000000) (disch := refine hold_ ?_; first | (simp [hsz, x0, hnz, hn, w1, hq, hm, hmz, x2, w3, w4, hm1, hm1z, x3, h0, h0n, hnm2, hnm2z, hm2, hm2z, -List.getD_eq_getElem?_getD]; done) | omega) [hsz, x0, hnz, hn, w1, hq, hm, hmz, x2, w3, w4, hm1, hm1z, x3, h0, h0n, hnm2, hnm2z, hm2, hm2z, -List.getD_eq_getElem?_getD]; try first | (with_reducible refine zZ ?_) | subst hK_) | subst hK_) | (with_reducible first | refine zA ?_ | refine zB ?_ | refine zC ?_ | refine zD ?_ | refine zE ?_ | refine zF ?_ | refine zG ?_ | refine zH ?_ | refine zI ?_ | refine zJ ?_ | refine zK ?_ | refine zL ?_ | refine zM ?_ | refine zN ?_ | refine zO ?_) | ((with_reducible refine yG ?_ ?_); (focus decide)) | ((with_reducible refine yA ?_); refine yB rfl ?_; (with_reducible first | refine yC ?_ | refine yD ?_)))
          all_goals simp (maxSteps := 1000000) (disch := refine hold_ ?_; first | (simp [-List.getD_eq_getElem?_getD]; done) | omega) [-List.getD_eq_getElem?_getD]
        · cases G1 <;> cases G2 <;> cases G3 <;> cases G4
          all_goals
            repeat (first | ((with_reducible first | refine callK_at 19 ?_ | refine callK_at 20 ?_ | refine callK_at 15 ?_); refine callK_p ?_; simp (maxSteps := 1000000) (disch := refine hold_ ?_; first | (simp [hsz, x0, hnz, hn, w1, hq, hm, hmz, x2, w3, w4, hm1, hm1z, x3, h0, h0n, hnm2, hnm2z, hm2, hm2z, n1, n2, n3, n4, -List.getD_eq_getElem?_getD]; done) | omega) [hsz, x0, hnz, hn, w1, hq, hm, hmz, x2, w3, w4, hm1, hm1z, x3, h0, h0n, hnm2, hnm2z, hm2, hm2z, n1, n2, n3, n4, -List.getD_eq_getElem?_getD]; (first | refine callK1_of (Fn.ct k19 Tryd.call19) ?_ | refine callK1_of (Fn.ct k19b Tryd.call19) ?_ | refine callK1_of (Fn.ct kB Tryd.call20) ?_ | refine callK1_of (Fn.ct kC Tryd.call20) ?_ | refine callK1_of (Fn.ct k15 Tryd.call15) ?_ | refine callK1_of (Fn.ct kD Tryd.call20) ?_ | refine callK1_of (Fn.ct kE Tryd.call20) ?_); (try simp (maxSteps := 1000000) (disch := refine hold_ ?_; first | (simp [hsz, x0, hnz, hn, w1, hq, hm, hmz, x2, w3, w4, hm1, hm1z, x3, h0, h0n, hnm2, hnm2z, hm2, hm2z, n1, n2, n3, n4, -List.getD_eq_getElem?_getD]; done) | omega) [hsz, x0, hnz, hn, w1, hq, hm, hmz, x2, w3, w4, hm1, hm1z, x3, h0, h0n, hnm2, hnm2z, hm2, hm2z, n1, n2, n3, n4, -List.getD_eq_getElem?_getD]); first | (with_reducible refine zZ ?_) | subst hK_) | ((first | (with_reducible first | refine zP fun K_ hK_ => ?_ | refine zQ fun K_ hK_ => ?_ | refine zT ?_ | refine zU ?_ | refine zV ?_ | refine zW ?_ | refine zX ?_ | refine zY ?_) | ((with_reducible first | refine zR ?_ ?_ fun K_ hK_ => ?_ | refine zS ?_ ?_ fun K_ hK_ => ?_); (focus kernel_rfl); (focus kernel_rfl))); first | (simp (maxSteps := 1000000) (disch := refine hold_ ?_; first | (simp [hsz, x0, hnz, hn, w1, hq, hm, hmz, x2, w3, w4, hm1, hm1z, x3, h0, h0n, hnm2, hnm2z, hm2, hm2z, n1, n2, n3, n4, -List.getD_eq_getElem?_getD]; done) | omega) [hsz, x0, hnz, hn, w1, hq, hm, hmz, x2, w3, w4, hm1, hm1z, x3, h0, h0n, hnm2, hnm2z, hm2, hm2z, n1, n2, n3, n4, -List.getD_eq_getElem?_getD]; try first | (with_reducible refine zZ ?_) | subst hK_) | subst hK_) | (with_reducible first | refine zA ?_ | refine zB ?_ | refine zC ?_ | refine zD ?_ | refine zE ?_ | refine zF ?_ | refine zG ?_ | refine zH ?_ | refine zI ?_ | refine zJ ?_ | refine zK ?_ | refine zL ?_ | refine zM ?_ | refine zN ?_ | refine zO ?_) | ((with_reducible refine yG ?_ ?_); (focus decide)) | ((with_reducible refine yA ?_); refine yB rfl ?_; (with_reducible first | refine yC ?_ | refine yD ?_)))
            simp (maxSteps := 1000000) (disch := refine hold_ ?_; first | (simp [-List.getD_eq_getElem?_getD]; done) | omega) [-List.getD_eq_getElem?_getD]
      · repeat (first | ((with_reducible first | refine callK_at 19 ?_ | refine callK_at 20 ?_ | refine callK_at 15 ?_); refine callK_p ?_; simp (maxSteps := 1000000) (disch := refine hold_ ?_; first | (simp [hsz, x0, hnz, hn, w1, hq, hm, hmz, x2, w3, w4, hm1, hm1z, x3, h0, h0n, hnm2, hnm2z, hm2, hm2z, -List.getD_eq_getElem?_getD]; done) | omega) [hsz, x0, hnz, hn, w1, hq, hm, hmz, x2, w3, w4, hm1, hm1z, x3, h0, h0n, hnm2, hnm2z, hm2, hm2z, -List.getD_eq_getElem?_getD]; (first | refine callK1_of (Fn.ct k19 Tryd.call19) ?_ | refine callK1_of (Fn.ct k19b Tryd.call19) ?_ | refine callK1_of (Fn.ct kB Tryd.call20) ?_ | refine callK1_of (Fn.ct kC Tryd.call20) ?_ | refine callK1_of (Fn.ct k15 Tryd.call15) ?_ | refine callK1_of (Fn.ct kD Tryd.call20) ?_ | refine callK1_of (Fn.ct kE Tryd.call20) ?_); (try simp (maxSteps := 1000000) (disch := refine hold_ ?_; first | (simp [hsz, x0, hnz, hn, w1, hq, hm, hmz, x2, w3, w4, hm1, hm1z, x3, h0, h0n, hnm2, hnm2z, hm2, hm2z, -List.getD_eq_getElem?_getD]; done) | omega) [hsz, x0, hnz, hn, w1, hq, hm, hmz, x2, w3, w4, hm1, hm1z, x3, h0, h0n, hnm2, hnm2z, hm2, hm2z, -List.getD_eq_getElem?_getD]); first | (with_reducible refine zZ ?_) | subst hK_) | ((first | (with_reducible first | refine zP fun K_ hK_ => ?_ | refine zQ fun K_ hK_ => ?_ | refine zT ?_ | refine zU ?_ | refine zV ?_ | refine zW ?_ | refine zX ?_ | refine zY ?_) | ((with_reducible first | refine zR ?_ ?_ fun K_ hK_ => ?_ | refine zS ?_ ?_ fun K_ hK_ => ?_); (focus kernel_rfl); (focus kernel_rfl))); first | (simp (maxSteps := 1000000) (disch := refine hold_ ?_; first | (simp [hsz, x0, hnz, hn, w1, hq, hm, hmz, x2, w3, w4, hm1, hm1z, x3, h0, h0n, hnm2, hnm2z, hm2, hm2z, -List.getD_eq_getElem?_getD]; done) | omega) [hsz, x0, hnz, hn, w1, hq, hm, hmz, x2, w3, w4, hm1, hm1z, x3, h0, h0n, hnm2, hnm2z, hm2, hm2z, -List.getD_eq_getElem?_getD]; try first | (with_reducible refine zZ ?_) | subst hK_) | subst hK_) | (with_reducible first | refine zA ?_ | refine zB ?_ | refine zC ?_ | refine zD ?_ | refine zE ?_ | refine zF ?_ | refine zG ?_ | refine zH ?_ | refine zI ?_ | refine zJ ?_ | refine zK ?_ | refine zL ?_ | refine zM ?_ | refine zN ?_ | refine zO ?_) | ((with_reducible refine yG ?_ ?_); (focus decide)) | ((with_reducible refine yA ?_); refine yB rfl ?_; (with_reducible first | refine yC ?_ | refine yD ?_)))
        all_goals simp (maxSteps := 1000000) (disch := refine hold_ ?_; first | (simp [-List.getD_eq_getElem?_getD]; done) | omega) [-List.getD_eq_getElem?_getD]
  · have hCf : preB (S.drop (wordL S).length) [58#8] = false := by simpa using hC
    rw [hCf] at kC
    have hfull : fullB (S.drop (wordL S).length) = false := by unfold fullB; rw [hCf]; rfl
    have hNW : nameW S = wordL S := by unfold nameW; rw [hfull]; rfl
    rw [hfull, hNW]
    rw [hNW] at x2 k15 hnm2 hnm2z hm2z n1 n2 n3 n4 hm2
    clear hfull
    generalize n + (wordL S).length = m at *
    refine Fn.of_body Tryd.func21 rfl ?_
    cases D
    · cases E
      · repeat (first | ((with_reducible first | refine callK_at 19 ?_ | refine callK_at 20 ?_ | refine callK_at 15 ?_); refine callK_p ?_; simp (maxSteps := 1000000) (disch := refine hold_ ?_; first | (simp [hsz, x0, hnz, hn, w1, hq, hm, hmz, x2, hnm2, hnm2z, hm2, hm2z, -List.getD_eq_getElem?_getD]; done) | omega) [hsz, x0, hnz, hn, w1, hq, hm, hmz, x2, hnm2, hnm2z, hm2, hm2z, -List.getD_eq_getElem?_getD]; (first | refine callK1_of (Fn.ct k19 Tryd.call19) ?_ | refine callK1_of (Fn.ct kB Tryd.call20) ?_ | refine callK1_of (Fn.ct kC Tryd.call20) ?_ | refine callK1_of (Fn.ct k15 Tryd.call15) ?_ | refine callK1_of (Fn.ct kD Tryd.call20) ?_ | refine callK1_of (Fn.ct kE Tryd.call20) ?_); (try simp (maxSteps := 1000000) (disch := refine hold_ ?_; first | (simp [hsz, x0, hnz, hn, w1, hq, hm, hmz, x2, hnm2, hnm2z, hm2, hm2z, -List.getD_eq_getElem?_getD]; done) | omega) [hsz, x0, hnz, hn, w1, hq, hm, hmz, x2, hnm2, hnm2z, hm2, hm2z, -List.getD_eq_getElem?_getD]); first | (with_reducible refine zZ ?_) | subst hK_) | ((first | (with_reducible first | refine zP fun K_ hK_ => ?_ | refine zQ fun K_ hK_ => ?_ | refine zT ?_ | refine zU ?_ | refine zV ?_ | refine zW ?_ | refine zX ?_ | refine zY ?_) | ((with_reducible first | refine zR ?_ ?_ fun K_ hK_ => ?_ | refine zS ?_ ?_ fun K_ hK_ => ?_); (focus kernel_rfl); (focus kernel_rfl))); first | (simp (maxSteps := 1000000) (disch := refine hold_ ?_; first | (simp [hsz, x0, hnz, hn, w1, hq, hm, hmz, x2, hnm2, hnm2z, hm2, hm2z, -List.getD_eq_getElem?_getD]; done) | omega) [hsz, x0, hnz, hn, w1, hq, hm, hmz, x2, hnm2, hnm2z, hm2, hm2z, -List.getD_eq_getElem?_getD]; try first | (with_reducible refine zZ ?_) | subst hK_) | subst hK_) | (with_reducible first | refine zA ?_ | refine zB ?_ | refine zC ?_ | refine zD ?_ | refine zE ?_ | refine zF ?_ | refine zG ?_ | refine zH ?_ | refine zI ?_ | refine zJ ?_ | refine zK ?_ | refine zL ?_ | refine zM ?_ | refine zN ?_ | refine zO ?_) | ((with_reducible refine yG ?_ ?_); (focus decide)) | ((with_reducible refine yA ?_); refine yB rfl ?_; (with_reducible first | refine yC ?_ | refine yD ?_)))
        all_goals simp (maxSteps := 1000000) (disch := refine hold_ ?_; first | (simp [-List.getD_eq_getElem?_getD]; done) | omega) [-List.getD_eq_getElem?_getD]
      · cases G1 <;> cases G2 <;> cases G3 <;> cases G4
        all_goals
          repeat (first | ((with_reducible first | refine callK_at 19 ?_ | refine callK_at 20 ?_ | refine callK_at 15 ?_); refine callK_p ?_; simp (maxSteps := 1000000) (disch := refine hold_ ?_; first | (simp [hsz, x0, hnz, hn, w1, hq, hm, hmz, x2, hnm2, hnm2z, hm2, hm2z, n1, n2, n3, n4, -List.getD_eq_getElem?_getD]; done) | omega) [hsz, x0, hnz, hn, w1, hq, hm, hmz, x2, hnm2, hnm2z, hm2, hm2z, n1, n2, n3, n4, -List.getD_eq_getElem?_getD]; (first | refine callK1_of (Fn.ct k19 Tryd.call19) ?_ | refine callK1_of (Fn.ct kB Tryd.call20) ?_ | refine callK1_of (Fn.ct kC Tryd.call20) ?_ | refine callK1_of (Fn.ct k15 Tryd.call15) ?_ | refine callK1_of (Fn.ct kD Tryd.call20) ?_ | refine callK1_of (Fn.ct kE Tryd.call20) ?_); (try simp (maxSteps := 1000000) (disch := refine hold_ ?_; first | (simp [hsz, x0, hnz, hn, w1, hq, hm, hmz, x2, hnm2, hnm2z, hm2, hm2z, n1, n2, n3, n4, -List.getD_eq_getElem?_getD]; done) | omega) [hsz, x0, hnz, hn, w1, hq, hm, hmz, x2, hnm2, hnm2z, hm2, hm2z, n1, n2, n3, n4, -List.getD_eq_getElem?_getD]); first | (with_reducible refine zZ ?_) | subst hK_) | ((first | (with_reducible first | refine zP fun K_ hK_ => ?_ | refine zQ fun K_ hK_ => ?_ | refine zT ?_ | refine zU ?_ | refine zV ?_ | refine zW ?_ | refine zX ?_ | refine zY ?_) | ((with_reducible first | refine zR ?_ ?_ fun K_ hK_ => ?_ | refine zS ?_ ?_ fun K_ hK_ => ?_); (focus kernel_rfl); (focus kernel_rfl))); first | (simp (maxSteps := 1000000) (disch := refine hold_ ?_; first | (simp [hsz, x0, hnz, hn, w1, hq, hm, hmz, x2, hnm2, hnm2z, hm2, hm2z, n1, n2, n3, n4, -List.getD_eq_getElem?_getD]; done) | omega) [hsz, x0, hnz, hn, w1, hq, hm, hmz, x2, hnm2, hnm2z, hm2, hm2z, n1, n2, n3, n4, -List.getD_eq_getElem?_getD]; try first | (with_reducible refine zZ ?_) | subst hK_) | subst hK_) | (with_reducible first | refine zA ?_ | refine zB ?_ | refine zC ?_ | refine zD ?_ | refine zE ?_ | refine zF ?_ | refine zG ?_ | refine zH ?_ | refine zI ?_ | refine zJ ?_ | refine zK ?_ | refine zL ?_ | refine zM ?_ | refine zN ?_ | refine zO ?_) | ((with_reducible refine yG ?_ ?_); (focus decide)) | ((with_reducible refine yA ?_); refine yB rfl ?_; (with_reducible first | refine yC ?_ | refine yD ?_)))
          simp (maxSteps := 1000000) (disch := refine hold_ ?_; first | (simp [-List.getD_eq_getElem?_getD]; done) | omega) [-List.getD_eq_getElem?_getD]
    · repeat (first | ((with_reducible first | refine callK_at 19 ?_ | refine callK_at 20 ?_ | refine callK_at 15 ?_); refine callK_p ?_; simp (maxSteps := 1000000) (disch := refine hold_ ?_; first | (simp [hsz, x0, hnz, hn, w1, hq, hm, hmz, x2, hnm2, hnm2z, hm2, hm2z, -List.getD_eq_getElem?_getD]; done) | omega) [hsz, x0, hnz, hn, w1, hq, hm, hmz, x2, hnm2, hnm2z, hm2, hm2z, -List.getD_eq_getElem?_getD]; (first | refine callK1_of (Fn.ct k19 Tryd.call19) ?_ | refine callK1_of (Fn.ct kB Tryd.call20) ?_ | refine callK1_of (Fn.ct kC Tryd.call20) ?_ | refine callK1_of (Fn.ct k15 Tryd.call15) ?_ | refine callK1_of (Fn.ct kD Tryd.call20) ?_ | refine callK1_of (Fn.ct kE Tryd.call20) ?_); (try simp (maxSteps := 1000000) (disch := refine hold_ ?_; first | (simp [hsz, x0, hnz, hn, w1, hq, hm, hmz, x2, hnm2, hnm2z, hm2, hm2z, -List.getD_eq_getElem?_getD]; done) | omega) [hsz, x0, hnz, hn, w1, hq, hm, hmz, x2, hnm2, hnm2z, hm2, hm2z, -List.getD_eq_getElem?_getD]); first | (with_reducible refine zZ ?_) | subst hK_) | ((first | (with_reducible first | refine zP fun K_ hK_ => ?_ | refine zQ fun K_ hK_ => ?_ | refine zT ?_ | refine zU ?_ | refine zV ?_ | refine zW ?_ | refine zX ?_ | refine zY ?_) | ((with_reducible first | refine zR ?_ ?_ fun K_ hK_ => ?_ | refine zS ?_ ?_ fun K_ hK_ => ?_); (focus kernel_rfl); (focus kernel_rfl))); first | (simp (maxSteps := 1000000) (disch := refine hold_ ?_; first | (simp [hsz, x0, hnz, hn, w1, hq, hm, hmz, x2, hnm2, hnm2z, hm2, hm2z, -List.getD_eq_getElem?_getD]; done) | omega) [hsz, x0, hnz, hn, w1, hq, hm, hmz, x2, hnm2, hnm2z, hm2, hm2z, -List.getD_eq_getElem?_getD]; try first | (with_reducible refine zZ ?_) | subst hK_) | subst hK_) | (with_reducible first | refine zA ?_ | refine zB ?_ | refine zC ?_ | refine zD ?_ | refine zE ?_ | refine zF ?_ | refine zG ?_ | refine zH ?_ | refine zI ?_ | refine zJ ?_ | refine zK ?_ | refine zL ?_ | refine zM ?_ | refine zN ?_ | refine zO ?_) | ((with_reducible refine yG ?_ ?_); (focus decide)) | ((with_reducible refine yA ?_); refine yB rfl ?_; (with_reducible first | refine yC ?_ | refine yD ?_)))
      all_goals simp (maxSteps := 1000000) (disch := refine hold_ ?_; first | (simp [-List.getD_eq_getElem?_getD]; done) | omega) [-List.getD_eq_getElem?_getD]
end Go.Av.Lex
end
