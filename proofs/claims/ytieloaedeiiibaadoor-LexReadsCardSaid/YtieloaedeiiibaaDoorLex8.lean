/- The walks of this seat's functions, and what is known of what they reckon (Lex8). Conditions: those that each theorem names. -/
import Derived.Test.YtieloaedeiiibaaDoorLex7
section
set_option linter.unusedSimpArgs false
set_option linter.unusedVariables false
open Go Go.Av Go.Proofs
namespace Go.Av.Lex
def rxSt (s : List (BitVec 8)) (n : Nat) (T : List Tok) (nl : Bool) : St := ⟨(.p (.str (txt s)) :: V.junk :: V.junk :: V.junk :: .row (tkR T) 0 0 nl :: .p (.int .i64 n) :: V.junk :: V.junk :: V.junk :: V.junk :: V.junk :: V.junk :: V.junk :: V.junk :: V.junk :: V.junk :: V.junk :: V.junk :: V.junk :: V.junk :: V.junk :: V.junk :: V.junk :: V.junk :: V.junk :: V.junk :: V.junk :: V.junk :: V.junk :: V.junk :: V.junk :: V.junk :: V.junk :: V.junk :: V.junk :: V.junk :: V.junk :: V.junk :: V.junk :: V.junk :: V.junk :: V.junk :: V.junk :: V.junk :: V.junk :: V.junk :: V.junk :: V.junk :: V.junk :: V.junk :: V.junk :: V.junk :: V.junk :: V.junk :: V.junk :: V.junk :: V.junk :: V.junk :: V.junk :: V.junk :: V.junk :: V.junk :: V.junk :: V.junk :: V.junk :: V.junk :: V.junk :: V.junk :: V.junk :: V.junk :: V.junk :: V.junk :: V.junk :: V.junk :: V.junk :: V.junk :: V.junk :: V.junk :: V.junk :: V.junk :: V.junk :: V.junk :: V.junk :: V.junk :: V.junk :: V.junk :: V.junk :: V.junk :: V.junk :: V.junk :: V.junk :: V.junk :: V.junk :: V.junk :: V.junk :: V.junk :: V.junk :: V.junk :: V.junk :: V.junk :: V.junk :: V.junk :: V.junk :: V.junk :: V.junk :: V.junk :: V.junk :: V.junk :: V.junk :: V.junk :: V.junk :: V.junk :: V.junk :: V.junk :: V.junk :: V.junk :: V.junk :: V.junk :: V.junk :: V.junk :: V.junk :: V.junk :: V.junk :: V.junk :: V.junk :: V.junk :: V.junk :: V.junk :: V.junk :: V.junk :: V.junk :: V.junk :: V.junk :: V.junk :: V.junk :: V.junk :: V.junk :: V.junk :: V.junk :: V.junk :: V.junk :: V.junk :: V.junk :: V.junk :: V.junk :: V.junk :: V.junk :: V.junk :: V.junk :: V.junk :: V.junk :: V.junk :: V.junk :: V.junk :: V.junk :: V.junk :: V.junk :: V.junk :: V.junk :: V.junk :: V.junk :: V.junk :: V.junk :: V.junk :: V.junk :: V.junk :: V.junk :: V.junk :: V.junk :: V.junk :: V.junk :: V.junk :: V.junk :: V.junk :: V.junk :: V.junk :: V.junk :: V.junk :: V.junk :: V.junk :: V.junk :: V.junk :: V.junk :: V.junk :: V.junk :: V.junk :: V.junk :: V.junk :: V.junk :: V.junk :: V.junk :: V.junk :: V.junk :: V.junk :: V.junk :: V.junk :: V.junk :: V.junk :: V.junk :: V.junk :: V.junk :: V.junk :: V.junk :: V.junk :: V.junk :: V.junk :: []), ⟨[], [(0, 0)]⟩⟩
structure RxI (s : List (BitVec 8)) (R : Int × List Tok × Bool) (n : Nat) (T : List Tok) (nl : Bool) : Prop where
  le : n ≤ s.length
  ok : okB (s.drop n)
  few : T.length + (s.length - n) ≤ 1000
  lex : lexG (s.drop n).length (s.drop n) T nl = R
theorem rx_round {s : List (BitVec 8)} {R : Int × List Tok × Bool} {n : Nat} {T : List Tok} {nl : Bool} (h : RxI s R n T nl) (hn : n < s.length) :
    (if (stepR (s.drop n) T nl).1 = 0 then lexG (s.drop n).length (skL (stepR (s.drop n) T nl).2.1) (stepR (s.drop n) T nl).2.2.1 (stepR (s.drop n) T nl).2.2.2 = R
    else R = ((stepR (s.drop n) T nl).1, [], true)) := by
  have hdl : (s.drop n).length = s.length - n := List.length_drop
  have hl := h.lex
  obtain ⟨q, hq⟩ : ∃ q, (s.drop n).length = q + 1 := ⟨(s.drop n).length - 1, by omega⟩
  rw [hq] at hl
  have e : (s.drop n == []) = false := beq_eq_false_iff_ne.2 fun e => by rw [e] at hq; simp at hq
  simp only [lexG, e, Bool.false_eq_true, if_false] at hl
  by_cases h0 : (stepR (s.drop n) T nl).1 = 0
  · rw [if_pos h0] at hl ⊢
    obtain ⟨a, b, c, d⟩ := step_less (s.drop n) T nl (by omega) h.ok h0
    have := skL_len (stepR (s.drop n) T nl).2.1
    rw [← hl]
    exact lexG_more _ _ _ _ _ (by omega) (by omega) (okB_skL b)
  · rw [if_neg h0] at hl ⊢; exact hl.symm
theorem rx_next {s : List (BitVec 8)} {R : Int × List Tok × Bool} {n n' : Nat} {T T' : List Tok} {nl nl' : Bool} (h : RxI s R n T nl) (hn : n < s.length) (hn' : n' ≤ s.length) (hst : stepR (s.drop n) T nl = (0, s.drop n', T', nl')) :
    nl' = false ∧ n < n' ∧ RxI s R (n' + blks (s.drop n')) T' nl' := by
  have hr := rx_round h hn
  have hdl : (s.drop n).length = s.length - n := List.length_drop
  obtain ⟨a, b, c, d⟩ := step_less (s.drop n) T nl (by omega) h.ok (by rw [hst])
  rw [hst] at hr a b c d
  simp only [if_true] at hr a b c d
  rw [List.length_drop, List.length_drop] at a
  have hb := blks_le (s.drop n')
  rw [List.length_drop] at hb
  have hd : s.drop (n' + blks (s.drop n')) = skL (s.drop n') := by rw [skL_pos, List.drop_drop]
  have hf := h.few
  refine ⟨d, by omega, by omega, ?_, by omega, ?_⟩
  · rw [hd]; exact okB_skL b
  · rw [hd, ← hr]
    have := skL_len (s.drop n')
    rw [List.length_drop] at this
    exact lexG_more _ _ _ _ _ (Nat.le_refl _) (by omega) (okB_skL b)
theorem rx_err {s : List (BitVec 8)} {R : Int × List Tok × Bool} {n : Nat} {T : List Tok} {nl : Bool} (h : RxI s R n T nl) (hn : n < s.length) {e : Int} {x : List (BitVec 8) × List Tok × Bool} (hst : stepR (s.drop n) T nl = (e, x)) (he : e ≠ 0) : R = (e, [], true) := by
  have hr := rx_round h hn
  rw [hst] at hr
  simp only at hr
  rw [if_neg he] at hr; exact hr
theorem rx_fin {s : List (BitVec 8)} {R : Int × List Tok × Bool} {n : Nat} {T : List Tok} {nl : Bool} (h : RxI s R n T nl) (hn : ¬ n < s.length) : R = (0, T, nl) := by
  have hl := h.lex
  rw [List.drop_eq_nil_of_le (by omega), lexG_nil] at hl; exact hl.symm
theorem getD_drop0 (s : List (BitVec 8)) (n : Nat) : s.getD n 0 = (s.drop n).getD 0 0#8 := by simp [List.getD_eq_getElem?_getD]
set_option maxRecDepth 100000 in
set_option maxHeartbeats 64000000 in
theorem rlex_ct (s : List (BitVec 8)) (hl : s.length ≤ 1000000) : Fn Tryd.prog 9 [.str (txt s)] (lexV (lexL s)) (lexN (lexL s)) := by
  have hsz := txt_size s
  have k14 := rtext_ct false s (by omega)
  unfold lexL
  by_cases h1 : s.length > 1000
  · rw [if_pos h1]
    have hz : (1000 : Int) < s.length := by omega
    refine Fn.of_body Tryd.func9 rfl ?_
    repeat (first | ((first | (with_reducible first | refine zP fun K_ hK_ => ?_ | refine zQ fun K_ hK_ => ?_ | refine zT ?_ | refine zU ?_ | refine zV ?_ | refine zW ?_ | refine zX ?_ | refine zY ?_) | ((with_reducible first | refine zR ?_ ?_ fun K_ hK_ => ?_ | refine zS ?_ ?_ fun K_ hK_ => ?_); (focus kernel_rfl); (focus kernel_rfl))); first | (simp (maxSteps := 1000000) (disch := refine hold_ ?_; first | (simp [hsz, hz, -List.getD_eq_getElem?_getD]; done) | omega) [hsz, hz, -List.getD_eq_getElem?_getD]; try first | (with_reducible refine zZ ?_) | subst hK_) | subst hK_) | (with_reducible first | refine zA ?_ | refine zB ?_ | refine zC ?_ | refine zD ?_ | refine zE ?_ | refine zF ?_ | refine zG ?_ | refine zH ?_ | refine zI ?_ | refine zJ ?_ | refine zK ?_ | refine zL ?_ | refine zM ?_ | refine zN ?_ | refine zO ?_) | ((with_reducible refine yG ?_ ?_); (focus decide)) | ((with_reducible refine yA ?_); refine yB rfl ?_; (with_reducible first | refine yC ?_ | refine yD ?_)))
    all_goals simp (maxSteps := 1000000) (disch := refine hold_ ?_; first | (simp [lexV, lexN, -List.getD_eq_getElem?_getD]; done) | omega) [lexV, lexN, -List.getD_eq_getElem?_getD]
  rw [if_neg h1]
  have hz : ¬ (1000 : Int) < s.length := by omega
  cases ht : textB s with
  | false =>
    rw [ht] at k14
    simp only [Bool.false_eq_true, if_false]
    refine Fn.of_body Tryd.func9 rfl ?_
    repeat (first | ((with_reducible first | refine callK_at 14 ?_); refine callK_p ?_; simp (maxSteps := 1000000) (disch := refine hold_ ?_; first | (simp [hsz, hz, -List.getD_eq_getElem?_getD]; done) | omega) [hsz, hz, -List.getD_eq_getElem?_getD]; (first | refine callK1_of (Fn.ct k14 Tryd.call14) ?_); (try simp (maxSteps := 1000000) (disch := refine hold_ ?_; first | (simp [hsz, hz, -List.getD_eq_getElem?_getD]; done) | omega) [hsz, hz, -List.getD_eq_getElem?_getD]); first | (with_reducible refine zZ ?_) | subst hK_) | ((first | (with_reducible first | refine zP fun K_ hK_ => ?_ | refine zQ fun K_ hK_ => ?_ | refine zT ?_ | refine zU ?_ | refine zV ?_ | refine zW ?_ | refine zX ?_ | refine zY ?_) | ((with_reducible first | refine zR ?_ ?_ fun K_ hK_ => ?_ | refine zS ?_ ?_ fun K_ hK_ => ?_); (focus kernel_rfl); (focus kernel_rfl))); first | (simp (maxSteps := 1000000) (disch := refine hold_ ?_; first | (simp [hsz, hz, -List.getD_eq_getElem?_getD]; done) | omega) [hsz, hz, -List.getD_eq_getElem?_getD]; try first | (with_reducible refine zZ ?_) | subst hK_) | subst hK_) | (with_reducible first | refine zA ?_ | refine zB ?_ | refine zC ?_ | refine zD ?_ | refine zE ?_ | refine zF ?_ | refine zG ?_ | refine zH ?_ | refine zI ?_ | refine zJ ?_ | refine zK ?_ | refine zL ?_ | refine zM ?_ | refine zN ?_ | refine zO ?_) | ((with_reducible refine yG ?_ ?_); (focus decide)) | ((with_reducible refine yA ?_); refine yB rfl ?_; (with_reducible first | refine yC ?_ | refine yD ?_)))
    all_goals simp (maxSteps := 1000000) (disch := refine hold_ ?_; first | (simp [lexV, lexN, -List.getD_eq_getElem?_getD]; done) | omega) [lexV, lexN, -List.getD_eq_getElem?_getD]
  | true =>
  rw [ht] at k14
  simp only [if_true]
  have k15 := rskip_ct s 0 (by omega) (by omega)
  rw [List.drop_zero, Nat.zero_add] at k15
  have hs0 : s.drop (blks s) = skL s := (skL_pos s).symm
  generalize hR : lexG s.length (skL s) [] true = R
  have hI : RxI s R (blks s) [] true := by
    have hb := blks_le s
    have hok := okB_skL (textB_ok ht)
    have hsl := skL_len s
    refine ⟨hb, by rw [hs0]; exact hok, by simp; omega, ?_⟩
    rw [hs0, ← hR]; exact lexG_more _ _ _ _ _ (Nat.le_refl _) hsl hok
  clear hR hs0
  generalize blks s = n0 at *
  refine Fn.of_body Tryd.func9 rfl ?_
  repeat (first | ((with_reducible first | refine callK_at 14 ?_ | refine callK_at 15 ?_); refine callK_p ?_; simp (maxSteps := 1000000) (disch := refine hold_ ?_; first | (simp [hsz, hz, -List.getD_eq_getElem?_getD]; done) | omega) [hsz, hz, -List.getD_eq_getElem?_getD]; (first | refine callK1_of (Fn.ct k14 Tryd.call14) ?_ | refine callK1_of (Fn.ct k15 Tryd.call15) ?_); (try simp (maxSteps := 1000000) (disch := refine hold_ ?_; first | (simp [hsz, hz, -List.getD_eq_getElem?_getD]; done) | omega) [hsz, hz, -List.getD_eq_getElem?_getD]); first | (with_reducible refine zZ ?_) | subst hK_) | ((first | (with_reducible first | refine zP fun K_ hK_ => ?_ | refine zQ fun K_ hK_ => ?_ | refine zT ?_ | refine zU ?_ | refine zV ?_ | refine zW ?_ | refine zX ?_ | refine zY ?_) | ((with_reducible first | refine zR ?_ ?_ fun K_ hK_ => ?_ | refine zS ?_ ?_ fun K_ hK_ => ?_); (focus kernel_rfl); (focus kernel_rfl))); first | (simp (maxSteps := 1000000) (disch := refine hold_ ?_; first | (simp [hsz, hz, -List.getD_eq_getElem?_getD]; done) | omega) [hsz, hz, -List.getD_eq_getElem?_getD]; try first | (with_reducible refine zZ ?_) | subst hK_) | subst hK_) | (with_reducible first | refine zA ?_ | refine zB ?_ | refine zC ?_ | refine zD ?_ | refine zE ?_ | refine zF ?_ | refine zG ?_ | refine zH ?_ | refine zI ?_ | refine zJ ?_ | refine zK ?_ | refine zL ?_ | refine zM ?_ | refine zN ?_ | refine zO ?_) | ((with_reducible refine yG ?_ ?_); (focus decide)) | ((with_reducible refine yA ?_); refine yB rfl ?_; (with_reducible first | refine yC ?_ | refine yD ?_)))
  refine AW.nilRow 4 (tkR []) 4 _ rfl rfl ?_
  refine AW.iterI (τ := rxSt s n0 [] true) (true :: false :: false :: false :: true :: true :: false :: false :: false :: false :: false :: false :: false :: false :: false :: false :: false :: false :: false :: false :: false :: false :: false :: false :: false :: false :: false :: false :: false :: false :: false :: false :: false :: false :: false :: false :: false :: false :: false :: false :: false :: false :: false :: false :: false :: false :: false :: false :: false :: false :: false :: false :: false :: false :: false :: false :: false :: false :: false :: false :: false :: false :: false :: false :: false :: false :: false :: false :: false :: false :: false :: false :: false :: false :: false :: false :: false :: false :: false :: false :: false :: false :: false :: false :: false :: false :: false :: false :: false :: false :: false :: false :: false :: false :: false :: false :: false :: false :: false :: false :: false :: false :: false :: false :: false :: false :: false :: false :: false :: false :: false :: false :: false :: false :: false :: false :: false :: false :: false :: false :: false :: false :: false :: false :: false :: false :: false :: false :: false :: false :: false :: false :: false :: false :: false :: false :: false :: false :: false :: false :: false :: false :: false :: false :: false :: false :: false :: false :: false :: false :: false :: false :: false :: false :: false :: false :: false :: false :: false :: false :: false :: false :: false :: false :: false :: false :: false :: false :: false :: false :: false :: false :: false :: false :: false :: false :: false :: false :: false :: false :: false :: false :: false :: false :: false :: false :: false :: false :: false :: false :: false :: false :: false :: false :: false :: false :: false :: false :: false :: false :: false :: false :: false :: false :: false :: false :: []) (s.length - n0) (fun m σ => ∃ n T nl, s.length - n = m ∧ RxI s R n T nl ∧ σ = rxSt s n T nl) ?_ ⟨n0, [], true, rfl, hI, rfl⟩ ?_
  · (unfold rxSt; simp (maxSteps := 1000000) (disch := refine hold_ ?_; first | (simp [-List.getD_eq_getElem?_getD]; done) | omega) [-List.getD_eq_getElem?_getD])
  clear k14 k15 hI ht hz h1
  rintro m σ ⟨n, T, nl, rfl, hI, rfl⟩
  unfold rxSt
  have hnle := hI.le
  have hfew := hI.few
  have hdl : (s.drop n).length = s.length - n := List.length_drop
  by_cases hn' : ¬ n < s.length
  · have hn := hn'
    have hnz : ¬ (n : Int) < s.length := by omega
    have hRR := rx_fin hI hn
    subst hRR
    repeat (first | ((first | (with_reducible first | refine zP fun K_ hK_ => ?_ | refine zQ fun K_ hK_ => ?_ | refine zT ?_ | refine zU ?_ | refine zV ?_ | refine zW ?_ | refine zX ?_ | refine zY ?_) | ((with_reducible first | refine zR ?_ ?_ fun K_ hK_ => ?_ | refine zS ?_ ?_ fun K_ hK_ => ?_); (focus kernel_rfl); (focus kernel_rfl))); first | (simp (maxSteps := 1000000) (disch := refine hold_ ?_; first | (simp [hsz, hnz, -List.getD_eq_getElem?_getD]; done) | omega) [hsz, hnz, -List.getD_eq_getElem?_getD]; try first | (with_reducible refine zZ ?_) | subst hK_) | subst hK_) | (with_reducible first | refine zA ?_ | refine zB ?_ | refine zC ?_ | refine zD ?_ | refine zE ?_ | refine zF ?_ | refine zG ?_ | refine zH ?_ | refine zI ?_ | refine zJ ?_ | refine zK ?_ | refine zL ?_ | refine zM ?_ | refine zN ?_ | refine zO ?_) | ((with_reducible refine yG ?_ ?_); (focus decide)) | ((with_reducible refine yA ?_); refine yB rfl ?_; (with_reducible first | refine yC ?_ | refine yD ?_)))
    all_goals simp (maxSteps := 1000000) (disch := refine hold_ ?_; first | (simp [lexV, lexN, -List.getD_eq_getElem?_getD]; done) | omega) [lexV, lexN, -List.getD_eq_getElem?_getD]
  have hn : n < s.length := by omega
  clear hn'
  have hnz : (n : Int) < s.length := by omega
  have hnlz : (n : Int) ≤ s.length := by omega
  have k16 := rsign_ct s n hn hl
  have hgg := txt_get s n
  rw [getD_drop0 s n] at hgg
  have hsn := rsign_eq (s.drop n) (by omega)
  have hst : stepR (s.drop n) T nl = stepR (s.drop n) T nl := rfl
  conv at hst => rhs; unfold stepR
  have skip : ∀ n', n' ≤ s.length → Fn Tryd.prog 15 [.str (txt s), .int .i64 n'] [.p (.int .i64 (n' + blks (s.drop n') : Nat))] := fun n' h => rskip_ct s n' h (by omega)
  have next : ∀ {n' : Nat} {T' : List Tok} {nl' : Bool}, n' ≤ s.length → stepR (s.drop n) T nl = (0, s.drop n', T', nl') → nl' = false ∧ n < n' ∧ RxI s R (n' + blks (s.drop n')) T' nl' := fun a b => rx_next hI hn a b
  have err : ∀ {e : Int} {x : List (BitVec 8) × List Tok × Bool}, stepR (s.drop n) T nl = (e, x) → e ≠ 0 → R = (e, [], true) := fun a b => rx_err hI hn a b
  have rest : ∀ k, s.drop (n + k) = (s.drop n).drop k := fun k => by rw [List.drop_drop]
  have hx0 : (txt s).extract n s.length = txt (s.drop n) := by rw [txt_extract, List.take_length]
  have hxx : ∀ k, (txt s).extract n (n + k) = txt ((s.drop n).take k) := fun k => by rw [txt_extract, ← List.take_drop]
  have k17 := rnumber_ct s n hnle hl
  have k18 := rlook_ct T nl (by omega)
  have k19 := rlong_ct (s.drop n) (by omega)
  rw [← wordL_len] at k19
  have k21 := rnamed_ct s n hnle hl
  have hwl := wordL_le (s.drop n)
  have hdg : digs (s.drop n) ≤ (s.drop n).length := tw_le digB (s.drop n)
  have kat : ∀ k (p : List (BitVec 8)), k ≤ s.length - n → p.length ≤ 10 → Fn Tryd.prog 20 [.str (txt s), .int .i64 (n + k : Nat), .str (txt p)] [.p (.bool (preB ((s.drop n).drop k) p))] := fun k p hk hp => by
    have := rat_ct s p (n + k) (by omega) (by omega) (by omega)
    rw [rest] at this; exact this
  have happ : ∀ t : Tok, appRow (tkR T) (.vals 3 [.agg (.vals 1 [.int .i64 t.kind, .str (txt t.text), .int .i64 t.n])]) = some (tkR (T ++ [t])) := tkR_app T
  have hub : ub ((s.drop n).getD 0 0#8) = (((s.drop n).getD 0 0#8).toNat : Int) := rfl
  have e34 : ub ((s.drop n).getD 0 0#8) = 34 ↔ (s.drop n).getD 0 0#8 = 34#8 := ⟨fun e => ub_inj (b := 34#8) e, fun e => by rw [e]; rfl⟩
  have e39 : ub ((s.drop n).getD 0 0#8) = 39 ↔ (s.drop n).getD 0 0#8 = 39#8 := ⟨fun e => ub_inj (b := 39#8) e, fun e => by rw [e]; rfl⟩
  have e42 : ub ((s.drop n).getD 0 0#8) = 42 ↔ (s.drop n).getD 0 0#8 = 42#8 := ⟨fun e => ub_inj (b := 42#8) e, fun e => by rw [e]; rfl⟩
  have te : txt [] = ByteArray.empty := rfl
  clear hI
  generalize hSg : s.drop n = S at *
  generalize hsg : rsign S = sg at *
  obtain ⟨sk, sx⟩ := sg
  simp only at k16
  by_cases hd : digB (S.getD 0 0#8) = true
  · rw [if_pos hd] at hst
    unfold digB at hd
    rw [Bool.and_eq_true, decide_eq_true_eq, decide_eq_true_eq] at hd
    have d1 : (48 : Int) ≤ ub (S.getD 0 0#8) := by omega
    have d2 : ub (S.getD 0 0#8) ≤ 57 := by omega
    have hdr := rest (digs S)
    clear hsn k18 k19 k21 e34 e39 e42 hub
    generalize ub (S.getD 0 0#8) = U at *
    unfold numR at hst
    unfold rnumR at k17
    by_cases c1 : numV (S.takeWhile digB) > 9007199254740992
    · rw [if_pos c1] at hst k17
      have hRR := err hst (by simp)
      subst hRR
      repeat (first | ((with_reducible first | refine callK_at 16 ?_ | refine callK_at 17 ?_); refine callK_p ?_; simp (maxSteps := 1000000) (disch := refine hold_ ?_; first | (simp [hsz, hn, hnz, hgg, d1, d2, -List.getD_eq_getElem?_getD]; done) | omega) [hsz, hn, hnz, hgg, d1, d2, -List.getD_eq_getElem?_getD]; (first | refine callK1_of (Fn.ct k16 Tryd.call16) ?_ | refine callK1_of (Fn.ct k17 Tryd.call17) ?_); (try simp (maxSteps := 1000000) (disch := refine hold_ ?_; first | (simp [hsz, hn, hnz, hgg, d1, d2, -List.getD_eq_getElem?_getD]; done) | omega) [hsz, hn, hnz, hgg, d1, d2, -List.getD_eq_getElem?_getD]); first | (with_reducible refine zZ ?_) | subst hK_) | ((first | (with_reducible first | refine zP fun K_ hK_ => ?_ | refine zQ fun K_ hK_ => ?_ | refine zT ?_ | refine zU ?_ | refine zV ?_ | refine zW ?_ | refine zX ?_ | refine zY ?_) | ((with_reducible first | refine zR ?_ ?_ fun K_ hK_ => ?_ | refine zS ?_ ?_ fun K_ hK_ => ?_); (focus kernel_rfl); (focus kernel_rfl))); first | (simp (maxSteps := 1000000) (disch := refine hold_ ?_; first | (simp [hsz, hn, hnz, hgg, d1, d2, -List.getD_eq_getElem?_getD]; done) | omega) [hsz, hn, hnz, hgg, d1, d2, -List.getD_eq_getElem?_getD]; try first | (with_reducible refine zZ ?_) | subst hK_) | subst hK_) | (with_reducible first | refine zA ?_ | refine zB ?_ | refine zC ?_ | refine zD ?_ | refine zE ?_ | refine zF ?_ | refine zG ?_ | refine zH ?_ | refine zI ?_ | refine zJ ?_ | refine zK ?_ | refine zL ?_ | refine zM ?_ | refine zN ?_ | refine zO ?_) | ((with_reducible refine yG ?_ ?_); (focus decide)) | ((with_reducible refine yA ?_); refine yB rfl ?_; (with_reducible first | refine yC ?_ | refine yD ?_)))
      all_goals simp (maxSteps := 1000000) (disch := refine hold_ ?_; first | (simp [lexV, lexN, -List.getD_eq_getElem?_getD]; done) | omega) [lexV, lexN, -List.getD_eq_getElem?_getD]
    rw [if_neg c1] at hst k17
    by_cases c2 : preB (S.drop (digs S)) [46#8] = true
    · rw [if_pos c2] at hst k17
      have hRR := err hst (by simp)
      subst hRR
      repeat (first | ((with_reducible first | refine callK_at 16 ?_ | refine callK_at 17 ?_); refine callK_p ?_; simp (maxSteps := 1000000) (disch := refine hold_ ?_; first | (simp [hsz, hn, hnz, hgg, d1, d2, -List.getD_eq_getElem?_getD]; done) | omega) [hsz, hn, hnz, hgg, d1, d2, -List.getD_eq_getElem?_getD]; (first | refine callK1_of (Fn.ct k16 Tryd.call16) ?_ | refine callK1_of (Fn.ct k17 Tryd.call17) ?_); (try simp (maxSteps := 1000000) (disch := refine hold_ ?_; first | (simp [hsz, hn, hnz, hgg, d1, d2, -List.getD_eq_getElem?_getD]; done) | omega) [hsz, hn, hnz, hgg, d1, d2, -List.getD_eq_getElem?_getD]); first | (with_reducible refine zZ ?_) | subst hK_) | ((first | (with_reducible first | refine zP fun K_ hK_ => ?_ | refine zQ fun K_ hK_ => ?_ | refine zT ?_ | refine zU ?_ | refine zV ?_ | refine zW ?_ | refine zX ?_ | refine zY ?_) | ((with_reducible first | refine zR ?_ ?_ fun K_ hK_ => ?_ | refine zS ?_ ?_ fun K_ hK_ => ?_); (focus kernel_rfl); (focus kernel_rfl))); first | (simp (maxSteps := 1000000) (disch := refine hold_ ?_; first | (simp [hsz, hn, hnz, hgg, d1, d2, -List.getD_eq_getElem?_getD]; done) | omega) [hsz, hn, hnz, hgg, d1, d2, -List.getD_eq_getElem?_getD]; try first | (with_reducible refine zZ ?_) | subst hK_) | subst hK_) | (with_reducible first | refine zA ?_ | refine zB ?_ | refine zC ?_ | refine zD ?_ | refine zE ?_ | refine zF ?_ | refine zG ?_ | refine zH ?_ | refine zI ?_ | refine zJ ?_ | refine zK ?_ | refine zL ?_ | refine zM ?_ | refine zN ?_ | refine zO ?_) | ((with_reducible refine yG ?_ ?_); (focus decide)) | ((with_reducible refine yA ?_); refine yB rfl ?_; (with_reducible first | refine yC ?_ | refine yD ?_)))
      all_goals simp (maxSteps := 1000000) (disch := refine hold_ ?_; first | (simp [lexV, lexN, -List.getD_eq_getElem?_getD]; done) | omega) [lexV, lexN, -List.getD_eq_getElem?_getD]
    rw [if_neg c2] at hst k17
    rw [← hdr] at hst
    obtain ⟨_, hlt, hI2⟩ := next (by omega) hst
    have ks := skip (n + digs S) (by omega)
    have hlt2 : n < n + digs S + blks (s.drop (n + digs S)) := by omega
    have hle2 := hI2.le
    have ha : appRow (tkR T) (.vals 3 [.agg (.vals 1 [.int .i64 3, .str ByteArray.empty, .int .i64 (numV (S.takeWhile digB) : Nat)])]) = some (tkR (T ++ [⟨3, [], numV (S.takeWhile digB)⟩])) := happ ⟨3, [], numV (S.takeWhile digB)⟩
    have hT2 : (T ++ [(⟨3, [], numV (S.takeWhile digB)⟩ : Tok)]).length * 32 ≤ 140737488355328 := by simp only [List.length_append, List.length_cons, List.length_nil]; omega
    generalize T ++ [⟨3, [], numV (S.takeWhile digB)⟩] = T2 at *
    generalize numV (S.takeWhile digB) = N at *
    generalize n + digs S + blks (s.drop (n + digs S)) = n2 at *
    generalize n + digs S = n1 at *
    repeat (first | ((with_reducible first | refine callK_at 16 ?_ | refine callK_at 17 ?_ | refine callK_at 15 ?_); refine callK_p ?_; simp (maxSteps := 1000000) (disch := refine hold_ ?_; first | (simp [hsz, hn, hnz, hgg, d1, d2, ha, hT2, -List.getD_eq_getElem?_getD]; done) | omega) [hsz, hn, hnz, hgg, d1, d2, ha, hT2, -List.getD_eq_getElem?_getD]; (first | refine callK1_of (Fn.ct k16 Tryd.call16) ?_ | refine callK1_of (Fn.ct k17 Tryd.call17) ?_ | refine callK1_of (Fn.ct ks Tryd.call15) ?_); (try simp (maxSteps := 1000000) (disch := refine hold_ ?_; first | (simp [hsz, hn, hnz, hgg, d1, d2, ha, hT2, -List.getD_eq_getElem?_getD]; done) | omega) [hsz, hn, hnz, hgg, d1, d2, ha, hT2, -List.getD_eq_getElem?_getD]); first | (with_reducible refine zZ ?_) | subst hK_) | ((first | (with_reducible first | refine zP fun K_ hK_ => ?_ | refine zQ fun K_ hK_ => ?_ | refine zT ?_ | refine zU ?_ | refine zV ?_ | refine zW ?_ | refine zX ?_ | refine zY ?_) | ((with_reducible first | refine zR ?_ ?_ fun K_ hK_ => ?_ | refine zS ?_ ?_ fun K_ hK_ => ?_); (focus kernel_rfl); (focus kernel_rfl))); first | (simp (maxSteps := 1000000) (disch := refine hold_ ?_; first | (simp [hsz, hn, hnz, hgg, d1, d2, ha, hT2, -List.getD_eq_getElem?_getD]; done) | omega) [hsz, hn, hnz, hgg, d1, d2, ha, hT2, -List.getD_eq_getElem?_getD]; try first | (with_reducible refine zZ ?_) | subst hK_) | subst hK_) | (with_reducible first | refine zA ?_ | refine zB ?_ | refine zC ?_ | refine zD ?_ | refine zE ?_ | refine zF ?_ | refine zG ?_ | refine zH ?_ | refine zI ?_ | refine zJ ?_ | refine zK ?_ | refine zL ?_ | refine zM ?_ | refine zN ?_ | refine zO ?_) | ((with_reducible refine yG ?_ ?_); (focus decide)) | ((with_reducible refine yA ?_); refine yB rfl ?_; (with_reducible first | refine yC ?_ | refine yD ?_)))
    refine ⟨s.length - n2, rxSt s n2 (T2) false, by omega, ?_, n2, T2, false, rfl, hI2, rfl⟩
    (unfold rxSt; simp (maxSteps := 1000000) (disch := refine hold_ ?_; first | (simp [-List.getD_eq_getElem?_getD]; done) | omega) [-List.getD_eq_getElem?_getD])
  rw [if_neg hd] at hst
  have hnd : ub (S.getD 0 0#8) < 48 ∨ (48 ≤ ub (S.getD 0 0#8) ∧ 57 < ub (S.getD 0 0#8)) := by
    unfold digB at hd
    rw [Bool.and_eq_true, decide_eq_true_eq, decide_eq_true_eq] at hd
    omega
  have hnd2 : (decide (48 ≤ ub (S.getD 0 0#8)) = false) ∨ (decide (48 ≤ ub (S.getD 0 0#8)) = true ∧ decide (ub (S.getD 0 0#8) ≤ 57) = false) := by
    rcases hnd with h | ⟨h, h2⟩
    · left; exact decide_eq_false (by omega)
    · right; exact ⟨decide_eq_true h, decide_eq_false (by omega)⟩
  by_cases hq : S.getD 0 0#8 = 34#8 ∨ S.getD 0 0#8 = 39#8
  · rw [if_pos hq] at hst
    have hq2 : ub (S.getD 0 0#8) = 39 ∨ (ub (S.getD 0 0#8) == 39) = false ∧ ub (S.getD 0 0#8) = 34 := by
      rcases hq with e | e
      · right; exact ⟨beq_eq_false_iff_ne.2 (by rw [e]; decide), e34.2 e⟩
      · left; exact e39.2 e
    have hgk : ∀ k, s.getD (n + 1 + k) 0 = (S.drop 1).getD k 0#8 := fun k => by
      rw [← hSg]; simp only [List.getD_eq_getElem?_getD, List.getElem?_drop]; rw [show n + (1 + k) = n + 1 + k by omega]; rfl
    have hg2 := fun k => txt_get s (n + 1 + k)
    simp only [hgk] at hg2
    have hdl1 : (S.drop 1).length = s.length - (n + 1) := by rw [List.length_drop]; omega
    have w1 : IntKind.i64.wrap ((n : Int) + 1) = ((n + 1 : Nat) : Int) := by rw [wrap_i64 _ (by omega) (by omega)]; omega
    unfold litL at hst
    generalize hS1 : S.drop 1 = S1 at *
    have hcI := cutB_idx (S.getD 0 0#8) S1
    have hcS := idxI_spec S1 (S.getD 0 0#8)
    clear hsn k17 k18 k19 k21 e34 e39 e42 hub hgk kat
    generalize hC : S.getD 0 0#8 = c at *
    have stop : ∃ (k : Nat) (B : Bool), k ≤ S1.length ∧ (∀ j, j < k → (ub (S1.getD j 0#8) != ub c) = true) ∧
        ((B = false ∧ k = S1.length ∧ cutB c S1 = none) ∨ (B = true ∧ k < S1.length ∧ S1.getD k 0#8 = c ∧ cutB c S1 = some (S1.take k, S1.drop (k + 1)))) := by
      rcases hcI with ⟨h1, h2⟩ | ⟨k, h1, h2, h3⟩
      · refine ⟨S1.length, false, Nat.le_refl _, ?_, .inl ⟨rfl, rfl, h1⟩⟩
        rcases hcS with ⟨_, hm⟩ | ⟨k', h1', _⟩
        · intro j hj
          rw [bne_iff_ne]
          intro e
          apply hm
          rw [← ub_inj e, List.getD_eq_getElem?_getD, List.getElem?_eq_getElem hj]; exact List.getElem_mem hj
        · omega
      · rcases hcS with ⟨h1', _⟩ | ⟨k', h1', hk', hg', hm⟩
        · omega
        · have : k' = k := by omega
          subst this
          refine ⟨k', true, by omega, ?_, .inr ⟨rfl, h2, hg', h3⟩⟩
          intro j hj
          rw [bne_iff_ne]
          intro e
          apply hm
          rw [← ub_inj e, List.getD_eq_getElem?_getD, List.getElem?_eq_getElem (by omega)]
          have : j < (S1.take k').length := by rw [List.length_take]; omega
          have h5 : (S1.take k')[j] = S1[j]'(by omega) := List.getElem_take
          rw [show ((some (S1[j]'(by omega))).getD 0#8) = S1[j]'(by omega) from rfl, ← h5]
          exact List.getElem_mem this
    obtain ⟨k, B, hkl, hkn, hB⟩ := stop
    clear hcI hcS
    rw [hdl1] at hkl
    have to24 : ∀ (Q : Exit → St → Prop), True := fun _ => trivial
    generalize hU : ub c = U at *
    rcases hq2 with hq2 | ⟨hq2, hq3⟩
    · have g1 : decide ((48 : Int) ≤ 39) = false := rfl
      subst hq2
      repeat (first | ((with_reducible first | refine callK_at 16 ?_); refine callK_p ?_; simp (maxSteps := 1000000) (disch := refine hold_ ?_; first | (simp [hsz, hn, hnz, hgg, g1, w1, -List.getD_eq_getElem?_getD]; done) | omega) [hsz, hn, hnz, hgg, g1, w1, -List.getD_eq_getElem?_getD]; (first | refine callK1_of (Fn.ct k16 Tryd.call16) ?_); (try simp (maxSteps := 1000000) (disch := refine hold_ ?_; first | (simp [hsz, hn, hnz, hgg, g1, w1, -List.getD_eq_getElem?_getD]; done) | omega) [hsz, hn, hnz, hgg, g1, w1, -List.getD_eq_getElem?_getD]); first | (with_reducible refine zZ ?_) | subst hK_) | ((first | (with_reducible first | refine zP fun K_ hK_ => ?_ | refine zQ fun K_ hK_ => ?_ | refine zT ?_ | refine zU ?_ | refine zV ?_ | refine zW ?_ | refine zX ?_ | refine zY ?_) | ((with_reducible first | refine zR ?_ ?_ fun K_ hK_ => ?_ | refine zS ?_ ?_ fun K_ hK_ => ?_); (focus kernel_rfl); (focus kernel_rfl))); first | (simp (maxSteps := 1000000) (disch := refine hold_ ?_; first | (simp [hsz, hn, hnz, hgg, g1, w1, -List.getD_eq_getElem?_getD]; done) | omega) [hsz, hn, hnz, hgg, g1, w1, -List.getD_eq_getElem?_getD]; try first | (with_reducible refine zZ ?_) | subst hK_) | subst hK_) | (with_reducible first | refine zA ?_ | refine zB ?_ | refine zC ?_ | refine zD ?_ | refine zE ?_ | refine zF ?_ | refine zG ?_ | refine zH ?_ | refine zI ?_ | refine zJ ?_ | refine zK ?_ | refine zL ?_ | refine zM ?_ | refine zN ?_ | refine zO ?_) | ((with_reducible refine yG ?_ ?_); (focus decide)) | ((with_reducible refine yA ?_); refine yB rfl ?_; (with_reducible first | refine yC ?_ | refine yD ?_)))
      refine AW.iter (true :: false :: false :: false :: true :: true :: false :: false :: false :: false :: false :: true :: false :: false :: false :: false :: false :: false :: false :: false :: false :: false :: false :: false :: false :: false :: false :: false :: false :: false :: false :: false :: false :: false :: false :: false :: false :: false :: false :: false :: false :: false :: false :: false :: false :: false :: false :: false :: false :: false :: false :: false :: false :: false :: false :: false :: false :: false :: false :: false :: false :: false :: false :: false :: false :: false :: false :: false :: false :: false :: false :: false :: false :: false :: false :: false :: false :: false :: false :: false :: false :: false :: false :: false :: false :: false :: false :: false :: false :: false :: false :: false :: false :: false :: false :: false :: false :: false :: false :: false :: false :: false :: false :: false :: false :: false :: false :: false :: false :: false :: false :: false :: false :: false :: false :: false :: false :: false :: false :: false :: false :: false :: false :: false :: false :: false :: false :: false :: false :: false :: false :: false :: false :: false :: false :: false :: false :: false :: false :: false :: false :: false :: false :: false :: false :: false :: false :: false :: false :: false :: false :: false :: false :: false :: false :: false :: false :: false :: false :: false :: false :: false :: false :: false :: false :: false :: false :: false :: false :: false :: false :: false :: false :: false :: false :: false :: false :: false :: false :: false :: false :: false :: false :: false :: false :: false :: false :: false :: false :: false :: false :: false :: false :: false :: false :: false :: false :: false :: false :: false :: false :: false :: false :: false :: false :: false :: []) k (fun j => ⟨(.p (.str (txt s)) :: V.junk :: V.junk :: V.junk :: .row (tkR T) 0 0 nl :: .p (.int .i64 n) :: V.junk :: V.junk :: V.junk :: V.junk :: V.junk :: .p (.int .i64 (n + 1 + j : Nat)) :: V.junk :: V.junk :: V.junk :: V.junk :: V.junk :: V.junk :: V.junk :: V.junk :: V.junk :: V.junk :: V.junk :: V.junk :: V.junk :: V.junk :: V.junk :: V.junk :: V.junk :: V.junk :: V.junk :: V.junk :: V.junk :: V.junk :: V.junk :: V.junk :: V.junk :: V.junk :: V.junk :: V.junk :: V.junk :: V.junk :: V.junk :: V.junk :: V.junk :: V.junk :: V.junk :: V.junk :: V.junk :: V.junk :: V.junk :: V.junk :: V.junk :: V.junk :: V.junk :: V.junk :: V.junk :: V.junk :: V.junk :: V.junk :: V.junk :: V.junk :: V.junk :: V.junk :: V.junk :: V.junk :: V.junk :: V.junk :: V.junk :: V.junk :: V.junk :: V.junk :: V.junk :: V.junk :: V.junk :: V.junk :: V.junk :: V.junk :: V.junk :: V.junk :: V.junk :: V.junk :: V.junk :: V.junk :: V.junk :: V.junk :: V.junk :: V.junk :: V.junk :: V.junk :: V.junk :: V.junk :: V.junk :: V.junk :: V.junk :: V.junk :: V.junk :: V.junk :: V.junk :: V.junk :: V.junk :: V.junk :: V.junk :: V.junk :: V.junk :: V.junk :: V.junk :: V.junk :: V.junk :: V.junk :: V.junk :: V.junk :: V.junk :: V.junk :: V.junk :: V.junk :: V.junk :: V.junk :: V.junk :: V.junk :: V.junk :: V.junk :: V.junk :: V.junk :: V.junk :: V.junk :: V.junk :: V.junk :: V.junk :: V.junk :: V.junk :: V.junk :: V.junk :: V.junk :: V.junk :: V.junk :: V.junk :: V.junk :: V.junk :: V.junk :: V.junk :: V.junk :: V.junk :: V.junk :: V.junk :: V.junk :: V.junk :: V.junk :: V.junk :: V.junk :: V.junk :: V.junk :: V.junk :: V.junk :: V.junk :: V.junk :: V.junk :: V.junk :: V.junk :: V.junk :: V.junk :: V.junk :: V.junk :: V.junk :: V.junk :: V.junk :: V.junk :: V.junk :: V.junk :: V.junk :: V.junk :: V.junk :: V.junk :: V.junk :: V.junk :: V.junk :: V.junk :: V.junk :: V.junk :: V.junk :: V.junk :: V.junk :: V.junk :: V.junk :: V.junk :: V.junk :: V.junk :: V.junk :: V.junk :: V.junk :: V.junk :: V.junk :: V.junk :: V.junk :: V.junk :: V.junk :: V.junk :: V.junk :: V.junk :: V.junk :: V.junk :: V.junk :: V.junk :: V.junk :: V.junk :: V.junk :: []), ⟨[], [(0, 0)]⟩⟩) ?_ ?_
      · simp (maxSteps := 1000000) (disch := refine hold_ ?_; first | (simp [-List.getD_eq_getElem?_getD]; done) | omega) [-List.getD_eq_getElem?_getD]
      intro j hj
      have hg3 := hg2 j
      have e1 : IntKind.i64.wrap (((n + 1 + j : Nat) : Int) + 1) = ((n + 1 + (j + 1) : Nat) : Int) := by rw [wrap_i64 _ (by omega) (by omega)]; omega
      by_cases hjk : j < k
      · have a1 : n + 1 + j < s.length := by omega
        have a2 : ((n + 1 + j : Nat) : Int) < s.length := by omega
        have a3 := hkn j hjk
        clear hB next err rest skip hg2 hkn
        generalize hmm : n + 1 + (j + 1) = m1 at *
        generalize n + 1 + j = m at *
        repeat (first | ((first | (with_reducible first | refine zP fun K_ hK_ => ?_ | refine zQ fun K_ hK_ => ?_ | refine zT ?_ | refine zU ?_ | refine zV ?_ | refine zW ?_ | refine zX ?_ | refine zY ?_) | ((with_reducible first | refine zR ?_ ?_ fun K_ hK_ => ?_ | refine zS ?_ ?_ fun K_ hK_ => ?_); (focus kernel_rfl); (focus kernel_rfl))); first | (simp (maxSteps := 1000000) (disch := refine hold_ ?_; first | (simp [hsz, hn, hnz, hgg, hg3, a1, a2, a3, e1, -List.getD_eq_getElem?_getD]; done) | omega) [hsz, hn, hnz, hgg, hg3, a1, a2, a3, e1, -List.getD_eq_getElem?_getD]; try first | (with_reducible refine zZ ?_) | subst hK_) | subst hK_) | (with_reducible first | refine zA ?_ | refine zB ?_ | refine zC ?_ | refine zD ?_ | refine zE ?_ | refine zF ?_ | refine zG ?_ | refine zH ?_ | refine zI ?_ | refine zJ ?_ | refine zK ?_ | refine zL ?_ | refine zM ?_ | refine zN ?_ | refine zO ?_) | ((with_reducible refine yG ?_ ?_); (focus decide)) | ((with_reducible refine yA ?_); refine yB rfl ?_; (with_reducible first | refine yC ?_ | refine yD ?_)))
        refine ⟨hjk, ?_⟩
        simp (maxSteps := 1000000) (disch := refine hold_ ?_; first | (simp [-List.getD_eq_getElem?_getD]; done) | omega) [-List.getD_eq_getElem?_getD]
      obtain rfl : j = k := by omega
      rcases hB with ⟨_, hk1, hc1⟩ | ⟨_, hk1, hc2, hc1⟩
      · rw [hc1] at hst
        have hRR := err hst (by simp)
        subst hRR
        have a2 : ¬ ((n + 1 + j : Nat) : Int) < s.length := by omega
        have a3 : (((n + 1 + j : Nat) : Int) == (s.length : Int)) = true := beq_iff_eq.2 (by omega)
        clear next err rest skip hg2 hkn e1
        generalize n + 1 + j = m at *
        repeat (first | ((first | (with_reducible first | refine zP fun K_ hK_ => ?_ | refine zQ fun K_ hK_ => ?_ | refine zT ?_ | refine zU ?_ | refine zV ?_ | refine zW ?_ | refine zX ?_ | refine zY ?_) | ((with_reducible first | refine zR ?_ ?_ fun K_ hK_ => ?_ | refine zS ?_ ?_ fun K_ hK_ => ?_); (focus kernel_rfl); (focus kernel_rfl))); first | (simp (maxSteps := 1000000) (disch := refine hold_ ?_; first | (simp [hsz, hn, hnz, hgg, hg3, a2, a3, -List.getD_eq_getElem?_getD]; done) | omega) [hsz, hn, hnz, hgg, hg3, a2, a3, -List.getD_eq_getElem?_getD]; try first | (with_reducible refine zZ ?_) | subst hK_) | subst hK_) | (with_reducible first | refine zA ?_ | refine zB ?_ | refine zC ?_ | refine zD ?_ | refine zE ?_ | refine zF ?_ | refine zG ?_ | refine zH ?_ | refine zI ?_ | refine zJ ?_ | refine zK ?_ | refine zL ?_ | refine zM ?_ | refine zN ?_ | refine zO ?_) | ((with_reducible refine yG ?_ ?_); (focus decide)) | ((with_reducible refine yA ?_); refine yB rfl ?_; (with_reducible first | refine yC ?_ | refine yD ?_)))
        all_goals simp (maxSteps := 1000000) (disch := refine hold_ ?_; first | (simp [lexV, lexN, -List.getD_eq_getElem?_getD]; done) | omega) [lexV, lexN, -List.getD_eq_getElem?_getD]
      · rw [hc1] at hst
        have hdr : s.drop (n + 1 + j + 1) = S1.drop (j + 1) := by
          rw [← hS1, List.drop_drop, ← hSg, List.drop_drop]; congr 1; omega
        simp only [if_true] at hst
        rw [← hdr] at hst
        obtain ⟨_, hlt, hI2⟩ := next (by omega) hst
        have ks := skip (n + 1 + j + 1) (by omega)
        have hle2 := hI2.le
        have hlt2 : n < n + 1 + j + 1 + blks (s.drop (n + 1 + j + 1)) := by omega
        have a1 : n + 1 + j < s.length := by omega
        have a2 : ((n + 1 + j : Nat) : Int) < s.length := by omega
        have a3 : (((n + 1 + j : Nat) : Int) == (s.length : Int)) = false := beq_eq_false_iff_ne.2 (by omega)
        rw [hc2, hU] at hg3
        have w2 : IntKind.i64.wrap (((n + 1 + j : Nat) : Int) + 1) = ((n + 1 + j + 1 : Nat) : Int) := by rw [wrap_i64 _ (by omega) (by omega)]; omega
        have x1 : (txt s).extract (n + 1) (n + 1 + j) = txt (S1.take j) := by
          rw [txt_extract, ← List.take_drop, ← hS1, ← hSg, List.drop_drop]
        have b1 : n + 1 ≤ n + 1 + j := by omega
        have b2 : ((n + 1 : Nat) : Int) ≤ ((n + 1 + j : Nat) : Int) := by omega
        have b3 : n + 1 + j ≤ s.length := by omega
        have b4 : ((n + 1 + j : Nat) : Int) ≤ s.length := by omega
        have ha : appRow (tkR T) (.vals 3 [.agg (.vals 1 [.int .i64 2, .str (txt (S1.take j)), .int .i64 0])]) = some (tkR (T ++ [⟨2, S1.take j, 0⟩])) := happ ⟨2, S1.take j, 0⟩
        have hT2 : (T ++ [(⟨2, S1.take j, 0⟩ : Tok)]).length * 32 ≤ 140737488355328 := by simp only [List.length_append, List.length_cons, List.length_nil]; omega
        clear next err rest skip hg2 hkn e1 hst
        generalize T ++ [⟨2, S1.take j, 0⟩] = T2 at *
        generalize n + 1 + j + 1 + blks (s.drop (n + 1 + j + 1)) = n2 at *
        generalize n + 1 + j + 1 = n1 at *
        generalize n + 1 + j = m at *
        generalize n + 1 = m0 at *
        repeat (first | ((with_reducible first | refine callK_at 15 ?_); refine callK_p ?_; simp (maxSteps := 1000000) (disch := refine hold_ ?_; first | (simp [hsz, hn, hnz, hgg, hg3, a1, a2, a3, w1, w2, x1, b1, b2, b3, b4, ha, hT2, -List.getD_eq_getElem?_getD]; done) | omega) [hsz, hn, hnz, hgg, hg3, a1, a2, a3, w1, w2, x1, b1, b2, b3, b4, ha, hT2, -List.getD_eq_getElem?_getD]; (first | refine callK1_of (Fn.ct ks Tryd.call15) ?_); (try simp (maxSteps := 1000000) (disch := refine hold_ ?_; first | (simp [hsz, hn, hnz, hgg, hg3, a1, a2, a3, w1, w2, x1, b1, b2, b3, b4, ha, hT2, -List.getD_eq_getElem?_getD]; done) | omega) [hsz, hn, hnz, hgg, hg3, a1, a2, a3, w1, w2, x1, b1, b2, b3, b4, ha, hT2, -List.getD_eq_getElem?_getD]); first | (with_reducible refine zZ ?_) | subst hK_) | ((first | (with_reducible first | refine zP fun K_ hK_ => ?_ | refine zQ fun K_ hK_ => ?_ | refine zT ?_ | refine zU ?_ | refine zV ?_ | refine zW ?_ | refine zX ?_ | refine zY ?_) | ((with_reducible first | refine zR ?_ ?_ fun K_ hK_ => ?_ | refine zS ?_ ?_ fun K_ hK_ => ?_); (focus kernel_rfl); (focus kernel_rfl))); first | (simp (maxSteps := 1000000) (disch := refine hold_ ?_; first | (simp [hsz, hn, hnz, hgg, hg3, a1, a2, a3, w1, w2, x1, b1, b2, b3, b4, ha, hT2, -List.getD_eq_getElem?_getD]; done) | omega) [hsz, hn, hnz, hgg, hg3, a1, a2, a3, w1, w2, x1, b1, b2, b3, b4, ha, hT2, -List.getD_eq_getElem?_getD]; try first | (with_reducible refine zZ ?_) | subst hK_) | subst hK_) | (with_reducible first | refine zA ?_ | refine zB ?_ | refine zC ?_ | refine zD ?_ | refine zE ?_ | refine zF ?_ | refine zG ?_ | refine zH ?_ | refine zI ?_ | refine zJ ?_ | refine zK ?_ | refine zL ?_ | refine zM ?_ | refine zN ?_ | refine zO ?_) | ((with_reducible refine yG ?_ ?_); (focus decide)) | ((with_reducible refine yA ?_); refine yB rfl ?_; (with_reducible first | refine yC ?_ | refine yD ?_)))
        refine ⟨s.length - n2, rxSt s n2 (T2) false, by omega, ?_, n2, T2, false, rfl, hI2, rfl⟩
        (unfold rxSt; simp (maxSteps := 1000000) (disch := refine hold_ ?_; first | (simp [-List.getD_eq_getElem?_getD]; done) | omega) [-List.getD_eq_getElem?_getD])
    · have g1 : decide ((48 : Int) ≤ 34) = false := rfl
      subst hq3
      repeat (first | ((with_reducible first | refine callK_at 16 ?_); refine callK_p ?_; simp (maxSteps := 1000000) (disch := refine hold_ ?_; first | (simp [hsz, hn, hnz, hgg, g1, w1, -List.getD_eq_getElem?_getD]; done) | omega) [hsz, hn, hnz, hgg, g1, w1, -List.getD_eq_getElem?_getD]; (first | refine callK1_of (Fn.ct k16 Tryd.call16) ?_); (try simp (maxSteps := 1000000) (disch := refine hold_ ?_; first | (simp [hsz, hn, hnz, hgg, g1, w1, -List.getD_eq_getElem?_getD]; done) | omega) [hsz, hn, hnz, hgg, g1, w1, -List.getD_eq_getElem?_getD]); first | (with_reducible refine zZ ?_) | subst hK_) | ((first | (with_reducible first | refine zP fun K_ hK_ => ?_ | refine zQ fun K_ hK_ => ?_ | refine zT ?_ | refine zU ?_ | refine zV ?_ | refine zW ?_ | refine zX ?_ | refine zY ?_) | ((with_reducible first | refine zR ?_ ?_ fun K_ hK_ => ?_ | refine zS ?_ ?_ fun K_ hK_ => ?_); (focus kernel_rfl); (focus kernel_rfl))); first | (simp (maxSteps := 1000000) (disch := refine hold_ ?_; first | (simp [hsz, hn, hnz, hgg, g1, w1, -List.getD_eq_getElem?_getD]; done) | omega) [hsz, hn, hnz, hgg, g1, w1, -List.getD_eq_getElem?_getD]; try first | (with_reducible refine zZ ?_) | subst hK_) | subst hK_) | (with_reducible first | refine zA ?_ | refine zB ?_ | refine zC ?_ | refine zD ?_ | refine zE ?_ | refine zF ?_ | refine zG ?_ | refine zH ?_ | refine zI ?_ | refine zJ ?_ | refine zK ?_ | refine zL ?_ | refine zM ?_ | refine zN ?_ | refine zO ?_) | ((with_reducible refine yG ?_ ?_); (focus decide)) | ((with_reducible refine yA ?_); refine yB rfl ?_; (with_reducible first | refine yC ?_ | refine yD ?_)))
      refine AW.iter (true :: false :: false :: false :: true :: true :: false :: false :: false :: false :: false :: true :: false :: false :: false :: false :: false :: false :: false :: false :: false :: false :: false :: false :: false :: false :: false :: false :: false :: false :: false :: false :: false :: false :: false :: false :: false :: false :: false :: false :: false :: false :: false :: false :: false :: false :: false :: false :: false :: false :: false :: false :: false :: false :: false :: false :: false :: false :: false :: false :: false :: false :: false :: false :: false :: false :: false :: false :: false :: false :: false :: false :: false :: false :: false :: false :: false :: false :: false :: false :: false :: false :: false :: false :: false :: false :: false :: false :: false :: false :: false :: false :: false :: false :: false :: false :: false :: false :: false :: false :: false :: false :: false :: false :: false :: false :: false :: false :: false :: false :: false :: false :: false :: false :: false :: false :: false :: false :: false :: false :: false :: false :: false :: false :: false :: false :: false :: false :: false :: false :: false :: false :: false :: false :: false :: false :: false :: false :: false :: false :: false :: false :: false :: false :: false :: false :: false :: false :: false :: false :: false :: false :: false :: false :: false :: false :: false :: false :: false :: false :: false :: false :: false :: false :: false :: false :: false :: false :: false :: false :: false :: false :: false :: false :: false :: false :: false :: false :: false :: false :: false :: false :: false :: false :: false :: false :: false :: false :: false :: false :: false :: false :: false :: false :: false :: false :: false :: false :: false :: false :: false :: false :: false :: false :: false :: false :: []) k (fun j => ⟨(.p (.str (txt s)) :: V.junk :: V.junk :: V.junk :: .row (tkR T) 0 0 nl :: .p (.int .i64 n) :: V.junk :: V.junk :: V.junk :: V.junk :: V.junk :: .p (.int .i64 (n + 1 + j : Nat)) :: V.junk :: V.junk :: V.junk :: V.junk :: V.junk :: V.junk :: V.junk :: V.junk :: V.junk :: V.junk :: V.junk :: V.junk :: V.junk :: V.junk :: V.junk :: V.junk :: V.junk :: V.junk :: V.junk :: V.junk :: V.junk :: V.junk :: V.junk :: V.junk :: V.junk :: V.junk :: V.junk :: V.junk :: V.junk :: V.junk :: V.junk :: V.junk :: V.junk :: V.junk :: V.junk :: V.junk :: V.junk :: V.junk :: V.junk :: V.junk :: V.junk :: V.junk :: V.junk :: V.junk :: V.junk :: V.junk :: V.junk :: V.junk :: V.junk :: V.junk :: V.junk :: V.junk :: V.junk :: V.junk :: V.junk :: V.junk :: V.junk :: V.junk :: V.junk :: V.junk :: V.junk :: V.junk :: V.junk :: V.junk :: V.junk :: V.junk :: V.junk :: V.junk :: V.junk :: V.junk :: V.junk :: V.junk :: V.junk :: V.junk :: V.junk :: V.junk :: V.junk :: V.junk :: V.junk :: V.junk :: V.junk :: V.junk :: V.junk :: V.junk :: V.junk :: V.junk :: V.junk :: V.junk :: V.junk :: V.junk :: V.junk :: V.junk :: V.junk :: V.junk :: V.junk :: V.junk :: V.junk :: V.junk :: V.junk :: V.junk :: V.junk :: V.junk :: V.junk :: V.junk :: V.junk :: V.junk :: V.junk :: V.junk :: V.junk :: V.junk :: V.junk :: V.junk :: V.junk :: V.junk :: V.junk :: V.junk :: V.junk :: V.junk :: V.junk :: V.junk :: V.junk :: V.junk :: V.junk :: V.junk :: V.junk :: V.junk :: V.junk :: V.junk :: V.junk :: V.junk :: V.junk :: V.junk :: V.junk :: V.junk :: V.junk :: V.junk :: V.junk :: V.junk :: V.junk :: V.junk :: V.junk :: V.junk :: V.junk :: V.junk :: V.junk :: V.junk :: V.junk :: V.junk :: V.junk :: V.junk :: V.junk :: V.junk :: V.junk :: V.junk :: V.junk :: V.junk :: V.junk :: V.junk :: V.junk :: V.junk :: V.junk :: V.junk :: V.junk :: V.junk :: V.junk :: V.junk :: V.junk :: V.junk :: V.junk :: V.junk :: V.junk :: V.junk :: V.junk :: V.junk :: V.junk :: V.junk :: V.junk :: V.junk :: V.junk :: V.junk :: V.junk :: V.junk :: V.junk :: V.junk :: V.junk :: V.junk :: V.junk :: V.junk :: V.junk :: V.junk :: V.junk :: V.junk :: V.junk :: V.junk :: []), ⟨[], [(0, 0)]⟩⟩) ?_ ?_
      · simp (maxSteps := 1000000) (disch := refine hold_ ?_; first | (simp [-List.getD_eq_getElem?_getD]; done) | omega) [-List.getD_eq_getElem?_getD]
      intro j hj
      have hg3 := hg2 j
      have e1 : IntKind.i64.wrap (((n + 1 + j : Nat) : Int) + 1) = ((n + 1 + (j + 1) : Nat) : Int) := by rw [wrap_i64 _ (by omega) (by omega)]; omega
      by_cases hjk : j < k
      · have a1 : n + 1 + j < s.length := by omega
        have a2 : ((n + 1 + j : Nat) : Int) < s.length := by omega
        have a3 := hkn j hjk
        clear hB next err rest skip hg2 hkn
        generalize hmm : n + 1 + (j + 1) = m1 at *
        generalize n + 1 + j = m at *
        repeat (first | ((first | (with_reducible first | refine zP fun K_ hK_ => ?_ | refine zQ fun K_ hK_ => ?_ | refine zT ?_ | refine zU ?_ | refine zV ?_ | refine zW ?_ | refine zX ?_ | refine zY ?_) | ((with_reducible first | refine zR ?_ ?_ fun K_ hK_ => ?_ | refine zS ?_ ?_ fun K_ hK_ => ?_); (focus kernel_rfl); (focus kernel_rfl))); first | (simp (maxSteps := 1000000) (disch := refine hold_ ?_; first | (simp [hsz, hn, hnz, hgg, hg3, a1, a2, a3, e1, -List.getD_eq_getElem?_getD]; done) | omega) [hsz, hn, hnz, hgg, hg3, a1, a2, a3, e1, -List.getD_eq_getElem?_getD]; try first | (with_reducible refine zZ ?_) | subst hK_) | subst hK_) | (with_reducible first | refine zA ?_ | refine zB ?_ | refine zC ?_ | refine zD ?_ | refine zE ?_ | refine zF ?_ | refine zG ?_ | refine zH ?_ | refine zI ?_ | refine zJ ?_ | refine zK ?_ | refine zL ?_ | refine zM ?_ | refine zN ?_ | refine zO ?_) | ((with_reducible refine yG ?_ ?_); (focus decide)) | ((with_reducible refine yA ?_); refine yB rfl ?_; (with_reducible first | refine yC ?_ | refine yD ?_)))
        refine ⟨hjk, ?_⟩
        simp (maxSteps := 1000000) (disch := refine hold_ ?_; first | (simp [-List.getD_eq_getElem?_getD]; done) | omega) [-List.getD_eq_getElem?_getD]
      obtain rfl : j = k := by omega
      rcases hB with ⟨_, hk1, hc1⟩ | ⟨_, hk1, hc2, hc1⟩
      · rw [hc1] at hst
        have hRR := err hst (by simp)
        subst hRR
        have a2 : ¬ ((n + 1 + j : Nat) : Int) < s.length := by omega
        have a3 : (((n + 1 + j : Nat) : Int) == (s.length : Int)) = true := beq_iff_eq.2 (by omega)
        clear next err rest skip hg2 hkn e1
        generalize n + 1 + j = m at *
        repeat (first | ((first | (with_reducible first | refine zP fun K_ hK_ => ?_ | refine zQ fun K_ hK_ => ?_ | refine zT ?_ | refine zU ?_ | refine zV ?_ | refine zW ?_ | refine zX ?_ | refine zY ?_) | ((with_reducible first | refine zR ?_ ?_ fun K_ hK_ => ?_ | refine zS ?_ ?_ fun K_ hK_ => ?_); (focus kernel_rfl); (focus kernel_rfl))); first | (simp (maxSteps := 1000000) (disch := refine hold_ ?_; first | (simp [hsz, hn, hnz, hgg, hg3, a2, a3, -List.getD_eq_getElem?_getD]; done) | omega) [hsz, hn, hnz, hgg, hg3, a2, a3, -List.getD_eq_getElem?_getD]; try first | (with_reducible refine zZ ?_) | subst hK_) | subst hK_) | (with_reducible first | refine zA ?_ | refine zB ?_ | refine zC ?_ | refine zD ?_ | refine zE ?_ | refine zF ?_ | refine zG ?_ | refine zH ?_ | refine zI ?_ | refine zJ ?_ | refine zK ?_ | refine zL ?_ | refine zM ?_ | refine zN ?_ | refine zO ?_) | ((with_reducible refine yG ?_ ?_); (focus decide)) | ((with_reducible refine yA ?_); refine yB rfl ?_; (with_reducible first | refine yC ?_ | refine yD ?_)))
        all_goals simp (maxSteps := 1000000) (disch := refine hold_ ?_; first | (simp [lexV, lexN, -List.getD_eq_getElem?_getD]; done) | omega) [lexV, lexN, -List.getD_eq_getElem?_getD]
      · rw [hc1] at hst
        have hdr : s.drop (n + 1 + j + 1) = S1.drop (j + 1) := by
          rw [← hS1, List.drop_drop, ← hSg, List.drop_drop]; congr 1; omega
        simp only [if_true] at hst
        rw [← hdr] at hst
        obtain ⟨_, hlt, hI2⟩ := next (by omega) hst
        have ks := skip (n + 1 + j + 1) (by omega)
        have hle2 := hI2.le
        have hlt2 : n < n + 1 + j + 1 + blks (s.drop (n + 1 + j + 1)) := by omega
        have a1 : n + 1 + j < s.length := by omega
        have a2 : ((n + 1 + j : Nat) : Int) < s.length := by omega
        have a3 : (((n + 1 + j : Nat) : Int) == (s.length : Int)) = false := beq_eq_false_iff_ne.2 (by omega)
        rw [hc2, hU] at hg3
        have w2 : IntKind.i64.wrap (((n + 1 + j : Nat) : Int) + 1) = ((n + 1 + j + 1 : Nat) : Int) := by rw [wrap_i64 _ (by omega) (by omega)]; omega
        have x1 : (txt s).extract (n + 1) (n + 1 + j) = txt (S1.take j) := by
          rw [txt_extract, ← List.take_drop, ← hS1, ← hSg, List.drop_drop]
        have b1 : n + 1 ≤ n + 1 + j := by omega
        have b2 : ((n + 1 : Nat) : Int) ≤ ((n + 1 + j : Nat) : Int) := by omega
        have b3 : n + 1 + j ≤ s.length := by omega
        have b4 : ((n + 1 + j : Nat) : Int) ≤ s.length := by omega
        have ha : appRow (tkR T) (.vals 3 [.agg (.vals 1 [.int .i64 2, .str (txt (S1.take j)), .int .i64 0])]) = some (tkR (T ++ [⟨2, S1.take j, 0⟩])) := happ ⟨2, S1.take j, 0⟩
        have hT2 : (T ++ [(⟨2, S1.take j, 0⟩ : Tok)]).length * 32 ≤ 140737488355328 := by simp only [List.length_append, List.length_cons, List.length_nil]; omega
        clear next err rest skip hg2 hkn e1 hst
        generalize T ++ [⟨2, S1.take j, 0⟩] = T2 at *
        generalize n + 1 + j + 1 + blks (s.drop (n + 1 + j + 1)) = n2 at *
        generalize n + 1 + j + 1 = n1 at *
        generalize n + 1 + j = m at *
        generalize n + 1 = m0 at *
        repeat (first | ((with_reducible first | refine callK_at 15 ?_); refine callK_p ?_; simp (maxSteps := 1000000) (disch := refine hold_ ?_; first | (simp [hsz, hn, hnz, hgg, hg3, a1, a2, a3, w1, w2, x1, b1, b2, b3, b4, ha, hT2, -List.getD_eq_getElem?_getD]; done) | omega) [hsz, hn, hnz, hgg, hg3, a1, a2, a3, w1, w2, x1, b1, b2, b3, b4, ha, hT2, -List.getD_eq_getElem?_getD]; (first | refine callK1_of (Fn.ct ks Tryd.call15) ?_); (try simp (maxSteps := 1000000) (disch := refine hold_ ?_; first | (simp [hsz, hn, hnz, hgg, hg3, a1, a2, a3, w1, w2, x1, b1, b2, b3, b4, ha, hT2, -List.getD_eq_getElem?_getD]; done) | omega) [hsz, hn, hnz, hgg, hg3, a1, a2, a3, w1, w2, x1, b1, b2, b3, b4, ha, hT2, -List.getD_eq_getElem?_getD]); first | (with_reducible refine zZ ?_) | subst hK_) | ((first | (with_reducible first | refine zP fun K_ hK_ => ?_ | refine zQ fun K_ hK_ => ?_ | refine zT ?_ | refine zU ?_ | refine zV ?_ | refine zW ?_ | refine zX ?_ | refine zY ?_) | ((with_reducible first | refine zR ?_ ?_ fun K_ hK_ => ?_ | refine zS ?_ ?_ fun K_ hK_ => ?_); (focus kernel_rfl); (focus kernel_rfl))); first | (simp (maxSteps := 1000000) (disch := refine hold_ ?_; first | (simp [hsz, hn, hnz, hgg, hg3, a1, a2, a3, w1, w2, x1, b1, b2, b3, b4, ha, hT2, -List.getD_eq_getElem?_getD]; done) | omega) [hsz, hn, hnz, hgg, hg3, a1, a2, a3, w1, w2, x1, b1, b2, b3, b4, ha, hT2, -List.getD_eq_getElem?_getD]; try first | (with_reducible refine zZ ?_) | subst hK_) | subst hK_) | (with_reducible first | refine zA ?_ | refine zB ?_ | refine zC ?_ | refine zD ?_ | refine zE ?_ | refine zF ?_ | refine zG ?_ | refine zH ?_ | refine zI ?_ | refine zJ ?_ | refine zK ?_ | refine zL ?_ | refine zM ?_ | refine zN ?_ | refine zO ?_) | ((with_reducible refine yG ?_ ?_); (focus decide)) | ((with_reducible refine yA ?_); refine yB rfl ?_; (with_reducible first | refine yC ?_ | refine yD ?_)))
        refine ⟨s.length - n2, rxSt s n2 (T2) false, by omega, ?_, n2, T2, false, rfl, hI2, rfl⟩
        (unfold rxSt; simp (maxSteps := 1000000) (disch := refine hold_ ?_; first | (simp [-List.getD_eq_getElem?_getD]; done) | omega) [-List.getD_eq_getElem?_getD])
  rw [if_neg hq] at hst
  have n34 : (ub (S.getD 0 0#8) == 34) = false := beq_eq_false_iff_ne.2 fun e => hq (.inl (e34.1 e))
  have n39 : (ub (S.getD 0 0#8) == 39) = false := beq_eq_false_iff_ne.2 fun e => hq (.inr (e39.1 e))
  have w1 : IntKind.i64.wrap ((n : Int) + 1) = ((n + 1 : Nat) : Int) := by rw [wrap_i64 _ (by omega) (by omega)]; omega
  have hT1 : ∀ t : Tok, (T ++ [t]).length * 32 ≤ 140737488355328 := fun t => by simp only [List.length_append, List.length_cons, List.length_nil]; omega
  by_cases hs : S.getD 0 0#8 = 42#8
  · rw [if_pos hs] at hst
    have h42 : ub (S.getD 0 0#8) = 42 := e42.2 hs
    rw [h42] at hgg
    rw [← rest 1] at hst
    obtain ⟨_, hlt, hI2⟩ := next (by omega) hst
    have ks := skip (n + 1) (by omega)
    have hle2 := hI2.le
    have hlt2 : n < n + 1 + blks (s.drop (n + 1)) := by omega
    have g1 : decide ((48 : Int) ≤ 42) = false := rfl
    have ha1 : appRow (tkR T) (.vals 3 [.agg (.vals 1 [.int .i64 1, .str (ByteArray.mk #[42]), .int .i64 0])]) = some (tkR (T ++ [⟨1, [42#8], 0⟩])) := happ ⟨1, [42#8], 0⟩
    have ha4 : appRow (tkR T) (.vals 3 [.agg (.vals 1 [.int .i64 4, .str ByteArray.empty, .int .i64 0])]) = some (tkR (T ++ [⟨4, [], 0⟩])) := happ ⟨4, [], 0⟩
    have hb1 := hT1 ⟨1, [42#8], 0⟩
    have hb4 := hT1 ⟨4, [], 0⟩
    clear next err rest skip kat hsn k17 k19 k21 happ hT1 e34 e39 e42 hub hnd hnd2 n34 n39 hq hd hs hst h42
    generalize hL : lookB T = L at *
    generalize n + 1 + blks (s.drop (n + 1)) = n2 at *
    generalize n + 1 = n1 at *
    cases L with
    | true =>
      simp only [if_true] at hI2
      generalize T ++ [⟨1, [42#8], 0⟩] = T2 at *
      clear ha4 hb4
      repeat (first | ((with_reducible first | refine callK_at 16 ?_ | refine callK_at 18 ?_ | refine callK_at 15 ?_); refine callK_p ?_; simp (maxSteps := 1000000) (disch := refine hold_ ?_; first | (simp [hsz, hn, hnz, hgg, g1, w1, ha1, hb1, -List.getD_eq_getElem?_getD]; done) | omega) [hsz, hn, hnz, hgg, g1, w1, ha1, hb1, -List.getD_eq_getElem?_getD]; (first | refine callK1_of (Fn.ct k16 Tryd.call16) ?_ | refine callK1_of (Fn.ct k18 Tryd.call18) ?_ | refine callK1_of (Fn.ct ks Tryd.call15) ?_); (try simp (maxSteps := 1000000) (disch := refine hold_ ?_; first | (simp [hsz, hn, hnz, hgg, g1, w1, ha1, hb1, -List.getD_eq_getElem?_getD]; done) | omega) [hsz, hn, hnz, hgg, g1, w1, ha1, hb1, -List.getD_eq_getElem?_getD]); first | (with_reducible refine zZ ?_) | subst hK_) | ((first | (with_reducible first | refine zP fun K_ hK_ => ?_ | refine zQ fun K_ hK_ => ?_ | refine zT ?_ | refine zU ?_ | refine zV ?_ | refine zW ?_ | refine zX ?_ | refine zY ?_) | ((with_reducible first | refine zR ?_ ?_ fun K_ hK_ => ?_ | refine zS ?_ ?_ fun K_ hK_ => ?_); (focus kernel_rfl); (focus kernel_rfl))); first | (simp (maxSteps := 1000000) (disch := refine hold_ ?_; first | (simp [hsz, hn, hnz, hgg, g1, w1, ha1, hb1, -List.getD_eq_getElem?_getD]; done) | omega) [hsz, hn, hnz, hgg, g1, w1, ha1, hb1, -List.getD_eq_getElem?_getD]; try first | (with_reducible refine zZ ?_) | subst hK_) | subst hK_) | (with_reducible first | refine zA ?_ | refine zB ?_ | refine zC ?_ | refine zD ?_ | refine zE ?_ | refine zF ?_ | refine zG ?_ | refine zH ?_ | refine zI ?_ | refine zJ ?_ | refine zK ?_ | refine zL ?_ | refine zM ?_ | refine zN ?_ | refine zO ?_) | ((with_reducible refine yG ?_ ?_); (focus decide)) | ((with_reducible refine yA ?_); refine yB rfl ?_; (with_reducible first | refine yC ?_ | refine yD ?_)))
      refine ⟨s.length - n2, rxSt s n2 (T2) false, by omega, ?_, n2, T2, false, rfl, hI2, rfl⟩
      (unfold rxSt; simp (maxSteps := 1000000) (disch := refine hold_ ?_; first | (simp [-List.getD_eq_getElem?_getD]; done) | omega) [-List.getD_eq_getElem?_getD])
    | false =>
      simp only [Bool.false_eq_true, if_false] at hI2
      generalize T ++ [⟨4, [], 0⟩] = T2 at *
      clear ha1 hb1
      repeat (first | ((with_reducible first | refine callK_at 16 ?_ | refine callK_at 18 ?_ | refine callK_at 15 ?_); refine callK_p ?_; simp (maxSteps := 1000000) (disch := refine hold_ ?_; first | (simp [hsz, hn, hnz, hgg, g1, w1, ha4, hb4, -List.getD_eq_getElem?_getD]; done) | omega) [hsz, hn, hnz, hgg, g1, w1, ha4, hb4, -List.getD_eq_getElem?_getD]; (first | refine callK1_of (Fn.ct k16 Tryd.call16) ?_ | refine callK1_of (Fn.ct k18 Tryd.call18) ?_ | refine callK1_of (Fn.ct ks Tryd.call15) ?_); (try simp (maxSteps := 1000000) (disch := refine hold_ ?_; first | (simp [hsz, hn, hnz, hgg, g1, w1, ha4, hb4, -List.getD_eq_getElem?_getD]; done) | omega) [hsz, hn, hnz, hgg, g1, w1, ha4, hb4, -List.getD_eq_getElem?_getD]); first | (with_reducible refine zZ ?_) | subst hK_) | ((first | (with_reducible first | refine zP fun K_ hK_ => ?_ | refine zQ fun K_ hK_ => ?_ | refine zT ?_ | refine zU ?_ | refine zV ?_ | refine zW ?_ | refine zX ?_ | refine zY ?_) | ((with_reducible first | refine zR ?_ ?_ fun K_ hK_ => ?_ | refine zS ?_ ?_ fun K_ hK_ => ?_); (focus kernel_rfl); (focus kernel_rfl))); first | (simp (maxSteps := 1000000) (disch := refine hold_ ?_; first | (simp [hsz, hn, hnz, hgg, g1, w1, ha4, hb4, -List.getD_eq_getElem?_getD]; done) | omega) [hsz, hn, hnz, hgg, g1, w1, ha4, hb4, -List.getD_eq_getElem?_getD]; try first | (with_reducible refine zZ ?_) | subst hK_) | subst hK_) | (with_reducible first | refine zA ?_ | refine zB ?_ | refine zC ?_ | refine zD ?_ | refine zE ?_ | refine zF ?_ | refine zG ?_ | refine zH ?_ | refine zI ?_ | refine zJ ?_ | refine zK ?_ | refine zL ?_ | refine zM ?_ | refine zN ?_ | refine zO ?_) | ((with_reducible refine yG ?_ ?_); (focus decide)) | ((with_reducible refine yA ?_); refine yB rfl ?_; (with_reducible first | refine yC ?_ | refine yD ?_)))
      refine ⟨s.length - n2, rxSt s n2 (T2) false, by omega, ?_, n2, T2, false, rfl, hI2, rfl⟩
      (unfold rxSt; simp (maxSteps := 1000000) (disch := refine hold_ ?_; first | (simp [-List.getD_eq_getElem?_getD]; done) | omega) [-List.getD_eq_getElem?_getD])
  rw [if_neg hs] at hst
  have n42 : (ub (S.getD 0 0#8) == 42) = false := beq_eq_false_iff_ne.2 fun e => hs (e42.1 e)
  clear e34 e39 e42 hub hd hq hs hnd k17
  generalize ub (S.getD 0 0#8) = U at *
  cases hsig : signL S with
  | some q =>
    rw [hsig] at hsn hst
    simp only at hsn hst
    obtain ⟨p1, p2, p3⟩ := signL_some hsig
    have hql := (preB_cons p1).1
    rw [← rest q.2.length] at hst
    obtain ⟨_, hlt, hI2⟩ := next (by omega) hst
    have ks := skip (n + q.2.length) (by omega)
    have hle2 := hI2.le
    have hlt2 : n < n + q.2.length + blks (s.drop (n + q.2.length)) := by omega
    have hq1 : sk = q.1 := by rw [← hsn]
    have hq2 : sx = q.2 := by rw [← hsn]
    subst hq1 hq2
    have hxs := txt_size q.2
    have hne : strBin .neq (txt q.2) (ByteArray.mk #[]) = some (.bool true) := by
      rw [show ByteArray.mk #[] = txt [] from rfl, str_neq_txt, beq_eq_false_iff_ne.2 (fun e => by rw [e] at p2; simp at p2)]; rfl
    have w2 : IntKind.i64.wrap ((n : Int) + q.2.length) = ((n + q.2.length : Nat) : Int) := by rw [wrap_i64 _ (by omega) (by omega)]; omega
    have ha : appRow (tkR T) (.vals 3 [.agg (.vals 1 [.int .i64 q.1, .str (txt q.2), .int .i64 0])]) = some (tkR (T ++ [⟨q.1, q.2, 0⟩])) := happ ⟨q.1, q.2, 0⟩
    have hb := hT1 ⟨q.1, q.2, 0⟩
    clear next err rest skip kat k18 k19 k21 happ hT1 hst hsn
    generalize T ++ [⟨q.1, q.2, 0⟩] = T2 at *
    generalize n + q.2.length + blks (s.drop (n + q.2.length)) = n2 at *
    generalize n + q.2.length = n1 at *
    generalize txt q.2 = X at *
    rcases hnd2 with g1 | ⟨g1, g2⟩
    · repeat (first | ((with_reducible first | refine callK_at 16 ?_ | refine callK_at 15 ?_); refine callK_p ?_; simp (maxSteps := 1000000) (disch := refine hold_ ?_; first | (simp [hsz, hn, hnz, hgg, g1, n34, n39, n42, hxs, hne, w2, ha, hb, -List.getD_eq_getElem?_getD]; done) | omega) [hsz, hn, hnz, hgg, g1, n34, n39, n42, hxs, hne, w2, ha, hb, -List.getD_eq_getElem?_getD]; (first | refine callK1_of (Fn.ct k16 Tryd.call16) ?_ | refine callK1_of (Fn.ct ks Tryd.call15) ?_); (try simp (maxSteps := 1000000) (disch := refine hold_ ?_; first | (simp [hsz, hn, hnz, hgg, g1, n34, n39, n42, hxs, hne, w2, ha, hb, -List.getD_eq_getElem?_getD]; done) | omega) [hsz, hn, hnz, hgg, g1, n34, n39, n42, hxs, hne, w2, ha, hb, -List.getD_eq_getElem?_getD]); first | (with_reducible refine zZ ?_) | subst hK_) | ((first | (with_reducible first | refine zP fun K_ hK_ => ?_ | refine zQ fun K_ hK_ => ?_ | refine zT ?_ | refine zU ?_ | refine zV ?_ | refine zW ?_ | refine zX ?_ | refine zY ?_) | ((with_reducible first | refine zR ?_ ?_ fun K_ hK_ => ?_ | refine zS ?_ ?_ fun K_ hK_ => ?_); (focus kernel_rfl); (focus kernel_rfl))); first | (simp (maxSteps := 1000000) (disch := refine hold_ ?_; first | (simp [hsz, hn, hnz, hgg, g1, n34, n39, n42, hxs, hne, w2, ha, hb, -List.getD_eq_getElem?_getD]; done) | omega) [hsz, hn, hnz, hgg, g1, n34, n39, n42, hxs, hne, w2, ha, hb, -List.getD_eq_getElem?_getD]; try first | (with_reducible refine zZ ?_) | subst hK_) | subst hK_) | (with_reducible first | refine zA ?_ | refine zB ?_ | refine zC ?_ | refine zD ?_ | refine zE ?_ | refine zF ?_ | refine zG ?_ | refine zH ?_ | refine zI ?_ | refine zJ ?_ | refine zK ?_ | refine zL ?_ | refine zM ?_ | refine zN ?_ | refine zO ?_) | ((with_reducible refine yG ?_ ?_); (focus decide)) | ((with_reducible refine yA ?_); refine yB rfl ?_; (with_reducible first | refine yC ?_ | refine yD ?_)))
      refine ⟨s.length - n2, rxSt s n2 (T2) false, by omega, ?_, n2, T2, false, rfl, hI2, rfl⟩
      (unfold rxSt; simp (maxSteps := 1000000) (disch := refine hold_ ?_; first | (simp [-List.getD_eq_getElem?_getD]; done) | omega) [-List.getD_eq_getElem?_getD])
    · repeat (first | ((with_reducible first | refine callK_at 16 ?_ | refine callK_at 15 ?_); refine callK_p ?_; simp (maxSteps := 1000000) (disch := refine hold_ ?_; first | (simp [hsz, hn, hnz, hgg, g1, g2, n34, n39, n42, hxs, hne, w2, ha, hb, -List.getD_eq_getElem?_getD]; done) | omega) [hsz, hn, hnz, hgg, g1, g2, n34, n39, n42, hxs, hne, w2, ha, hb, -List.getD_eq_getElem?_getD]; (first | refine callK1_of (Fn.ct k16 Tryd.call16) ?_ | refine callK1_of (Fn.ct ks Tryd.call15) ?_); (try simp (maxSteps := 1000000) (disch := refine hold_ ?_; first | (simp [hsz, hn, hnz, hgg, g1, g2, n34, n39, n42, hxs, hne, w2, ha, hb, -List.getD_eq_getElem?_getD]; done) | omega) [hsz, hn, hnz, hgg, g1, g2, n34, n39, n42, hxs, hne, w2, ha, hb, -List.getD_eq_getElem?_getD]); first | (with_reducible refine zZ ?_) | subst hK_) | ((first | (with_reducible first | refine zP fun K_ hK_ => ?_ | refine zQ fun K_ hK_ => ?_ | refine zT ?_ | refine zU ?_ | refine zV ?_ | refine zW ?_ | refine zX ?_ | refine zY ?_) | ((with_reducible first | refine zR ?_ ?_ fun K_ hK_ => ?_ | refine zS ?_ ?_ fun K_ hK_ => ?_); (focus kernel_rfl); (focus kernel_rfl))); first | (simp (maxSteps := 1000000) (disch := refine hold_ ?_; first | (simp [hsz, hn, hnz, hgg, g1, g2, n34, n39, n42, hxs, hne, w2, ha, hb, -List.getD_eq_getElem?_getD]; done) | omega) [hsz, hn, hnz, hgg, g1, g2, n34, n39, n42, hxs, hne, w2, ha, hb, -List.getD_eq_getElem?_getD]; try first | (with_reducible refine zZ ?_) | subst hK_) | subst hK_) | (with_reducible first | refine zA ?_ | refine zB ?_ | refine zC ?_ | refine zD ?_ | refine zE ?_ | refine zF ?_ | refine zG ?_ | refine zH ?_ | refine zI ?_ | refine zJ ?_ | refine zK ?_ | refine zL ?_ | refine zM ?_ | refine zN ?_ | refine zO ?_) | ((with_reducible refine yG ?_ ?_); (focus decide)) | ((with_reducible refine yA ?_); refine yB rfl ?_; (with_reducible first | refine yC ?_ | refine yD ?_)))
      refine ⟨s.length - n2, rxSt s n2 (T2) false, by omega, ?_, n2, T2, false, rfl, hI2, rfl⟩
      (unfold rxSt; simp (maxSteps := 1000000) (disch := refine hold_ ?_; first | (simp [-List.getD_eq_getElem?_getD]; done) | omega) [-List.getD_eq_getElem?_getD])
  | none =>
  rw [hsig] at hsn hst
  simp only at hsn hst
  have hq1 : sk = 0 := by rw [Prod.mk.injEq] at hsn; exact hsn.1
  have hq2 : sx = [] := by rw [Prod.mk.injEq] at hsn; exact hsn.2
  subst hq1 hq2
  rw [show txt [] = ByteArray.mk #[] from rfl] at k16
  cases hL : lookB T with
  | true =>
    rw [hL] at hst k18
    simp only [if_true] at hst
    have hm : n + (wordL S).length ≤ s.length := by omega
    have w2 : IntKind.i64.wrap ((n : Int) + (wordL S).length) = ((n + (wordL S).length : Nat) : Int) := by rw [wrap_i64 _ (by omega) (by omega)]; omega
    have x1 : (txt s).extract n (n + (wordL S).length) = txt (wordL S) := by rw [hxx, wordL_take]
    have b2 : (n : Int) ≤ ((n + (wordL S).length : Nat) : Int) := by omega
    have b1 : n ≤ n + (wordL S).length := by omega
    have b4 : ((n + (wordL S).length : Nat) : Int) ≤ s.length := by omega
    have k1 := kat (wordL S).length [58#8] (by omega) (by simp)
    have k2 := kat (wordL S).length [58#8, 58#8] (by omega) (by simp)
    have q1 : strBin .neq (txt (wordL S)) (ByteArray.mk #[97, 110, 100]) = some (.bool !(wordL S == [97#8, 110#8, 100#8])) := str_neq_txt (wordL S) [97#8, 110#8, 100#8]
    have q2 : strBin .neq (txt (wordL S)) (ByteArray.mk #[111, 114]) = some (.bool !(wordL S == [111#8, 114#8])) := str_neq_txt (wordL S) [111#8, 114#8]
    have q3 : strBin .neq (txt (wordL S)) (ByteArray.mk #[109, 111, 100]) = some (.bool !(wordL S == [109#8, 111#8, 100#8])) := str_neq_txt (wordL S) [109#8, 111#8, 100#8]
    have q4 : strBin .neq (txt (wordL S)) (ByteArray.mk #[100, 105, 118]) = some (.bool !(wordL S == [100#8, 105#8, 118#8])) := str_neq_txt (wordL S) [100#8, 105#8, 118#8]
    have hop : opB S = (((wordL S == [97#8, 110#8, 100#8]) || ((wordL S == [111#8, 114#8]) || ((wordL S == [109#8, 111#8, 100#8]) || ((wordL S == [100#8, 105#8, 118#8]) || false)))) && !(preB (S.drop (wordL S).length) [58#8] && !preB (S.drop (wordL S).length) [58#8, 58#8])) := rfl
    have hdr := rest (wordL S).length
    unfold opR at hst
    have ha : appRow (tkR T) (.vals 3 [.agg (.vals 1 [.int .i64 1, .str (txt (wordL S)), .int .i64 0])]) = some (tkR (T ++ [⟨1, wordL S, 0⟩])) := happ ⟨1, wordL S, 0⟩
    have hb := hT1 ⟨1, wordL S, 0⟩
    cases hO : opB S with
    | false =>
      rw [hO] at hst hop
      have hRR := err hst (by simp)
      subst hRR
      clear next err rest skip kat k21 happ hT1 hst hdr
      generalize preB (S.drop (wordL S).length) [58#8] = P1 at *
      generalize preB (S.drop (wordL S).length) [58#8, 58#8] = P2 at *
      generalize (wordL S == [97#8, 110#8, 100#8]) = A1 at *
      generalize (wordL S == [111#8, 114#8]) = A2 at *
      generalize (wordL S == [109#8, 111#8, 100#8]) = A3 at *
      generalize (wordL S == [100#8, 105#8, 118#8]) = A4 at *
      generalize txt (wordL S) = X at *
      generalize n + (wordL S).length = n1 at *
      have hA : (A1 = true ∧ P1 = true ∧ P2 = false) ∨ (A1 = false ∧ A2 = true ∧ P1 = true ∧ P2 = false) ∨ (A1 = false ∧ A2 = false ∧ A3 = true ∧ P1 = true ∧ P2 = false) ∨ (A1 = false ∧ A2 = false ∧ A3 = false ∧ A4 = true ∧ P1 = true ∧ P2 = false) ∨ (A1 = false ∧ A2 = false ∧ A3 = false ∧ A4 = false) := by
        cases A1 <;> cases A2 <;> cases A3 <;> cases A4 <;> cases P1 <;> cases P2 <;> first | (exact absurd hop (by decide)) | decide
      rcases hA with ⟨rfl, rfl, rfl⟩ | ⟨rfl, rfl, rfl, rfl⟩ | ⟨rfl, rfl, rfl, rfl, rfl⟩ | ⟨rfl, rfl, rfl, rfl, rfl, rfl⟩ | ⟨rfl, rfl, rfl, rfl⟩
      all_goals
        rcases hnd2 with g1 | ⟨g1, g2⟩
        · repeat (first | ((with_reducible first | refine callK_at 16 ?_ | refine callK_at 18 ?_ | refine callK_at 19 ?_ | refine callK_at 20 ?_); refine callK_p ?_; simp (maxSteps := 1000000) (disch := refine hold_ ?_; first | (simp [hsz, hn, hnz, hgg, g1, n34, n39, n42, hnlz, hnle, hx0, w2, x1, hm, b1, b2, b4, q1, q2, q3, q4, -List.getD_eq_getElem?_getD]; done) | omega) [hsz, hn, hnz, hgg, g1, n34, n39, n42, hnlz, hnle, hx0, w2, x1, hm, b1, b2, b4, q1, q2, q3, q4, -List.getD_eq_getElem?_getD]; (first | refine callK1_of (Fn.ct k16 Tryd.call16) ?_ | refine callK1_of (Fn.ct k18 Tryd.call18) ?_ | refine callK1_of (Fn.ct k19 Tryd.call19) ?_ | refine callK1_of (Fn.ct k1 Tryd.call20) ?_ | refine callK1_of (Fn.ct k2 Tryd.call20) ?_); (try simp (maxSteps := 1000000) (disch := refine hold_ ?_; first | (simp [hsz, hn, hnz, hgg, g1, n34, n39, n42, hnlz, hnle, hx0, w2, x1, hm, b1, b2, b4, q1, q2, q3, q4, -List.getD_eq_getElem?_getD]; done) | omega) [hsz, hn, hnz, hgg, g1, n34, n39, n42, hnlz, hnle, hx0, w2, x1, hm, b1, b2, b4, q1, q2, q3, q4, -List.getD_eq_getElem?_getD]); first | (with_reducible refine zZ ?_) | subst hK_) | ((first | (with_reducible first | refine zP fun K_ hK_ => ?_ | refine zQ fun K_ hK_ => ?_ | refine zT ?_ | refine zU ?_ | refine zV ?_ | refine zW ?_ | refine zX ?_ | refine zY ?_) | ((with_reducible first | refine zR ?_ ?_ fun K_ hK_ => ?_ | refine zS ?_ ?_ fun K_ hK_ => ?_); (focus kernel_rfl); (focus kernel_rfl))); first | (simp (maxSteps := 1000000) (disch := refine hold_ ?_; first | (simp [hsz, hn, hnz, hgg, g1, n34, n39, n42, hnlz, hnle, hx0, w2, x1, hm, b1, b2, b4, q1, q2, q3, q4, -List.getD_eq_getElem?_getD]; done) | omega) [hsz, hn, hnz, hgg, g1, n34, n39, n42, hnlz, hnle, hx0, w2, x1, hm, b1, b2, b4, q1, q2, q3, q4, -List.getD_eq_getElem?_getD]; try first | (with_reducible refine zZ ?_) | subst hK_) | subst hK_) | (with_reducible first | refine zA ?_ | refine zB ?_ | refine zC ?_ | refine zD ?_ | refine zE ?_ | refine zF ?_ | refine zG ?_ | refine zH ?_ | refine zI ?_ | refine zJ ?_ | refine zK ?_ | refine zL ?_ | refine zM ?_ | refine zN ?_ | refine zO ?_) | ((with_reducible refine yG ?_ ?_); (focus decide)) | ((with_reducible refine yA ?_); refine yB rfl ?_; (with_reducible first | refine yC ?_ | refine yD ?_)))
          all_goals simp (maxSteps := 1000000) (disch := refine hold_ ?_; first | (simp [lexV, lexN, -List.getD_eq_getElem?_getD]; done) | omega) [lexV, lexN, -List.getD_eq_getElem?_getD]
        · repeat (first | ((with_reducible first | refine callK_at 16 ?_ | refine callK_at 18 ?_ | refine callK_at 19 ?_ | refine callK_at 20 ?_); refine callK_p ?_; simp (maxSteps := 1000000) (disch := refine hold_ ?_; first | (simp [hsz, hn, hnz, hgg, g1, g2, n34, n39, n42, hnlz, hnle, hx0, w2, x1, hm, b1, b2, b4, q1, q2, q3, q4, -List.getD_eq_getElem?_getD]; done) | omega) [hsz, hn, hnz, hgg, g1, g2, n34, n39, n42, hnlz, hnle, hx0, w2, x1, hm, b1, b2, b4, q1, q2, q3, q4, -List.getD_eq_getElem?_getD]; (first | refine callK1_of (Fn.ct k16 Tryd.call16) ?_ | refine callK1_of (Fn.ct k18 Tryd.call18) ?_ | refine callK1_of (Fn.ct k19 Tryd.call19) ?_ | refine callK1_of (Fn.ct k1 Tryd.call20) ?_ | refine callK1_of (Fn.ct k2 Tryd.call20) ?_); (try simp (maxSteps := 1000000) (disch := refine hold_ ?_; first | (simp [hsz, hn, hnz, hgg, g1, g2, n34, n39, n42, hnlz, hnle, hx0, w2, x1, hm, b1, b2, b4, q1, q2, q3, q4, -List.getD_eq_getElem?_getD]; done) | omega) [hsz, hn, hnz, hgg, g1, g2, n34, n39, n42, hnlz, hnle, hx0, w2, x1, hm, b1, b2, b4, q1, q2, q3, q4, -List.getD_eq_getElem?_getD]); first | (with_reducible refine zZ ?_) | subst hK_) | ((first | (with_reducible first | refine zP fun K_ hK_ => ?_ | refine zQ fun K_ hK_ => ?_ | refine zT ?_ | refine zU ?_ | refine zV ?_ | refine zW ?_ | refine zX ?_ | refine zY ?_) | ((with_reducible first | refine zR ?_ ?_ fun K_ hK_ => ?_ | refine zS ?_ ?_ fun K_ hK_ => ?_); (focus kernel_rfl); (focus kernel_rfl))); first | (simp (maxSteps := 1000000) (disch := refine hold_ ?_; first | (simp [hsz, hn, hnz, hgg, g1, g2, n34, n39, n42, hnlz, hnle, hx0, w2, x1, hm, b1, b2, b4, q1, q2, q3, q4, -List.getD_eq_getElem?_getD]; done) | omega) [hsz, hn, hnz, hgg, g1, g2, n34, n39, n42, hnlz, hnle, hx0, w2, x1, hm, b1, b2, b4, q1, q2, q3, q4, -List.getD_eq_getElem?_getD]; try first | (with_reducible refine zZ ?_) | subst hK_) | subst hK_) | (with_reducible first | refine zA ?_ | refine zB ?_ | refine zC ?_ | refine zD ?_ | refine zE ?_ | refine zF ?_ | refine zG ?_ | refine zH ?_ | refine zI ?_ | refine zJ ?_ | refine zK ?_ | refine zL ?_ | refine zM ?_ | refine zN ?_ | refine zO ?_) | ((with_reducible refine yG ?_ ?_); (focus decide)) | ((with_reducible refine yA ?_); refine yB rfl ?_; (with_reducible first | refine yC ?_ | refine yD ?_)))
          all_goals simp (maxSteps := 1000000) (disch := refine hold_ ?_; first | (simp [lexV, lexN, -List.getD_eq_getElem?_getD]; done) | omega) [lexV, lexN, -List.getD_eq_getElem?_getD]
    | true =>
      rw [hO] at hst hop
      simp only [if_true] at hst
      rw [← hdr] at hst
      obtain ⟨_, hlt, hI2⟩ := next (by omega) hst
      have ks := skip (n + (wordL S).length) (by omega)
      have hle2 := hI2.le
      have hlt2 : n < n + (wordL S).length + blks (s.drop (n + (wordL S).length)) := by omega
      clear next err rest skip kat k21 happ hT1 hst hdr
      generalize T ++ [⟨1, wordL S, 0⟩] = T2 at *
      generalize preB (S.drop (wordL S).length) [58#8] = P1 at *
      generalize preB (S.drop (wordL S).length) [58#8, 58#8] = P2 at *
      generalize (wordL S == [97#8, 110#8, 100#8]) = A1 at *
      generalize (wordL S == [111#8, 114#8]) = A2 at *
      generalize (wordL S == [109#8, 111#8, 100#8]) = A3 at *
      generalize (wordL S == [100#8, 105#8, 118#8]) = A4 at *
      generalize txt (wordL S) = X at *
      generalize n + (wordL S).length + blks (s.drop (n + (wordL S).length)) = n2 at *
      generalize n + (wordL S).length = n1 at *
      have hA : ((A1 = true) ∨ (A1 = false ∧ A2 = true) ∨ (A1 = false ∧ A2 = false ∧ A3 = true) ∨ (A1 = false ∧ A2 = false ∧ A3 = false ∧ A4 = true)) ∧ (P1 = false ∨ (P1 = true ∧ P2 = true)) := by
        cases A1 <;> cases A2 <;> cases A3 <;> cases A4 <;> cases P1 <;> cases P2 <;> first | (exact absurd hop (by decide)) | decide
      obtain ⟨hA, hP⟩ := hA
      rcases hA with rfl | ⟨rfl, rfl⟩ | ⟨rfl, rfl, rfl⟩ | ⟨rfl, rfl, rfl, rfl⟩ <;> rcases hP with rfl | ⟨rfl, rfl⟩
      all_goals
        rcases hnd2 with g1 | ⟨g1, g2⟩
        · repeat (first | ((with_reducible first | refine callK_at 16 ?_ | refine callK_at 18 ?_ | refine callK_at 19 ?_ | refine callK_at 20 ?_ | refine callK_at 15 ?_); refine callK_p ?_; simp (maxSteps := 1000000) (disch := refine hold_ ?_; first | (simp [hsz, hn, hnz, hgg, g1, n34, n39, n42, hnlz, hnle, hx0, w2, x1, hm, b1, b2, b4, q1, q2, q3, q4, ha, hb, -List.getD_eq_getElem?_getD]; done) | omega) [hsz, hn, hnz, hgg, g1, n34, n39, n42, hnlz, hnle, hx0, w2, x1, hm, b1, b2, b4, q1, q2, q3, q4, ha, hb, -List.getD_eq_getElem?_getD]; (first | refine callK1_of (Fn.ct k16 Tryd.call16) ?_ | refine callK1_of (Fn.ct k18 Tryd.call18) ?_ | refine callK1_of (Fn.ct k19 Tryd.call19) ?_ | refine callK1_of (Fn.ct k1 Tryd.call20) ?_ | refine callK1_of (Fn.ct k2 Tryd.call20) ?_ | refine callK1_of (Fn.ct ks Tryd.call15) ?_); (try simp (maxSteps := 1000000) (disch := refine hold_ ?_; first | (simp [hsz, hn, hnz, hgg, g1, n34, n39, n42, hnlz, hnle, hx0, w2, x1, hm, b1, b2, b4, q1, q2, q3, q4, ha, hb, -List.getD_eq_getElem?_getD]; done) | omega) [hsz, hn, hnz, hgg, g1, n34, n39, n42, hnlz, hnle, hx0, w2, x1, hm, b1, b2, b4, q1, q2, q3, q4, ha, hb, -List.getD_eq_getElem?_getD]); first | (with_reducible refine zZ ?_) | subst hK_) | ((first | (with_reducible first | refine zP fun K_ hK_ => ?_ | refine zQ fun K_ hK_ => ?_ | refine zT ?_ | refine zU ?_ | refine zV ?_ | refine zW ?_ | refine zX ?_ | refine zY ?_) | ((with_reducible first | refine zR ?_ ?_ fun K_ hK_ => ?_ | refine zS ?_ ?_ fun K_ hK_ => ?_); (focus kernel_rfl); (focus kernel_rfl))); first | (simp (maxSteps := 1000000) (disch := refine hold_ ?_; first | (simp [hsz, hn, hnz, hgg, g1, n34, n39, n42, hnlz, hnle, hx0, w2, x1, hm, b1, b2, b4, q1, q2, q3, q4, ha, hb, -List.getD_eq_getElem?_getD]; done) | omega) [hsz, hn, hnz, hgg, g1, n34, n39, n42, hnlz, hnle, hx0, w2, x1, hm, b1, b2, b4, q1, q2, q3, q4, ha, hb, -List.getD_eq_getElem?_getD]; try first | (with_reducible refine zZ ?_) | subst hK_) | subst hK_) | (with_reducible first | refine zA ?_ | refine zB ?_ | refine zC ?_ | refine zD ?_ | refine zE ?_ | refine zF ?_ | refine zG ?_ | refine zH ?_ | refine zI ?_ | refine zJ ?_ | refine zK ?_ | refine zL ?_ | refine zM ?_ | refine zN ?_ | refine zO ?_) | ((with_reducible refine yG ?_ ?_); (focus decide)) | ((with_reducible refine yA ?_); refine yB rfl ?_; (with_reducible first | refine yC ?_ | refine yD ?_)))
          refine ⟨s.length - n2, rxSt s n2 (T2) false, by omega, ?_, n2, T2, false, rfl, hI2, rfl⟩
          (unfold rxSt; simp (maxSteps := 1000000) (disch := refine hold_ ?_; first | (simp [-List.getD_eq_getElem?_getD]; done) | omega) [-List.getD_eq_getElem?_getD])
        · repeat (first | ((with_reducible first | refine callK_at 16 ?_ | refine callK_at 18 ?_ | refine callK_at 19 ?_ | refine callK_at 20 ?_ | refine callK_at 15 ?_); refine callK_p ?_; simp (maxSteps := 1000000) (disch := refine hold_ ?_; first | (simp [hsz, hn, hnz, hgg, g1, g2, n34, n39, n42, hnlz, hnle, hx0, w2, x1, hm, b1, b2, b4, q1, q2, q3, q4, ha, hb, -List.getD_eq_getElem?_getD]; done) | omega) [hsz, hn, hnz, hgg, g1, g2, n34, n39, n42, hnlz, hnle, hx0, w2, x1, hm, b1, b2, b4, q1, q2, q3, q4, ha, hb, -List.getD_eq_getElem?_getD]; (first | refine callK1_of (Fn.ct k16 Tryd.call16) ?_ | refine callK1_of (Fn.ct k18 Tryd.call18) ?_ | refine callK1_of (Fn.ct k19 Tryd.call19) ?_ | refine callK1_of (Fn.ct k1 Tryd.call20) ?_ | refine callK1_of (Fn.ct k2 Tryd.call20) ?_ | refine callK1_of (Fn.ct ks Tryd.call15) ?_); (try simp (maxSteps := 1000000) (disch := refine hold_ ?_; first | (simp [hsz, hn, hnz, hgg, g1, g2, n34, n39, n42, hnlz, hnle, hx0, w2, x1, hm, b1, b2, b4, q1, q2, q3, q4, ha, hb, -List.getD_eq_getElem?_getD]; done) | omega) [hsz, hn, hnz, hgg, g1, g2, n34, n39, n42, hnlz, hnle, hx0, w2, x1, hm, b1, b2, b4, q1, q2, q3, q4, ha, hb, -List.getD_eq_getElem?_getD]); first | (with_reducible refine zZ ?_) | subst hK_) | ((first | (with_reducible first | refine zP fun K_ hK_ => ?_ | refine zQ fun K_ hK_ => ?_ | refine zT ?_ | refine zU ?_ | refine zV ?_ | refine zW ?_ | refine zX ?_ | refine zY ?_) | ((with_reducible first | refine zR ?_ ?_ fun K_ hK_ => ?_ | refine zS ?_ ?_ fun K_ hK_ => ?_); (focus kernel_rfl); (focus kernel_rfl))); first | (simp (maxSteps := 1000000) (disch := refine hold_ ?_; first | (simp [hsz, hn, hnz, hgg, g1, g2, n34, n39, n42, hnlz, hnle, hx0, w2, x1, hm, b1, b2, b4, q1, q2, q3, q4, ha, hb, -List.getD_eq_getElem?_getD]; done) | omega) [hsz, hn, hnz, hgg, g1, g2, n34, n39, n42, hnlz, hnle, hx0, w2, x1, hm, b1, b2, b4, q1, q2, q3, q4, ha, hb, -List.getD_eq_getElem?_getD]; try first | (with_reducible refine zZ ?_) | subst hK_) | subst hK_) | (with_reducible first | refine zA ?_ | refine zB ?_ | refine zC ?_ | refine zD ?_ | refine zE ?_ | refine zF ?_ | refine zG ?_ | refine zH ?_ | refine zI ?_ | refine zJ ?_ | refine zK ?_ | refine zL ?_ | refine zM ?_ | refine zN ?_ | refine zO ?_) | ((with_reducible refine yG ?_ ?_); (focus decide)) | ((with_reducible refine yA ?_); refine yB rfl ?_; (with_reducible first | refine yC ?_ | refine yD ?_)))
          refine ⟨s.length - n2, rxSt s n2 (T2) false, by omega, ?_, n2, T2, false, rfl, hI2, rfl⟩
          (unfold rxSt; simp (maxSteps := 1000000) (disch := refine hold_ ?_; first | (simp [-List.getD_eq_getElem?_getD]; done) | omega) [-List.getD_eq_getElem?_getD])
  | false =>
    rw [hL] at hst k18
    simp only [Bool.false_eq_true, if_false] at hst
    rw [named_eq] at hst
    unfold rnV at k21
    by_cases hneg : (rnamed S).1.1 < 0
    · rw [if_pos hneg] at hst
      have hRR := err hst (by simp)
      subst hRR
      clear next err rest skip kat k19 happ hT1 hst
      generalize rnamed S = rn at *
      obtain ⟨⟨rk, rw_⟩, rl⟩ := rn
      simp only at k21 hneg
      rcases hnd2 with g1 | ⟨g1, g2⟩
      · repeat (first | ((with_reducible first | refine callK_at 16 ?_ | refine callK_at 18 ?_ | refine callK_at 21 ?_); refine callK_p ?_; simp (maxSteps := 1000000) (disch := refine hold_ ?_; first | (simp [hsz, hn, hnz, hgg, g1, n34, n39, n42, hneg, -List.getD_eq_getElem?_getD]; done) | omega) [hsz, hn, hnz, hgg, g1, n34, n39, n42, hneg, -List.getD_eq_getElem?_getD]; (first | refine callK1_of (Fn.ct k16 Tryd.call16) ?_ | refine callK1_of (Fn.ct k18 Tryd.call18) ?_ | refine callK1_of (Fn.ct k21 Tryd.call21) ?_); (try simp (maxSteps := 1000000) (disch := refine hold_ ?_; first | (simp [hsz, hn, hnz, hgg, g1, n34, n39, n42, hneg, -List.getD_eq_getElem?_getD]; done) | omega) [hsz, hn, hnz, hgg, g1, n34, n39, n42, hneg, -List.getD_eq_getElem?_getD]); first | (with_reducible refine zZ ?_) | subst hK_) | ((first | (with_reducible first | refine zP fun K_ hK_ => ?_ | refine zQ fun K_ hK_ => ?_ | refine zT ?_ | refine zU ?_ | refine zV ?_ | refine zW ?_ | refine zX ?_ | refine zY ?_) | ((with_reducible first | refine zR ?_ ?_ fun K_ hK_ => ?_ | refine zS ?_ ?_ fun K_ hK_ => ?_); (focus kernel_rfl); (focus kernel_rfl))); first | (simp (maxSteps := 1000000) (disch := refine hold_ ?_; first | (simp [hsz, hn, hnz, hgg, g1, n34, n39, n42, hneg, -List.getD_eq_getElem?_getD]; done) | omega) [hsz, hn, hnz, hgg, g1, n34, n39, n42, hneg, -List.getD_eq_getElem?_getD]; try first | (with_reducible refine zZ ?_) | subst hK_) | subst hK_) | (with_reducible first | refine zA ?_ | refine zB ?_ | refine zC ?_ | refine zD ?_ | refine zE ?_ | refine zF ?_ | refine zG ?_ | refine zH ?_ | refine zI ?_ | refine zJ ?_ | refine zK ?_ | refine zL ?_ | refine zM ?_ | refine zN ?_ | refine zO ?_) | ((with_reducible refine yG ?_ ?_); (focus decide)) | ((with_reducible refine yA ?_); refine yB rfl ?_; (with_reducible first | refine yC ?_ | refine yD ?_)))
        all_goals simp (maxSteps := 1000000) (disch := refine hold_ ?_; first | (simp [lexV, lexN, -List.getD_eq_getElem?_getD]; done) | omega) [lexV, lexN, -List.getD_eq_getElem?_getD]
      · repeat (first | ((with_reducible first | refine callK_at 16 ?_ | refine callK_at 18 ?_ | refine callK_at 21 ?_); refine callK_p ?_; simp (maxSteps := 1000000) (disch := refine hold_ ?_; first | (simp [hsz, hn, hnz, hgg, g1, g2, n34, n39, n42, hneg, -List.getD_eq_getElem?_getD]; done) | omega) [hsz, hn, hnz, hgg, g1, g2, n34, n39, n42, hneg, -List.getD_eq_getElem?_getD]; (first | refine callK1_of (Fn.ct k16 Tryd.call16) ?_ | refine callK1_of (Fn.ct k18 Tryd.call18) ?_ | refine callK1_of (Fn.ct k21 Tryd.call21) ?_); (try simp (maxSteps := 1000000) (disch := refine hold_ ?_; first | (simp [hsz, hn, hnz, hgg, g1, g2, n34, n39, n42, hneg, -List.getD_eq_getElem?_getD]; done) | omega) [hsz, hn, hnz, hgg, g1, g2, n34, n39, n42, hneg, -List.getD_eq_getElem?_getD]); first | (with_reducible refine zZ ?_) | subst hK_) | ((first | (with_reducible first | refine zP fun K_ hK_ => ?_ | refine zQ fun K_ hK_ => ?_ | refine zT ?_ | refine zU ?_ | refine zV ?_ | refine zW ?_ | refine zX ?_ | refine zY ?_) | ((with_reducible first | refine zR ?_ ?_ fun K_ hK_ => ?_ | refine zS ?_ ?_ fun K_ hK_ => ?_); (focus kernel_rfl); (focus kernel_rfl))); first | (simp (maxSteps := 1000000) (disch := refine hold_ ?_; first | (simp [hsz, hn, hnz, hgg, g1, g2, n34, n39, n42, hneg, -List.getD_eq_getElem?_getD]; done) | omega) [hsz, hn, hnz, hgg, g1, g2, n34, n39, n42, hneg, -List.getD_eq_getElem?_getD]; try first | (with_reducible refine zZ ?_) | subst hK_) | subst hK_) | (with_reducible first | refine zA ?_ | refine zB ?_ | refine zC ?_ | refine zD ?_ | refine zE ?_ | refine zF ?_ | refine zG ?_ | refine zH ?_ | refine zI ?_ | refine zJ ?_ | refine zK ?_ | refine zL ?_ | refine zM ?_ | refine zN ?_ | refine zO ?_) | ((with_reducible refine yG ?_ ?_); (focus decide)) | ((with_reducible refine yA ?_); refine yB rfl ?_; (with_reducible first | refine yC ?_ | refine yD ?_)))
        all_goals simp (maxSteps := 1000000) (disch := refine hold_ ?_; first | (simp [lexV, lexN, -List.getD_eq_getElem?_getD]; done) | omega) [lexV, lexN, -List.getD_eq_getElem?_getD]
    · rw [if_neg hneg] at hst
      simp only [if_true] at hst
      rw [← rest] at hst
      have hle1 : n + (rnamed S).2 ≤ s.length := by
        unfold rnamed at hneg ⊢
        by_cases hw : (wordL S == []) = true
        · rw [if_pos hw]; simp only; omega
        rw [if_neg hw] at hneg ⊢
        by_cases hB : preB (S.drop (wordL S).length) [58#8, 42#8] = true
        · rw [if_pos hB]
          have := (preB_cons hB).1
          rw [List.length_drop] at this
          simp only [List.length_cons, List.length_nil] at this ⊢
          omega
        · rw [if_neg hB]
          have := nameW_le S
          simp only; omega
      obtain ⟨_, hlt, hI2⟩ := next hle1 hst
      have ks := skip _ hle1
      have hle2 := hI2.le
      have hlt2 : n < n + (rnamed S).2 + blks (s.drop (n + (rnamed S).2)) := by omega
      have hk0 : (((rnamed S).1.1.toNat : Nat) : Int) = (rnamed S).1.1 := by omega
      have ha := happ ⟨(rnamed S).1.1.toNat, (rnamed S).1.2, 0⟩
      simp only [hk0] at ha
      have hb := hT1 ⟨(rnamed S).1.1.toNat, (rnamed S).1.2, 0⟩
      clear next err rest skip kat k19 happ hT1 hst hk0
      generalize T ++ [⟨(rnamed S).1.1.toNat, (rnamed S).1.2, 0⟩] = T2 at *
      generalize rnamed S = rn at *
      obtain ⟨⟨rk, rw_⟩, rl⟩ := rn
      simp only at k21 hneg ha ks hI2 hlt2 hle2
      generalize n + rl + blks (s.drop (n + rl)) = n2 at *
      generalize n + rl = n1 at *
      have h00 : ((0 : Nat) : Int) = 0 := rfl
      simp only [h00] at ha
      rcases hnd2 with g1 | ⟨g1, g2⟩
      · repeat (first | ((with_reducible first | refine callK_at 16 ?_ | refine callK_at 18 ?_ | refine callK_at 21 ?_ | refine callK_at 15 ?_); refine callK_p ?_; simp (maxSteps := 1000000) (disch := refine hold_ ?_; first | (simp [hsz, hn, hnz, hgg, g1, n34, n39, n42, hneg, ha, hb, -List.getD_eq_getElem?_getD]; done) | omega) [hsz, hn, hnz, hgg, g1, n34, n39, n42, hneg, ha, hb, -List.getD_eq_getElem?_getD]; (first | refine callK1_of (Fn.ct k16 Tryd.call16) ?_ | refine callK1_of (Fn.ct k18 Tryd.call18) ?_ | refine callK1_of (Fn.ct k21 Tryd.call21) ?_ | refine callK1_of (Fn.ct ks Tryd.call15) ?_); (try simp (maxSteps := 1000000) (disch := refine hold_ ?_; first | (simp [hsz, hn, hnz, hgg, g1, n34, n39, n42, hneg, ha, hb, -List.getD_eq_getElem?_getD]; done) | omega) [hsz, hn, hnz, hgg, g1, n34, n39, n42, hneg, ha, hb, -List.getD_eq_getElem?_getD]); first | (with_reducible refine zZ ?_) | subst hK_) | ((first | (with_reducible first | refine zP fun K_ hK_ => ?_ | refine zQ fun K_ hK_ => ?_ | refine zT ?_ | refine zU ?_ | refine zV ?_ | refine zW ?_ | refine zX ?_ | refine zY ?_) | ((with_reducible first | refine zR ?_ ?_ fun K_ hK_ => ?_ | refine zS ?_ ?_ fun K_ hK_ => ?_); (focus kernel_rfl); (focus kernel_rfl))); first | (simp (maxSteps := 1000000) (disch := refine hold_ ?_; first | (simp [hsz, hn, hnz, hgg, g1, n34, n39, n42, hneg, ha, hb, -List.getD_eq_getElem?_getD]; done) | omega) [hsz, hn, hnz, hgg, g1, n34, n39, n42, hneg, ha, hb, -List.getD_eq_getElem?_getD]; try first | (with_reducible refine zZ ?_) | subst hK_) | subst hK_) | (with_reducible first | refine zA ?_ | refine zB ?_ | refine zC ?_ | refine zD ?_ | refine zE ?_ | refine zF ?_ | refine zG ?_ | refine zH ?_ | refine zI ?_ | refine zJ ?_ | refine zK ?_ | refine zL ?_ | refine zM ?_ | refine zN ?_ | refine zO ?_) | ((with_reducible refine yG ?_ ?_); (focus decide)) | ((with_reducible refine yA ?_); refine yB rfl ?_; (with_reducible first | refine yC ?_ | refine yD ?_)))
        refine ⟨s.length - n2, rxSt s n2 (T2) false, by omega, ?_, n2, T2, false, rfl, hI2, rfl⟩
        (unfold rxSt; simp (maxSteps := 1000000) (disch := refine hold_ ?_; first | (simp [-List.getD_eq_getElem?_getD]; done) | omega) [-List.getD_eq_getElem?_getD])
      · repeat (first | ((with_reducible first | refine callK_at 16 ?_ | refine callK_at 18 ?_ | refine callK_at 21 ?_ | refine callK_at 15 ?_); refine callK_p ?_; simp (maxSteps := 1000000) (disch := refine hold_ ?_; first | (simp [hsz, hn, hnz, hgg, g1, g2, n34, n39, n42, hneg, ha, hb, -List.getD_eq_getElem?_getD]; done) | omega) [hsz, hn, hnz, hgg, g1, g2, n34, n39, n42, hneg, ha, hb, -List.getD_eq_getElem?_getD]; (first | refine callK1_of (Fn.ct k16 Tryd.call16) ?_ | refine callK1_of (Fn.ct k18 Tryd.call18) ?_ | refine callK1_of (Fn.ct k21 Tryd.call21) ?_ | refine callK1_of (Fn.ct ks Tryd.call15) ?_); (try simp (maxSteps := 1000000) (disch := refine hold_ ?_; first | (simp [hsz, hn, hnz, hgg, g1, g2, n34, n39, n42, hneg, ha, hb, -List.getD_eq_getElem?_getD]; done) | omega) [hsz, hn, hnz, hgg, g1, g2, n34, n39, n42, hneg, ha, hb, -List.getD_eq_getElem?_getD]); first | (with_reducible refine zZ ?_) | subst hK_) | ((first | (with_reducible first | refine zP fun K_ hK_ => ?_ | refine zQ fun K_ hK_ => ?_ | refine zT ?_ | refine zU ?_ | refine zV ?_ | refine zW ?_ | refine zX ?_ | refine zY ?_) | ((with_reducible first | refine zR ?_ ?_ fun K_ hK_ => ?_ | refine zS ?_ ?_ fun K_ hK_ => ?_); (focus kernel_rfl); (focus kernel_rfl))); first | (simp (maxSteps := 1000000) (disch := refine hold_ ?_; first | (simp [hsz, hn, hnz, hgg, g1, g2, n34, n39, n42, hneg, ha, hb, -List.getD_eq_getElem?_getD]; done) | omega) [hsz, hn, hnz, hgg, g1, g2, n34, n39, n42, hneg, ha, hb, -List.getD_eq_getElem?_getD]; try first | (with_reducible refine zZ ?_) | subst hK_) | subst hK_) | (with_reducible first | refine zA ?_ | refine zB ?_ | refine zC ?_ | refine zD ?_ | refine zE ?_ | refine zF ?_ | refine zG ?_ | refine zH ?_ | refine zI ?_ | refine zJ ?_ | refine zK ?_ | refine zL ?_ | refine zM ?_ | refine zN ?_ | refine zO ?_) | ((with_reducible refine yG ?_ ?_); (focus decide)) | ((with_reducible refine yA ?_); refine yB rfl ?_; (with_reducible first | refine yC ?_ | refine yD ?_)))
        refine ⟨s.length - n2, rxSt s n2 (T2) false, by omega, ?_, n2, T2, false, rfl, hI2, rfl⟩
        (unfold rxSt; simp (maxSteps := 1000000) (disch := refine hold_ ?_; first | (simp [-List.getD_eq_getElem?_getD]; done) | omega) [-List.getD_eq_getElem?_getD])
end Go.Av.Lex
end
section
set_option linter.unusedSimpArgs false
set_option linter.unusedVariables false
open Go Go.Av Go.Proofs
namespace Go.Av.Lex
set_option maxHeartbeats 8000000 in
theorem reads_ct (s : List (BitVec 8)) : Fn Tryd.prog 3 [.str (txt s)] [.p (.bool true)] := by
  have hsz := txt_size s
  by_cases h1 : s.length ≤ 1100
  · have hz : ¬ (1100 : Int) < s.length := by omega
    have k8 := lex_ct s (by omega)
    have k9 := rlex_ct s (by omega)
    have hT := lexL_len s
    unfold lexV lexN at k8 k9
    generalize lexL s = R at *
    obtain ⟨e, T, nl⟩ := R
    by_cases he : e = 0
    · subst he
      simp only [if_true] at k8 k9
      have hel := tkR_elem T
      simp only at hT
      refine Fn.of_body Tryd.func3 rfl ?_
      repeat (first | ((first | (with_reducible first | refine zP fun K_ hK_ => ?_ | refine zQ fun K_ hK_ => ?_ | refine zT ?_ | refine zU ?_ | refine zV ?_ | refine zW ?_ | refine zX ?_ | refine zY ?_) | ((with_reducible first | refine zR ?_ ?_ fun K_ hK_ => ?_ | refine zS ?_ ?_ fun K_ hK_ => ?_); (focus kernel_rfl); (focus kernel_rfl))); first | (simp (maxSteps := 1000000) (disch := refine hold_ ?_; first | (simp [-List.getD_eq_getElem?_getD]; done) | omega) [-List.getD_eq_getElem?_getD]; try first | (with_reducible refine zZ ?_) | subst hK_) | subst hK_) | (with_reducible first | refine zA ?_ | refine zB ?_ | refine zC ?_ | refine zD ?_ | refine zE ?_ | refine zF ?_ | refine zG ?_ | refine zH ?_ | refine zI ?_ | refine zJ ?_ | refine zK ?_ | refine zL ?_ | refine zM ?_ | refine zN ?_ | refine zO ?_) | ((with_reducible refine yG ?_ ?_); (focus decide)) | ((with_reducible refine yA ?_); refine yB rfl ?_; (with_reducible first | refine yC ?_ | refine yD ?_)))
      (refine callK_p ?_; simp (maxSteps := 1000000) (disch := refine hold_ ?_; first | (simp [hsz, hz, -List.getD_eq_getElem?_getD]; done) | omega) [hsz, hz, -List.getD_eq_getElem?_getD]; refine callK1_of (Fn.ct awake_ct Tryd.call7) ?_; (try simp (maxSteps := 1000000) (disch := refine hold_ ?_; first | (simp [hsz, hz, -List.getD_eq_getElem?_getD]; done) | omega) [hsz, hz, -List.getD_eq_getElem?_getD]); first | refine zZ ?_ | subst hK_)
      repeat (first | ((first | (with_reducible first | refine zP fun K_ hK_ => ?_ | refine zQ fun K_ hK_ => ?_ | refine zT ?_ | refine zU ?_ | refine zV ?_ | refine zW ?_ | refine zX ?_ | refine zY ?_) | ((with_reducible first | refine zR ?_ ?_ fun K_ hK_ => ?_ | refine zS ?_ ?_ fun K_ hK_ => ?_); (focus kernel_rfl); (focus kernel_rfl))); first | (simp (maxSteps := 1000000) (disch := refine hold_ ?_; first | (simp [hsz, hz, -List.getD_eq_getElem?_getD]; done) | omega) [hsz, hz, -List.getD_eq_getElem?_getD]; try first | (with_reducible refine zZ ?_) | subst hK_) | subst hK_) | (with_reducible first | refine zA ?_ | refine zB ?_ | refine zC ?_ | refine zD ?_ | refine zE ?_ | refine zF ?_ | refine zG ?_ | refine zH ?_ | refine zI ?_ | refine zJ ?_ | refine zK ?_ | refine zL ?_ | refine zM ?_ | refine zN ?_ | refine zO ?_) | ((with_reducible refine yG ?_ ?_); (focus decide)) | ((with_reducible refine yA ?_); refine yB rfl ?_; (with_reducible first | refine yC ?_ | refine yD ?_)))
      (refine callK_p ?_; simp (maxSteps := 1000000) (disch := refine hold_ ?_; first | (simp [-List.getD_eq_getElem?_getD]; done) | omega) [-List.getD_eq_getElem?_getD]; refine callK1_of (Fn.ct k8 Tryd.call8) ?_; (try simp (maxSteps := 1000000) (disch := refine hold_ ?_; first | (simp [-List.getD_eq_getElem?_getD]; done) | omega) [-List.getD_eq_getElem?_getD]); first | refine zZ ?_ | subst hK_)
      repeat (first | ((first | (with_reducible first | refine zP fun K_ hK_ => ?_ | refine zQ fun K_ hK_ => ?_ | refine zT ?_ | refine zU ?_ | refine zV ?_ | refine zW ?_ | refine zX ?_ | refine zY ?_) | ((with_reducible first | refine zR ?_ ?_ fun K_ hK_ => ?_ | refine zS ?_ ?_ fun K_ hK_ => ?_); (focus kernel_rfl); (focus kernel_rfl))); first | (simp (maxSteps := 1000000) (disch := refine hold_ ?_; first | (simp [-List.getD_eq_getElem?_getD]; done) | omega) [-List.getD_eq_getElem?_getD]; try first | (with_reducible refine zZ ?_) | subst hK_) | subst hK_) | (with_reducible first | refine zA ?_ | refine zB ?_ | refine zC ?_ | refine zD ?_ | refine zE ?_ | refine zF ?_ | refine zG ?_ | refine zH ?_ | refine zI ?_ | refine zJ ?_ | refine zK ?_ | refine zL ?_ | refine zM ?_ | refine zN ?_ | refine zO ?_) | ((with_reducible refine yG ?_ ?_); (focus decide)) | ((with_reducible refine yA ?_); refine yB rfl ?_; (with_reducible first | refine yC ?_ | refine yD ?_)))
      (refine callK_p ?_; simp (maxSteps := 1000000) (disch := refine hold_ ?_; first | (simp [-List.getD_eq_getElem?_getD]; done) | omega) [-List.getD_eq_getElem?_getD]; refine callK1_of (Fn.ct k9 Tryd.call9) ?_; (try simp (maxSteps := 1000000) (disch := refine hold_ ?_; first | (simp [-List.getD_eq_getElem?_getD]; done) | omega) [-List.getD_eq_getElem?_getD]); first | refine zZ ?_ | subst hK_)
      repeat (first | ((first | (with_reducible first | refine zP fun K_ hK_ => ?_ | refine zQ fun K_ hK_ => ?_ | refine zT ?_ | refine zU ?_ | refine zV ?_ | refine zW ?_ | refine zX ?_ | refine zY ?_) | ((with_reducible first | refine zR ?_ ?_ fun K_ hK_ => ?_ | refine zS ?_ ?_ fun K_ hK_ => ?_); (focus kernel_rfl); (focus kernel_rfl))); first | (simp (maxSteps := 1000000) (disch := refine hold_ ?_; first | (simp [-List.getD_eq_getElem?_getD]; done) | omega) [-List.getD_eq_getElem?_getD]; try first | (with_reducible refine zZ ?_) | subst hK_) | subst hK_) | (with_reducible first | refine zA ?_ | refine zB ?_ | refine zC ?_ | refine zD ?_ | refine zE ?_ | refine zF ?_ | refine zG ?_ | refine zH ?_ | refine zI ?_ | refine zJ ?_ | refine zK ?_ | refine zL ?_ | refine zM ?_ | refine zN ?_ | refine zO ?_) | ((with_reducible refine yG ?_ ?_); (focus decide)) | ((with_reducible refine yA ?_); refine yB rfl ?_; (with_reducible first | refine yC ?_ | refine yD ?_)))
      refine AW.iter (false :: false :: false :: true :: false :: true :: false :: false :: false :: false :: false :: false :: false :: false :: false :: false :: false :: false :: false :: false :: false :: false :: false :: false :: false :: false :: false :: false :: false :: false :: false :: false :: false :: false :: false :: false :: false :: true :: true :: false :: false :: false :: false :: false :: false :: false :: false :: false :: false :: false :: false :: []) T.length (fun k => ⟨(V.junk :: V.junk :: V.junk :: .row (tkR T) 0 0 nl :: V.junk :: .row (tkR T) 1 0 nl :: V.junk :: V.junk :: V.junk :: V.junk :: V.junk :: V.junk :: V.junk :: V.junk :: V.junk :: V.junk :: V.junk :: V.junk :: V.junk :: V.junk :: V.junk :: V.junk :: V.junk :: V.junk :: V.junk :: V.junk :: V.junk :: V.junk :: V.junk :: V.junk :: V.junk :: V.junk :: V.junk :: V.junk :: V.junk :: V.junk :: V.junk :: .p (.int .i64 T.length) :: .p (.int .i64 k) :: V.junk :: V.junk :: V.junk :: V.junk :: V.junk :: V.junk :: V.junk :: V.junk :: V.junk :: V.junk :: V.junk :: V.junk :: []), ⟨[], [(0, 0), (1, 0)]⟩⟩) ?_ ?_
      · simp (maxSteps := 1000000) (disch := refine hold_ ?_; first | (simp [-List.getD_eq_getElem?_getD]; done) | omega) [-List.getD_eq_getElem?_getD]
      intro k hk
      have e1 : IntKind.i64.wrap ((k : Int) + 1) = k + 1 := wrap_i64 _ (by omega) (by omega)
      repeat (first | ((first | (with_reducible first | refine zP fun K_ hK_ => ?_ | refine zQ fun K_ hK_ => ?_ | refine zT ?_ | refine zU ?_ | refine zV ?_ | refine zW ?_ | refine zX ?_ | refine zY ?_) | ((with_reducible first | refine zR ?_ ?_ fun K_ hK_ => ?_ | refine zS ?_ ?_ fun K_ hK_ => ?_); (focus kernel_rfl); (focus kernel_rfl))); first | (simp (maxSteps := 1000000) (disch := refine hold_ ?_; first | (simp [-List.getD_eq_getElem?_getD]; done) | omega) [-List.getD_eq_getElem?_getD]; try first | (with_reducible refine zZ ?_) | subst hK_) | subst hK_) | (with_reducible first | refine zA ?_ | refine zB ?_ | refine zC ?_ | refine zD ?_ | refine zE ?_ | refine zF ?_ | refine zG ?_ | refine zH ?_ | refine zI ?_ | refine zJ ?_ | refine zK ?_ | refine zL ?_ | refine zM ?_ | refine zN ?_ | refine zO ?_) | ((with_reducible refine yG ?_ ?_); (focus decide)) | ((with_reducible refine yA ?_); refine yB rfl ?_; (with_reducible first | refine yC ?_ | refine yD ?_)))
      first | refine AW.condD rfl (fun hc => ?_) (fun hc => ?_) | refine AW.cond rfl (fun hc => ?_) (fun hc => ?_)
      · have hk2 : k < T.length := by omega
        have hek := hel k hk2
        unfold tokP at hek
        generalize T.getD k ⟨0, [], 0⟩ = t at *
        repeat (first | ((first | (with_reducible first | refine zP fun K_ hK_ => ?_ | refine zQ fun K_ hK_ => ?_ | refine zT ?_ | refine zU ?_ | refine zV ?_ | refine zW ?_ | refine zX ?_ | refine zY ?_) | ((with_reducible first | refine zR ?_ ?_ fun K_ hK_ => ?_ | refine zS ?_ ?_ fun K_ hK_ => ?_); (focus kernel_rfl); (focus kernel_rfl))); first | (simp (maxSteps := 1000000) (disch := refine hold_ ?_; first | (simp [hk2, hek, e1, -List.getD_eq_getElem?_getD]; done) | omega) [hk2, hek, e1, -List.getD_eq_getElem?_getD]; try first | (with_reducible refine zZ ?_) | subst hK_) | subst hK_) | (with_reducible first | refine zA ?_ | refine zB ?_ | refine zC ?_ | refine zD ?_ | refine zE ?_ | refine zF ?_ | refine zG ?_ | refine zH ?_ | refine zI ?_ | refine zJ ?_ | refine zK ?_ | refine zL ?_ | refine zM ?_ | refine zN ?_ | refine zO ?_) | ((with_reducible refine yG ?_ ?_); (focus decide)) | ((with_reducible refine yA ?_); refine yB rfl ?_; (with_reducible first | refine yC ?_ | refine yD ?_)))
        refine ⟨hk2, ?_⟩
        simp (maxSteps := 1000000) (disch := refine hold_ ?_; first | (simp [-List.getD_eq_getElem?_getD]; done) | omega) [-List.getD_eq_getElem?_getD]
      · have hk2 : k = T.length := by omega
        subst hk2
        repeat (first | ((first | (with_reducible first | refine zP fun K_ hK_ => ?_ | refine zQ fun K_ hK_ => ?_ | refine zT ?_ | refine zU ?_ | refine zV ?_ | refine zW ?_ | refine zX ?_ | refine zY ?_) | ((with_reducible first | refine zR ?_ ?_ fun K_ hK_ => ?_ | refine zS ?_ ?_ fun K_ hK_ => ?_); (focus kernel_rfl); (focus kernel_rfl))); first | (simp (maxSteps := 1000000) (disch := refine hold_ ?_; first | (simp [-List.getD_eq_getElem?_getD]; done) | omega) [-List.getD_eq_getElem?_getD]; try first | (with_reducible refine zZ ?_) | subst hK_) | subst hK_) | (with_reducible first | refine zA ?_ | refine zB ?_ | refine zC ?_ | refine zD ?_ | refine zE ?_ | refine zF ?_ | refine zG ?_ | refine zH ?_ | refine zI ?_ | refine zJ ?_ | refine zK ?_ | refine zL ?_ | refine zM ?_ | refine zN ?_ | refine zO ?_) | ((with_reducible refine yG ?_ ?_); (focus decide)) | ((with_reducible refine yA ?_); refine yB rfl ?_; (with_reducible first | refine yC ?_ | refine yD ?_)))
        simp (maxSteps := 1000000) (disch := refine hold_ ?_; first | (simp [-List.getD_eq_getElem?_getD]; done) | omega) [-List.getD_eq_getElem?_getD]
    · simp only [if_neg he] at k8 k9
      refine Fn.of_body Tryd.func3 rfl ?_
      repeat (first | ((first | (with_reducible first | refine zP fun K_ hK_ => ?_ | refine zQ fun K_ hK_ => ?_ | refine zT ?_ | refine zU ?_ | refine zV ?_ | refine zW ?_ | refine zX ?_ | refine zY ?_) | ((with_reducible first | refine zR ?_ ?_ fun K_ hK_ => ?_ | refine zS ?_ ?_ fun K_ hK_ => ?_); (focus kernel_rfl); (focus kernel_rfl))); first | (simp (maxSteps := 1000000) (disch := refine hold_ ?_; first | (simp [-List.getD_eq_getElem?_getD]; done) | omega) [-List.getD_eq_getElem?_getD]; try first | (with_reducible refine zZ ?_) | subst hK_) | subst hK_) | (with_reducible first | refine zA ?_ | refine zB ?_ | refine zC ?_ | refine zD ?_ | refine zE ?_ | refine zF ?_ | refine zG ?_ | refine zH ?_ | refine zI ?_ | refine zJ ?_ | refine zK ?_ | refine zL ?_ | refine zM ?_ | refine zN ?_ | refine zO ?_) | ((with_reducible refine yG ?_ ?_); (focus decide)) | ((with_reducible refine yA ?_); refine yB rfl ?_; (with_reducible first | refine yC ?_ | refine yD ?_)))
      (refine callK_p ?_; simp (maxSteps := 1000000) (disch := refine hold_ ?_; first | (simp [hsz, hz, -List.getD_eq_getElem?_getD]; done) | omega) [hsz, hz, -List.getD_eq_getElem?_getD]; refine callK1_of (Fn.ct awake_ct Tryd.call7) ?_; (try simp (maxSteps := 1000000) (disch := refine hold_ ?_; first | (simp [hsz, hz, -List.getD_eq_getElem?_getD]; done) | omega) [hsz, hz, -List.getD_eq_getElem?_getD]); first | refine zZ ?_ | subst hK_)
      repeat (first | ((first | (with_reducible first | refine zP fun K_ hK_ => ?_ | refine zQ fun K_ hK_ => ?_ | refine zT ?_ | refine zU ?_ | refine zV ?_ | refine zW ?_ | refine zX ?_ | refine zY ?_) | ((with_reducible first | refine zR ?_ ?_ fun K_ hK_ => ?_ | refine zS ?_ ?_ fun K_ hK_ => ?_); (focus kernel_rfl); (focus kernel_rfl))); first | (simp (maxSteps := 1000000) (disch := refine hold_ ?_; first | (simp [hsz, hz, -List.getD_eq_getElem?_getD]; done) | omega) [hsz, hz, -List.getD_eq_getElem?_getD]; try first | (with_reducible refine zZ ?_) | subst hK_) | subst hK_) | (with_reducible first | refine zA ?_ | refine zB ?_ | refine zC ?_ | refine zD ?_ | refine zE ?_ | refine zF ?_ | refine zG ?_ | refine zH ?_ | refine zI ?_ | refine zJ ?_ | refine zK ?_ | refine zL ?_ | refine zM ?_ | refine zN ?_ | refine zO ?_) | ((with_reducible refine yG ?_ ?_); (focus decide)) | ((with_reducible refine yA ?_); refine yB rfl ?_; (with_reducible first | refine yC ?_ | refine yD ?_)))
      (refine callK_p ?_; simp (maxSteps := 1000000) (disch := refine hold_ ?_; first | (simp [-List.getD_eq_getElem?_getD]; done) | omega) [-List.getD_eq_getElem?_getD]; refine callK1_of (Fn.ct k8 Tryd.call8) ?_; (try simp (maxSteps := 1000000) (disch := refine hold_ ?_; first | (simp [-List.getD_eq_getElem?_getD]; done) | omega) [-List.getD_eq_getElem?_getD]); first | refine zZ ?_ | subst hK_)
      repeat (first | ((first | (with_reducible first | refine zP fun K_ hK_ => ?_ | refine zQ fun K_ hK_ => ?_ | refine zT ?_ | refine zU ?_ | refine zV ?_ | refine zW ?_ | refine zX ?_ | refine zY ?_) | ((with_reducible first | refine zR ?_ ?_ fun K_ hK_ => ?_ | refine zS ?_ ?_ fun K_ hK_ => ?_); (focus kernel_rfl); (focus kernel_rfl))); first | (simp (maxSteps := 1000000) (disch := refine hold_ ?_; first | (simp [-List.getD_eq_getElem?_getD]; done) | omega) [-List.getD_eq_getElem?_getD]; try first | (with_reducible refine zZ ?_) | subst hK_) | subst hK_) | (with_reducible first | refine zA ?_ | refine zB ?_ | refine zC ?_ | refine zD ?_ | refine zE ?_ | refine zF ?_ | refine zG ?_ | refine zH ?_ | refine zI ?_ | refine zJ ?_ | refine zK ?_ | refine zL ?_ | refine zM ?_ | refine zN ?_ | refine zO ?_) | ((with_reducible refine yG ?_ ?_); (focus decide)) | ((with_reducible refine yA ?_); refine yB rfl ?_; (with_reducible first | refine yC ?_ | refine yD ?_)))
      (refine callK_p ?_; simp (maxSteps := 1000000) (disch := refine hold_ ?_; first | (simp [-List.getD_eq_getElem?_getD]; done) | omega) [-List.getD_eq_getElem?_getD]; refine callK1_of (Fn.ct k9 Tryd.call9) ?_; (try simp (maxSteps := 1000000) (disch := refine hold_ ?_; first | (simp [-List.getD_eq_getElem?_getD]; done) | omega) [-List.getD_eq_getElem?_getD]); first | refine zZ ?_ | subst hK_)
      repeat (first | ((first | (with_reducible first | refine zP fun K_ hK_ => ?_ | refine zQ fun K_ hK_ => ?_ | refine zT ?_ | refine zU ?_ | refine zV ?_ | refine zW ?_ | refine zX ?_ | refine zY ?_) | ((with_reducible first | refine zR ?_ ?_ fun K_ hK_ => ?_ | refine zS ?_ ?_ fun K_ hK_ => ?_); (focus kernel_rfl); (focus kernel_rfl))); first | (simp (maxSteps := 1000000) (disch := refine hold_ ?_; first | (simp [-List.getD_eq_getElem?_getD]; done) | omega) [-List.getD_eq_getElem?_getD]; try first | (with_reducible refine zZ ?_) | subst hK_) | subst hK_) | (with_reducible first | refine zA ?_ | refine zB ?_ | refine zC ?_ | refine zD ?_ | refine zE ?_ | refine zF ?_ | refine zG ?_ | refine zH ?_ | refine zI ?_ | refine zJ ?_ | refine zK ?_ | refine zL ?_ | refine zM ?_ | refine zN ?_ | refine zO ?_) | ((with_reducible refine yG ?_ ?_); (focus decide)) | ((with_reducible refine yA ?_); refine yB rfl ?_; (with_reducible first | refine yC ?_ | refine yD ?_)))
      refine AW.iter (false :: false :: false :: false :: false :: false :: false :: false :: false :: false :: false :: false :: false :: false :: false :: false :: false :: false :: false :: false :: false :: false :: false :: false :: false :: false :: false :: false :: false :: false :: false :: false :: false :: false :: false :: false :: false :: true :: true :: false :: false :: false :: false :: false :: false :: false :: false :: false :: false :: false :: false :: []) 0 (fun k => ⟨(V.junk :: V.junk :: V.junk :: V.junk :: V.junk :: V.junk :: V.junk :: V.junk :: V.junk :: V.junk :: V.junk :: V.junk :: V.junk :: V.junk :: V.junk :: V.junk :: V.junk :: V.junk :: V.junk :: V.junk :: V.junk :: V.junk :: V.junk :: V.junk :: V.junk :: V.junk :: V.junk :: V.junk :: V.junk :: V.junk :: V.junk :: V.junk :: V.junk :: V.junk :: V.junk :: V.junk :: V.junk :: .p (.int .i64 0) :: .p (.int .i64 k) :: V.junk :: V.junk :: V.junk :: V.junk :: V.junk :: V.junk :: V.junk :: V.junk :: V.junk :: V.junk :: V.junk :: V.junk :: []), ⟨[], []⟩⟩) ?_ ?_
      · simp (maxSteps := 1000000) (disch := refine hold_ ?_; first | (simp [-List.getD_eq_getElem?_getD]; done) | omega) [-List.getD_eq_getElem?_getD]
      intro k hk
      have hk2 : k = 0 := by omega
      subst hk2
      repeat (first | ((first | (with_reducible first | refine zP fun K_ hK_ => ?_ | refine zQ fun K_ hK_ => ?_ | refine zT ?_ | refine zU ?_ | refine zV ?_ | refine zW ?_ | refine zX ?_ | refine zY ?_) | ((with_reducible first | refine zR ?_ ?_ fun K_ hK_ => ?_ | refine zS ?_ ?_ fun K_ hK_ => ?_); (focus kernel_rfl); (focus kernel_rfl))); first | (simp (maxSteps := 1000000) (disch := refine hold_ ?_; first | (simp [-List.getD_eq_getElem?_getD]; done) | omega) [-List.getD_eq_getElem?_getD]; try first | (with_reducible refine zZ ?_) | subst hK_) | subst hK_) | (with_reducible first | refine zA ?_ | refine zB ?_ | refine zC ?_ | refine zD ?_ | refine zE ?_ | refine zF ?_ | refine zG ?_ | refine zH ?_ | refine zI ?_ | refine zJ ?_ | refine zK ?_ | refine zL ?_ | refine zM ?_ | refine zN ?_ | refine zO ?_) | ((with_reducible refine yG ?_ ?_); (focus decide)) | ((with_reducible refine yA ?_); refine yB rfl ?_; (with_reducible first | refine yC ?_ | refine yD ?_)))
      simp (maxSteps := 1000000) (disch := refine hold_ ?_; first | (simp [-List.getD_eq_getElem?_getD]; done) | omega) [-List.getD_eq_getElem?_getD]
  · have hz : (1100 : Int) < s.length := by omega
    refine Fn.of_body Tryd.func3 rfl ?_
    repeat (first | ((first | (with_reducible first | refine zP fun K_ hK_ => ?_ | refine zQ fun K_ hK_ => ?_ | refine zT ?_ | refine zU ?_ | refine zV ?_ | refine zW ?_ | refine zX ?_ | refine zY ?_) | ((with_reducible first | refine zR ?_ ?_ fun K_ hK_ => ?_ | refine zS ?_ ?_ fun K_ hK_ => ?_); (focus kernel_rfl); (focus kernel_rfl))); first | (simp (maxSteps := 1000000) (disch := refine hold_ ?_; first | (simp [-List.getD_eq_getElem?_getD]; done) | omega) [-List.getD_eq_getElem?_getD]; try first | (with_reducible refine zZ ?_) | subst hK_) | subst hK_) | (with_reducible first | refine zA ?_ | refine zB ?_ | refine zC ?_ | refine zD ?_ | refine zE ?_ | refine zF ?_ | refine zG ?_ | refine zH ?_ | refine zI ?_ | refine zJ ?_ | refine zK ?_ | refine zL ?_ | refine zM ?_ | refine zN ?_ | refine zO ?_) | ((with_reducible refine yG ?_ ?_); (focus decide)) | ((with_reducible refine yA ?_); refine yB rfl ?_; (with_reducible first | refine yC ?_ | refine yD ?_)))
    (refine callK_p ?_; simp (maxSteps := 1000000) (disch := refine hold_ ?_; first | (simp [hsz, hz, -List.getD_eq_getElem?_getD]; done) | omega) [hsz, hz, -List.getD_eq_getElem?_getD]; refine callK1_of (Fn.ct awake_ct Tryd.call7) ?_; (try simp (maxSteps := 1000000) (disch := refine hold_ ?_; first | (simp [hsz, hz, -List.getD_eq_getElem?_getD]; done) | omega) [hsz, hz, -List.getD_eq_getElem?_getD]); first | refine zZ ?_ | subst hK_)
    repeat (first | ((first | (with_reducible first | refine zP fun K_ hK_ => ?_ | refine zQ fun K_ hK_ => ?_ | refine zT ?_ | refine zU ?_ | refine zV ?_ | refine zW ?_ | refine zX ?_ | refine zY ?_) | ((with_reducible first | refine zR ?_ ?_ fun K_ hK_ => ?_ | refine zS ?_ ?_ fun K_ hK_ => ?_); (focus kernel_rfl); (focus kernel_rfl))); first | (simp (maxSteps := 1000000) (disch := refine hold_ ?_; first | (simp [hsz, hz, -List.getD_eq_getElem?_getD]; done) | omega) [hsz, hz, -List.getD_eq_getElem?_getD]; try first | (with_reducible refine zZ ?_) | subst hK_) | subst hK_) | (with_reducible first | refine zA ?_ | refine zB ?_ | refine zC ?_ | refine zD ?_ | refine zE ?_ | refine zF ?_ | refine zG ?_ | refine zH ?_ | refine zI ?_ | refine zJ ?_ | refine zK ?_ | refine zL ?_ | refine zM ?_ | refine zN ?_ | refine zO ?_) | ((with_reducible refine yG ?_ ?_); (focus decide)) | ((with_reducible refine yA ?_); refine yB rfl ?_; (with_reducible first | refine yC ?_ | refine yD ?_)))
    (refine callK_p ?_; simp (maxSteps := 1000000) (disch := refine hold_ ?_; first | (simp [-List.getD_eq_getElem?_getD]; done) | omega) [-List.getD_eq_getElem?_getD]; refine callK1_of (Fn.ct awake_ct Tryd.call7) ?_; (try simp (maxSteps := 1000000) (disch := refine hold_ ?_; first | (simp [-List.getD_eq_getElem?_getD]; done) | omega) [-List.getD_eq_getElem?_getD]); first | refine zZ ?_ | subst hK_)
    repeat (first | ((first | (with_reducible first | refine zP fun K_ hK_ => ?_ | refine zQ fun K_ hK_ => ?_ | refine zT ?_ | refine zU ?_ | refine zV ?_ | refine zW ?_ | refine zX ?_ | refine zY ?_) | ((with_reducible first | refine zR ?_ ?_ fun K_ hK_ => ?_ | refine zS ?_ ?_ fun K_ hK_ => ?_); (focus kernel_rfl); (focus kernel_rfl))); first | (simp (maxSteps := 1000000) (disch := refine hold_ ?_; first | (simp [-List.getD_eq_getElem?_getD]; done) | omega) [-List.getD_eq_getElem?_getD]; try first | (with_reducible refine zZ ?_) | subst hK_) | subst hK_) | (with_reducible first | refine zA ?_ | refine zB ?_ | refine zC ?_ | refine zD ?_ | refine zE ?_ | refine zF ?_ | refine zG ?_ | refine zH ?_ | refine zI ?_ | refine zJ ?_ | refine zK ?_ | refine zL ?_ | refine zM ?_ | refine zN ?_ | refine zO ?_) | ((with_reducible refine yG ?_ ?_); (focus decide)) | ((with_reducible refine yA ?_); refine yB rfl ?_; (with_reducible first | refine yC ?_ | refine yD ?_)))
    simp (maxSteps := 1000000) (disch := refine hold_ ?_; first | (simp [-List.getD_eq_getElem?_getD]; done) | omega) [-List.getD_eq_getElem?_getD]
theorem reads_law (s : ByteArray) (h : s.size ≤ reachBytes) : Fn Tryd.prog 3 [.str s] [.p (.bool true)] := by
  obtain ⟨l, rfl, _⟩ := txt_room h; exact reads_ct l
end Go.Av.Lex
end
