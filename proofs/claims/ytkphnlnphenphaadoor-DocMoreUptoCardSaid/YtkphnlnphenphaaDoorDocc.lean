/- The walks of this seat's functions, and what is known of what they reckon (Docc). Conditions: those that each theorem names. -/
import Derived.Test.YtkphnlnphenphaaDoorDocb
section
set_option linter.unusedSimpArgs false
set_option linter.unusedVariables false
set_option linter.unusedSectionVars false
open Go Go.Av Go.Proofs
namespace Go.Av.Doc
variable [ML]
theorem endD_iff (s : List (BitVec 8)) (h : 0 < s.length) : endD s = (ub (s.getD (s.length - 1) 0#8) == 45) := by
  unfold endD
  have h2 : s.length - 1 < s.length := by omega
  have : s.drop (s.length - 1) = [s.getD (s.length - 1) 0#8] := by
    rw [List.drop_eq_getElem_cons h2, List.drop_eq_nil_of_le (by omega), List.getD_eq_getElem?_getD, List.getElem?_eq_getElem h2]
    rfl
  rw [this]
  generalize s.getD (s.length - 1) 0#8 = c
  cases hc : ub c == 45 with
  | true =>
    have hc' : ub c = 45 := by simpa using hc
    have : c = 45#8 := ub_inj (b := 45#8) hc'
    subst this; rfl
  | false =>
    have hne : c ≠ 45#8 := by rintro rfl; revert hc; decide
    simp [hne]
def othB (l : List Nd) (n : Nat) : Bool := formB l n (lastC l (nd l n).a n) && (!((nd l n).a == 0) || !((nd l n).k == 2))
set_option maxRecDepth 16000 in
set_option maxHeartbeats 16000000 in
theorem oth2_ct (l : List Nd) (nl : Bool) (n : Nat) (hn : n < l.length) (hl : l.length ≤ 4000000) (hok : ∀ x ∈ l, okN x) (h2 : (nd l n).k = 2) :
    Fn Tryd.prog 45 [.sl (ndR l) nl, .int .i64 n] [.p (.bool (othB l n))] := by
  have he := nd_elem l n hn
  have hx : okN (nd l n) := hok _ (mem_getD l n default hn)
  have hnz : (n : Int) < l.length := by omega
  have h1 : (nd l n).k ≠ 1 := by omega
  have k59 := ahead_ct l nl n hn hl
  have hls := lastC_le l (nd l n).a n
  have hly : 0 ≤ lastC l (nd l n).a n → (ndR l).elem (lastC l (nd l n).a n).toNat = ndP (nd l (lastC l (nd l n).a n).toNat) := fun h => nd_elem l _ (by omega)
  unfold othB formB
  generalize lastC l (nd l n).a n = ls at *
  generalize namedB l n = NB at *
  generalize nd l n = x at *
  generalize nd l ls.toNat = y at *
  have k43 := dbare_ct x
  have k58 := dtext_ct x.t hx.t
  have e2 := s_eq0 x.l
  have e3 := s_ne0 x.t
  rw [if_neg h1, if_pos h2]
  unfold ndP at he k43
  refine Fn.of_body Tryd.func45 rfl ?_
  rw [h2] at k43
  have bb : (x.k == 2) = true := beq_iff_eq.2 h2
  rw [bb]
  clear bb
  have f0 : (x.a != 0) = !(x.a == 0) := rfl
  generalize bareB x = A at *
  generalize (x.l == []) = B at *
  generalize (x.t == []) = C at *
  generalize textB x.t = D at *
  generalize (x.a == 0) = Z at *
  by_cases hlz : ls < 0
  · rw [decide_eq_true hlz]
    rcases anc A (anc D (anc B (orc C (spl Z (trivial))))) with rfl | ⟨rfl, rfl | ⟨rfl, rfl | ⟨rfl, rfl | ⟨rfl, ⟨rfl | rfl, _⟩⟩⟩⟩⟩
    all_goals
      repeat (first | ((with_reducible first | refine callK_at 43 ?_ | refine callK_at 58 ?_ | refine callK_at 59 ?_); refine callK_p ?_; simp (maxSteps := 1000000) (disch := refine hold_ ?_; first | (simp [hn, hnz, he, h2, e2, e3, hlz, f0, -List.getD_eq_getElem?_getD]; done) | omega) [hn, hnz, he, h2, e2, e3, hlz, f0, -List.getD_eq_getElem?_getD]; (first | ((with_reducible refine k1_at 43 ?_); refine callK1_of (Fn.ct k43 Tryd.call43) ?_) | ((with_reducible refine k1_at 58 ?_); refine callK1_of (Fn.ct k58 Tryd.call58) ?_) | ((with_reducible refine k1_at 59 ?_); refine callK1_of (Fn.ct k59 Tryd.call59) ?_)); (try simp (maxSteps := 1000000) (disch := refine hold_ ?_; first | (simp [hn, hnz, he, h2, e2, e3, hlz, f0, -List.getD_eq_getElem?_getD]; done) | omega) [hn, hnz, he, h2, e2, e3, hlz, f0, -List.getD_eq_getElem?_getD]); try first | (with_reducible refine zZ ?_) | subst hK_) | ((first | (with_reducible first | refine zP fun K_ hK_ => ?_ | refine zQ fun K_ hK_ => ?_ | refine zT ?_ | refine zU ?_ | refine zV ?_ | refine zW ?_ | refine zX ?_ | refine zY ?_) | ((with_reducible first | refine zR ?_ ?_ fun K_ hK_ => ?_ | refine zS ?_ ?_ fun K_ hK_ => ?_); (focus kernel_rfl); (focus kernel_rfl))); first | (simp (maxSteps := 1000000) (disch := refine hold_ ?_; first | (simp [hn, hnz, he, h2, e2, e3, hlz, f0, -List.getD_eq_getElem?_getD]; done) | omega) [hn, hnz, he, h2, e2, e3, hlz, f0, -List.getD_eq_getElem?_getD]; try first | (with_reducible refine zZ ?_) | subst hK_) | subst hK_) | (with_reducible first | refine zA ?_ | refine zB ?_ | refine zC ?_ | refine zD ?_ | refine zE ?_ | refine zF ?_ | refine zG ?_ | refine zH ?_ | refine zI ?_ | refine zJ ?_ | refine zK ?_ | refine zL ?_ | refine zM ?_ | refine zN ?_ | refine zO ?_) | ((with_reducible refine yG ?_ ?_); (focus decide)) | ((with_reducible refine yA ?_); refine yB rfl ?_; (with_reducible first | refine yC ?_ | refine yD ?_)))
      try simp (maxSteps := 1000000) (disch := refine hold_ ?_; first | (simp [-List.getD_eq_getElem?_getD]; done) | omega) [-List.getD_eq_getElem?_getD]
  · have hly' := hly (by omega)
    obtain ⟨q, rfl⟩ : ∃ q : Nat, ls = q := ⟨ls.toNat, by omega⟩
    rw [Int.toNat_natCast] at hly'
    have hq : q < l.length := by omega
    have hqz : ¬ (q : Int) < 0 := hlz
    rw [decide_eq_false hlz]
    have f1 : (y.k != 2) = !(y.k == 2) := rfl
    generalize (y.k == 2) = F at *
    unfold ndP at hly'
    rcases anc A (anc D (anc B (orc C (orc Z (spl F (trivial)))))) with rfl | ⟨rfl, rfl | ⟨rfl, rfl | ⟨rfl, rfl | ⟨rfl, rfl | ⟨rfl, ⟨rfl | rfl, _⟩⟩⟩⟩⟩⟩
    all_goals
      repeat (first | ((with_reducible first | refine callK_at 43 ?_ | refine callK_at 58 ?_ | refine callK_at 59 ?_); refine callK_p ?_; simp (maxSteps := 1000000) (disch := refine hold_ ?_; first | (simp [hn, hnz, he, h2, e2, e3, hqz, hly', hq, f0, f1, -List.getD_eq_getElem?_getD]; done) | omega) [hn, hnz, he, h2, e2, e3, hqz, hly', hq, f0, f1, -List.getD_eq_getElem?_getD]; (first | ((with_reducible refine k1_at 43 ?_); refine callK1_of (Fn.ct k43 Tryd.call43) ?_) | ((with_reducible refine k1_at 58 ?_); refine callK1_of (Fn.ct k58 Tryd.call58) ?_) | ((with_reducible refine k1_at 59 ?_); refine callK1_of (Fn.ct k59 Tryd.call59) ?_)); (try simp (maxSteps := 1000000) (disch := refine hold_ ?_; first | (simp [hn, hnz, he, h2, e2, e3, hqz, hly', hq, f0, f1, -List.getD_eq_getElem?_getD]; done) | omega) [hn, hnz, he, h2, e2, e3, hqz, hly', hq, f0, f1, -List.getD_eq_getElem?_getD]); try first | (with_reducible refine zZ ?_) | subst hK_) | ((first | (with_reducible first | refine zP fun K_ hK_ => ?_ | refine zQ fun K_ hK_ => ?_ | refine zT ?_ | refine zU ?_ | refine zV ?_ | refine zW ?_ | refine zX ?_ | refine zY ?_) | ((with_reducible first | refine zR ?_ ?_ fun K_ hK_ => ?_ | refine zS ?_ ?_ fun K_ hK_ => ?_); (focus kernel_rfl); (focus kernel_rfl))); first | (simp (maxSteps := 1000000) (disch := refine hold_ ?_; first | (simp [hn, hnz, he, h2, e2, e3, hqz, hly', hq, f0, f1, -List.getD_eq_getElem?_getD]; done) | omega) [hn, hnz, he, h2, e2, e3, hqz, hly', hq, f0, f1, -List.getD_eq_getElem?_getD]; try first | (with_reducible refine zZ ?_) | subst hK_) | subst hK_) | (with_reducible first | refine zA ?_ | refine zB ?_ | refine zC ?_ | refine zD ?_ | refine zE ?_ | refine zF ?_ | refine zG ?_ | refine zH ?_ | refine zI ?_ | refine zJ ?_ | refine zK ?_ | refine zL ?_ | refine zM ?_ | refine zN ?_ | refine zO ?_) | ((with_reducible refine yG ?_ ?_); (focus decide)) | ((with_reducible refine yA ?_); refine yB rfl ?_; (with_reducible first | refine yC ?_ | refine yD ?_)))
      try simp (maxSteps := 1000000) (disch := refine hold_ ?_; first | (simp [-List.getD_eq_getElem?_getD]; done) | omega) [-List.getD_eq_getElem?_getD]
set_option maxRecDepth 16000 in
set_option maxHeartbeats 16000000 in
theorem oth3_ct (l : List Nd) (nl : Bool) (n : Nat) (hn : n < l.length) (hl : l.length ≤ 4000000) (hok : ∀ x ∈ l, okN x) (h3 : (nd l n).k = 3) :
    Fn Tryd.prog 45 [.sl (ndR l) nl, .int .i64 n] [.p (.bool (othB l n))] := by
  have he := nd_elem l n hn
  have hx : okN (nd l n) := hok _ (mem_getD l n default hn)
  have hnz : (n : Int) < l.length := by omega
  unfold othB formB
  generalize lastC l (nd l n).a n = ls at *
  generalize namedB l n = NB at *
  generalize nd l ls.toNat = y at *
  generalize nd l n = x at *
  have k43 := dbare_ct x
  have k58 := dtext_ct x.t hx.t
  have k16 := ris_ct x.l hx.l
  have e1 := s_eq0 x.t
  have e2 := s_eq0 x.l
  have hsz := txt_size x.t
  have hg := txt_get x.t 0
  have k61 := rblank_ct (ub (x.t.getD 0 0#8))
  have h1 : x.k ≠ 1 := by omega
  have h2 : x.k ≠ 2 := by omega
  have b2 : (x.k == 2) = false := beq_eq_false_iff_ne.2 h2
  rw [if_neg h1, if_neg h2, b2, if_pos h3]
  unfold ndP at he k43
  refine Fn.of_body Tryd.func45 rfl ?_
  rw [h3] at k43
  have k60 := dhas_ct x.t [45#8, 45#8] hx.t rfl
  change Fn Tryd.prog 60 [_, .str (ByteArray.mk #[45, 45])] [.p (.bool (hasL (txt x.t) dashS))] at k60
  clear k16 k61
  have htl := hx.t
  have w1 : 0 < x.t.length → IntKind.i64.wrap ((x.t.length : Int) - 1) = ((x.t.length - 1 : Nat) : Int) := fun h => by rw [wrap_i64 _ (by omega) (by omega)]; omega
  have hgl := txt_get x.t (x.t.length - 1)
  have hE := endD_iff x.t
  have hC0 : (x.t == []) = true → endD x.t = false := fun h => by
    have : x.t = [] := by simpa using h
    rw [this]; rfl
  have hCp : (x.t == []) = false → 0 < x.t.length := fun h => List.length_pos_iff.2 (by simpa using h)
  generalize bareB x = A at *
  generalize (x.l == []) = B at *
  generalize (x.t == []) = C at *
  generalize textB x.t = D at *
  generalize hasL (txt x.t) dashS = F at *
  cases C with
  | true =>
    rw [hC0 rfl]
    rcases anc A (anc D (anc B (spl F (trivial)))) with rfl | ⟨rfl, rfl | ⟨rfl, rfl | ⟨rfl, ⟨rfl | rfl, _⟩⟩⟩⟩
    all_goals
      repeat (first | ((with_reducible first | refine callK_at 43 ?_ | refine callK_at 58 ?_ | refine callK_at 60 ?_); refine callK_p ?_; simp (maxSteps := 1000000) (disch := refine hold_ ?_; first | (simp [hn, hnz, he, h3, b2, e1, e2, -List.getD_eq_getElem?_getD]; done) | omega) [hn, hnz, he, h3, b2, e1, e2, -List.getD_eq_getElem?_getD]; (first | ((with_reducible refine k1_at 43 ?_); refine callK1_of (Fn.ct k43 Tryd.call43) ?_) | ((with_reducible refine k1_at 58 ?_); refine callK1_of (Fn.ct k58 Tryd.call58) ?_) | ((with_reducible refine k1_at 60 ?_); refine callK1_of (Fn.ct k60 Tryd.call60) ?_)); (try simp (maxSteps := 1000000) (disch := refine hold_ ?_; first | (simp [hn, hnz, he, h3, b2, e1, e2, -List.getD_eq_getElem?_getD]; done) | omega) [hn, hnz, he, h3, b2, e1, e2, -List.getD_eq_getElem?_getD]); try first | (with_reducible refine zZ ?_) | subst hK_) | ((first | (with_reducible first | refine zP fun K_ hK_ => ?_ | refine zQ fun K_ hK_ => ?_ | refine zT ?_ | refine zU ?_ | refine zV ?_ | refine zW ?_ | refine zX ?_ | refine zY ?_) | ((with_reducible first | refine zR ?_ ?_ fun K_ hK_ => ?_ | refine zS ?_ ?_ fun K_ hK_ => ?_); (focus kernel_rfl); (focus kernel_rfl))); first | (simp (maxSteps := 1000000) (disch := refine hold_ ?_; first | (simp [hn, hnz, he, h3, b2, e1, e2, -List.getD_eq_getElem?_getD]; done) | omega) [hn, hnz, he, h3, b2, e1, e2, -List.getD_eq_getElem?_getD]; try first | (with_reducible refine zZ ?_) | subst hK_) | subst hK_) | (with_reducible first | refine zA ?_ | refine zB ?_ | refine zC ?_ | refine zD ?_ | refine zE ?_ | refine zF ?_ | refine zG ?_ | refine zH ?_ | refine zI ?_ | refine zJ ?_ | refine zK ?_ | refine zL ?_ | refine zM ?_ | refine zN ?_ | refine zO ?_) | ((with_reducible refine yG ?_ ?_); (focus decide)) | ((with_reducible refine yA ?_); refine yB rfl ?_; (with_reducible first | refine yC ?_ | refine yD ?_)))
      try simp (maxSteps := 1000000) (disch := refine hold_ ?_; first | (simp [-List.getD_eq_getElem?_getD]; done) | omega) [-List.getD_eq_getElem?_getD]
  | false =>
    have hpos := hCp rfl
    have w1' := w1 hpos
    rw [hE hpos]
    have hlt : x.t.length - 1 < x.t.length := by omega
    have hltz : ((x.t.length - 1 : Nat) : Int) < x.t.length := by omega
    have f1 : (ub (x.t.getD (x.t.length - 1) 0#8) != 45) = !(ub (x.t.getD (x.t.length - 1) 0#8) == 45) := rfl
    generalize (ub (x.t.getD (x.t.length - 1) 0#8) == 45) = G at *
    generalize ub (x.t.getD (x.t.length - 1) 0#8) = g at *
    clear hE w1 hC0 hCp
    generalize x.t.length - 1 = m at *
    rcases anc A (anc D (anc B (orc F (spl G (trivial))))) with rfl | ⟨rfl, rfl | ⟨rfl, rfl | ⟨rfl, rfl | ⟨rfl, ⟨rfl | rfl, _⟩⟩⟩⟩⟩
    all_goals
      repeat (first | ((with_reducible first | refine callK_at 43 ?_ | refine callK_at 58 ?_ | refine callK_at 60 ?_); refine callK_p ?_; simp (maxSteps := 1000000) (disch := refine hold_ ?_; first | (simp [hn, hnz, he, h3, b2, e1, e2, hsz, w1', hgl, hlt, hltz, f1, -List.getD_eq_getElem?_getD]; done) | omega) [hn, hnz, he, h3, b2, e1, e2, hsz, w1', hgl, hlt, hltz, f1, -List.getD_eq_getElem?_getD]; (first | ((with_reducible refine k1_at 43 ?_); refine callK1_of (Fn.ct k43 Tryd.call43) ?_) | ((with_reducible refine k1_at 58 ?_); refine callK1_of (Fn.ct k58 Tryd.call58) ?_) | ((with_reducible refine k1_at 60 ?_); refine callK1_of (Fn.ct k60 Tryd.call60) ?_)); (try simp (maxSteps := 1000000) (disch := refine hold_ ?_; first | (simp [hn, hnz, he, h3, b2, e1, e2, hsz, w1', hgl, hlt, hltz, f1, -List.getD_eq_getElem?_getD]; done) | omega) [hn, hnz, he, h3, b2, e1, e2, hsz, w1', hgl, hlt, hltz, f1, -List.getD_eq_getElem?_getD]); try first | (with_reducible refine zZ ?_) | subst hK_) | ((first | (with_reducible first | refine zP fun K_ hK_ => ?_ | refine zQ fun K_ hK_ => ?_ | refine zT ?_ | refine zU ?_ | refine zV ?_ | refine zW ?_ | refine zX ?_ | refine zY ?_) | ((with_reducible first | refine zR ?_ ?_ fun K_ hK_ => ?_ | refine zS ?_ ?_ fun K_ hK_ => ?_); (focus kernel_rfl); (focus kernel_rfl))); first | (simp (maxSteps := 1000000) (disch := refine hold_ ?_; first | (simp [hn, hnz, he, h3, b2, e1, e2, hsz, w1', hgl, hlt, hltz, f1, -List.getD_eq_getElem?_getD]; done) | omega) [hn, hnz, he, h3, b2, e1, e2, hsz, w1', hgl, hlt, hltz, f1, -List.getD_eq_getElem?_getD]; try first | (with_reducible refine zZ ?_) | subst hK_) | subst hK_) | (with_reducible first | refine zA ?_ | refine zB ?_ | refine zC ?_ | refine zD ?_ | refine zE ?_ | refine zF ?_ | refine zG ?_ | refine zH ?_ | refine zI ?_ | refine zJ ?_ | refine zK ?_ | refine zL ?_ | refine zM ?_ | refine zN ?_ | refine zO ?_) | ((with_reducible refine yG ?_ ?_); (focus decide)) | ((with_reducible refine yA ?_); refine yB rfl ?_; (with_reducible first | refine yC ?_ | refine yD ?_)))
      try simp (maxSteps := 1000000) (disch := refine hold_ ?_; first | (simp [-List.getD_eq_getElem?_getD]; done) | omega) [-List.getD_eq_getElem?_getD]
set_option maxRecDepth 16000 in
set_option maxHeartbeats 16000000 in
theorem oth4n_ct (l : List Nd) (nl : Bool) (n : Nat) (hn : n < l.length) (hl : l.length ≤ 4000000) (hok : ∀ x ∈ l, okN x) (h4 : (nd l n).k = 4) (hAD : bareB (nd l n) = false ∨ bareB (nd l n) = true ∧ textB (nd l n).t = false) :
    Fn Tryd.prog 45 [.sl (ndR l) nl, .int .i64 n] [.p (.bool (othB l n))] := by
  have he := nd_elem l n hn
  have hx : okN (nd l n) := hok _ (mem_getD l n default hn)
  have hnz : (n : Int) < l.length := by omega
  unfold othB formB
  generalize lastC l (nd l n).a n = ls at *
  generalize namedB l n = NB at *
  generalize nd l ls.toNat = y at *
  generalize nd l n = x at *
  have k43 := dbare_ct x
  have k58 := dtext_ct x.t hx.t
  have k16 := ris_ct x.l hx.l
  have e1 := s_eq0 x.t
  have e2 := s_eq0 x.l
  have hsz := txt_size x.t
  have hg := txt_get x.t 0
  have k61 := rblank_ct (ub (x.t.getD 0 0#8))
  have h1 : x.k ≠ 1 := by omega
  have h2 : x.k ≠ 2 := by omega
  have h3 : x.k ≠ 3 := by omega
  have b2 : (x.k == 2) = false := beq_eq_false_iff_ne.2 h2
  have b3 : (x.k == 3) = false := beq_eq_false_iff_ne.2 h3
  rw [if_neg h1, if_neg h2, b2, if_neg h3, if_pos h4]
  unfold ndP at he k43
  refine Fn.of_body Tryd.func45 rfl ?_
  rw [h4] at k43
  have k60 := dhas_ct x.t [63#8, 62#8] hx.t rfl
  change Fn Tryd.prog 60 [_, .str (ByteArray.mk #[63, 62])] [.p (.bool (hasL (txt x.t) quesS))] at k60
  have hpos : (x.t == []) = false → 0 < x.t.length := fun h => List.length_pos_iff.2 (by simpa using h)
  have hlsz := txt_size x.l
  have g0 := txt_get x.l 0
  have g1 := txt_get x.l 1
  have g2 := txt_get x.l 2
  generalize bareB x = A at *
  generalize textB x.t = D at *
  rcases hAD with rfl | ⟨rfl, rfl⟩
  all_goals
    repeat (first | ((with_reducible first | refine callK_at 43 ?_ | refine callK_at 58 ?_); refine callK_p ?_; simp (maxSteps := 1000000) (disch := refine hold_ ?_; first | (simp [hn, hnz, he, h4, b2, b3, -List.getD_eq_getElem?_getD]; done) | omega) [hn, hnz, he, h4, b2, b3, -List.getD_eq_getElem?_getD]; (first | ((with_reducible refine k1_at 43 ?_); refine callK1_of (Fn.ct k43 Tryd.call43) ?_) | ((with_reducible refine k1_at 58 ?_); refine callK1_of (Fn.ct k58 Tryd.call58) ?_)); (try simp (maxSteps := 1000000) (disch := refine hold_ ?_; first | (simp [hn, hnz, he, h4, b2, b3, -List.getD_eq_getElem?_getD]; done) | omega) [hn, hnz, he, h4, b2, b3, -List.getD_eq_getElem?_getD]); try first | (with_reducible refine zZ ?_) | subst hK_) | ((first | (with_reducible first | refine zP fun K_ hK_ => ?_ | refine zQ fun K_ hK_ => ?_ | refine zT ?_ | refine zU ?_ | refine zV ?_ | refine zW ?_ | refine zX ?_ | refine zY ?_) | ((with_reducible first | refine zR ?_ ?_ fun K_ hK_ => ?_ | refine zS ?_ ?_ fun K_ hK_ => ?_); (focus kernel_rfl); (focus kernel_rfl))); first | (simp (maxSteps := 1000000) (disch := refine hold_ ?_; first | (simp [hn, hnz, he, h4, b2, b3, -List.getD_eq_getElem?_getD]; done) | omega) [hn, hnz, he, h4, b2, b3, -List.getD_eq_getElem?_getD]; try first | (with_reducible refine zZ ?_) | subst hK_) | subst hK_) | (with_reducible first | refine zA ?_ | refine zB ?_ | refine zC ?_ | refine zD ?_ | refine zE ?_ | refine zF ?_ | refine zG ?_ | refine zH ?_ | refine zI ?_ | refine zJ ?_ | refine zK ?_ | refine zL ?_ | refine zM ?_ | refine zN ?_ | refine zO ?_) | ((with_reducible refine yG ?_ ?_); (focus decide)) | ((with_reducible refine yA ?_); refine yB rfl ?_; (with_reducible first | refine yC ?_ | refine yD ?_)))
    try simp (maxSteps := 1000000) (disch := refine hold_ ?_; first | (simp [-List.getD_eq_getElem?_getD]; done) | omega) [-List.getD_eq_getElem?_getD]
set_option maxRecDepth 16000 in
set_option maxHeartbeats 16000000 in
theorem oth4_tail (l : List Nd) (nl : Bool) (n : Nat) (x : Nd) (X : Bool) (hx : okN x) :
    ∃ c, Tryd.f45.body.bind (codePath [1, 1, 1, 0, 1, 4, 1, 3, 1, 3, 1, 2, 1, 1]) = some c ∧ ∀ Q : Exit → St → Prop,
      (∀ σ, retQ Tryd.prog Tryd.f45 0 [.p (.bool (nameB x.l && (!X && (!hasL (txt x.t) quesS && !(!(x.t == []) && blankB (ub (x.t.getD 0 0#8)))))))] [] 0 .ret σ → Q .ret σ) →
      AW Tryd.prog c Q ⟨(.p (.sl (ndR l) nl) :: .p (.int .i64 n) :: V.junk :: V.junk :: V.junk :: .ptr 5 0 0 :: V.junk :: .p (.str (txt x.l)) :: .p (.bool X) :: V.junk :: V.junk :: V.junk :: V.junk :: V.junk :: V.junk :: V.junk :: V.junk :: V.junk :: V.junk :: V.junk :: V.junk :: V.junk :: V.junk :: V.junk :: V.junk :: V.junk :: V.junk :: V.junk :: V.junk :: V.junk :: V.junk :: V.junk :: V.junk :: V.junk :: V.junk :: V.junk :: V.junk :: V.junk :: V.junk :: V.junk :: V.junk :: V.junk :: V.junk :: V.junk :: V.junk :: V.junk :: V.junk :: V.junk :: V.junk :: V.junk :: V.junk :: V.junk :: V.junk :: V.junk :: V.junk :: V.junk :: V.junk :: V.junk :: V.junk :: V.junk :: V.junk :: V.junk :: V.junk :: V.junk :: V.junk :: V.junk :: V.junk :: V.junk :: V.junk :: V.junk :: V.junk :: V.junk :: V.junk :: V.junk :: V.junk :: V.junk :: V.junk :: V.junk :: V.junk :: V.junk :: V.junk :: V.junk :: V.junk :: V.junk :: V.junk :: V.junk :: V.junk :: V.junk :: V.junk :: V.junk :: V.junk :: V.junk :: V.junk :: V.junk :: V.junk :: V.junk :: V.junk :: V.junk :: V.junk :: V.junk :: V.junk :: V.junk :: V.junk :: V.junk :: V.junk :: V.junk :: V.junk :: V.junk :: V.junk :: V.junk :: V.junk :: V.junk :: V.junk :: V.junk :: V.junk :: V.junk :: V.junk :: V.junk :: V.junk :: V.junk :: V.junk :: V.junk :: V.junk :: V.junk :: V.junk :: V.junk :: V.junk :: V.junk :: V.junk :: V.junk :: V.junk :: V.junk :: V.junk :: V.junk :: V.junk :: V.junk :: V.junk :: V.junk :: V.junk :: V.junk :: V.junk :: []), ⟨[(5, 0, ndH x)], []⟩⟩ := by
  have k16 := ris_ct x.l hx.l
  have e1 := s_eq0 x.t
  have hsz := txt_size x.t
  have hg := txt_get x.t 0
  have k61 := rblank_ct (ub (x.t.getD 0 0#8))
  have k60 := dhas_ct x.t [63#8, 62#8] hx.t rfl
  change Fn Tryd.prog 60 [_, .str (ByteArray.mk #[63, 62])] [.p (.bool (hasL (txt x.t) quesS))] at k60
  have hpos : (x.t == []) = false → 0 < x.t.length := fun h => List.length_pos_iff.2 (by simpa using h)
  generalize nameB x.l = B at *
  generalize hasL (txt x.t) quesS = F at *
  generalize blankB (ub (x.t.getD 0 0#8)) = G at *
  generalize (x.t == []) = H at *
  refine ⟨_, rfl, fun Q hQ => ?_⟩
  unfold ndH
  cases H with
  | true =>
    rcases anc B (orc X (spl F (trivial))) with rfl | ⟨rfl, rfl | ⟨rfl, ⟨rfl | rfl, _⟩⟩⟩
    all_goals
      repeat (first | ((with_reducible first | refine callK_at 16 ?_ | refine callK_at 60 ?_); refine callK_p ?_; simp (maxSteps := 1000000) (disch := refine hold_ ?_; first | (simp [e1, -List.getD_eq_getElem?_getD]; done) | omega) [e1, -List.getD_eq_getElem?_getD]; (first | ((with_reducible refine k1_at 16 ?_); refine callK1_of (Fn.ct k16 Tryd.call16) ?_) | ((with_reducible refine k1_at 60 ?_); refine callK1_of (Fn.ct k60 Tryd.call60) ?_)); (try simp (maxSteps := 1000000) (disch := refine hold_ ?_; first | (simp [e1, -List.getD_eq_getElem?_getD]; done) | omega) [e1, -List.getD_eq_getElem?_getD]); try first | (with_reducible refine zZ ?_) | subst hK_) | ((first | (with_reducible first | refine zP fun K_ hK_ => ?_ | refine zQ fun K_ hK_ => ?_ | refine zT ?_ | refine zU ?_ | refine zV ?_ | refine zW ?_ | refine zX ?_ | refine zY ?_) | ((with_reducible first | refine zR ?_ ?_ fun K_ hK_ => ?_ | refine zS ?_ ?_ fun K_ hK_ => ?_); (focus kernel_rfl); (focus kernel_rfl))); first | (simp (maxSteps := 1000000) (disch := refine hold_ ?_; first | (simp [e1, -List.getD_eq_getElem?_getD]; done) | omega) [e1, -List.getD_eq_getElem?_getD]; try first | (with_reducible refine zZ ?_) | subst hK_) | subst hK_) | (with_reducible first | refine zA ?_ | refine zB ?_ | refine zC ?_ | refine zD ?_ | refine zE ?_ | refine zF ?_ | refine zG ?_ | refine zH ?_ | refine zI ?_ | refine zJ ?_ | refine zK ?_ | refine zL ?_ | refine zM ?_ | refine zN ?_ | refine zO ?_) | ((with_reducible refine yG ?_ ?_); (focus decide)) | ((with_reducible refine yA ?_); refine yB rfl ?_; (with_reducible first | refine yC ?_ | refine yD ?_)))
      refine hQ _ ?_
      simp (maxSteps := 1000000) (disch := refine hold_ ?_; first | (simp [-List.getD_eq_getElem?_getD]; done) | omega) [-List.getD_eq_getElem?_getD]
  | false =>
    have hpos' := hpos rfl
    rcases anc B (orc X (orc F (spl G (trivial)))) with rfl | ⟨rfl, rfl | ⟨rfl, rfl | ⟨rfl, ⟨rfl | rfl, _⟩⟩⟩⟩
    all_goals
      repeat (first | ((with_reducible first | refine callK_at 16 ?_ | refine callK_at 60 ?_ | refine callK_at 61 ?_); refine callK_p ?_; simp (maxSteps := 1000000) (disch := refine hold_ ?_; first | (simp [e1, hsz, hg, hpos', -List.getD_eq_getElem?_getD]; done) | omega) [e1, hsz, hg, hpos', -List.getD_eq_getElem?_getD]; (first | ((with_reducible refine k1_at 16 ?_); refine callK1_of (Fn.ct k16 Tryd.call16) ?_) | ((with_reducible refine k1_at 60 ?_); refine callK1_of (Fn.ct k60 Tryd.call60) ?_) | ((with_reducible refine k1_at 61 ?_); refine callK1_of (Fn.ct k61 Tryd.call61) ?_)); (try simp (maxSteps := 1000000) (disch := refine hold_ ?_; first | (simp [e1, hsz, hg, hpos', -List.getD_eq_getElem?_getD]; done) | omega) [e1, hsz, hg, hpos', -List.getD_eq_getElem?_getD]); try first | (with_reducible refine zZ ?_) | subst hK_) | ((first | (with_reducible first | refine zP fun K_ hK_ => ?_ | refine zQ fun K_ hK_ => ?_ | refine zT ?_ | refine zU ?_ | refine zV ?_ | refine zW ?_ | refine zX ?_ | refine zY ?_) | ((with_reducible first | refine zR ?_ ?_ fun K_ hK_ => ?_ | refine zS ?_ ?_ fun K_ hK_ => ?_); (focus kernel_rfl); (focus kernel_rfl))); first | (simp (maxSteps := 1000000) (disch := refine hold_ ?_; first | (simp [e1, hsz, hg, hpos', -List.getD_eq_getElem?_getD]; done) | omega) [e1, hsz, hg, hpos', -List.getD_eq_getElem?_getD]; try first | (with_reducible refine zZ ?_) | subst hK_) | subst hK_) | (with_reducible first | refine zA ?_ | refine zB ?_ | refine zC ?_ | refine zD ?_ | refine zE ?_ | refine zF ?_ | refine zG ?_ | refine zH ?_ | refine zI ?_ | refine zJ ?_ | refine zK ?_ | refine zL ?_ | refine zM ?_ | refine zN ?_ | refine zO ?_) | ((with_reducible refine yG ?_ ?_); (focus decide)) | ((with_reducible refine yA ?_); refine yB rfl ?_; (with_reducible first | refine yC ?_ | refine yD ?_)))
      refine hQ _ ?_
      simp (maxSteps := 1000000) (disch := refine hold_ ?_; first | (simp [-List.getD_eq_getElem?_getD]; done) | omega) [-List.getD_eq_getElem?_getD]
set_option maxRecDepth 16000 in
set_option maxHeartbeats 16000000 in
theorem oth4_ct (l : List Nd) (nl : Bool) (n : Nat) (hn : n < l.length) (hl : l.length ≤ 4000000) (hok : ∀ x ∈ l, okN x) (h4 : (nd l n).k = 4) (hA : bareB (nd l n) = true) (hD : textB (nd l n).t = true) :
    Fn Tryd.prog 45 [.sl (ndR l) nl, .int .i64 n] [.p (.bool (othB l n))] := by
  have he := nd_elem l n hn
  have hx : okN (nd l n) := hok _ (mem_getD l n default hn)
  have hnz : (n : Int) < l.length := by omega
  unfold othB formB
  generalize lastC l (nd l n).a n = ls at *
  generalize namedB l n = NB at *
  generalize nd l ls.toNat = y at *
  generalize nd l n = x at *
  have k43 := dbare_ct x
  have k58 := dtext_ct x.t hx.t
  have h1 : x.k ≠ 1 := by omega
  have h2 : x.k ≠ 2 := by omega
  have h3 : x.k ≠ 3 := by omega
  have b2 : (x.k == 2) = false := beq_eq_false_iff_ne.2 h2
  have b3 : (x.k == 3) = false := beq_eq_false_iff_ne.2 h3
  rw [if_neg h1, if_neg h2, b2, if_neg h3, if_pos h4, hA, hD, Bool.not_false, Bool.or_true, Bool.and_true, Bool.true_and, Bool.true_and]
  have hH : ndH x = .cells [.p (.int .i64 4), .p (.int .i64 x.a), .p (.str (txt x.p)), .p (.str (txt x.l)), .p (.str (txt x.u)), .p (.str (txt x.t)), .p (.sl (dcR x.ds) x.dn), .p (.sl (atR x.ms) x.mn)] := by unfold ndH; rw [h4]
  unfold ndP at he k43
  rw [hA, h4] at k43
  rw [hD] at k58
  have hlsz := txt_size x.l
  have g0 := txt_get x.l 0
  have g1 := txt_get x.l 1
  have g2 := txt_get x.l 2
  obtain ⟨c, hc, hq⟩ := oth4_tail l nl n x true hx
  obtain ⟨c', hc', hq'⟩ := oth4_tail l nl n x false hx
  cases hc
  cases hc'
  unfold xmlW
  by_cases hl3 : x.l.length = 3
  · have q3 : (x.l.length == 3) = true := beq_iff_eq.2 hl3
    rw [q3, Bool.true_and]
    generalize hA1 : (ub (x.l.getD 0 0#8) == 120) = A1 at *
    generalize hA2 : (ub (x.l.getD 0 0#8) == 88) = A2 at *
    generalize hB1 : (ub (x.l.getD 1 0#8) == 109) = B1 at *
    generalize hB2 : (ub (x.l.getD 1 0#8) == 77) = B2 at *
    generalize hC1 : (ub (x.l.getD 2 0#8) == 108) = C1 at *
    generalize hC2 : (ub (x.l.getD 2 0#8) == 76) = C2 at *
    refine Fn.of_body Tryd.func45 rfl ?_
    rcases two A1 A2 (two B1 B2 (orc C1 (spl C2 (trivial)))) with ⟨rfl, rfl⟩ | ⟨rfl | ⟨rfl, rfl⟩, ⟨rfl, rfl⟩ | ⟨rfl | ⟨rfl, rfl⟩, rfl | ⟨rfl, ⟨rfl | rfl, _⟩⟩⟩⟩
    all_goals repeat (first | ((with_reducible refine Go.Av.AW.headAt1 13 ?_); (first | (refine AW.norm (true :: true :: false :: false :: false :: true :: false :: true :: true :: false :: false :: false :: false :: false :: false :: false :: false :: false :: false :: false :: false :: false :: false :: false :: false :: false :: false :: false :: false :: false :: false :: false :: false :: false :: false :: false :: false :: false :: false :: false :: false :: false :: false :: false :: false :: false :: false :: false :: false :: false :: false :: false :: false :: false :: false :: false :: false :: false :: false :: false :: false :: false :: false :: false :: false :: false :: false :: false :: false :: false :: false :: false :: false :: false :: false :: false :: false :: false :: false :: false :: false :: false :: false :: false :: false :: false :: false :: false :: false :: false :: false :: false :: false :: false :: false :: false :: false :: false :: false :: false :: false :: false :: false :: false :: false :: false :: false :: false :: false :: false :: false :: false :: false :: false :: false :: false :: false :: false :: false :: false :: false :: false :: false :: false :: false :: false :: false :: false :: false :: false :: false :: false :: false :: false :: false :: false :: false :: false :: false :: false :: false :: []) (τ := ⟨(.p (.sl (ndR l) nl) :: .p (.int .i64 n) :: V.junk :: V.junk :: V.junk :: .ptr 5 0 0 :: V.junk :: .p (.str (txt x.l)) :: .p (.bool true) :: V.junk :: V.junk :: V.junk :: V.junk :: V.junk :: V.junk :: V.junk :: V.junk :: V.junk :: V.junk :: V.junk :: V.junk :: V.junk :: V.junk :: V.junk :: V.junk :: V.junk :: V.junk :: V.junk :: V.junk :: V.junk :: V.junk :: V.junk :: V.junk :: V.junk :: V.junk :: V.junk :: V.junk :: V.junk :: V.junk :: V.junk :: V.junk :: V.junk :: V.junk :: V.junk :: V.junk :: V.junk :: V.junk :: V.junk :: V.junk :: V.junk :: V.junk :: V.junk :: V.junk :: V.junk :: V.junk :: V.junk :: V.junk :: V.junk :: V.junk :: V.junk :: V.junk :: V.junk :: V.junk :: V.junk :: V.junk :: V.junk :: V.junk :: V.junk :: V.junk :: V.junk :: V.junk :: V.junk :: V.junk :: V.junk :: V.junk :: V.junk :: V.junk :: V.junk :: V.junk :: V.junk :: V.junk :: V.junk :: V.junk :: V.junk :: V.junk :: V.junk :: V.junk :: V.junk :: V.junk :: V.junk :: V.junk :: V.junk :: V.junk :: V.junk :: V.junk :: V.junk :: V.junk :: V.junk :: V.junk :: V.junk :: V.junk :: V.junk :: V.junk :: V.junk :: V.junk :: V.junk :: V.junk :: V.junk :: V.junk :: V.junk :: V.junk :: V.junk :: V.junk :: V.junk :: V.junk :: V.junk :: V.junk :: V.junk :: V.junk :: V.junk :: V.junk :: V.junk :: V.junk :: V.junk :: V.junk :: V.junk :: V.junk :: V.junk :: V.junk :: V.junk :: V.junk :: V.junk :: V.junk :: V.junk :: V.junk :: V.junk :: V.junk :: V.junk :: V.junk :: V.junk :: V.junk :: []), ⟨[(5, 0, ndH x)], []⟩⟩) ?_ (hq _ fun σ h => h); rw [hH]; simp (maxSteps := 1000000) (disch := refine hold_ ?_; first | (simp [-List.getD_eq_getElem?_getD]; done) | omega) [-List.getD_eq_getElem?_getD]; done) | (refine AW.norm (true :: true :: false :: false :: false :: true :: false :: true :: true :: false :: false :: false :: false :: false :: false :: false :: false :: false :: false :: false :: false :: false :: false :: false :: false :: false :: false :: false :: false :: false :: false :: false :: false :: false :: false :: false :: false :: false :: false :: false :: false :: false :: false :: false :: false :: false :: false :: false :: false :: false :: false :: false :: false :: false :: false :: false :: false :: false :: false :: false :: false :: false :: false :: false :: false :: false :: false :: false :: false :: false :: false :: false :: false :: false :: false :: false :: false :: false :: false :: false :: false :: false :: false :: false :: false :: false :: false :: false :: false :: false :: false :: false :: false :: false :: false :: false :: false :: false :: false :: false :: false :: false :: false :: false :: false :: false :: false :: false :: false :: false :: false :: false :: false :: false :: false :: false :: false :: false :: false :: false :: false :: false :: false :: false :: false :: false :: false :: false :: false :: false :: false :: false :: false :: false :: false :: false :: false :: false :: false :: false :: false :: []) (τ := ⟨(.p (.sl (ndR l) nl) :: .p (.int .i64 n) :: V.junk :: V.junk :: V.junk :: .ptr 5 0 0 :: V.junk :: .p (.str (txt x.l)) :: .p (.bool false) :: V.junk :: V.junk :: V.junk :: V.junk :: V.junk :: V.junk :: V.junk :: V.junk :: V.junk :: V.junk :: V.junk :: V.junk :: V.junk :: V.junk :: V.junk :: V.junk :: V.junk :: V.junk :: V.junk :: V.junk :: V.junk :: V.junk :: V.junk :: V.junk :: V.junk :: V.junk :: V.junk :: V.junk :: V.junk :: V.junk :: V.junk :: V.junk :: V.junk :: V.junk :: V.junk :: V.junk :: V.junk :: V.junk :: V.junk :: V.junk :: V.junk :: V.junk :: V.junk :: V.junk :: V.junk :: V.junk :: V.junk :: V.junk :: V.junk :: V.junk :: V.junk :: V.junk :: V.junk :: V.junk :: V.junk :: V.junk :: V.junk :: V.junk :: V.junk :: V.junk :: V.junk :: V.junk :: V.junk :: V.junk :: V.junk :: V.junk :: V.junk :: V.junk :: V.junk :: V.junk :: V.junk :: V.junk :: V.junk :: V.junk :: V.junk :: V.junk :: V.junk :: V.junk :: V.junk :: V.junk :: V.junk :: V.junk :: V.junk :: V.junk :: V.junk :: V.junk :: V.junk :: V.junk :: V.junk :: V.junk :: V.junk :: V.junk :: V.junk :: V.junk :: V.junk :: V.junk :: V.junk :: V.junk :: V.junk :: V.junk :: V.junk :: V.junk :: V.junk :: V.junk :: V.junk :: V.junk :: V.junk :: V.junk :: V.junk :: V.junk :: V.junk :: V.junk :: V.junk :: V.junk :: V.junk :: V.junk :: V.junk :: V.junk :: V.junk :: V.junk :: V.junk :: V.junk :: V.junk :: V.junk :: V.junk :: V.junk :: V.junk :: V.junk :: V.junk :: V.junk :: V.junk :: V.junk :: []), ⟨[(5, 0, ndH x)], []⟩⟩) ?_ (hq' _ fun σ h => h); rw [hH]; simp (maxSteps := 1000000) (disch := refine hold_ ?_; first | (simp [-List.getD_eq_getElem?_getD]; done) | omega) [-List.getD_eq_getElem?_getD]; done))) | ((with_reducible first | refine callK_at 43 ?_ | refine callK_at 58 ?_); refine callK_p ?_; simp (maxSteps := 1000000) (disch := refine hold_ ?_; first | (simp [hn, hnz, he, h4, b2, b3, hlsz, hl3, g0, g1, g2, hA1, hA2, hB1, hB2, hC1, hC2, -List.getD_eq_getElem?_getD]; done) | omega) [hn, hnz, he, h4, b2, b3, hlsz, hl3, g0, g1, g2, hA1, hA2, hB1, hB2, hC1, hC2, -List.getD_eq_getElem?_getD]; (first | ((with_reducible refine k1_at 43 ?_); refine callK1_of (Fn.ct k43 Tryd.call43) ?_) | ((with_reducible refine k1_at 58 ?_); refine callK1_of (Fn.ct k58 Tryd.call58) ?_)); (try simp (maxSteps := 1000000) (disch := refine hold_ ?_; first | (simp [hn, hnz, he, h4, b2, b3, hlsz, hl3, g0, g1, g2, hA1, hA2, hB1, hB2, hC1, hC2, -List.getD_eq_getElem?_getD]; done) | omega) [hn, hnz, he, h4, b2, b3, hlsz, hl3, g0, g1, g2, hA1, hA2, hB1, hB2, hC1, hC2, -List.getD_eq_getElem?_getD]); try first | (with_reducible refine zZ ?_) | subst hK_) | ((first | (with_reducible first | refine zP fun K_ hK_ => ?_ | refine zQ fun K_ hK_ => ?_ | refine zT ?_ | refine zU ?_ | refine zV ?_ | refine zW ?_ | refine zX ?_ | refine zY ?_) | ((with_reducible first | refine zR ?_ ?_ fun K_ hK_ => ?_ | refine zS ?_ ?_ fun K_ hK_ => ?_); (focus kernel_rfl); (focus kernel_rfl))); first | (simp (maxSteps := 1000000) (disch := refine hold_ ?_; first | (simp [hn, hnz, he, h4, b2, b3, hlsz, hl3, g0, g1, g2, hA1, hA2, hB1, hB2, hC1, hC2, -List.getD_eq_getElem?_getD]; done) | omega) [hn, hnz, he, h4, b2, b3, hlsz, hl3, g0, g1, g2, hA1, hA2, hB1, hB2, hC1, hC2, -List.getD_eq_getElem?_getD]; try first | (with_reducible refine zZ ?_) | subst hK_) | subst hK_) | (with_reducible first | refine zA ?_ | refine zB ?_ | refine zC ?_ | refine zD ?_ | refine zE ?_ | refine zF ?_ | refine zG ?_ | refine zH ?_ | refine zI ?_ | refine zJ ?_ | refine zK ?_ | refine zL ?_ | refine zM ?_ | refine zN ?_ | refine zO ?_) | ((with_reducible refine yG ?_ ?_); (focus decide)) | ((with_reducible refine yA ?_); refine yB rfl ?_; (with_reducible first | refine yC ?_ | refine yD ?_)))
  · have q3 : (x.l.length == 3) = false := beq_eq_false_iff_ne.2 hl3
    have q3z : ((x.l.length : Int) == 3) = false := beq_eq_false_iff_ne.2 (by omega)
    rw [q3]
    refine Fn.of_body Tryd.func45 rfl ?_
    repeat (first | ((with_reducible refine Go.Av.AW.headAt1 13 ?_); (first | (refine AW.norm (true :: true :: false :: false :: false :: true :: false :: true :: true :: false :: false :: false :: false :: false :: false :: false :: false :: false :: false :: false :: false :: false :: false :: false :: false :: false :: false :: false :: false :: false :: false :: false :: false :: false :: false :: false :: false :: false :: false :: false :: false :: false :: false :: false :: false :: false :: false :: false :: false :: false :: false :: false :: false :: false :: false :: false :: false :: false :: false :: false :: false :: false :: false :: false :: false :: false :: false :: false :: false :: false :: false :: false :: false :: false :: false :: false :: false :: false :: false :: false :: false :: false :: false :: false :: false :: false :: false :: false :: false :: false :: false :: false :: false :: false :: false :: false :: false :: false :: false :: false :: false :: false :: false :: false :: false :: false :: false :: false :: false :: false :: false :: false :: false :: false :: false :: false :: false :: false :: false :: false :: false :: false :: false :: false :: false :: false :: false :: false :: false :: false :: false :: false :: false :: false :: false :: false :: false :: false :: false :: false :: false :: []) (τ := ⟨(.p (.sl (ndR l) nl) :: .p (.int .i64 n) :: V.junk :: V.junk :: V.junk :: .ptr 5 0 0 :: V.junk :: .p (.str (txt x.l)) :: .p (.bool true) :: V.junk :: V.junk :: V.junk :: V.junk :: V.junk :: V.junk :: V.junk :: V.junk :: V.junk :: V.junk :: V.junk :: V.junk :: V.junk :: V.junk :: V.junk :: V.junk :: V.junk :: V.junk :: V.junk :: V.junk :: V.junk :: V.junk :: V.junk :: V.junk :: V.junk :: V.junk :: V.junk :: V.junk :: V.junk :: V.junk :: V.junk :: V.junk :: V.junk :: V.junk :: V.junk :: V.junk :: V.junk :: V.junk :: V.junk :: V.junk :: V.junk :: V.junk :: V.junk :: V.junk :: V.junk :: V.junk :: V.junk :: V.junk :: V.junk :: V.junk :: V.junk :: V.junk :: V.junk :: V.junk :: V.junk :: V.junk :: V.junk :: V.junk :: V.junk :: V.junk :: V.junk :: V.junk :: V.junk :: V.junk :: V.junk :: V.junk :: V.junk :: V.junk :: V.junk :: V.junk :: V.junk :: V.junk :: V.junk :: V.junk :: V.junk :: V.junk :: V.junk :: V.junk :: V.junk :: V.junk :: V.junk :: V.junk :: V.junk :: V.junk :: V.junk :: V.junk :: V.junk :: V.junk :: V.junk :: V.junk :: V.junk :: V.junk :: V.junk :: V.junk :: V.junk :: V.junk :: V.junk :: V.junk :: V.junk :: V.junk :: V.junk :: V.junk :: V.junk :: V.junk :: V.junk :: V.junk :: V.junk :: V.junk :: V.junk :: V.junk :: V.junk :: V.junk :: V.junk :: V.junk :: V.junk :: V.junk :: V.junk :: V.junk :: V.junk :: V.junk :: V.junk :: V.junk :: V.junk :: V.junk :: V.junk :: V.junk :: V.junk :: V.junk :: V.junk :: V.junk :: V.junk :: V.junk :: []), ⟨[(5, 0, ndH x)], []⟩⟩) ?_ (hq _ fun σ h => h); rw [hH]; simp (maxSteps := 1000000) (disch := refine hold_ ?_; first | (simp [-List.getD_eq_getElem?_getD]; done) | omega) [-List.getD_eq_getElem?_getD]; done) | (refine AW.norm (true :: true :: false :: false :: false :: true :: false :: true :: true :: false :: false :: false :: false :: false :: false :: false :: false :: false :: false :: false :: false :: false :: false :: false :: false :: false :: false :: false :: false :: false :: false :: false :: false :: false :: false :: false :: false :: false :: false :: false :: false :: false :: false :: false :: false :: false :: false :: false :: false :: false :: false :: false :: false :: false :: false :: false :: false :: false :: false :: false :: false :: false :: false :: false :: false :: false :: false :: false :: false :: false :: false :: false :: false :: false :: false :: false :: false :: false :: false :: false :: false :: false :: false :: false :: false :: false :: false :: false :: false :: false :: false :: false :: false :: false :: false :: false :: false :: false :: false :: false :: false :: false :: false :: false :: false :: false :: false :: false :: false :: false :: false :: false :: false :: false :: false :: false :: false :: false :: false :: false :: false :: false :: false :: false :: false :: false :: false :: false :: false :: false :: false :: false :: false :: false :: false :: false :: false :: false :: false :: false :: false :: []) (τ := ⟨(.p (.sl (ndR l) nl) :: .p (.int .i64 n) :: V.junk :: V.junk :: V.junk :: .ptr 5 0 0 :: V.junk :: .p (.str (txt x.l)) :: .p (.bool false) :: V.junk :: V.junk :: V.junk :: V.junk :: V.junk :: V.junk :: V.junk :: V.junk :: V.junk :: V.junk :: V.junk :: V.junk :: V.junk :: V.junk :: V.junk :: V.junk :: V.junk :: V.junk :: V.junk :: V.junk :: V.junk :: V.junk :: V.junk :: V.junk :: V.junk :: V.junk :: V.junk :: V.junk :: V.junk :: V.junk :: V.junk :: V.junk :: V.junk :: V.junk :: V.junk :: V.junk :: V.junk :: V.junk :: V.junk :: V.junk :: V.junk :: V.junk :: V.junk :: V.junk :: V.junk :: V.junk :: V.junk :: V.junk :: V.junk :: V.junk :: V.junk :: V.junk :: V.junk :: V.junk :: V.junk :: V.junk :: V.junk :: V.junk :: V.junk :: V.junk :: V.junk :: V.junk :: V.junk :: V.junk :: V.junk :: V.junk :: V.junk :: V.junk :: V.junk :: V.junk :: V.junk :: V.junk :: V.junk :: V.junk :: V.junk :: V.junk :: V.junk :: V.junk :: V.junk :: V.junk :: V.junk :: V.junk :: V.junk :: V.junk :: V.junk :: V.junk :: V.junk :: V.junk :: V.junk :: V.junk :: V.junk :: V.junk :: V.junk :: V.junk :: V.junk :: V.junk :: V.junk :: V.junk :: V.junk :: V.junk :: V.junk :: V.junk :: V.junk :: V.junk :: V.junk :: V.junk :: V.junk :: V.junk :: V.junk :: V.junk :: V.junk :: V.junk :: V.junk :: V.junk :: V.junk :: V.junk :: V.junk :: V.junk :: V.junk :: V.junk :: V.junk :: V.junk :: V.junk :: V.junk :: V.junk :: V.junk :: V.junk :: V.junk :: V.junk :: V.junk :: V.junk :: V.junk :: []), ⟨[(5, 0, ndH x)], []⟩⟩) ?_ (hq' _ fun σ h => h); rw [hH]; simp (maxSteps := 1000000) (disch := refine hold_ ?_; first | (simp [-List.getD_eq_getElem?_getD]; done) | omega) [-List.getD_eq_getElem?_getD]; done))) | ((with_reducible first | refine callK_at 43 ?_ | refine callK_at 58 ?_); refine callK_p ?_; simp (maxSteps := 1000000) (disch := refine hold_ ?_; first | (simp [hn, hnz, he, h4, b2, b3, hlsz, q3z, -List.getD_eq_getElem?_getD]; done) | omega) [hn, hnz, he, h4, b2, b3, hlsz, q3z, -List.getD_eq_getElem?_getD]; (first | ((with_reducible refine k1_at 43 ?_); refine callK1_of (Fn.ct k43 Tryd.call43) ?_) | ((with_reducible refine k1_at 58 ?_); refine callK1_of (Fn.ct k58 Tryd.call58) ?_)); (try simp (maxSteps := 1000000) (disch := refine hold_ ?_; first | (simp [hn, hnz, he, h4, b2, b3, hlsz, q3z, -List.getD_eq_getElem?_getD]; done) | omega) [hn, hnz, he, h4, b2, b3, hlsz, q3z, -List.getD_eq_getElem?_getD]); try first | (with_reducible refine zZ ?_) | subst hK_) | ((first | (with_reducible first | refine zP fun K_ hK_ => ?_ | refine zQ fun K_ hK_ => ?_ | refine zT ?_ | refine zU ?_ | refine zV ?_ | refine zW ?_ | refine zX ?_ | refine zY ?_) | ((with_reducible first | refine zR ?_ ?_ fun K_ hK_ => ?_ | refine zS ?_ ?_ fun K_ hK_ => ?_); (focus kernel_rfl); (focus kernel_rfl))); first | (simp (maxSteps := 1000000) (disch := refine hold_ ?_; first | (simp [hn, hnz, he, h4, b2, b3, hlsz, q3z, -List.getD_eq_getElem?_getD]; done) | omega) [hn, hnz, he, h4, b2, b3, hlsz, q3z, -List.getD_eq_getElem?_getD]; try first | (with_reducible refine zZ ?_) | subst hK_) | subst hK_) | (with_reducible first | refine zA ?_ | refine zB ?_ | refine zC ?_ | refine zD ?_ | refine zE ?_ | refine zF ?_ | refine zG ?_ | refine zH ?_ | refine zI ?_ | refine zJ ?_ | refine zK ?_ | refine zL ?_ | refine zM ?_ | refine zN ?_ | refine zO ?_) | ((with_reducible refine yG ?_ ?_); (focus decide)) | ((with_reducible refine yA ?_); refine yB rfl ?_; (with_reducible first | refine yC ?_ | refine yD ?_)))
set_option maxRecDepth 16000 in
set_option maxHeartbeats 16000000 in
theorem othE_ct (l : List Nd) (nl : Bool) (n : Nat) (hn : n < l.length) (hl : l.length ≤ 4000000) (hok : ∀ x ∈ l, okN x) (h1 : (nd l n).k ≠ 1) (h2 : (nd l n).k ≠ 2) (h3 : (nd l n).k ≠ 3) (h4 : (nd l n).k ≠ 4) :
    Fn Tryd.prog 45 [.sl (ndR l) nl, .int .i64 n] [.p (.bool (othB l n))] := by
  have he := nd_elem l n hn
  have hx : okN (nd l n) := hok _ (mem_getD l n default hn)
  have hnz : (n : Int) < l.length := by omega
  unfold othB formB
  generalize lastC l (nd l n).a n = ls at *
  generalize namedB l n = NB at *
  generalize nd l ls.toNat = y at *
  generalize nd l n = x at *
  have k43 := dbare_ct x
  have k58 := dtext_ct x.t hx.t
  have k16 := ris_ct x.l hx.l
  have e1 := s_eq0 x.t
  have e2 := s_eq0 x.l
  have hsz := txt_size x.t
  have hg := txt_get x.t 0
  have k61 := rblank_ct (ub (x.t.getD 0 0#8))
  have b2 : (x.k == 2) = false := beq_eq_false_iff_ne.2 h2
  have b3 : (x.k == 3) = false := beq_eq_false_iff_ne.2 h3
  have b4 : (x.k == 4) = false := beq_eq_false_iff_ne.2 h4
  rw [if_neg h1, if_neg h2, if_neg h3, if_neg h4]
  unfold ndP at he k43
  refine Fn.of_body Tryd.func45 rfl ?_
  generalize bareB x = A at *
  generalize textB x.t = D at *
  rcases anc A (spl D (trivial)) with rfl | ⟨rfl, ⟨rfl | rfl, _⟩⟩
  all_goals
    repeat (first | ((with_reducible first | refine callK_at 43 ?_ | refine callK_at 58 ?_); refine callK_p ?_; simp (maxSteps := 1000000) (disch := refine hold_ ?_; first | (simp [hn, hnz, he, b2, b3, b4, -List.getD_eq_getElem?_getD]; done) | omega) [hn, hnz, he, b2, b3, b4, -List.getD_eq_getElem?_getD]; (first | ((with_reducible refine k1_at 43 ?_); refine callK1_of (Fn.ct k43 Tryd.call43) ?_) | ((with_reducible refine k1_at 58 ?_); refine callK1_of (Fn.ct k58 Tryd.call58) ?_)); (try simp (maxSteps := 1000000) (disch := refine hold_ ?_; first | (simp [hn, hnz, he, b2, b3, b4, -List.getD_eq_getElem?_getD]; done) | omega) [hn, hnz, he, b2, b3, b4, -List.getD_eq_getElem?_getD]); try first | (with_reducible refine zZ ?_) | subst hK_) | ((first | (with_reducible first | refine zP fun K_ hK_ => ?_ | refine zQ fun K_ hK_ => ?_ | refine zT ?_ | refine zU ?_ | refine zV ?_ | refine zW ?_ | refine zX ?_ | refine zY ?_) | ((with_reducible first | refine zR ?_ ?_ fun K_ hK_ => ?_ | refine zS ?_ ?_ fun K_ hK_ => ?_); (focus kernel_rfl); (focus kernel_rfl))); first | (simp (maxSteps := 1000000) (disch := refine hold_ ?_; first | (simp [hn, hnz, he, b2, b3, b4, -List.getD_eq_getElem?_getD]; done) | omega) [hn, hnz, he, b2, b3, b4, -List.getD_eq_getElem?_getD]; try first | (with_reducible refine zZ ?_) | subst hK_) | subst hK_) | (with_reducible first | refine zA ?_ | refine zB ?_ | refine zC ?_ | refine zD ?_ | refine zE ?_ | refine zF ?_ | refine zG ?_ | refine zH ?_ | refine zI ?_ | refine zJ ?_ | refine zK ?_ | refine zL ?_ | refine zM ?_ | refine zN ?_ | refine zO ?_) | ((with_reducible refine yG ?_ ?_); (focus decide)) | ((with_reducible refine yA ?_); refine yB rfl ?_; (with_reducible first | refine yC ?_ | refine yD ?_)))
    try simp (maxSteps := 1000000) (disch := refine hold_ ?_; first | (simp [-List.getD_eq_getElem?_getD]; done) | omega) [-List.getD_eq_getElem?_getD]
theorem other_ct (l : List Nd) (nl : Bool) (n : Nat) (hn : n < l.length) (hl : l.length ≤ 4000000) (hok : ∀ x ∈ l, okN x) (h1 : (nd l n).k ≠ 1) :
    Fn Tryd.prog 45 [.sl (ndR l) nl, .int .i64 n] [.p (.bool (othB l n))] := by
  by_cases h2 : (nd l n).k = 2
  · exact oth2_ct l nl n hn hl hok h2
  by_cases h3 : (nd l n).k = 3
  · exact oth3_ct l nl n hn hl hok h3
  by_cases h4 : (nd l n).k = 4
  · cases hA : bareB (nd l n) with
    | false => exact oth4n_ct l nl n hn hl hok h4 (.inl hA)
    | true =>
    cases hD : textB (nd l n).t with
    | false => exact oth4n_ct l nl n hn hl hok h4 (.inr ⟨hA, hD⟩)
    | true => exact oth4_ct l nl n hn hl hok h4 hA hD
  exact othE_ct l nl n hn hl hok h1 h2 h3 h4
end Go.Av.Doc
end
