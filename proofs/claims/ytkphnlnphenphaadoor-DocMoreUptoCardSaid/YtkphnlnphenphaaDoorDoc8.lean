/- The walks of this seat's functions, and what is known of what they reckon (Doc8). Conditions: those that each theorem names. -/
import Derived.Test.YtkphnlnphenphaaDoorDoc7
section
set_option linter.unusedSimpArgs false
set_option linter.unusedVariables false
set_option linter.unusedSectionVars false
open Go Go.Av Go.Proofs
namespace Go.Av.Doc
variable [ML]
theorem s_0ne (s : List (BitVec 8)) : strBin .neq (ByteArray.mk #[]) (txt s) = some (.bool !([] == s)) := str_neq_txt [] s
def ndH (x : Nd) : HB := .cells [.p (.int .i64 x.k), .p (.int .i64 x.a), .p (.str (txt x.p)), .p (.str (txt x.l)), .p (.str (txt x.u)), .p (.str (txt x.t)), .p (.sl (dcR x.ds) x.dn), .p (.sl (atR x.ms) x.mn)]
set_option maxRecDepth 16000 in
set_option maxHeartbeats 16000000 in
theorem named_ct (l : List Nd) (nl : Bool) (n : Nat) (hp : pOk l (n + 1)) (hn : n < l.length) (hok : ∀ x ∈ l, okN x) :
    Fn Tryd.prog 50 [.sl (ndR l) nl, .int .i64 n] [.p (.bool (namedB l n))] := by
  have he := nd_elem l n hn
  have hx : okN (nd l n) := hok _ (mem_getD l n default hn)
  have km : ∀ p, Fn Tryd.prog 69 [.sl (ndR l) nl, .int .i64 n, .str (txt p)] [.p (.str (txt (meansL l p n).1)), .p (.bool (meansL l p n).2)] := fun p => means_ct l nl p n hp hn hok
  unfold namedB
  generalize nd l n = x at *
  have hme : ∀ p, ∃ m, meansL l p n = m := fun p => ⟨_, rfl⟩
  generalize hM : (fun p => meansL l p n) = M at *
  have hM' : ∀ p, meansL l p n = M p := fun p => by rw [← hM]
  simp only [hM'] at km ⊢
  have hnz : (n : Int) < l.length := by omega
  have k69 := km x.p
  have k55 := is_ct x.l hx.l
  have k68 := prefix_ct x.p hx.p
  have e1 := str_neq_txt (M x.p).1 x.u
  have e2 := q_xmlns x.p
  unfold elOk
  have hN := upto_le (fun k => !dupA x.ms k && atOk (x.ms.getD k at0) (M (x.ms.getD k at0).p)) x.ms.length
  have hall := upto_all (fun k => !dupA x.ms k && atOk (x.ms.getD k at0) (M (x.ms.getD k at0).p)) x.ms.length
  have hno := upto_no (fun k => !dupA x.ms k && atOk (x.ms.getD k at0) (M (x.ms.getD k at0).p)) x.ms.length
  rw [allB_upto]
  generalize upto (fun k => !dupA x.ms k && atOk (x.ms.getD k at0) (M (x.ms.getD k at0).p)) x.ms.length = N at *
  generalize (M x.p).1 = U at *
  generalize (M x.p).2 = O at *
  generalize (U == x.u) = B at *
  generalize nameB x.l = C at *
  generalize preOk x.p = D at *
  generalize (x.p == xmlnsS) = E at *
  refine Fn.of_body Tryd.func50 rfl ?_
  unfold ndP at he
  have hml := hx.ml
  rcases anc O (anc B (anc C (anc D (orc E (trivial))))) with rfl | ⟨rfl, rfl | ⟨rfl, rfl | ⟨rfl, rfl | ⟨rfl, rfl | ⟨rfl, _⟩⟩⟩⟩⟩
  iterate 5
    · clear hall hno
      repeat (first | ((with_reducible first | refine callK_at 69 ?_ | refine callK_at 55 ?_ | refine callK_at 68 ?_); refine callK_p ?_; simp (maxSteps := 1000000) (disch := refine hold_ ?_; first | (simp [hn, hnz, he, e1, e2, -List.getD_eq_getElem?_getD]; done) | omega) [hn, hnz, he, e1, e2, -List.getD_eq_getElem?_getD]; (first | ((with_reducible refine k1_at 69 ?_); refine callK1_of (Fn.ct k69 Tryd.call69) ?_) | ((with_reducible refine k1_at 55 ?_); refine callK1_of (Fn.ct k55 Tryd.call55) ?_) | ((with_reducible refine k1_at 68 ?_); refine callK1_of (Fn.ct k68 Tryd.call68) ?_)); (try simp (maxSteps := 1000000) (disch := refine hold_ ?_; first | (simp [hn, hnz, he, e1, e2, -List.getD_eq_getElem?_getD]; done) | omega) [hn, hnz, he, e1, e2, -List.getD_eq_getElem?_getD]); try first | (with_reducible refine zZ ?_) | subst hK_) | ((first | (with_reducible first | refine zP fun K_ hK_ => ?_ | refine zQ fun K_ hK_ => ?_ | refine zT ?_ | refine zU ?_ | refine zV ?_ | refine zW ?_ | refine zX ?_ | refine zY ?_) | ((with_reducible first | refine zR ?_ ?_ fun K_ hK_ => ?_ | refine zS ?_ ?_ fun K_ hK_ => ?_); (focus kernel_rfl); (focus kernel_rfl))); first | (simp (maxSteps := 1000000) (disch := refine hold_ ?_; first | (simp [hn, hnz, he, e1, e2, -List.getD_eq_getElem?_getD]; done) | omega) [hn, hnz, he, e1, e2, -List.getD_eq_getElem?_getD]; try first | (with_reducible refine zZ ?_) | subst hK_) | subst hK_) | (with_reducible first | refine zA ?_ | refine zB ?_ | refine zC ?_ | refine zD ?_ | refine zE ?_ | refine zF ?_ | refine zG ?_ | refine zH ?_ | refine zI ?_ | refine zJ ?_ | refine zK ?_ | refine zL ?_ | refine zM ?_ | refine zN ?_ | refine zO ?_) | ((with_reducible refine yG ?_ ?_); (focus decide)) | ((with_reducible refine yA ?_); refine yB rfl ?_; (with_reducible first | refine yC ?_ | refine yD ?_)))
      all_goals (try simp (maxSteps := 1000000) (disch := refine hold_ ?_; first | (simp [-List.getD_eq_getElem?_getD]; done) | omega) [-List.getD_eq_getElem?_getD])
  repeat (first | ((with_reducible first | refine callK_at 69 ?_ | refine callK_at 55 ?_ | refine callK_at 68 ?_); refine callK_p ?_; simp (maxSteps := 1000000) (disch := refine hold_ ?_; first | (simp [hn, hnz, he, e1, e2, -List.getD_eq_getElem?_getD]; done) | omega) [hn, hnz, he, e1, e2, -List.getD_eq_getElem?_getD]; (first | ((with_reducible refine k1_at 69 ?_); refine callK1_of (Fn.ct k69 Tryd.call69) ?_) | ((with_reducible refine k1_at 55 ?_); refine callK1_of (Fn.ct k55 Tryd.call55) ?_) | ((with_reducible refine k1_at 68 ?_); refine callK1_of (Fn.ct k68 Tryd.call68) ?_)); (try simp (maxSteps := 1000000) (disch := refine hold_ ?_; first | (simp [hn, hnz, he, e1, e2, -List.getD_eq_getElem?_getD]; done) | omega) [hn, hnz, he, e1, e2, -List.getD_eq_getElem?_getD]); try first | (with_reducible refine zZ ?_) | subst hK_) | ((first | (with_reducible first | refine zP fun K_ hK_ => ?_ | refine zQ fun K_ hK_ => ?_ | refine zT ?_ | refine zU ?_ | refine zV ?_ | refine zW ?_ | refine zX ?_ | refine zY ?_) | ((with_reducible first | refine zR ?_ ?_ fun K_ hK_ => ?_ | refine zS ?_ ?_ fun K_ hK_ => ?_); (focus kernel_rfl); (focus kernel_rfl))); first | (simp (maxSteps := 1000000) (disch := refine hold_ ?_; first | (simp [hn, hnz, he, e1, e2, -List.getD_eq_getElem?_getD]; done) | omega) [hn, hnz, he, e1, e2, -List.getD_eq_getElem?_getD]; try first | (with_reducible refine zZ ?_) | subst hK_) | subst hK_) | (with_reducible first | refine zA ?_ | refine zB ?_ | refine zC ?_ | refine zD ?_ | refine zE ?_ | refine zF ?_ | refine zG ?_ | refine zH ?_ | refine zI ?_ | refine zJ ?_ | refine zK ?_ | refine zL ?_ | refine zM ?_ | refine zN ?_ | refine zO ?_) | ((with_reducible refine yG ?_ ?_); (focus decide)) | ((with_reducible refine yA ?_); refine yB rfl ?_; (with_reducible first | refine yC ?_ | refine yD ?_)))
  refine AW.iter (true :: true :: false :: false :: false :: true :: false :: false :: false :: false :: false :: false :: false :: false :: false :: false :: false :: false :: false :: false :: false :: false :: false :: false :: false :: false :: false :: false :: false :: false :: false :: false :: false :: false :: false :: false :: false :: false :: false :: false :: false :: false :: false :: false :: false :: false :: false :: false :: false :: false :: false :: true :: true :: true :: false :: false :: false :: false :: false :: false :: false :: false :: false :: false :: false :: false :: false :: false :: false :: false :: false :: false :: false :: false :: false :: false :: false :: false :: false :: false :: false :: false :: false :: false :: false :: false :: false :: false :: false :: false :: false :: false :: false :: false :: false :: false :: false :: false :: false :: false :: false :: false :: false :: false :: false :: false :: false :: false :: false :: false :: false :: false :: false :: false :: false :: false :: false :: false :: false :: false :: []) N (fun k => ⟨(.p (.sl (ndR l) nl) :: .p (.int .i64 n) :: V.junk :: V.junk :: V.junk :: .ptr 5 0 0 :: V.junk :: V.junk :: V.junk :: V.junk :: V.junk :: V.junk :: V.junk :: V.junk :: V.junk :: V.junk :: V.junk :: V.junk :: V.junk :: V.junk :: V.junk :: V.junk :: V.junk :: V.junk :: V.junk :: V.junk :: V.junk :: V.junk :: V.junk :: V.junk :: V.junk :: V.junk :: V.junk :: V.junk :: V.junk :: V.junk :: V.junk :: V.junk :: V.junk :: V.junk :: V.junk :: V.junk :: V.junk :: V.junk :: V.junk :: V.junk :: V.junk :: V.junk :: V.junk :: V.junk :: V.junk :: .p (.sl (atR x.ms) x.mn) :: .p (.int .i64 x.ms.length) :: .p (.int .i64 k) :: V.junk :: V.junk :: V.junk :: V.junk :: V.junk :: V.junk :: V.junk :: V.junk :: V.junk :: V.junk :: V.junk :: V.junk :: V.junk :: V.junk :: V.junk :: V.junk :: V.junk :: V.junk :: V.junk :: V.junk :: V.junk :: V.junk :: V.junk :: V.junk :: V.junk :: V.junk :: V.junk :: V.junk :: V.junk :: V.junk :: V.junk :: V.junk :: V.junk :: V.junk :: V.junk :: V.junk :: V.junk :: V.junk :: V.junk :: V.junk :: V.junk :: V.junk :: V.junk :: V.junk :: V.junk :: V.junk :: V.junk :: V.junk :: V.junk :: V.junk :: V.junk :: V.junk :: V.junk :: V.junk :: V.junk :: V.junk :: V.junk :: V.junk :: V.junk :: V.junk :: V.junk :: V.junk :: V.junk :: V.junk :: V.junk :: V.junk :: []), ⟨[(5, 0, ndH x)], []⟩⟩) ?_ ?_
  · (unfold ndH; simp (maxSteps := 1000000) (disch := refine hold_ ?_; first | (simp [-List.getD_eq_getElem?_getD]; done) | omega) [-List.getD_eq_getElem?_getD])
  clear k69 k55 k68 e1 e2
  intro k hk
  have e0 := wrap_succ k N hk (by omega)
  unfold ndH
  by_cases hkm : k < x.ms.length
  · have hkz : (k : Int) < x.ms.length := by omega
    have hkz2 : (k : Int) ≤ x.ms.length := by omega
    have hkl : k ≤ x.ms.length := by omega
    have ha : (atR x.ms).elem k = atP (x.ms.getD k at0) := atR_elem x.ms k hkm
    have hcut : (atR x.ms).cut 0 k = atR (x.ms.take k) := at_cut x.ms k
    have kd := hasA_ct (x.ms.take k) x.mn (x.ms.getD k at0) (by rw [List.length_take]; omega)
    have hd := hx.ms _ (mem_getD x.ms k at0 hkm)
    have hdup : dupA x.ms k = !(allB (fun j => !(alike ((x.ms.take k).getD j at0) (x.ms.getD k at0))) (x.ms.take k).length) := rfl
    rw [← hdup] at kd
    clear hdup
    have hg : k < N → (!dupA x.ms k && atOk (x.ms.getD k at0) (M (x.ms.getD k at0).p)) = true := hall k
    have hb : N = k → (!dupA x.ms k && atOk (x.ms.getD k at0) (M (x.ms.getD k at0).p)) = false := fun e => by subst e; exact hno hkm
    clear hall hno
    generalize atR (x.ms.take k) = R at *
    generalize dupA x.ms k = Du at *
    generalize x.ms.getD k at0 = a at *
    have k69 := km a.p
    have k55 := is_ct a.l hd.l
    have k68 := prefix_ct a.p hd.p
    have k51 := text_ct a.v hd.v
    have e1 := s_eq0 a.p
    have e2 := q_xmlns a.p
    have e3 := q_xmlns a.l
    have e4 := str_neq_txt (M a.p).1 a.u
    have e5 := s_0ne a.u
    unfold atOk at hg hb
    unfold atC at kd
    unfold atP at ha
    generalize (M a.p).2 = O at *
    generalize (M a.p).1 = U at *
    generalize nameB a.l = C at *
    generalize preOk a.p = D at *
    generalize (a.p == []) = P0 at *
    generalize (a.p == xmlnsS) = E at *
    generalize (a.l == xmlnsS) = L at *
    generalize textB a.v = T at *
    cases P0 with
    | true =>
      simp only [if_true] at hg hb
      generalize ([] == a.u) = V at *
      rcases orc Du (anc O (anc V (anc C (anc D (orc E (orc L (spl T (trivial)))))))) with rfl | ⟨rfl, rfl | ⟨rfl, rfl | ⟨rfl, rfl | ⟨rfl, rfl | ⟨rfl, rfl | ⟨rfl, rfl | ⟨rfl, ⟨rfl | rfl, _⟩⟩⟩⟩⟩⟩⟩⟩
      all_goals
        first
          | (have hkN : k = N := by
               rcases Nat.lt_or_ge k N with h1 | h1
               · have := hg h1; simp at this
               · omega
             have hne : N ≠ x.ms.length := by omega
             repeat (first | ((with_reducible refine Go.Av.AW.freezeAt 11 9 ?_ ?_ fun K_ hK_ => ?_); (focus decide); (focus (simp; done)); simp (maxSteps := 1000000) (disch := refine hold_ ?_; first | (simp [-ownSl, Go.Av.ownSl_bl, e0, e1, e2, e3, e4, e5, ha, hcut, hkm, hkz, hkz2, hkl, -List.getD_eq_getElem?_getD]; done) | omega) [-ownSl, Go.Av.ownSl_bl, e0, e1, e2, e3, e4, e5, ha, hcut, hkm, hkz, hkz2, hkl, -List.getD_eq_getElem?_getD]; subst hK_) | ((with_reducible first | refine callK_at 69 ?_ | refine callK_at 70 ?_ | refine callK_at 55 ?_ | refine callK_at 68 ?_ | refine callK_at 51 ?_); refine callK_p ?_; simp (maxSteps := 1000000) (disch := refine hold_ ?_; first | (simp [e0, e1, e2, e3, e4, e5, ha, hcut, hkm, hkz, hkz2, hkl, -List.getD_eq_getElem?_getD]; done) | omega) [e0, e1, e2, e3, e4, e5, ha, hcut, hkm, hkz, hkz2, hkl, -List.getD_eq_getElem?_getD]; (first | ((with_reducible refine k1_at 69 ?_); refine callK1_of (Fn.ct k69 Tryd.call69) ?_) | ((with_reducible refine k1_at 70 ?_); refine callK1_of (Fn.ct kd Tryd.call70) ?_) | ((with_reducible refine k1_at 55 ?_); refine callK1_of (Fn.ct k55 Tryd.call55) ?_) | ((with_reducible refine k1_at 68 ?_); refine callK1_of (Fn.ct k68 Tryd.call68) ?_) | ((with_reducible refine k1_at 51 ?_); refine callK1_of (Fn.ct k51 Tryd.call51) ?_)); (try simp (maxSteps := 1000000) (disch := refine hold_ ?_; first | (simp [e0, e1, e2, e3, e4, e5, ha, hcut, hkm, hkz, hkz2, hkl, -List.getD_eq_getElem?_getD]; done) | omega) [e0, e1, e2, e3, e4, e5, ha, hcut, hkm, hkz, hkz2, hkl, -List.getD_eq_getElem?_getD]); try first | (with_reducible refine zZ ?_) | subst hK_) | ((first | (with_reducible first | refine zP fun K_ hK_ => ?_ | refine zQ fun K_ hK_ => ?_ | refine zT ?_ | refine zU ?_ | refine zV ?_ | refine zW ?_ | refine zX ?_ | refine zY ?_) | ((with_reducible first | refine zR ?_ ?_ fun K_ hK_ => ?_ | refine zS ?_ ?_ fun K_ hK_ => ?_); (focus kernel_rfl); (focus kernel_rfl))); first | (simp (maxSteps := 1000000) (disch := refine hold_ ?_; first | (simp [e0, e1, e2, e3, e4, e5, ha, hcut, hkm, hkz, hkz2, hkl, -List.getD_eq_getElem?_getD]; done) | omega) [e0, e1, e2, e3, e4, e5, ha, hcut, hkm, hkz, hkz2, hkl, -List.getD_eq_getElem?_getD]; try first | (with_reducible refine zZ ?_) | subst hK_) | subst hK_) | (with_reducible first | refine zA ?_ | refine zB ?_ | refine zC ?_ | refine zD ?_ | refine zE ?_ | refine zF ?_ | refine zG ?_ | refine zH ?_ | refine zI ?_ | refine zJ ?_ | refine zK ?_ | refine zL ?_ | refine zM ?_ | refine zN ?_ | refine zO ?_) | ((with_reducible refine yG ?_ ?_); (focus decide)) | ((with_reducible refine yA ?_); refine yB rfl ?_; (with_reducible first | refine yC ?_ | refine yD ?_)))
             simp (maxSteps := 1000000) (disch := refine hold_ ?_; first | (simp [hne, -List.getD_eq_getElem?_getD]; done) | omega) [hne, -List.getD_eq_getElem?_getD])
          | (have hkN : k < N := Nat.lt_of_le_of_ne hk fun e => by simpa using hb e.symm
             repeat (first | ((with_reducible refine Go.Av.AW.freezeAt 11 9 ?_ ?_ fun K_ hK_ => ?_); (focus decide); (focus (simp; done)); simp (maxSteps := 1000000) (disch := refine hold_ ?_; first | (simp [-ownSl, Go.Av.ownSl_bl, e0, e1, e2, e3, e4, e5, ha, hcut, hkm, hkz, hkz2, hkl, -List.getD_eq_getElem?_getD]; done) | omega) [-ownSl, Go.Av.ownSl_bl, e0, e1, e2, e3, e4, e5, ha, hcut, hkm, hkz, hkz2, hkl, -List.getD_eq_getElem?_getD]; subst hK_) | ((with_reducible first | refine callK_at 69 ?_ | refine callK_at 70 ?_ | refine callK_at 55 ?_ | refine callK_at 68 ?_ | refine callK_at 51 ?_); refine callK_p ?_; simp (maxSteps := 1000000) (disch := refine hold_ ?_; first | (simp [e0, e1, e2, e3, e4, e5, ha, hcut, hkm, hkz, hkz2, hkl, -List.getD_eq_getElem?_getD]; done) | omega) [e0, e1, e2, e3, e4, e5, ha, hcut, hkm, hkz, hkz2, hkl, -List.getD_eq_getElem?_getD]; (first | ((with_reducible refine k1_at 69 ?_); refine callK1_of (Fn.ct k69 Tryd.call69) ?_) | ((with_reducible refine k1_at 70 ?_); refine callK1_of (Fn.ct kd Tryd.call70) ?_) | ((with_reducible refine k1_at 55 ?_); refine callK1_of (Fn.ct k55 Tryd.call55) ?_) | ((with_reducible refine k1_at 68 ?_); refine callK1_of (Fn.ct k68 Tryd.call68) ?_) | ((with_reducible refine k1_at 51 ?_); refine callK1_of (Fn.ct k51 Tryd.call51) ?_)); (try simp (maxSteps := 1000000) (disch := refine hold_ ?_; first | (simp [e0, e1, e2, e3, e4, e5, ha, hcut, hkm, hkz, hkz2, hkl, -List.getD_eq_getElem?_getD]; done) | omega) [e0, e1, e2, e3, e4, e5, ha, hcut, hkm, hkz, hkz2, hkl, -List.getD_eq_getElem?_getD]); try first | (with_reducible refine zZ ?_) | subst hK_) | ((first | (with_reducible first | refine zP fun K_ hK_ => ?_ | refine zQ fun K_ hK_ => ?_ | refine zT ?_ | refine zU ?_ | refine zV ?_ | refine zW ?_ | refine zX ?_ | refine zY ?_) | ((with_reducible first | refine zR ?_ ?_ fun K_ hK_ => ?_ | refine zS ?_ ?_ fun K_ hK_ => ?_); (focus kernel_rfl); (focus kernel_rfl))); first | (simp (maxSteps := 1000000) (disch := refine hold_ ?_; first | (simp [e0, e1, e2, e3, e4, e5, ha, hcut, hkm, hkz, hkz2, hkl, -List.getD_eq_getElem?_getD]; done) | omega) [e0, e1, e2, e3, e4, e5, ha, hcut, hkm, hkz, hkz2, hkl, -List.getD_eq_getElem?_getD]; try first | (with_reducible refine zZ ?_) | subst hK_) | subst hK_) | (with_reducible first | refine zA ?_ | refine zB ?_ | refine zC ?_ | refine zD ?_ | refine zE ?_ | refine zF ?_ | refine zG ?_ | refine zH ?_ | refine zI ?_ | refine zJ ?_ | refine zK ?_ | refine zL ?_ | refine zM ?_ | refine zN ?_ | refine zO ?_) | ((with_reducible refine yG ?_ ?_); (focus decide)) | ((with_reducible refine yA ?_); refine yB rfl ?_; (with_reducible first | refine yC ?_ | refine yD ?_)))
             refine ⟨hkN, ?_⟩
             simp (maxSteps := 1000000) (disch := refine hold_ ?_; first | (simp [-List.getD_eq_getElem?_getD]; done) | omega) [-List.getD_eq_getElem?_getD])
    | false =>
      simp only [Bool.false_eq_true, if_false] at hg hb
      generalize (U == a.u) = V at *
      rcases orc Du (anc O (anc V (anc C (anc D (orc E (spl T (trivial))))))) with rfl | ⟨rfl, rfl | ⟨rfl, rfl | ⟨rfl, rfl | ⟨rfl, rfl | ⟨rfl, rfl | ⟨rfl, ⟨rfl | rfl, _⟩⟩⟩⟩⟩⟩⟩
      all_goals
        first
          | (have hkN : k = N := by
               rcases Nat.lt_or_ge k N with h1 | h1
               · have := hg h1; simp at this
               · omega
             have hne : N ≠ x.ms.length := by omega
             repeat (first | ((with_reducible refine Go.Av.AW.freezeAt 11 9 ?_ ?_ fun K_ hK_ => ?_); (focus decide); (focus (simp; done)); simp (maxSteps := 1000000) (disch := refine hold_ ?_; first | (simp [-ownSl, Go.Av.ownSl_bl, e0, e1, e2, e3, e4, e5, ha, hcut, hkm, hkz, hkz2, hkl, -List.getD_eq_getElem?_getD]; done) | omega) [-ownSl, Go.Av.ownSl_bl, e0, e1, e2, e3, e4, e5, ha, hcut, hkm, hkz, hkz2, hkl, -List.getD_eq_getElem?_getD]; subst hK_) | ((with_reducible first | refine callK_at 69 ?_ | refine callK_at 70 ?_ | refine callK_at 55 ?_ | refine callK_at 68 ?_ | refine callK_at 51 ?_); refine callK_p ?_; simp (maxSteps := 1000000) (disch := refine hold_ ?_; first | (simp [e0, e1, e2, e3, e4, e5, ha, hcut, hkm, hkz, hkz2, hkl, -List.getD_eq_getElem?_getD]; done) | omega) [e0, e1, e2, e3, e4, e5, ha, hcut, hkm, hkz, hkz2, hkl, -List.getD_eq_getElem?_getD]; (first | ((with_reducible refine k1_at 69 ?_); refine callK1_of (Fn.ct k69 Tryd.call69) ?_) | ((with_reducible refine k1_at 70 ?_); refine callK1_of (Fn.ct kd Tryd.call70) ?_) | ((with_reducible refine k1_at 55 ?_); refine callK1_of (Fn.ct k55 Tryd.call55) ?_) | ((with_reducible refine k1_at 68 ?_); refine callK1_of (Fn.ct k68 Tryd.call68) ?_) | ((with_reducible refine k1_at 51 ?_); refine callK1_of (Fn.ct k51 Tryd.call51) ?_)); (try simp (maxSteps := 1000000) (disch := refine hold_ ?_; first | (simp [e0, e1, e2, e3, e4, e5, ha, hcut, hkm, hkz, hkz2, hkl, -List.getD_eq_getElem?_getD]; done) | omega) [e0, e1, e2, e3, e4, e5, ha, hcut, hkm, hkz, hkz2, hkl, -List.getD_eq_getElem?_getD]); try first | (with_reducible refine zZ ?_) | subst hK_) | ((first | (with_reducible first | refine zP fun K_ hK_ => ?_ | refine zQ fun K_ hK_ => ?_ | refine zT ?_ | refine zU ?_ | refine zV ?_ | refine zW ?_ | refine zX ?_ | refine zY ?_) | ((with_reducible first | refine zR ?_ ?_ fun K_ hK_ => ?_ | refine zS ?_ ?_ fun K_ hK_ => ?_); (focus kernel_rfl); (focus kernel_rfl))); first | (simp (maxSteps := 1000000) (disch := refine hold_ ?_; first | (simp [e0, e1, e2, e3, e4, e5, ha, hcut, hkm, hkz, hkz2, hkl, -List.getD_eq_getElem?_getD]; done) | omega) [e0, e1, e2, e3, e4, e5, ha, hcut, hkm, hkz, hkz2, hkl, -List.getD_eq_getElem?_getD]; try first | (with_reducible refine zZ ?_) | subst hK_) | subst hK_) | (with_reducible first | refine zA ?_ | refine zB ?_ | refine zC ?_ | refine zD ?_ | refine zE ?_ | refine zF ?_ | refine zG ?_ | refine zH ?_ | refine zI ?_ | refine zJ ?_ | refine zK ?_ | refine zL ?_ | refine zM ?_ | refine zN ?_ | refine zO ?_) | ((with_reducible refine yG ?_ ?_); (focus decide)) | ((with_reducible refine yA ?_); refine yB rfl ?_; (with_reducible first | refine yC ?_ | refine yD ?_)))
             simp (maxSteps := 1000000) (disch := refine hold_ ?_; first | (simp [hne, -List.getD_eq_getElem?_getD]; done) | omega) [hne, -List.getD_eq_getElem?_getD])
          | (have hkN : k < N := Nat.lt_of_le_of_ne hk fun e => by simpa using hb e.symm
             repeat (first | ((with_reducible refine Go.Av.AW.freezeAt 11 9 ?_ ?_ fun K_ hK_ => ?_); (focus decide); (focus (simp; done)); simp (maxSteps := 1000000) (disch := refine hold_ ?_; first | (simp [-ownSl, Go.Av.ownSl_bl, e0, e1, e2, e3, e4, e5, ha, hcut, hkm, hkz, hkz2, hkl, -List.getD_eq_getElem?_getD]; done) | omega) [-ownSl, Go.Av.ownSl_bl, e0, e1, e2, e3, e4, e5, ha, hcut, hkm, hkz, hkz2, hkl, -List.getD_eq_getElem?_getD]; subst hK_) | ((with_reducible first | refine callK_at 69 ?_ | refine callK_at 70 ?_ | refine callK_at 55 ?_ | refine callK_at 68 ?_ | refine callK_at 51 ?_); refine callK_p ?_; simp (maxSteps := 1000000) (disch := refine hold_ ?_; first | (simp [e0, e1, e2, e3, e4, e5, ha, hcut, hkm, hkz, hkz2, hkl, -List.getD_eq_getElem?_getD]; done) | omega) [e0, e1, e2, e3, e4, e5, ha, hcut, hkm, hkz, hkz2, hkl, -List.getD_eq_getElem?_getD]; (first | ((with_reducible refine k1_at 69 ?_); refine callK1_of (Fn.ct k69 Tryd.call69) ?_) | ((with_reducible refine k1_at 70 ?_); refine callK1_of (Fn.ct kd Tryd.call70) ?_) | ((with_reducible refine k1_at 55 ?_); refine callK1_of (Fn.ct k55 Tryd.call55) ?_) | ((with_reducible refine k1_at 68 ?_); refine callK1_of (Fn.ct k68 Tryd.call68) ?_) | ((with_reducible refine k1_at 51 ?_); refine callK1_of (Fn.ct k51 Tryd.call51) ?_)); (try simp (maxSteps := 1000000) (disch := refine hold_ ?_; first | (simp [e0, e1, e2, e3, e4, e5, ha, hcut, hkm, hkz, hkz2, hkl, -List.getD_eq_getElem?_getD]; done) | omega) [e0, e1, e2, e3, e4, e5, ha, hcut, hkm, hkz, hkz2, hkl, -List.getD_eq_getElem?_getD]); try first | (with_reducible refine zZ ?_) | subst hK_) | ((first | (with_reducible first | refine zP fun K_ hK_ => ?_ | refine zQ fun K_ hK_ => ?_ | refine zT ?_ | refine zU ?_ | refine zV ?_ | refine zW ?_ | refine zX ?_ | refine zY ?_) | ((with_reducible first | refine zR ?_ ?_ fun K_ hK_ => ?_ | refine zS ?_ ?_ fun K_ hK_ => ?_); (focus kernel_rfl); (focus kernel_rfl))); first | (simp (maxSteps := 1000000) (disch := refine hold_ ?_; first | (simp [e0, e1, e2, e3, e4, e5, ha, hcut, hkm, hkz, hkz2, hkl, -List.getD_eq_getElem?_getD]; done) | omega) [e0, e1, e2, e3, e4, e5, ha, hcut, hkm, hkz, hkz2, hkl, -List.getD_eq_getElem?_getD]; try first | (with_reducible refine zZ ?_) | subst hK_) | subst hK_) | (with_reducible first | refine zA ?_ | refine zB ?_ | refine zC ?_ | refine zD ?_ | refine zE ?_ | refine zF ?_ | refine zG ?_ | refine zH ?_ | refine zI ?_ | refine zJ ?_ | refine zK ?_ | refine zL ?_ | refine zM ?_ | refine zN ?_ | refine zO ?_) | ((with_reducible refine yG ?_ ?_); (focus decide)) | ((with_reducible refine yA ?_); refine yB rfl ?_; (with_reducible first | refine yC ?_ | refine yD ?_)))
             refine ⟨hkN, ?_⟩
             simp (maxSteps := 1000000) (disch := refine hold_ ?_; first | (simp [-List.getD_eq_getElem?_getD]; done) | omega) [-List.getD_eq_getElem?_getD])
  · have hkz : ¬ (k : Int) < x.ms.length := by omega
    have hkN : N = x.ms.length := by omega
    repeat (first | ((first | (with_reducible first | refine zP fun K_ hK_ => ?_ | refine zQ fun K_ hK_ => ?_ | refine zT ?_ | refine zU ?_ | refine zV ?_ | refine zW ?_ | refine zX ?_ | refine zY ?_) | ((with_reducible first | refine zR ?_ ?_ fun K_ hK_ => ?_ | refine zS ?_ ?_ fun K_ hK_ => ?_); (focus kernel_rfl); (focus kernel_rfl))); first | (simp (maxSteps := 1000000) (disch := refine hold_ ?_; first | (simp [hkz, -List.getD_eq_getElem?_getD]; done) | omega) [hkz, -List.getD_eq_getElem?_getD]; try first | (with_reducible refine zZ ?_) | subst hK_) | subst hK_) | (with_reducible first | refine zA ?_ | refine zB ?_ | refine zC ?_ | refine zD ?_ | refine zE ?_ | refine zF ?_ | refine zG ?_ | refine zH ?_ | refine zI ?_ | refine zJ ?_ | refine zK ?_ | refine zL ?_ | refine zM ?_ | refine zN ?_ | refine zO ?_) | ((with_reducible refine yG ?_ ?_); (focus decide)) | ((with_reducible refine yA ?_); refine yB rfl ?_; (with_reducible first | refine yC ?_ | refine yD ?_)))
    all_goals (try simp (maxSteps := 1000000) (disch := refine hold_ ?_; first | (simp [hkN, -List.getD_eq_getElem?_getD]; done) | omega) [hkN, -List.getD_eq_getElem?_getD])
end Go.Av.Doc
end
