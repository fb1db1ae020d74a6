/- The walks of this seat's functions, and what is known of what they reckon (Docd). Conditions: those that each theorem names. -/
import Derived.Test.YtkphnlnphenphaaDoorDocb
section
set_option linter.unusedSimpArgs false
set_option linter.unusedVariables false
set_option linter.unusedSectionVars false
open Go Go.Av Go.Proofs
namespace Go.Av.Doc
variable [ML]
theorem take_getD {α : Type} (l : List α) (k j : Nat) (d : α) (h : j < k) : (l.take k).getD j d = l.getD j d := by
  simp only [List.getD_eq_getElem?_getD, List.getElem?_take, if_pos h]
theorem upto_congr (p q : Nat → Bool) (n : Nat) (h : ∀ k, k < n → p k = q k) : upto p n = upto q n := by
  induction n with
  | zero => rfl
  | succ n ih =>
    have := ih fun k hk => h k (by omega)
    unfold upto
    rw [this, h n (by omega)]
theorem dupD_upto (l : List Dc) (k : Nat) (hk : k ≤ l.length) : dupD l k = !decide (upto (fun j => !((l.getD j ⟨[], []⟩).p == (l.getD k ⟨[], []⟩).p)) k = k) := by
  unfold dupD
  rw [allB_upto, List.length_take, Nat.min_eq_left hk]
  rw [upto_congr _ (fun j => !((l.getD j ⟨[], []⟩).p == (l.getD k ⟨[], []⟩).p)) k fun j hj => by rw [take_getD _ _ _ _ hj]]
theorem dupA_upto (l : List At) (k : Nat) (hk : k ≤ l.length) : dupA l k = !decide (upto (fun j => !(alike (l.getD j at0) (l.getD k at0))) k = k) := by
  unfold dupA
  rw [allB_upto, List.length_take, Nat.min_eq_left hk]
  rw [upto_congr _ (fun j => !(alike (l.getD j at0) (l.getD k at0))) k fun j hj => by rw [take_getD _ _ _ _ hj]]
set_option maxRecDepth 30000 in
set_option maxHeartbeats 40000000 in
theorem elem_tail (l : List Nd) (nl : Bool) (n : Nat) (x : Nd) (M : List (BitVec 8) → List (BitVec 8) × Bool) (hx : okN x)
    (km : ∀ p, Fn Tryd.prog 15 [.sl (ndR l) nl, .int .i64 n, .str (txt p)] [.p (.str (txt (M p).1)), .p (.bool (M p).2)]) (hMn : (M []).2 = true) :
    ∃ c, Tryd.f44.body.bind (codeAt 5) = some c ∧ AW Tryd.prog c (retQ Tryd.prog Tryd.f44 0 [.p (.bool (allB (fun k => !dupA x.ms k && atOk (x.ms.getD k at0) (M (x.ms.getD k at0).p)) x.ms.length))] [] 0)
      ⟨(.p (.sl (ndR l) nl) :: .p (.int .i64 n) :: V.junk :: V.junk :: V.junk :: .ptr 5 0 0 :: V.junk :: V.junk :: V.junk :: V.junk :: V.junk :: V.junk :: V.junk :: V.junk :: V.junk :: V.junk :: V.junk :: V.junk :: V.junk :: V.junk :: V.junk :: V.junk :: V.junk :: V.junk :: V.junk :: V.junk :: V.junk :: V.junk :: V.junk :: V.junk :: V.junk :: V.junk :: V.junk :: V.junk :: V.junk :: V.junk :: V.junk :: V.junk :: V.junk :: V.junk :: V.junk :: V.junk :: V.junk :: V.junk :: V.junk :: V.junk :: V.junk :: V.junk :: V.junk :: V.junk :: V.junk :: V.junk :: V.junk :: V.junk :: V.junk :: V.junk :: V.junk :: V.junk :: V.junk :: V.junk :: V.junk :: V.junk :: V.junk :: V.junk :: V.junk :: V.junk :: V.junk :: V.junk :: V.junk :: V.junk :: V.junk :: V.junk :: V.junk :: V.junk :: V.junk :: V.junk :: V.junk :: V.junk :: V.junk :: V.junk :: V.junk :: V.junk :: V.junk :: V.junk :: V.junk :: V.junk :: V.junk :: V.junk :: V.junk :: V.junk :: V.junk :: V.junk :: V.junk :: V.junk :: V.junk :: V.junk :: V.junk :: V.junk :: V.junk :: V.junk :: V.junk :: V.junk :: V.junk :: V.junk :: V.junk :: V.junk :: V.junk :: V.junk :: V.junk :: V.junk :: V.junk :: V.junk :: V.junk :: V.junk :: V.junk :: V.junk :: V.junk :: V.junk :: V.junk :: V.junk :: V.junk :: V.junk :: V.junk :: V.junk :: V.junk :: V.junk :: V.junk :: V.junk :: V.junk :: V.junk :: V.junk :: V.junk :: V.junk :: V.junk :: V.junk :: V.junk :: V.junk :: V.junk :: V.junk :: V.junk :: V.junk :: V.junk :: V.junk :: V.junk :: V.junk :: V.junk :: V.junk :: V.junk :: V.junk :: V.junk :: V.junk :: V.junk :: V.junk :: V.junk :: V.junk :: V.junk :: V.junk :: V.junk :: V.junk :: V.junk :: V.junk :: V.junk :: V.junk :: V.junk :: V.junk :: V.junk :: V.junk :: V.junk :: V.junk :: V.junk :: V.junk :: V.junk :: V.junk :: V.junk :: V.junk :: V.junk :: V.junk :: V.junk :: V.junk :: V.junk :: V.junk :: V.junk :: V.junk :: []), ⟨[(5, 0, ndH x)], []⟩⟩ := by
  rw [allB_upto]
  have hml := hx.ml
  have aN := upto_le (fun k => !dupA x.ms k && atOk (x.ms.getD k at0) (M (x.ms.getD k at0).p)) x.ms.length
  have aall := upto_all (fun k => !dupA x.ms k && atOk (x.ms.getD k at0) (M (x.ms.getD k at0).p)) x.ms.length
  have ano := upto_no (fun k => !dupA x.ms k && atOk (x.ms.getD k at0) (M (x.ms.getD k at0).p)) x.ms.length
  generalize upto (fun k => !dupA x.ms k && atOk (x.ms.getD k at0) (M (x.ms.getD k at0).p)) x.ms.length = N2 at *
  refine ⟨_, rfl, ?_⟩
  unfold ndH
  repeat (first | ((first | (with_reducible first | refine zP fun K_ hK_ => ?_ | refine zQ fun K_ hK_ => ?_ | refine zT ?_ | refine zU ?_ | refine zV ?_ | refine zW ?_ | refine zX ?_ | refine zY ?_) | ((with_reducible first | refine zR ?_ ?_ fun K_ hK_ => ?_ | refine zS ?_ ?_ fun K_ hK_ => ?_); (focus kernel_rfl); (focus kernel_rfl))); first | (simp (maxSteps := 1000000) (disch := refine hold_ ?_; first | (simp [-List.getD_eq_getElem?_getD]; done) | omega) [-List.getD_eq_getElem?_getD]; try first | (with_reducible refine zZ ?_) | subst hK_) | subst hK_) | (with_reducible first | refine zA ?_ | refine zB ?_ | refine zC ?_ | refine zD ?_ | refine zE ?_ | refine zF ?_ | refine zG ?_ | refine zH ?_ | refine zI ?_ | refine zJ ?_ | refine zK ?_ | refine zL ?_ | refine zM ?_ | refine zN ?_ | refine zO ?_) | ((with_reducible refine yG ?_ ?_); (focus decide)) | ((with_reducible refine yA ?_); refine yB rfl ?_; (with_reducible first | refine yC ?_ | refine yD ?_)))
  refine AW.iter (true :: true :: false :: false :: false :: true :: false :: false :: false :: false :: false :: false :: false :: false :: false :: false :: false :: false :: false :: false :: false :: false :: false :: false :: false :: false :: false :: false :: false :: false :: false :: false :: false :: false :: false :: false :: false :: false :: false :: false :: false :: false :: false :: false :: false :: false :: false :: false :: false :: false :: false :: false :: false :: false :: false :: false :: false :: false :: false :: false :: false :: false :: false :: false :: false :: false :: false :: false :: false :: false :: false :: false :: false :: false :: false :: false :: false :: false :: false :: false :: false :: false :: false :: false :: false :: false :: false :: false :: false :: false :: false :: false :: false :: false :: false :: false :: true :: true :: false :: false :: false :: false :: false :: false :: false :: false :: false :: false :: false :: false :: false :: false :: false :: false :: false :: false :: false :: false :: false :: false :: false :: false :: false :: false :: false :: false :: false :: false :: false :: false :: false :: false :: false :: false :: false :: false :: false :: false :: false :: false :: false :: false :: false :: false :: false :: false :: false :: false :: false :: false :: false :: false :: false :: false :: false :: false :: false :: false :: false :: false :: false :: false :: false :: false :: false :: false :: false :: false :: false :: false :: false :: false :: false :: false :: false :: false :: false :: false :: false :: false :: false :: false :: false :: []) N2 (fun k => ⟨(.p (.sl (ndR l) nl) :: .p (.int .i64 n) :: V.junk :: V.junk :: V.junk :: .ptr 5 0 0 :: V.junk :: V.junk :: V.junk :: V.junk :: V.junk :: V.junk :: V.junk :: V.junk :: V.junk :: V.junk :: V.junk :: V.junk :: V.junk :: V.junk :: V.junk :: V.junk :: V.junk :: V.junk :: V.junk :: V.junk :: V.junk :: V.junk :: V.junk :: V.junk :: V.junk :: V.junk :: V.junk :: V.junk :: V.junk :: V.junk :: V.junk :: V.junk :: V.junk :: V.junk :: V.junk :: V.junk :: V.junk :: V.junk :: V.junk :: V.junk :: V.junk :: V.junk :: V.junk :: V.junk :: V.junk :: V.junk :: V.junk :: V.junk :: V.junk :: V.junk :: V.junk :: V.junk :: V.junk :: V.junk :: V.junk :: V.junk :: V.junk :: V.junk :: V.junk :: V.junk :: V.junk :: V.junk :: V.junk :: V.junk :: V.junk :: V.junk :: V.junk :: V.junk :: V.junk :: V.junk :: V.junk :: V.junk :: V.junk :: V.junk :: V.junk :: V.junk :: V.junk :: V.junk :: V.junk :: V.junk :: V.junk :: V.junk :: V.junk :: V.junk :: V.junk :: V.junk :: V.junk :: V.junk :: V.junk :: V.junk :: .p (.int .i64 x.ms.length) :: .p (.int .i64 k) :: V.junk :: V.junk :: V.junk :: V.junk :: V.junk :: V.junk :: V.junk :: V.junk :: V.junk :: V.junk :: V.junk :: V.junk :: V.junk :: V.junk :: V.junk :: V.junk :: V.junk :: V.junk :: V.junk :: V.junk :: V.junk :: V.junk :: V.junk :: V.junk :: V.junk :: V.junk :: V.junk :: V.junk :: V.junk :: V.junk :: V.junk :: V.junk :: V.junk :: V.junk :: V.junk :: V.junk :: V.junk :: V.junk :: V.junk :: V.junk :: V.junk :: V.junk :: V.junk :: V.junk :: V.junk :: V.junk :: V.junk :: V.junk :: V.junk :: V.junk :: V.junk :: V.junk :: V.junk :: V.junk :: V.junk :: V.junk :: V.junk :: V.junk :: V.junk :: V.junk :: V.junk :: V.junk :: V.junk :: V.junk :: V.junk :: V.junk :: V.junk :: V.junk :: V.junk :: V.junk :: V.junk :: V.junk :: V.junk :: V.junk :: V.junk :: V.junk :: V.junk :: V.junk :: V.junk :: V.junk :: V.junk :: V.junk :: V.junk :: V.junk :: V.junk :: []), ⟨[(5, 0, ndH x)], []⟩⟩) ?_ ?_
  · (unfold ndH; simp (maxSteps := 1000000) (disch := refine hold_ ?_; first | (simp [-List.getD_eq_getElem?_getD]; done) | omega) [-List.getD_eq_getElem?_getD])
  intro k hk
  have e0 := wrap_succ k N2 hk (by omega)
  unfold ndH
  by_cases hkm : k < x.ms.length
  case neg =>
    have hkz : ¬ (k : Int) < x.ms.length := by omega
    have hkN : N2 = x.ms.length := by omega
    repeat (first | ((first | (with_reducible first | refine zP fun K_ hK_ => ?_ | refine zQ fun K_ hK_ => ?_ | refine zT ?_ | refine zU ?_ | refine zV ?_ | refine zW ?_ | refine zX ?_ | refine zY ?_) | ((with_reducible first | refine zR ?_ ?_ fun K_ hK_ => ?_ | refine zS ?_ ?_ fun K_ hK_ => ?_); (focus kernel_rfl); (focus kernel_rfl))); first | (simp (maxSteps := 1000000) (disch := refine hold_ ?_; first | (simp [hkz, -List.getD_eq_getElem?_getD]; done) | omega) [hkz, -List.getD_eq_getElem?_getD]; try first | (with_reducible refine zZ ?_) | subst hK_) | subst hK_) | (with_reducible first | refine zA ?_ | refine zB ?_ | refine zC ?_ | refine zD ?_ | refine zE ?_ | refine zF ?_ | refine zG ?_ | refine zH ?_ | refine zI ?_ | refine zJ ?_ | refine zK ?_ | refine zL ?_ | refine zM ?_ | refine zN ?_ | refine zO ?_) | ((with_reducible refine yG ?_ ?_); (focus decide)) | ((with_reducible refine yA ?_); refine yB rfl ?_; (with_reducible first | refine yC ?_ | refine yD ?_)))
    all_goals (try simp (maxSteps := 1000000) (disch := refine hold_ ?_; first | (simp [hkN, -List.getD_eq_getElem?_getD]; done) | omega) [hkN, -List.getD_eq_getElem?_getD])
  have hkz : (k : Int) < x.ms.length := by omega
  have ha : (atR x.ms).elem k = atP (x.ms.getD k at0) := atR_elem x.ms k hkm
  have hd := hx.ms _ (mem_getD x.ms k at0 hkm)
  have hg : k < N2 → (!dupA x.ms k && atOk (x.ms.getD k at0) (M (x.ms.getD k at0).p)) = true := aall k
  have hb : N2 = k → (!dupA x.ms k && atOk (x.ms.getD k at0) (M (x.ms.getD k at0).p)) = false := fun e => by subst e; exact ano hkm
  rw [dupA_upto x.ms k (by omega)] at hg hb
  have jN := upto_le (fun j => !(alike (x.ms.getD j at0) (x.ms.getD k at0))) k
  have jall := upto_all (fun j => !(alike (x.ms.getD j at0) (x.ms.getD k at0))) k
  have jno := upto_no (fun j => !(alike (x.ms.getD j at0) (x.ms.getD k at0))) k
  generalize upto (fun j => !(alike (x.ms.getD j at0) (x.ms.getD k at0))) k = J at *
  clear aall ano
  have hja : ∀ j, j < k → (atR x.ms).elem j = atP (x.ms.getD j at0) := fun j hj => atR_elem x.ms j (by omega)
  generalize x.ms.getD k at0 = a at *
  have k15 := km a.p
  have k16l := ris_ct a.l hd.l
  have k16p := ris_ct a.p hd.p
  have k58 := dtext_ct a.v hd.v
  have e1 := s_ne0 a.p
  have e1' := s_eq0 a.p
  have e2 := q_xmlns a.p
  have e3 := q_xmlns a.l
  have e4 := str_neq_txt (M a.p).1 a.u
  have e5 := s_0ne a.u
  have hPa : (a.p == []) = true → (M a.p).2 = true := fun h => by
    have : a.p = [] := by simpa using h
    rw [this]; exact hMn
  unfold atOk preOk at hg hb
  unfold atP at ha
  generalize (M a.p).2 = O2 at *
  generalize (M a.p).1 = U2 at *
  generalize nameB a.l = C2 at *
  generalize nameB a.p = D2 at *
  generalize (a.p == []) = P2 at *
  generalize (a.p == xmlnsS) = E2 at *
  generalize (a.l == xmlnsS) = L2 at *
  generalize textB a.v = T2 at *
  cases P2 with
  | true =>
    have hO2 := hPa rfl
    subst hO2
    simp only [if_true] at hg hb
    generalize ([] == a.u) = V2 at *
    clear e4 k15 k16p hPa
    rcases anc V2 (anc C2 (orc E2 (orc L2 (anc T2 (trivial))))) with rfl | ⟨rfl, rfl | ⟨rfl, rfl | ⟨rfl, rfl | ⟨rfl, rfl | ⟨rfl, _⟩⟩⟩⟩⟩
    iterate 5
      · have hkN : k = N2 := by
          rcases Nat.lt_or_ge k N2 with h1 | h1
          · have := hg h1; simp at this
          · omega
        have hne : N2 ≠ x.ms.length := by omega
        rw [decide_eq_false hne]
        repeat (first | ((with_reducible first | refine callK_at 16 ?_ | refine callK_at 58 ?_); refine callK_p ?_; simp (maxSteps := 1000000) (disch := refine hold_ ?_; first | (simp [hkm, hkz, ha, e1, e1', e2, e3, e5, -List.getD_eq_getElem?_getD]; done) | omega) [hkm, hkz, ha, e1, e1', e2, e3, e5, -List.getD_eq_getElem?_getD]; (first | ((with_reducible refine k1_at 16 ?_); refine callK1_of (Fn.ct k16l Tryd.call16) ?_) | ((with_reducible refine k1_at 58 ?_); refine callK1_of (Fn.ct k58 Tryd.call58) ?_)); (try simp (maxSteps := 1000000) (disch := refine hold_ ?_; first | (simp [hkm, hkz, ha, e1, e1', e2, e3, e5, -List.getD_eq_getElem?_getD]; done) | omega) [hkm, hkz, ha, e1, e1', e2, e3, e5, -List.getD_eq_getElem?_getD]); try first | (with_reducible refine zZ ?_) | subst hK_) | ((first | (with_reducible first | refine zP fun K_ hK_ => ?_ | refine zQ fun K_ hK_ => ?_ | refine zT ?_ | refine zU ?_ | refine zV ?_ | refine zW ?_ | refine zX ?_ | refine zY ?_) | ((with_reducible first | refine zR ?_ ?_ fun K_ hK_ => ?_ | refine zS ?_ ?_ fun K_ hK_ => ?_); (focus kernel_rfl); (focus kernel_rfl))); first | (simp (maxSteps := 1000000) (disch := refine hold_ ?_; first | (simp [hkm, hkz, ha, e1, e1', e2, e3, e5, -List.getD_eq_getElem?_getD]; done) | omega) [hkm, hkz, ha, e1, e1', e2, e3, e5, -List.getD_eq_getElem?_getD]; try first | (with_reducible refine zZ ?_) | subst hK_) | subst hK_) | (with_reducible first | refine zA ?_ | refine zB ?_ | refine zC ?_ | refine zD ?_ | refine zE ?_ | refine zF ?_ | refine zG ?_ | refine zH ?_ | refine zI ?_ | refine zJ ?_ | refine zK ?_ | refine zL ?_ | refine zM ?_ | refine zN ?_ | refine zO ?_) | ((with_reducible refine yG ?_ ?_); (focus decide)) | ((with_reducible refine yA ?_); refine yB rfl ?_; (with_reducible first | refine yC ?_ | refine yD ?_)))
        all_goals (try simp (maxSteps := 1000000) (disch := refine hold_ ?_; first | (simp [-List.getD_eq_getElem?_getD]; done) | omega) [-List.getD_eq_getElem?_getD])
    repeat (first | ((with_reducible first | refine callK_at 16 ?_ | refine callK_at 58 ?_); refine callK_p ?_; simp (maxSteps := 1000000) (disch := refine hold_ ?_; first | (simp [hkm, hkz, ha, e1, e1', e2, e3, e5, -List.getD_eq_getElem?_getD]; done) | omega) [hkm, hkz, ha, e1, e1', e2, e3, e5, -List.getD_eq_getElem?_getD]; (first | ((with_reducible refine k1_at 16 ?_); refine callK1_of (Fn.ct k16l Tryd.call16) ?_) | ((with_reducible refine k1_at 58 ?_); refine callK1_of (Fn.ct k58 Tryd.call58) ?_)); (try simp (maxSteps := 1000000) (disch := refine hold_ ?_; first | (simp [hkm, hkz, ha, e1, e1', e2, e3, e5, -List.getD_eq_getElem?_getD]; done) | omega) [hkm, hkz, ha, e1, e1', e2, e3, e5, -List.getD_eq_getElem?_getD]); try first | (with_reducible refine zZ ?_) | subst hK_) | ((first | (with_reducible first | refine zP fun K_ hK_ => ?_ | refine zQ fun K_ hK_ => ?_ | refine zT ?_ | refine zU ?_ | refine zV ?_ | refine zW ?_ | refine zX ?_ | refine zY ?_) | ((with_reducible first | refine zR ?_ ?_ fun K_ hK_ => ?_ | refine zS ?_ ?_ fun K_ hK_ => ?_); (focus kernel_rfl); (focus kernel_rfl))); first | (simp (maxSteps := 1000000) (disch := refine hold_ ?_; first | (simp [hkm, hkz, ha, e1, e1', e2, e3, e5, -List.getD_eq_getElem?_getD]; done) | omega) [hkm, hkz, ha, e1, e1', e2, e3, e5, -List.getD_eq_getElem?_getD]; try first | (with_reducible refine zZ ?_) | subst hK_) | subst hK_) | (with_reducible first | refine zA ?_ | refine zB ?_ | refine zC ?_ | refine zD ?_ | refine zE ?_ | refine zF ?_ | refine zG ?_ | refine zH ?_ | refine zI ?_ | refine zJ ?_ | refine zK ?_ | refine zL ?_ | refine zM ?_ | refine zN ?_ | refine zO ?_) | ((with_reducible refine yG ?_ ?_); (focus decide)) | ((with_reducible refine yA ?_); refine yB rfl ?_; (with_reducible first | refine yC ?_ | refine yD ?_)))
    refine AW.iter (true :: true :: false :: false :: false :: true :: false :: false :: false :: false :: true :: true :: false :: false :: false :: false :: false :: false :: false :: false :: false :: false :: false :: false :: false :: false :: false :: false :: false :: false :: false :: false :: false :: false :: false :: false :: false :: false :: false :: false :: false :: false :: false :: false :: false :: false :: false :: false :: false :: false :: false :: false :: false :: false :: false :: false :: false :: false :: false :: false :: false :: false :: false :: false :: false :: false :: false :: false :: false :: false :: false :: false :: false :: false :: false :: false :: false :: false :: false :: false :: false :: false :: false :: false :: false :: false :: false :: false :: false :: false :: false :: false :: false :: false :: false :: false :: true :: true :: false :: false :: false :: false :: false :: false :: false :: false :: false :: false :: false :: false :: false :: false :: false :: false :: false :: false :: false :: false :: false :: false :: false :: false :: false :: false :: false :: false :: false :: false :: false :: false :: false :: false :: false :: false :: false :: false :: false :: false :: false :: false :: false :: false :: false :: false :: false :: false :: false :: false :: false :: false :: false :: false :: false :: false :: false :: false :: false :: true :: true :: false :: false :: false :: false :: false :: false :: false :: false :: false :: false :: false :: false :: false :: false :: false :: false :: false :: false :: false :: false :: false :: false :: false :: false :: []) J (fun j => ⟨(.p (.sl (ndR l) nl) :: .p (.int .i64 n) :: V.junk :: V.junk :: V.junk :: .ptr 5 0 0 :: V.junk :: V.junk :: V.junk :: V.junk :: .p (.int .i64 k) :: .ptr 11 0 0 :: V.junk :: V.junk :: V.junk :: V.junk :: V.junk :: V.junk :: V.junk :: V.junk :: V.junk :: V.junk :: V.junk :: V.junk :: V.junk :: V.junk :: V.junk :: V.junk :: V.junk :: V.junk :: V.junk :: V.junk :: V.junk :: V.junk :: V.junk :: V.junk :: V.junk :: V.junk :: V.junk :: V.junk :: V.junk :: V.junk :: V.junk :: V.junk :: V.junk :: V.junk :: V.junk :: V.junk :: V.junk :: V.junk :: V.junk :: V.junk :: V.junk :: V.junk :: V.junk :: V.junk :: V.junk :: V.junk :: V.junk :: V.junk :: V.junk :: V.junk :: V.junk :: V.junk :: V.junk :: V.junk :: V.junk :: V.junk :: V.junk :: V.junk :: V.junk :: V.junk :: V.junk :: V.junk :: V.junk :: V.junk :: V.junk :: V.junk :: V.junk :: V.junk :: V.junk :: V.junk :: V.junk :: V.junk :: V.junk :: V.junk :: V.junk :: V.junk :: V.junk :: V.junk :: V.junk :: V.junk :: V.junk :: V.junk :: V.junk :: V.junk :: .p (.int .i64 x.ms.length) :: .p (.int .i64 k) :: V.junk :: V.junk :: V.junk :: V.junk :: V.junk :: V.junk :: V.junk :: V.junk :: V.junk :: V.junk :: V.junk :: V.junk :: V.junk :: V.junk :: V.junk :: V.junk :: V.junk :: V.junk :: V.junk :: V.junk :: V.junk :: V.junk :: V.junk :: V.junk :: V.junk :: V.junk :: V.junk :: V.junk :: V.junk :: V.junk :: V.junk :: V.junk :: V.junk :: V.junk :: V.junk :: V.junk :: V.junk :: V.junk :: V.junk :: V.junk :: V.junk :: V.junk :: V.junk :: V.junk :: V.junk :: V.junk :: V.junk :: V.junk :: V.junk :: V.junk :: V.junk :: V.junk :: V.junk :: V.junk :: V.junk :: V.junk :: V.junk :: V.junk :: V.junk :: .p (.int .i64 k) :: .p (.int .i64 j) :: V.junk :: V.junk :: V.junk :: V.junk :: V.junk :: V.junk :: V.junk :: V.junk :: V.junk :: V.junk :: V.junk :: V.junk :: V.junk :: V.junk :: V.junk :: V.junk :: V.junk :: V.junk :: V.junk :: V.junk :: V.junk :: V.junk :: V.junk :: V.junk :: []), ⟨[(5, 0, ndH x), (11, 0, .cells [.p (.str (txt a.p)), .p (.str (txt a.l)), .p (.str (txt a.u)), .p (.str (txt a.v))])], []⟩⟩) ?_ ?_
    · (unfold ndH; simp (maxSteps := 1000000) (disch := refine hold_ ?_; first | (simp [-List.getD_eq_getElem?_getD]; done) | omega) [-List.getD_eq_getElem?_getD])
    intro j hj
    have f1 := wrap_succ j k (by omega) (by omega)
    unfold ndH
    by_cases hjm : j < k
    · have hjz : (j : Int) < k := by omega
      have hjl : j < x.ms.length := by omega
      have hjlz : (j : Int) < x.ms.length := by omega
      have haj := hja j hjm
      have q1 := str_eq_txt (x.ms.getD j at0).l a.l
      have q2 := str_eq_txt (x.ms.getD j at0).u a.u
      by_cases hjN : j < J
      · have hq : alike (x.ms.getD j at0) a = false := by simpa using jall j hjN
        clear hg hb jall jno hja
        unfold alike at hq
        generalize x.ms.getD j at0 = a2 at *
        generalize (a2.l == a.l) = Q1 at *
        generalize (a2.u == a.u) = Q2 at *
        unfold atP at haj
        cases Q1 with
        | false =>
          repeat (first | ((first | (with_reducible first | refine zP fun K_ hK_ => ?_ | refine zQ fun K_ hK_ => ?_ | refine zT ?_ | refine zU ?_ | refine zV ?_ | refine zW ?_ | refine zX ?_ | refine zY ?_) | ((with_reducible first | refine zR ?_ ?_ fun K_ hK_ => ?_ | refine zS ?_ ?_ fun K_ hK_ => ?_); (focus kernel_rfl); (focus kernel_rfl))); first | (simp (maxSteps := 1000000) (disch := refine hold_ ?_; first | (simp [hkm, hkz, hjm, hjz, hjl, hjlz, haj, q1, f1, -List.getD_eq_getElem?_getD]; done) | omega) [hkm, hkz, hjm, hjz, hjl, hjlz, haj, q1, f1, -List.getD_eq_getElem?_getD]; try first | (with_reducible refine zZ ?_) | subst hK_) | subst hK_) | (with_reducible first | refine zA ?_ | refine zB ?_ | refine zC ?_ | refine zD ?_ | refine zE ?_ | refine zF ?_ | refine zG ?_ | refine zH ?_ | refine zI ?_ | refine zJ ?_ | refine zK ?_ | refine zL ?_ | refine zM ?_ | refine zN ?_ | refine zO ?_) | ((with_reducible refine yG ?_ ?_); (focus decide)) | ((with_reducible refine yA ?_); refine yB rfl ?_; (with_reducible first | refine yC ?_ | refine yD ?_)))
          refine ⟨hjN, ?_⟩
          simp (maxSteps := 1000000) (disch := refine hold_ ?_; first | (simp [-List.getD_eq_getElem?_getD]; done) | omega) [-List.getD_eq_getElem?_getD]
        | true =>
          have hq2 : Q2 = false := by simpa using hq
          subst hq2
          repeat (first | ((first | (with_reducible first | refine zP fun K_ hK_ => ?_ | refine zQ fun K_ hK_ => ?_ | refine zT ?_ | refine zU ?_ | refine zV ?_ | refine zW ?_ | refine zX ?_ | refine zY ?_) | ((with_reducible first | refine zR ?_ ?_ fun K_ hK_ => ?_ | refine zS ?_ ?_ fun K_ hK_ => ?_); (focus kernel_rfl); (focus kernel_rfl))); first | (simp (maxSteps := 1000000) (disch := refine hold_ ?_; first | (simp [hkm, hkz, hjm, hjz, hjl, hjlz, haj, q1, q2, f1, -List.getD_eq_getElem?_getD]; done) | omega) [hkm, hkz, hjm, hjz, hjl, hjlz, haj, q1, q2, f1, -List.getD_eq_getElem?_getD]; try first | (with_reducible refine zZ ?_) | subst hK_) | subst hK_) | (with_reducible first | refine zA ?_ | refine zB ?_ | refine zC ?_ | refine zD ?_ | refine zE ?_ | refine zF ?_ | refine zG ?_ | refine zH ?_ | refine zI ?_ | refine zJ ?_ | refine zK ?_ | refine zL ?_ | refine zM ?_ | refine zN ?_ | refine zO ?_) | ((with_reducible refine yG ?_ ?_); (focus decide)) | ((with_reducible refine yA ?_); refine yB rfl ?_; (with_reducible first | refine yC ?_ | refine yD ?_)))
          refine ⟨hjN, ?_⟩
          simp (maxSteps := 1000000) (disch := refine hold_ ?_; first | (simp [-List.getD_eq_getElem?_getD]; done) | omega) [-List.getD_eq_getElem?_getD]
      · obtain rfl : j = J := by omega
        have hq : alike (x.ms.getD j at0) a = true := by simpa using jno hjm
        have hkN : k = N2 := by
          rcases Nat.lt_or_ge k N2 with h1 | h1
          · have := hg h1
            rw [decide_eq_false (by omega : ¬ j = k)] at this; simp at this
          · omega
        have hne : N2 ≠ x.ms.length := by omega
        rw [decide_eq_false hne]
        clear hg hb jall jno hja
        unfold alike at hq
        generalize x.ms.getD j at0 = a2 at *
        generalize (a2.l == a.l) = Q1 at *
        generalize (a2.u == a.u) = Q2 at *
        obtain ⟨rfl, rfl⟩ : Q1 = true ∧ Q2 = true := by simpa using hq
        unfold atP at haj
        repeat (first | ((first | (with_reducible first | refine zP fun K_ hK_ => ?_ | refine zQ fun K_ hK_ => ?_ | refine zT ?_ | refine zU ?_ | refine zV ?_ | refine zW ?_ | refine zX ?_ | refine zY ?_) | ((with_reducible first | refine zR ?_ ?_ fun K_ hK_ => ?_ | refine zS ?_ ?_ fun K_ hK_ => ?_); (focus kernel_rfl); (focus kernel_rfl))); first | (simp (maxSteps := 1000000) (disch := refine hold_ ?_; first | (simp [hkm, hkz, hjm, hjz, hjl, hjlz, haj, q1, q2, -List.getD_eq_getElem?_getD]; done) | omega) [hkm, hkz, hjm, hjz, hjl, hjlz, haj, q1, q2, -List.getD_eq_getElem?_getD]; try first | (with_reducible refine zZ ?_) | subst hK_) | subst hK_) | (with_reducible first | refine zA ?_ | refine zB ?_ | refine zC ?_ | refine zD ?_ | refine zE ?_ | refine zF ?_ | refine zG ?_ | refine zH ?_ | refine zI ?_ | refine zJ ?_ | refine zK ?_ | refine zL ?_ | refine zM ?_ | refine zN ?_ | refine zO ?_) | ((with_reducible refine yG ?_ ?_); (focus decide)) | ((with_reducible refine yA ?_); refine yB rfl ?_; (with_reducible first | refine yC ?_ | refine yD ?_)))
        all_goals (try simp (maxSteps := 1000000) (disch := refine hold_ ?_; first | (simp [-List.getD_eq_getElem?_getD]; done) | omega) [-List.getD_eq_getElem?_getD])
    · have hjz : ¬ (j : Int) < k := by omega
      have hjk : J = k := by omega
      have hkN : k < N2 := Nat.lt_of_le_of_ne hk fun e => by have := hb e.symm; rw [decide_eq_true hjk] at this; simp at this
      repeat (first | ((first | (with_reducible first | refine zP fun K_ hK_ => ?_ | refine zQ fun K_ hK_ => ?_ | refine zT ?_ | refine zU ?_ | refine zV ?_ | refine zW ?_ | refine zX ?_ | refine zY ?_) | ((with_reducible first | refine zR ?_ ?_ fun K_ hK_ => ?_ | refine zS ?_ ?_ fun K_ hK_ => ?_); (focus kernel_rfl); (focus kernel_rfl))); first | (simp (maxSteps := 1000000) (disch := refine hold_ ?_; first | (simp [hjm, hjz, e0, -List.getD_eq_getElem?_getD]; done) | omega) [hjm, hjz, e0, -List.getD_eq_getElem?_getD]; try first | (with_reducible refine zZ ?_) | subst hK_) | subst hK_) | (with_reducible first | refine zA ?_ | refine zB ?_ | refine zC ?_ | refine zD ?_ | refine zE ?_ | refine zF ?_ | refine zG ?_ | refine zH ?_ | refine zI ?_ | refine zJ ?_ | refine zK ?_ | refine zL ?_ | refine zM ?_ | refine zN ?_ | refine zO ?_) | ((with_reducible refine yG ?_ ?_); (focus decide)) | ((with_reducible refine yA ?_); refine yB rfl ?_; (with_reducible first | refine yC ?_ | refine yD ?_)))
      refine ⟨hkN, ?_⟩
      simp (maxSteps := 1000000) (disch := refine hold_ ?_; first | (simp [-List.getD_eq_getElem?_getD]; done) | omega) [-List.getD_eq_getElem?_getD]
  | false =>
    simp only [Bool.false_eq_true, if_false] at hg hb
    generalize (U2 == a.u) = V2 at *
    clear e5 hPa
    rcases anc O2 (anc D2 (anc V2 (anc C2 (orc E2 (anc T2 (trivial)))))) with rfl | ⟨rfl, rfl | ⟨rfl, rfl | ⟨rfl, rfl | ⟨rfl, rfl | ⟨rfl, rfl | ⟨rfl, _⟩⟩⟩⟩⟩⟩
    iterate 6
      · have hkN : k = N2 := by
          rcases Nat.lt_or_ge k N2 with h1 | h1
          · have := hg h1; simp at this
          · omega
        have hne : N2 ≠ x.ms.length := by omega
        rw [decide_eq_false hne]
        repeat (first | ((with_reducible first | refine callK_at 15 ?_ | refine callK_at 16 ?_ | refine callK_at 58 ?_); refine callK_p ?_; simp (maxSteps := 1000000) (disch := refine hold_ ?_; first | (simp [hkm, hkz, ha, e1, e1', e2, e3, e4, -List.getD_eq_getElem?_getD]; done) | omega) [hkm, hkz, ha, e1, e1', e2, e3, e4, -List.getD_eq_getElem?_getD]; (first | ((with_reducible refine k1_at 15 ?_); refine callK1_of (Fn.ct k15 Tryd.call15) ?_) | ((with_reducible refine k1_at 16 ?_); refine callK1_of (Fn.ct k16l Tryd.call16) ?_) | ((with_reducible refine k1_at 16 ?_); refine callK1_of (Fn.ct k16p Tryd.call16) ?_) | ((with_reducible refine k1_at 58 ?_); refine callK1_of (Fn.ct k58 Tryd.call58) ?_)); (try simp (maxSteps := 1000000) (disch := refine hold_ ?_; first | (simp [hkm, hkz, ha, e1, e1', e2, e3, e4, -List.getD_eq_getElem?_getD]; done) | omega) [hkm, hkz, ha, e1, e1', e2, e3, e4, -List.getD_eq_getElem?_getD]); try first | (with_reducible refine zZ ?_) | subst hK_) | ((first | (with_reducible first | refine zP fun K_ hK_ => ?_ | refine zQ fun K_ hK_ => ?_ | refine zT ?_ | refine zU ?_ | refine zV ?_ | refine zW ?_ | refine zX ?_ | refine zY ?_) | ((with_reducible first | refine zR ?_ ?_ fun K_ hK_ => ?_ | refine zS ?_ ?_ fun K_ hK_ => ?_); (focus kernel_rfl); (focus kernel_rfl))); first | (simp (maxSteps := 1000000) (disch := refine hold_ ?_; first | (simp [hkm, hkz, ha, e1, e1', e2, e3, e4, -List.getD_eq_getElem?_getD]; done) | omega) [hkm, hkz, ha, e1, e1', e2, e3, e4, -List.getD_eq_getElem?_getD]; try first | (with_reducible refine zZ ?_) | subst hK_) | subst hK_) | (with_reducible first | refine zA ?_ | refine zB ?_ | refine zC ?_ | refine zD ?_ | refine zE ?_ | refine zF ?_ | refine zG ?_ | refine zH ?_ | refine zI ?_ | refine zJ ?_ | refine zK ?_ | refine zL ?_ | refine zM ?_ | refine zN ?_ | refine zO ?_) | ((with_reducible refine yG ?_ ?_); (focus decide)) | ((with_reducible refine yA ?_); refine yB rfl ?_; (with_reducible first | refine yC ?_ | refine yD ?_)))
        all_goals (try simp (maxSteps := 1000000) (disch := refine hold_ ?_; first | (simp [-List.getD_eq_getElem?_getD]; done) | omega) [-List.getD_eq_getElem?_getD])
    repeat (first | ((with_reducible first | refine callK_at 15 ?_ | refine callK_at 16 ?_ | refine callK_at 58 ?_); refine callK_p ?_; simp (maxSteps := 1000000) (disch := refine hold_ ?_; first | (simp [hkm, hkz, ha, e1, e1', e2, e3, e4, -List.getD_eq_getElem?_getD]; done) | omega) [hkm, hkz, ha, e1, e1', e2, e3, e4, -List.getD_eq_getElem?_getD]; (first | ((with_reducible refine k1_at 15 ?_); refine callK1_of (Fn.ct k15 Tryd.call15) ?_) | ((with_reducible refine k1_at 16 ?_); refine callK1_of (Fn.ct k16l Tryd.call16) ?_) | ((with_reducible refine k1_at 16 ?_); refine callK1_of (Fn.ct k16p Tryd.call16) ?_) | ((with_reducible refine k1_at 58 ?_); refine callK1_of (Fn.ct k58 Tryd.call58) ?_)); (try simp (maxSteps := 1000000) (disch := refine hold_ ?_; first | (simp [hkm, hkz, ha, e1, e1', e2, e3, e4, -List.getD_eq_getElem?_getD]; done) | omega) [hkm, hkz, ha, e1, e1', e2, e3, e4, -List.getD_eq_getElem?_getD]); try first | (with_reducible refine zZ ?_) | subst hK_) | ((first | (with_reducible first | refine zP fun K_ hK_ => ?_ | refine zQ fun K_ hK_ => ?_ | refine zT ?_ | refine zU ?_ | refine zV ?_ | refine zW ?_ | refine zX ?_ | refine zY ?_) | ((with_reducible first | refine zR ?_ ?_ fun K_ hK_ => ?_ | refine zS ?_ ?_ fun K_ hK_ => ?_); (focus kernel_rfl); (focus kernel_rfl))); first | (simp (maxSteps := 1000000) (disch := refine hold_ ?_; first | (simp [hkm, hkz, ha, e1, e1', e2, e3, e4, -List.getD_eq_getElem?_getD]; done) | omega) [hkm, hkz, ha, e1, e1', e2, e3, e4, -List.getD_eq_getElem?_getD]; try first | (with_reducible refine zZ ?_) | subst hK_) | subst hK_) | (with_reducible first | refine zA ?_ | refine zB ?_ | refine zC ?_ | refine zD ?_ | refine zE ?_ | refine zF ?_ | refine zG ?_ | refine zH ?_ | refine zI ?_ | refine zJ ?_ | refine zK ?_ | refine zL ?_ | refine zM ?_ | refine zN ?_ | refine zO ?_) | ((with_reducible refine yG ?_ ?_); (focus decide)) | ((with_reducible refine yA ?_); refine yB rfl ?_; (with_reducible first | refine yC ?_ | refine yD ?_)))
    refine AW.iter (true :: true :: false :: false :: false :: true :: false :: false :: false :: false :: true :: true :: false :: false :: false :: false :: false :: false :: false :: false :: false :: false :: false :: false :: false :: false :: false :: false :: false :: false :: false :: false :: false :: false :: false :: false :: false :: false :: false :: false :: false :: false :: false :: false :: false :: false :: false :: false :: false :: false :: false :: false :: false :: false :: false :: false :: false :: false :: false :: false :: false :: false :: false :: false :: false :: false :: false :: false :: false :: false :: false :: false :: false :: false :: false :: false :: false :: false :: false :: false :: false :: false :: false :: false :: false :: false :: false :: false :: false :: false :: false :: false :: false :: false :: false :: false :: true :: true :: false :: false :: false :: false :: false :: false :: false :: false :: false :: false :: false :: false :: false :: false :: false :: false :: false :: false :: false :: false :: false :: false :: false :: false :: false :: false :: false :: false :: false :: false :: false :: false :: false :: false :: false :: false :: false :: false :: false :: false :: false :: false :: false :: false :: false :: false :: false :: false :: false :: false :: false :: false :: false :: false :: false :: false :: false :: false :: false :: true :: true :: false :: false :: false :: false :: false :: false :: false :: false :: false :: false :: false :: false :: false :: false :: false :: false :: false :: false :: false :: false :: false :: false :: false :: false :: []) J (fun j => ⟨(.p (.sl (ndR l) nl) :: .p (.int .i64 n) :: V.junk :: V.junk :: V.junk :: .ptr 5 0 0 :: V.junk :: V.junk :: V.junk :: V.junk :: .p (.int .i64 k) :: .ptr 11 0 0 :: V.junk :: V.junk :: V.junk :: V.junk :: V.junk :: V.junk :: V.junk :: V.junk :: V.junk :: V.junk :: V.junk :: V.junk :: V.junk :: V.junk :: V.junk :: V.junk :: V.junk :: V.junk :: V.junk :: V.junk :: V.junk :: V.junk :: V.junk :: V.junk :: V.junk :: V.junk :: V.junk :: V.junk :: V.junk :: V.junk :: V.junk :: V.junk :: V.junk :: V.junk :: V.junk :: V.junk :: V.junk :: V.junk :: V.junk :: V.junk :: V.junk :: V.junk :: V.junk :: V.junk :: V.junk :: V.junk :: V.junk :: V.junk :: V.junk :: V.junk :: V.junk :: V.junk :: V.junk :: V.junk :: V.junk :: V.junk :: V.junk :: V.junk :: V.junk :: V.junk :: V.junk :: V.junk :: V.junk :: V.junk :: V.junk :: V.junk :: V.junk :: V.junk :: V.junk :: V.junk :: V.junk :: V.junk :: V.junk :: V.junk :: V.junk :: V.junk :: V.junk :: V.junk :: V.junk :: V.junk :: V.junk :: V.junk :: V.junk :: V.junk :: .p (.int .i64 x.ms.length) :: .p (.int .i64 k) :: V.junk :: V.junk :: V.junk :: V.junk :: V.junk :: V.junk :: V.junk :: V.junk :: V.junk :: V.junk :: V.junk :: V.junk :: V.junk :: V.junk :: V.junk :: V.junk :: V.junk :: V.junk :: V.junk :: V.junk :: V.junk :: V.junk :: V.junk :: V.junk :: V.junk :: V.junk :: V.junk :: V.junk :: V.junk :: V.junk :: V.junk :: V.junk :: V.junk :: V.junk :: V.junk :: V.junk :: V.junk :: V.junk :: V.junk :: V.junk :: V.junk :: V.junk :: V.junk :: V.junk :: V.junk :: V.junk :: V.junk :: V.junk :: V.junk :: V.junk :: V.junk :: V.junk :: V.junk :: V.junk :: V.junk :: V.junk :: V.junk :: V.junk :: V.junk :: .p (.int .i64 k) :: .p (.int .i64 j) :: V.junk :: V.junk :: V.junk :: V.junk :: V.junk :: V.junk :: V.junk :: V.junk :: V.junk :: V.junk :: V.junk :: V.junk :: V.junk :: V.junk :: V.junk :: V.junk :: V.junk :: V.junk :: V.junk :: V.junk :: V.junk :: V.junk :: V.junk :: V.junk :: []), ⟨[(5, 0, ndH x), (11, 0, .cells [.p (.str (txt a.p)), .p (.str (txt a.l)), .p (.str (txt a.u)), .p (.str (txt a.v))])], []⟩⟩) ?_ ?_
    · (unfold ndH; simp (maxSteps := 1000000) (disch := refine hold_ ?_; first | (simp [-List.getD_eq_getElem?_getD]; done) | omega) [-List.getD_eq_getElem?_getD])
    intro j hj
    have f1 := wrap_succ j k (by omega) (by omega)
    unfold ndH
    by_cases hjm : j < k
    · have hjz : (j : Int) < k := by omega
      have hjl : j < x.ms.length := by omega
      have hjlz : (j : Int) < x.ms.length := by omega
      have haj := hja j hjm
      have q1 := str_eq_txt (x.ms.getD j at0).l a.l
      have q2 := str_eq_txt (x.ms.getD j at0).u a.u
      by_cases hjN : j < J
      · have hq : alike (x.ms.getD j at0) a = false := by simpa using jall j hjN
        clear hg hb jall jno hja
        unfold alike at hq
        generalize x.ms.getD j at0 = a2 at *
        generalize (a2.l == a.l) = Q1 at *
        generalize (a2.u == a.u) = Q2 at *
        unfold atP at haj
        cases Q1 with
        | false =>
          repeat (first | ((first | (with_reducible first | refine zP fun K_ hK_ => ?_ | refine zQ fun K_ hK_ => ?_ | refine zT ?_ | refine zU ?_ | refine zV ?_ | refine zW ?_ | refine zX ?_ | refine zY ?_) | ((with_reducible first | refine zR ?_ ?_ fun K_ hK_ => ?_ | refine zS ?_ ?_ fun K_ hK_ => ?_); (focus kernel_rfl); (focus kernel_rfl))); first | (simp (maxSteps := 1000000) (disch := refine hold_ ?_; first | (simp [hkm, hkz, hjm, hjz, hjl, hjlz, haj, q1, f1, -List.getD_eq_getElem?_getD]; done) | omega) [hkm, hkz, hjm, hjz, hjl, hjlz, haj, q1, f1, -List.getD_eq_getElem?_getD]; try first | (with_reducible refine zZ ?_) | subst hK_) | subst hK_) | (with_reducible first | refine zA ?_ | refine zB ?_ | refine zC ?_ | refine zD ?_ | refine zE ?_ | refine zF ?_ | refine zG ?_ | refine zH ?_ | refine zI ?_ | refine zJ ?_ | refine zK ?_ | refine zL ?_ | refine zM ?_ | refine zN ?_ | refine zO ?_) | ((with_reducible refine yG ?_ ?_); (focus decide)) | ((with_reducible refine yA ?_); refine yB rfl ?_; (with_reducible first | refine yC ?_ | refine yD ?_)))
          refine ⟨hjN, ?_⟩
          simp (maxSteps := 1000000) (disch := refine hold_ ?_; first | (simp [-List.getD_eq_getElem?_getD]; done) | omega) [-List.getD_eq_getElem?_getD]
        | true =>
          have hq2 : Q2 = false := by simpa using hq
          subst hq2
          repeat (first | ((first | (with_reducible first | refine zP fun K_ hK_ => ?_ | refine zQ fun K_ hK_ => ?_ | refine zT ?_ | refine zU ?_ | refine zV ?_ | refine zW ?_ | refine zX ?_ | refine zY ?_) | ((with_reducible first | refine zR ?_ ?_ fun K_ hK_ => ?_ | refine zS ?_ ?_ fun K_ hK_ => ?_); (focus kernel_rfl); (focus kernel_rfl))); first | (simp (maxSteps := 1000000) (disch := refine hold_ ?_; first | (simp [hkm, hkz, hjm, hjz, hjl, hjlz, haj, q1, q2, f1, -List.getD_eq_getElem?_getD]; done) | omega) [hkm, hkz, hjm, hjz, hjl, hjlz, haj, q1, q2, f1, -List.getD_eq_getElem?_getD]; try first | (with_reducible refine zZ ?_) | subst hK_) | subst hK_) | (with_reducible first | refine zA ?_ | refine zB ?_ | refine zC ?_ | refine zD ?_ | refine zE ?_ | refine zF ?_ | refine zG ?_ | refine zH ?_ | refine zI ?_ | refine zJ ?_ | refine zK ?_ | refine zL ?_ | refine zM ?_ | refine zN ?_ | refine zO ?_) | ((with_reducible refine yG ?_ ?_); (focus decide)) | ((with_reducible refine yA ?_); refine yB rfl ?_; (with_reducible first | refine yC ?_ | refine yD ?_)))
          refine ⟨hjN, ?_⟩
          simp (maxSteps := 1000000) (disch := refine hold_ ?_; first | (simp [-List.getD_eq_getElem?_getD]; done) | omega) [-List.getD_eq_getElem?_getD]
      · obtain rfl : j = J := by omega
        have hq : alike (x.ms.getD j at0) a = true := by simpa using jno hjm
        have hkN : k = N2 := by
          rcases Nat.lt_or_ge k N2 with h1 | h1
          · have := hg h1
            rw [decide_eq_false (by omega : ¬ j = k)] at this; simp at this
          · omega
        have hne : N2 ≠ x.ms.length := by omega
        rw [decide_eq_false hne]
        clear hg hb jall jno hja
        unfold alike at hq
        generalize x.ms.getD j at0 = a2 at *
        generalize (a2.l == a.l) = Q1 at *
        generalize (a2.u == a.u) = Q2 at *
        obtain ⟨rfl, rfl⟩ : Q1 = true ∧ Q2 = true := by simpa using hq
        unfold atP at haj
        repeat (first | ((first | (with_reducible first | refine zP fun K_ hK_ => ?_ | refine zQ fun K_ hK_ => ?_ | refine zT ?_ | refine zU ?_ | refine zV ?_ | refine zW ?_ | refine zX ?_ | refine zY ?_) | ((with_reducible first | refine zR ?_ ?_ fun K_ hK_ => ?_ | refine zS ?_ ?_ fun K_ hK_ => ?_); (focus kernel_rfl); (focus kernel_rfl))); first | (simp (maxSteps := 1000000) (disch := refine hold_ ?_; first | (simp [hkm, hkz, hjm, hjz, hjl, hjlz, haj, q1, q2, -List.getD_eq_getElem?_getD]; done) | omega) [hkm, hkz, hjm, hjz, hjl, hjlz, haj, q1, q2, -List.getD_eq_getElem?_getD]; try first | (with_reducible refine zZ ?_) | subst hK_) | subst hK_) | (with_reducible first | refine zA ?_ | refine zB ?_ | refine zC ?_ | refine zD ?_ | refine zE ?_ | refine zF ?_ | refine zG ?_ | refine zH ?_ | refine zI ?_ | refine zJ ?_ | refine zK ?_ | refine zL ?_ | refine zM ?_ | refine zN ?_ | refine zO ?_) | ((with_reducible refine yG ?_ ?_); (focus decide)) | ((with_reducible refine yA ?_); refine yB rfl ?_; (with_reducible first | refine yC ?_ | refine yD ?_)))
        all_goals (try simp (maxSteps := 1000000) (disch := refine hold_ ?_; first | (simp [-List.getD_eq_getElem?_getD]; done) | omega) [-List.getD_eq_getElem?_getD])
    · have hjz : ¬ (j : Int) < k := by omega
      have hjk : J = k := by omega
      have hkN : k < N2 := Nat.lt_of_le_of_ne hk fun e => by have := hb e.symm; rw [decide_eq_true hjk] at this; simp at this
      repeat (first | ((first | (with_reducible first | refine zP fun K_ hK_ => ?_ | refine zQ fun K_ hK_ => ?_ | refine zT ?_ | refine zU ?_ | refine zV ?_ | refine zW ?_ | refine zX ?_ | refine zY ?_) | ((with_reducible first | refine zR ?_ ?_ fun K_ hK_ => ?_ | refine zS ?_ ?_ fun K_ hK_ => ?_); (focus kernel_rfl); (focus kernel_rfl))); first | (simp (maxSteps := 1000000) (disch := refine hold_ ?_; first | (simp [hjm, hjz, e0, -List.getD_eq_getElem?_getD]; done) | omega) [hjm, hjz, e0, -List.getD_eq_getElem?_getD]; try first | (with_reducible refine zZ ?_) | subst hK_) | subst hK_) | (with_reducible first | refine zA ?_ | refine zB ?_ | refine zC ?_ | refine zD ?_ | refine zE ?_ | refine zF ?_ | refine zG ?_ | refine zH ?_ | refine zI ?_ | refine zJ ?_ | refine zK ?_ | refine zL ?_ | refine zM ?_ | refine zN ?_ | refine zO ?_) | ((with_reducible refine yG ?_ ?_); (focus decide)) | ((with_reducible refine yA ?_); refine yB rfl ?_; (with_reducible first | refine yC ?_ | refine yD ?_)))
      refine ⟨hkN, ?_⟩
      simp (maxSteps := 1000000) (disch := refine hold_ ?_; first | (simp [-List.getD_eq_getElem?_getD]; done) | omega) [-List.getD_eq_getElem?_getD]
set_option maxRecDepth 30000 in
set_option maxHeartbeats 40000000 in
theorem element_ct (l : List Nd) (nl : Bool) (n : Nat) (hp : pOk l (n + 1)) (hn : n < l.length) (hok : ∀ x ∈ l, okN x) :
    Fn Tryd.prog 44 [.sl (ndR l) nl, .int .i64 n] [.p (.bool ((nd l n).t == [] && (declB (nd l n).ds && namedB l n)))] := by
  have he := nd_elem l n hn
  have hx : okN (nd l n) := hok _ (mem_getD l n default hn)
  have km : ∀ p, Fn Tryd.prog 15 [.sl (ndR l) nl, .int .i64 n, .str (txt p)] [.p (.str (txt (meansL l p n).1)), .p (.bool (meansL l p n).2)] := fun p => Means_ct l nl p n hp hn hok
  have hMn : (meansL l [] n).2 = true := by unfold meansL; rw [show (([] : List (BitVec 8)) == xmlS) = false from rfl]; exact meL_nil l n
  unfold namedB declB
  generalize nd l n = x at *
  generalize hM : (fun p => meansL l p n) = M at *
  have hM' : ∀ p, meansL l p n = M p := fun p => by rw [← hM]
  simp only [hM'] at km hMn ⊢
  have hnz : (n : Int) < l.length := by omega
  have hdl := hx.dl
  have hml := hx.ml
  rw [allB_upto]
  have hN := upto_le (fun k => !dupD x.ds k && dcOk (x.ds.getD k ⟨[], []⟩)) x.ds.length
  have hall := upto_all (fun k => !dupD x.ds k && dcOk (x.ds.getD k ⟨[], []⟩)) x.ds.length
  have hno := upto_no (fun k => !dupD x.ds k && dcOk (x.ds.getD k ⟨[], []⟩)) x.ds.length
  generalize upto (fun k => !dupD x.ds k && dcOk (x.ds.getD k ⟨[], []⟩)) x.ds.length = N at *
  obtain ⟨c, hc, ht⟩ := elem_tail l nl n x M hx km hMn
  cases hc
  refine Fn.of_body Tryd.func44 rfl ?_
  unfold ndP at he
  repeat (first | ((first | (with_reducible first | refine zP fun K_ hK_ => ?_ | refine zQ fun K_ hK_ => ?_ | refine zT ?_ | refine zU ?_ | refine zV ?_ | refine zW ?_ | refine zX ?_ | refine zY ?_) | ((with_reducible first | refine zR ?_ ?_ fun K_ hK_ => ?_ | refine zS ?_ ?_ fun K_ hK_ => ?_); (focus kernel_rfl); (focus kernel_rfl))); first | (simp (maxSteps := 1000000) (disch := refine hold_ ?_; first | (simp [hn, hnz, he, -List.getD_eq_getElem?_getD]; done) | omega) [hn, hnz, he, -List.getD_eq_getElem?_getD]; try first | (with_reducible refine zZ ?_) | subst hK_) | subst hK_) | (with_reducible first | refine zA ?_ | refine zB ?_ | refine zC ?_ | refine zD ?_ | refine zE ?_ | refine zF ?_ | refine zG ?_ | refine zH ?_ | refine zI ?_ | refine zJ ?_ | refine zK ?_ | refine zL ?_ | refine zM ?_ | refine zN ?_ | refine zO ?_) | ((with_reducible refine yG ?_ ?_); (focus decide)) | ((with_reducible refine yA ?_); refine yB rfl ?_; (with_reducible first | refine yC ?_ | refine yD ?_)))
  refine AW.iter (true :: true :: false :: false :: false :: true :: false :: false :: false :: false :: false :: false :: false :: false :: false :: false :: false :: false :: false :: false :: false :: true :: true :: false :: false :: false :: false :: false :: false :: false :: false :: false :: false :: false :: false :: false :: false :: false :: false :: false :: false :: false :: false :: false :: false :: false :: false :: false :: false :: false :: false :: false :: false :: false :: false :: false :: false :: false :: false :: false :: false :: false :: false :: false :: false :: false :: false :: false :: false :: false :: false :: false :: false :: false :: false :: false :: false :: false :: false :: false :: false :: false :: false :: false :: false :: false :: false :: false :: false :: false :: false :: false :: false :: false :: false :: false :: false :: false :: false :: false :: false :: false :: false :: false :: false :: false :: false :: false :: false :: false :: false :: false :: false :: false :: false :: false :: false :: false :: false :: false :: false :: false :: false :: false :: false :: false :: false :: false :: false :: false :: false :: false :: false :: false :: false :: false :: false :: false :: false :: false :: false :: false :: false :: false :: false :: false :: false :: false :: false :: false :: false :: false :: false :: false :: false :: false :: false :: false :: false :: false :: false :: false :: false :: false :: false :: false :: false :: false :: false :: false :: false :: false :: false :: false :: false :: false :: false :: false :: false :: false :: false :: false :: false :: []) N (fun k => ⟨(.p (.sl (ndR l) nl) :: .p (.int .i64 n) :: V.junk :: V.junk :: V.junk :: .ptr 5 0 0 :: V.junk :: V.junk :: V.junk :: V.junk :: V.junk :: V.junk :: V.junk :: V.junk :: V.junk :: V.junk :: V.junk :: V.junk :: V.junk :: V.junk :: V.junk :: .p (.int .i64 x.ds.length) :: .p (.int .i64 k) :: V.junk :: V.junk :: V.junk :: V.junk :: V.junk :: V.junk :: V.junk :: V.junk :: V.junk :: V.junk :: V.junk :: V.junk :: V.junk :: V.junk :: V.junk :: V.junk :: V.junk :: V.junk :: V.junk :: V.junk :: V.junk :: V.junk :: V.junk :: V.junk :: V.junk :: V.junk :: V.junk :: V.junk :: V.junk :: V.junk :: V.junk :: V.junk :: V.junk :: V.junk :: V.junk :: V.junk :: V.junk :: V.junk :: V.junk :: V.junk :: V.junk :: V.junk :: V.junk :: V.junk :: V.junk :: V.junk :: V.junk :: V.junk :: V.junk :: V.junk :: V.junk :: V.junk :: V.junk :: V.junk :: V.junk :: V.junk :: V.junk :: V.junk :: V.junk :: V.junk :: V.junk :: V.junk :: V.junk :: V.junk :: V.junk :: V.junk :: V.junk :: V.junk :: V.junk :: V.junk :: V.junk :: V.junk :: V.junk :: V.junk :: V.junk :: V.junk :: V.junk :: V.junk :: V.junk :: V.junk :: V.junk :: V.junk :: V.junk :: V.junk :: V.junk :: V.junk :: V.junk :: V.junk :: V.junk :: V.junk :: V.junk :: V.junk :: V.junk :: V.junk :: V.junk :: V.junk :: V.junk :: V.junk :: V.junk :: V.junk :: V.junk :: V.junk :: V.junk :: V.junk :: V.junk :: V.junk :: V.junk :: V.junk :: V.junk :: V.junk :: V.junk :: V.junk :: V.junk :: V.junk :: V.junk :: V.junk :: V.junk :: V.junk :: V.junk :: V.junk :: V.junk :: V.junk :: V.junk :: V.junk :: V.junk :: V.junk :: V.junk :: V.junk :: V.junk :: V.junk :: V.junk :: V.junk :: V.junk :: V.junk :: V.junk :: V.junk :: V.junk :: V.junk :: V.junk :: V.junk :: V.junk :: V.junk :: V.junk :: V.junk :: V.junk :: V.junk :: V.junk :: V.junk :: V.junk :: V.junk :: V.junk :: V.junk :: V.junk :: V.junk :: V.junk :: V.junk :: V.junk :: V.junk :: V.junk :: V.junk :: []), ⟨[(5, 0, ndH x)], []⟩⟩) ?_ ?_
  · (unfold ndH; simp (maxSteps := 1000000) (disch := refine hold_ ?_; first | (simp [-List.getD_eq_getElem?_getD]; done) | omega) [-List.getD_eq_getElem?_getD])
  intro k hk
  have e0 := wrap_succ k N hk (by omega)
  by_cases hkm : k < x.ds.length
  · have hkz : (k : Int) < x.ds.length := by omega
    have hd := dcR_elem x.ds k hkm
    have k57 := decl_ct _ (hx.ds _ (mem_getD x.ds k ⟨[], []⟩ hkm))
    have hg : k < N → (!dupD x.ds k && dcOk (x.ds.getD k ⟨[], []⟩)) = true := hall k
    have hb : N = k → (!dupD x.ds k && dcOk (x.ds.getD k ⟨[], []⟩)) = false := fun e => by subst e; exact hno hkm
    rw [dupD_upto x.ds k (by omega)] at hg hb
    have jN := upto_le (fun j => !((x.ds.getD j ⟨[], []⟩).p == (x.ds.getD k ⟨[], []⟩).p)) k
    have jall := upto_all (fun j => !((x.ds.getD j ⟨[], []⟩).p == (x.ds.getD k ⟨[], []⟩).p)) k
    have jno := upto_no (fun j => !((x.ds.getD j ⟨[], []⟩).p == (x.ds.getD k ⟨[], []⟩).p)) k
    generalize upto (fun j => !((x.ds.getD j ⟨[], []⟩).p == (x.ds.getD k ⟨[], []⟩).p)) k = J at *
    clear hall hno
    cases hO : dcOk (x.ds.getD k ⟨[], []⟩) with
    | false =>
      rw [hO] at k57
      have hkN : k = N := by
        rcases Nat.lt_or_ge k N with h1 | h1
        · have := hg h1; rw [hO] at this; simp at this
        · omega
      have hne : N ≠ x.ds.length := by omega
      rw [decide_eq_false hne]
      clear hg hb jall jno
      generalize x.ds.getD k ⟨[], []⟩ = d at *
      unfold dcP at hd k57
      unfold ndH
      repeat (first | ((with_reducible first | refine callK_at 57 ?_); refine callK_p ?_; simp (maxSteps := 1000000) (disch := refine hold_ ?_; first | (simp [hkm, hkz, hd, -List.getD_eq_getElem?_getD]; done) | omega) [hkm, hkz, hd, -List.getD_eq_getElem?_getD]; (first | refine callK1_of (Fn.ct k57 Tryd.call57) ?_); (try simp (maxSteps := 1000000) (disch := refine hold_ ?_; first | (simp [hkm, hkz, hd, -List.getD_eq_getElem?_getD]; done) | omega) [hkm, hkz, hd, -List.getD_eq_getElem?_getD]); try first | (with_reducible refine zZ ?_) | subst hK_) | ((first | (with_reducible first | refine zP fun K_ hK_ => ?_ | refine zQ fun K_ hK_ => ?_ | refine zT ?_ | refine zU ?_ | refine zV ?_ | refine zW ?_ | refine zX ?_ | refine zY ?_) | ((with_reducible first | refine zR ?_ ?_ fun K_ hK_ => ?_ | refine zS ?_ ?_ fun K_ hK_ => ?_); (focus kernel_rfl); (focus kernel_rfl))); first | (simp (maxSteps := 1000000) (disch := refine hold_ ?_; first | (simp [hkm, hkz, hd, -List.getD_eq_getElem?_getD]; done) | omega) [hkm, hkz, hd, -List.getD_eq_getElem?_getD]; try first | (with_reducible refine zZ ?_) | subst hK_) | subst hK_) | (with_reducible first | refine zA ?_ | refine zB ?_ | refine zC ?_ | refine zD ?_ | refine zE ?_ | refine zF ?_ | refine zG ?_ | refine zH ?_ | refine zI ?_ | refine zJ ?_ | refine zK ?_ | refine zL ?_ | refine zM ?_ | refine zN ?_ | refine zO ?_) | ((with_reducible refine yG ?_ ?_); (focus decide)) | ((with_reducible refine yA ?_); refine yB rfl ?_; (with_reducible first | refine yC ?_ | refine yD ?_)))
      all_goals (try simp (maxSteps := 1000000) (disch := refine hold_ ?_; first | (simp [-List.getD_eq_getElem?_getD]; done) | omega) [-List.getD_eq_getElem?_getD])
    | true =>
    rw [hO] at k57 hg hb
    have hdk := hd
    unfold dcP at hdk k57
    unfold ndH
    repeat (first | ((with_reducible first | refine callK_at 57 ?_); refine callK_p ?_; simp (maxSteps := 1000000) (disch := refine hold_ ?_; first | (simp [hkm, hkz, hdk, -List.getD_eq_getElem?_getD]; done) | omega) [hkm, hkz, hdk, -List.getD_eq_getElem?_getD]; (first | refine callK1_of (Fn.ct k57 Tryd.call57) ?_); (try simp (maxSteps := 1000000) (disch := refine hold_ ?_; first | (simp [hkm, hkz, hdk, -List.getD_eq_getElem?_getD]; done) | omega) [hkm, hkz, hdk, -List.getD_eq_getElem?_getD]); try first | (with_reducible refine zZ ?_) | subst hK_) | ((first | (with_reducible first | refine zP fun K_ hK_ => ?_ | refine zQ fun K_ hK_ => ?_ | refine zT ?_ | refine zU ?_ | refine zV ?_ | refine zW ?_ | refine zX ?_ | refine zY ?_) | ((with_reducible first | refine zR ?_ ?_ fun K_ hK_ => ?_ | refine zS ?_ ?_ fun K_ hK_ => ?_); (focus kernel_rfl); (focus kernel_rfl))); first | (simp (maxSteps := 1000000) (disch := refine hold_ ?_; first | (simp [hkm, hkz, hdk, -List.getD_eq_getElem?_getD]; done) | omega) [hkm, hkz, hdk, -List.getD_eq_getElem?_getD]; try first | (with_reducible refine zZ ?_) | subst hK_) | subst hK_) | (with_reducible first | refine zA ?_ | refine zB ?_ | refine zC ?_ | refine zD ?_ | refine zE ?_ | refine zF ?_ | refine zG ?_ | refine zH ?_ | refine zI ?_ | refine zJ ?_ | refine zK ?_ | refine zL ?_ | refine zM ?_ | refine zN ?_ | refine zO ?_) | ((with_reducible refine yG ?_ ?_); (focus decide)) | ((with_reducible refine yA ?_); refine yB rfl ?_; (with_reducible first | refine yC ?_ | refine yD ?_)))
    refine AW.iter (true :: true :: false :: false :: false :: true :: true :: false :: false :: false :: false :: false :: false :: false :: false :: false :: false :: false :: false :: false :: false :: true :: true :: false :: false :: false :: false :: false :: false :: false :: false :: false :: true :: true :: false :: false :: false :: false :: false :: false :: false :: false :: false :: false :: false :: false :: false :: false :: false :: false :: false :: false :: false :: false :: false :: false :: false :: false :: false :: false :: false :: false :: false :: false :: false :: false :: false :: false :: false :: false :: false :: false :: false :: false :: false :: false :: false :: false :: false :: false :: false :: false :: false :: false :: false :: false :: false :: false :: false :: false :: false :: false :: false :: false :: false :: false :: false :: false :: false :: false :: false :: false :: false :: false :: false :: false :: false :: false :: false :: false :: false :: false :: false :: false :: false :: false :: false :: false :: false :: false :: false :: false :: false :: false :: false :: false :: false :: false :: false :: false :: false :: false :: false :: false :: false :: false :: false :: false :: false :: false :: false :: false :: false :: false :: false :: false :: false :: false :: false :: false :: false :: false :: false :: false :: false :: false :: false :: false :: false :: false :: false :: false :: false :: false :: false :: false :: false :: false :: false :: false :: false :: false :: false :: false :: false :: false :: false :: false :: false :: false :: false :: false :: false :: []) J (fun j => ⟨(.p (.sl (ndR l) nl) :: .p (.int .i64 n) :: V.junk :: V.junk :: V.junk :: .ptr 5 0 0 :: .p (.int .i64 k) :: V.junk :: V.junk :: V.junk :: V.junk :: V.junk :: V.junk :: V.junk :: V.junk :: V.junk :: V.junk :: V.junk :: V.junk :: V.junk :: V.junk :: .p (.int .i64 x.ds.length) :: .p (.int .i64 k) :: V.junk :: V.junk :: V.junk :: V.junk :: V.junk :: V.junk :: V.junk :: V.junk :: V.junk :: .p (.int .i64 k) :: .p (.int .i64 j) :: V.junk :: V.junk :: V.junk :: V.junk :: V.junk :: V.junk :: V.junk :: V.junk :: V.junk :: V.junk :: V.junk :: V.junk :: V.junk :: V.junk :: V.junk :: V.junk :: V.junk :: V.junk :: V.junk :: V.junk :: V.junk :: V.junk :: V.junk :: V.junk :: V.junk :: V.junk :: V.junk :: V.junk :: V.junk :: V.junk :: V.junk :: V.junk :: V.junk :: V.junk :: V.junk :: V.junk :: V.junk :: V.junk :: V.junk :: V.junk :: V.junk :: V.junk :: V.junk :: V.junk :: V.junk :: V.junk :: V.junk :: V.junk :: V.junk :: V.junk :: V.junk :: V.junk :: V.junk :: V.junk :: V.junk :: V.junk :: V.junk :: V.junk :: V.junk :: V.junk :: V.junk :: V.junk :: V.junk :: V.junk :: V.junk :: V.junk :: V.junk :: V.junk :: V.junk :: V.junk :: V.junk :: V.junk :: V.junk :: V.junk :: V.junk :: V.junk :: V.junk :: V.junk :: V.junk :: V.junk :: V.junk :: V.junk :: V.junk :: V.junk :: V.junk :: V.junk :: V.junk :: V.junk :: V.junk :: V.junk :: V.junk :: V.junk :: V.junk :: V.junk :: V.junk :: V.junk :: V.junk :: V.junk :: V.junk :: V.junk :: V.junk :: V.junk :: V.junk :: V.junk :: V.junk :: V.junk :: V.junk :: V.junk :: V.junk :: V.junk :: V.junk :: V.junk :: V.junk :: V.junk :: V.junk :: V.junk :: V.junk :: V.junk :: V.junk :: V.junk :: V.junk :: V.junk :: V.junk :: V.junk :: V.junk :: V.junk :: V.junk :: V.junk :: V.junk :: V.junk :: V.junk :: V.junk :: V.junk :: V.junk :: V.junk :: V.junk :: V.junk :: V.junk :: V.junk :: V.junk :: V.junk :: V.junk :: V.junk :: V.junk :: V.junk :: V.junk :: V.junk :: V.junk :: V.junk :: []), ⟨[(5, 0, ndH x)], []⟩⟩) ?_ ?_
    · (unfold ndH; simp (maxSteps := 1000000) (disch := refine hold_ ?_; first | (simp [-List.getD_eq_getElem?_getD]; done) | omega) [-List.getD_eq_getElem?_getD])
    intro j hj
    have e1 := wrap_succ j k (by omega) (by omega)
    unfold ndH
    by_cases hjm : j < k
    · have hjz : (j : Int) < k := by omega
      have hjl : j < x.ds.length := by omega
      have hjlz : (j : Int) < x.ds.length := by omega
      have hdj := dcR_elem x.ds j hjl
      have eq := str_eq_txt (x.ds.getD j ⟨[], []⟩).p (x.ds.getD k ⟨[], []⟩).p
      by_cases hjN : j < J
      · have hq : ((x.ds.getD j ⟨[], []⟩).p == (x.ds.getD k ⟨[], []⟩).p) = false := by simpa using jall j hjN
        rw [hq] at eq
        clear hg hb jall jno k57
        generalize x.ds.getD k ⟨[], []⟩ = d at *
        generalize x.ds.getD j ⟨[], []⟩ = d2 at *
        unfold dcP at hdj
        repeat (first | ((first | (with_reducible first | refine zP fun K_ hK_ => ?_ | refine zQ fun K_ hK_ => ?_ | refine zT ?_ | refine zU ?_ | refine zV ?_ | refine zW ?_ | refine zX ?_ | refine zY ?_) | ((with_reducible first | refine zR ?_ ?_ fun K_ hK_ => ?_ | refine zS ?_ ?_ fun K_ hK_ => ?_); (focus kernel_rfl); (focus kernel_rfl))); first | (simp (maxSteps := 1000000) (disch := refine hold_ ?_; first | (simp [hkm, hkz, hdk, hjm, hjz, hjl, hjlz, hdj, eq, e1, -List.getD_eq_getElem?_getD]; done) | omega) [hkm, hkz, hdk, hjm, hjz, hjl, hjlz, hdj, eq, e1, -List.getD_eq_getElem?_getD]; try first | (with_reducible refine zZ ?_) | subst hK_) | subst hK_) | (with_reducible first | refine zA ?_ | refine zB ?_ | refine zC ?_ | refine zD ?_ | refine zE ?_ | refine zF ?_ | refine zG ?_ | refine zH ?_ | refine zI ?_ | refine zJ ?_ | refine zK ?_ | refine zL ?_ | refine zM ?_ | refine zN ?_ | refine zO ?_) | ((with_reducible refine yG ?_ ?_); (focus decide)) | ((with_reducible refine yA ?_); refine yB rfl ?_; (with_reducible first | refine yC ?_ | refine yD ?_)))
        refine ⟨hjN, ?_⟩
        simp (maxSteps := 1000000) (disch := refine hold_ ?_; first | (simp [-List.getD_eq_getElem?_getD]; done) | omega) [-List.getD_eq_getElem?_getD]
      · obtain rfl : j = J := by omega
        have hq : ((x.ds.getD j ⟨[], []⟩).p == (x.ds.getD k ⟨[], []⟩).p) = true := by simpa using jno hjm
        rw [hq] at eq
        have hkN : k = N := by
          rcases Nat.lt_or_ge k N with h1 | h1
          · have := hg h1
            rw [decide_eq_false (by omega : ¬ j = k)] at this; simp at this
          · omega
        have hne : N ≠ x.ds.length := by omega
        rw [decide_eq_false hne]
        clear hg hb jall jno k57
        generalize x.ds.getD k ⟨[], []⟩ = d at *
        generalize x.ds.getD j ⟨[], []⟩ = d2 at *
        unfold dcP at hdj
        repeat (first | ((first | (with_reducible first | refine zP fun K_ hK_ => ?_ | refine zQ fun K_ hK_ => ?_ | refine zT ?_ | refine zU ?_ | refine zV ?_ | refine zW ?_ | refine zX ?_ | refine zY ?_) | ((with_reducible first | refine zR ?_ ?_ fun K_ hK_ => ?_ | refine zS ?_ ?_ fun K_ hK_ => ?_); (focus kernel_rfl); (focus kernel_rfl))); first | (simp (maxSteps := 1000000) (disch := refine hold_ ?_; first | (simp [hkm, hkz, hdk, hjm, hjz, hjl, hjlz, hdj, eq, -List.getD_eq_getElem?_getD]; done) | omega) [hkm, hkz, hdk, hjm, hjz, hjl, hjlz, hdj, eq, -List.getD_eq_getElem?_getD]; try first | (with_reducible refine zZ ?_) | subst hK_) | subst hK_) | (with_reducible first | refine zA ?_ | refine zB ?_ | refine zC ?_ | refine zD ?_ | refine zE ?_ | refine zF ?_ | refine zG ?_ | refine zH ?_ | refine zI ?_ | refine zJ ?_ | refine zK ?_ | refine zL ?_ | refine zM ?_ | refine zN ?_ | refine zO ?_) | ((with_reducible refine yG ?_ ?_); (focus decide)) | ((with_reducible refine yA ?_); refine yB rfl ?_; (with_reducible first | refine yC ?_ | refine yD ?_)))
        all_goals (try simp (maxSteps := 1000000) (disch := refine hold_ ?_; first | (simp [-List.getD_eq_getElem?_getD]; done) | omega) [-List.getD_eq_getElem?_getD])
    · have hjz : ¬ (j : Int) < k := by omega
      have hjk : J = k := by omega
      have hkN : k < N := Nat.lt_of_le_of_ne hk fun e => by have := hb e.symm; rw [decide_eq_true hjk] at this; simp at this
      repeat (first | ((first | (with_reducible first | refine zP fun K_ hK_ => ?_ | refine zQ fun K_ hK_ => ?_ | refine zT ?_ | refine zU ?_ | refine zV ?_ | refine zW ?_ | refine zX ?_ | refine zY ?_) | ((with_reducible first | refine zR ?_ ?_ fun K_ hK_ => ?_ | refine zS ?_ ?_ fun K_ hK_ => ?_); (focus kernel_rfl); (focus kernel_rfl))); first | (simp (maxSteps := 1000000) (disch := refine hold_ ?_; first | (simp [hjm, hjz, e0, -List.getD_eq_getElem?_getD]; done) | omega) [hjm, hjz, e0, -List.getD_eq_getElem?_getD]; try first | (with_reducible refine zZ ?_) | subst hK_) | subst hK_) | (with_reducible first | refine zA ?_ | refine zB ?_ | refine zC ?_ | refine zD ?_ | refine zE ?_ | refine zF ?_ | refine zG ?_ | refine zH ?_ | refine zI ?_ | refine zJ ?_ | refine zK ?_ | refine zL ?_ | refine zM ?_ | refine zN ?_ | refine zO ?_) | ((with_reducible refine yG ?_ ?_); (focus decide)) | ((with_reducible refine yA ?_); refine yB rfl ?_; (with_reducible first | refine yC ?_ | refine yD ?_)))
      refine ⟨hkN, ?_⟩
      simp (maxSteps := 1000000) (disch := refine hold_ ?_; first | (simp [-List.getD_eq_getElem?_getD]; done) | omega) [-List.getD_eq_getElem?_getD]
  have hkz : ¬ (k : Int) < x.ds.length := by omega
  have hkN : N = x.ds.length := by omega
  rw [decide_eq_true hkN]
  unfold ndH
  clear hall hno hN e0 hk
  have k15 := km x.p
  have k16l := ris_ct x.l hx.l
  have k16p := ris_ct x.p hx.p
  have e1 := str_neq_txt (M x.p).1 x.u
  have e2 := q_xmlns x.p
  have e3 := s_ne0 x.p
  have e4 := s_ne0 x.t
  unfold elOk preOk
  generalize (M x.p).1 = U at *
  generalize (M x.p).2 = O at *
  generalize (U == x.u) = B at *
  generalize nameB x.l = C at *
  generalize nameB x.p = PN at *
  generalize (x.p == []) = P0 at *
  generalize (x.p == xmlnsS) = E at *
  generalize (x.t == []) = T0 at *
  generalize allB (fun k => !dupA x.ms k && atOk (x.ms.getD k at0) (M (x.ms.getD k at0).p)) x.ms.length = R at *
  rcases anc O (anc B (anc C (two P0 PN (orc E (anc T0 (trivial)))))) with rfl | ⟨rfl, rfl | ⟨rfl, rfl | ⟨rfl, ⟨rfl, rfl⟩ | ⟨rfl | ⟨rfl, rfl⟩, rfl | ⟨rfl, rfl | ⟨rfl, _⟩⟩⟩⟩⟩⟩
  all_goals
    first
      | (repeat (first | ((with_reducible refine Go.Av.AW.headAt 17 ?_); fail) | ((with_reducible first | refine callK_at 15 ?_ | refine callK_at 16 ?_); refine callK_p ?_; simp (maxSteps := 1000000) (disch := refine hold_ ?_; first | (simp [hn, hnz, hkz, he, e1, e2, e3, e4, -List.getD_eq_getElem?_getD]; done) | omega) [hn, hnz, hkz, he, e1, e2, e3, e4, -List.getD_eq_getElem?_getD]; (first | ((with_reducible refine k1_at 15 ?_); refine callK1_of (Fn.ct k15 Tryd.call15) ?_) | ((with_reducible refine k1_at 16 ?_); refine callK1_of (Fn.ct k16l Tryd.call16) ?_) | ((with_reducible refine k1_at 16 ?_); refine callK1_of (Fn.ct k16p Tryd.call16) ?_)); (try simp (maxSteps := 1000000) (disch := refine hold_ ?_; first | (simp [hn, hnz, hkz, he, e1, e2, e3, e4, -List.getD_eq_getElem?_getD]; done) | omega) [hn, hnz, hkz, he, e1, e2, e3, e4, -List.getD_eq_getElem?_getD]); try first | (with_reducible refine zZ ?_) | subst hK_) | ((first | (with_reducible first | refine zP fun K_ hK_ => ?_ | refine zQ fun K_ hK_ => ?_ | refine zT ?_ | refine zU ?_ | refine zV ?_ | refine zW ?_ | refine zX ?_ | refine zY ?_) | ((with_reducible first | refine zR ?_ ?_ fun K_ hK_ => ?_ | refine zS ?_ ?_ fun K_ hK_ => ?_); (focus kernel_rfl); (focus kernel_rfl))); first | (simp (maxSteps := 1000000) (disch := refine hold_ ?_; first | (simp [hn, hnz, hkz, he, e1, e2, e3, e4, -List.getD_eq_getElem?_getD]; done) | omega) [hn, hnz, hkz, he, e1, e2, e3, e4, -List.getD_eq_getElem?_getD]; try first | (with_reducible refine zZ ?_) | subst hK_) | subst hK_) | (with_reducible first | refine zA ?_ | refine zB ?_ | refine zC ?_ | refine zD ?_ | refine zE ?_ | refine zF ?_ | refine zG ?_ | refine zH ?_ | refine zI ?_ | refine zJ ?_ | refine zK ?_ | refine zL ?_ | refine zM ?_ | refine zN ?_ | refine zO ?_) | ((with_reducible refine yG ?_ ?_); (focus decide)) | ((with_reducible refine yA ?_); refine yB rfl ?_; (with_reducible first | refine yC ?_ | refine yD ?_)))
         simp (maxSteps := 1000000) (disch := refine hold_ ?_; first | (simp [-List.getD_eq_getElem?_getD]; done) | omega) [-List.getD_eq_getElem?_getD]
         done)
      | repeat (first | ((with_reducible refine Go.Av.AW.headAt 17 ?_); (refine AW.norm (true :: true :: false :: false :: false :: true :: false :: false :: false :: false :: false :: false :: false :: false :: false :: false :: false :: false :: false :: false :: false :: false :: false :: false :: false :: false :: false :: false :: false :: false :: false :: false :: false :: false :: false :: false :: false :: false :: false :: false :: false :: false :: false :: false :: false :: false :: false :: false :: false :: false :: false :: false :: false :: false :: false :: false :: false :: false :: false :: false :: false :: false :: false :: false :: false :: false :: false :: false :: false :: false :: false :: false :: false :: false :: false :: false :: false :: false :: false :: false :: false :: false :: false :: false :: false :: false :: false :: false :: false :: false :: false :: false :: false :: false :: false :: false :: false :: false :: false :: false :: false :: false :: false :: false :: false :: false :: false :: false :: false :: false :: false :: false :: false :: false :: false :: false :: false :: false :: false :: false :: false :: false :: false :: false :: false :: false :: false :: false :: false :: false :: false :: false :: false :: false :: false :: false :: false :: false :: false :: false :: false :: false :: false :: false :: false :: false :: false :: false :: false :: false :: false :: false :: false :: false :: false :: false :: false :: false :: false :: false :: false :: false :: false :: false :: false :: false :: false :: false :: false :: false :: false :: false :: false :: false :: false :: false :: false :: false :: false :: false :: false :: false :: false :: []) (τ := ⟨(.p (.sl (ndR l) nl) :: .p (.int .i64 n) :: V.junk :: V.junk :: V.junk :: .ptr 5 0 0 :: V.junk :: V.junk :: V.junk :: V.junk :: V.junk :: V.junk :: V.junk :: V.junk :: V.junk :: V.junk :: V.junk :: V.junk :: V.junk :: V.junk :: V.junk :: V.junk :: V.junk :: V.junk :: V.junk :: V.junk :: V.junk :: V.junk :: V.junk :: V.junk :: V.junk :: V.junk :: V.junk :: V.junk :: V.junk :: V.junk :: V.junk :: V.junk :: V.junk :: V.junk :: V.junk :: V.junk :: V.junk :: V.junk :: V.junk :: V.junk :: V.junk :: V.junk :: V.junk :: V.junk :: V.junk :: V.junk :: V.junk :: V.junk :: V.junk :: V.junk :: V.junk :: V.junk :: V.junk :: V.junk :: V.junk :: V.junk :: V.junk :: V.junk :: V.junk :: V.junk :: V.junk :: V.junk :: V.junk :: V.junk :: V.junk :: V.junk :: V.junk :: V.junk :: V.junk :: V.junk :: V.junk :: V.junk :: V.junk :: V.junk :: V.junk :: V.junk :: V.junk :: V.junk :: V.junk :: V.junk :: V.junk :: V.junk :: V.junk :: V.junk :: V.junk :: V.junk :: V.junk :: V.junk :: V.junk :: V.junk :: V.junk :: V.junk :: V.junk :: V.junk :: V.junk :: V.junk :: V.junk :: V.junk :: V.junk :: V.junk :: V.junk :: V.junk :: V.junk :: V.junk :: V.junk :: V.junk :: V.junk :: V.junk :: V.junk :: V.junk :: V.junk :: V.junk :: V.junk :: V.junk :: V.junk :: V.junk :: V.junk :: V.junk :: V.junk :: V.junk :: V.junk :: V.junk :: V.junk :: V.junk :: V.junk :: V.junk :: V.junk :: V.junk :: V.junk :: V.junk :: V.junk :: V.junk :: V.junk :: V.junk :: V.junk :: V.junk :: V.junk :: V.junk :: V.junk :: V.junk :: V.junk :: V.junk :: V.junk :: V.junk :: V.junk :: V.junk :: V.junk :: V.junk :: V.junk :: V.junk :: V.junk :: V.junk :: V.junk :: V.junk :: V.junk :: V.junk :: V.junk :: V.junk :: V.junk :: V.junk :: V.junk :: V.junk :: V.junk :: V.junk :: V.junk :: V.junk :: V.junk :: V.junk :: V.junk :: V.junk :: V.junk :: V.junk :: V.junk :: V.junk :: V.junk :: V.junk :: V.junk :: []), ⟨[(5, 0, ndH x)], []⟩⟩) ?_ ht; (unfold ndH; simp (maxSteps := 1000000) (disch := refine hold_ ?_; first | (simp [-List.getD_eq_getElem?_getD]; done) | omega) [-List.getD_eq_getElem?_getD]))) | ((with_reducible first | refine callK_at 15 ?_ | refine callK_at 16 ?_); refine callK_p ?_; simp (maxSteps := 1000000) (disch := refine hold_ ?_; first | (simp [hn, hnz, hkz, he, e1, e2, e3, e4, -List.getD_eq_getElem?_getD]; done) | omega) [hn, hnz, hkz, he, e1, e2, e3, e4, -List.getD_eq_getElem?_getD]; (first | ((with_reducible refine k1_at 15 ?_); refine callK1_of (Fn.ct k15 Tryd.call15) ?_) | ((with_reducible refine k1_at 16 ?_); refine callK1_of (Fn.ct k16l Tryd.call16) ?_) | ((with_reducible refine k1_at 16 ?_); refine callK1_of (Fn.ct k16p Tryd.call16) ?_)); (try simp (maxSteps := 1000000) (disch := refine hold_ ?_; first | (simp [hn, hnz, hkz, he, e1, e2, e3, e4, -List.getD_eq_getElem?_getD]; done) | omega) [hn, hnz, hkz, he, e1, e2, e3, e4, -List.getD_eq_getElem?_getD]); try first | (with_reducible refine zZ ?_) | subst hK_) | ((first | (with_reducible first | refine zP fun K_ hK_ => ?_ | refine zQ fun K_ hK_ => ?_ | refine zT ?_ | refine zU ?_ | refine zV ?_ | refine zW ?_ | refine zX ?_ | refine zY ?_) | ((with_reducible first | refine zR ?_ ?_ fun K_ hK_ => ?_ | refine zS ?_ ?_ fun K_ hK_ => ?_); (focus kernel_rfl); (focus kernel_rfl))); first | (simp (maxSteps := 1000000) (disch := refine hold_ ?_; first | (simp [hn, hnz, hkz, he, e1, e2, e3, e4, -List.getD_eq_getElem?_getD]; done) | omega) [hn, hnz, hkz, he, e1, e2, e3, e4, -List.getD_eq_getElem?_getD]; try first | (with_reducible refine zZ ?_) | subst hK_) | subst hK_) | (with_reducible first | refine zA ?_ | refine zB ?_ | refine zC ?_ | refine zD ?_ | refine zE ?_ | refine zF ?_ | refine zG ?_ | refine zH ?_ | refine zI ?_ | refine zJ ?_ | refine zK ?_ | refine zL ?_ | refine zM ?_ | refine zN ?_ | refine zO ?_) | ((with_reducible refine yG ?_ ?_); (focus decide)) | ((with_reducible refine yA ?_); refine yB rfl ?_; (with_reducible first | refine yC ?_ | refine yD ?_)))
end Go.Av.Doc
end
