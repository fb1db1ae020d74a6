/- The walks of this seat's functions, and what is known of what they reckon (Doca). Conditions: those that each theorem names. -/
import Derived.Test.YtkphnlnphenphaaDoorDoc9
import Derived.Lib.LaidU8
section
set_option linter.unusedSimpArgs false
set_option linter.unusedVariables false
set_option linter.unusedSectionVars false
open Go Go.Av Go.Proofs
namespace Go.Av.Doc
variable [ML]
def rootB (x : Nd) : Bool := (x.k == 0) && ((x.a == -1) && (bareB x && ((x.l == []) && (x.t == []))))
def lastC (l : List Nd) (p : Int) : Nat → Int
  | 0 => -1
  | n + 1 => if 0 < n ∧ (nd l n).a = p then n else lastC l p n
def nodeB (l : List Nd) (n : Nat) : Bool := standB l n && (formB l n (lastC l (nd l n).a n) && (!((nd l n).a == 0) || !((nd l n).k == 2)))
def isTop (l : List Nd) (n : Nat) : Bool := (nd l n).a == 0 && (nd l n).k == 1
def topN (l : List Nd) : Nat → Nat
  | 0 => 0
  | n + 1 => if 0 < n ∧ isTop l n = true then n else topN l n
def stepB (l : List Nd) (n : Nat) : Bool := nodeB l n && !(isTop l n && decide (0 < topN l n))
def allS (l : List Nd) : Bool := allB (fun j => stepB l (j + 1)) (l.length - 1)
def chkV (l : List Nd) : Nat × Bool := if !(l.length == 0) && rootB (nd l 0) && allS l then (topN l l.length, decide (0 < topN l l.length)) else (0, false)
theorem lastC_le (l : List Nd) (p : Int) : ∀ n, -1 ≤ lastC l p n ∧ lastC l p n < max n 1
  | 0 => by simp [lastC]
  | n + 1 => by
    have := lastC_le l p n
    unfold lastC
    split <;> omega
theorem topN_le (l : List Nd) : ∀ n, topN l n ≤ n
  | 0 => Nat.le_refl _
  | n + 1 => by
    have := topN_le l n
    unfold topN
    split <;> omega
theorem ab_range {l : List Nd} {a : Int} {n : Nat} (h : pOk l n) : ∀ (m : Nat) (c : Int), c < m → c < n → -1 ≤ c → ab l a c = true → 0 ≤ a ∧ a ≤ c
  | 0, c, h1, h2, h3, hab => by rw [ab_neg l a c (by omega)] at hab; cases hab
  | m + 1, c, h1, h2, h3, hab => by
    by_cases hc : 0 ≤ c
    · by_cases ha : a = c
      · omega
      · rw [ab_up h hc h2 ha] at hab
        have hlt := h.lt (show c.toNat < n by omega)
        have := ab_range h m _ (by omega) (by omega) (by omega) hab
        omega
    · rw [ab_neg l a c (by omega)] at hab; cases hab
theorem stand_par {l : List Nd} {n : Nat} (h : pOk l n) (h0 : 0 < n) (hs : standB l n = true) : 0 ≤ (nd l n).a ∧ (nd l n).a < n := by
  unfold standB at hs
  rw [Bool.and_eq_true] at hs
  have := ab_range h n ((n : Int) - 1) (by omega) (by omega) (by omega) hs.1
  omega
theorem pOk.succ {l : List Nd} {n : Nat} (h : pOk l n) (h0 : 0 < n) (hs : standB l n = true) : pOk l (n + 1) := by
  refine ⟨h.1, fun m h1 h2 => ?_⟩
  by_cases e : m = n
  · subst e; exact stand_par h h0 hs
  · exact h.2 m h1 (by omega)
theorem node_stand {l : List Nd} {n : Nat} (h : nodeB l n = true) : standB l n = true := by
  unfold nodeB at h; rw [Bool.and_eq_true] at h; exact h.1
theorem step_node {l : List Nd} {n : Nat} (h : stepB l n = true) : nodeB l n = true := by
  unfold stepB at h; rw [Bool.and_eq_true] at h; exact h.1
theorem pOk_of {l : List Nd} (h0 : (nd l 0).a = -1) : ∀ k, (∀ j, j < k → standB l (j + 1) = true) → pOk l (k + 1)
  | 0, _ => ⟨h0, fun m h1 h2 => by omega⟩
  | k + 1, h => (pOk_of h0 k fun j hj => h j (by omega)).succ (by omega) (h k (by omega))
def lasR (l : List Nd) (n : Nat) : List Int := tabL (fun p => lastC l p n) l.length
theorem lasR_set (l : List Nd) (n : Nat) (q : Nat) (h0 : 0 < n) (hq : (nd l n).a = q) (hql : q < l.length) : (lasR l n).set q (n : Int) = lasR l (n + 1) :=
  tabL_set _ _ _ _ _ (by unfold lastC; rw [if_pos ⟨h0, hq⟩]) fun m hm hne => by
    rw [lastC, if_neg (by rintro ⟨_, h⟩; rw [hq] at h; omega)]
end Go.Av.Doc
end
section
set_option linter.unusedSimpArgs false
set_option linter.unusedVariables false
set_option linter.unusedSectionVars false
open Go Go.Av Go.Proofs
namespace Go.Av.Doc
variable [ML]
def filR (l : List Nd) (k : Nat) : List Int := tabL (fun p => if p < k then -1 else 0) l.length
set_option maxRecDepth 16000 in
set_option maxHeartbeats 16000000 in
theorem check_ct (l : List Nd) (nl : Bool) (hl : l.length ≤ 4000000) (hok : ∀ x ∈ l, okN x) :
    Fn Tryd.prog 29 [.sl (ndR l) nl] [.p (.int .i64 (chkV l).1), .p (.bool (chkV l).2)] := by
  have ez := int0 l.length
  unfold chkV
  by_cases hz : l.length = 0
  · have eb : (l.length == 0) = true := beq_iff_eq.2 hz
    rw [eb] at ez ⊢
    refine Fn.of_body Tryd.func29 rfl ?_
    repeat (first | ((first | (with_reducible first | refine zP fun K_ hK_ => ?_ | refine zQ fun K_ hK_ => ?_ | refine zT ?_ | refine zU ?_ | refine zV ?_ | refine zW ?_ | refine zX ?_ | refine zY ?_) | ((with_reducible first | refine zR ?_ ?_ fun K_ hK_ => ?_ | refine zS ?_ ?_ fun K_ hK_ => ?_); (focus kernel_rfl); (focus kernel_rfl))); first | (simp (maxSteps := 1000000) (disch := refine hold_ ?_; first | (simp [ez, -List.getD_eq_getElem?_getD]; done) | omega) [ez, -List.getD_eq_getElem?_getD]; try first | (with_reducible refine zZ ?_) | subst hK_) | subst hK_) | (with_reducible first | refine zA ?_ | refine zB ?_ | refine zC ?_ | refine zD ?_ | refine zE ?_ | refine zF ?_ | refine zG ?_ | refine zH ?_ | refine zI ?_ | refine zJ ?_ | refine zK ?_ | refine zL ?_ | refine zM ?_ | refine zN ?_ | refine zO ?_) | ((with_reducible refine yG ?_ ?_); (focus decide)) | ((with_reducible refine yA ?_); refine yB rfl ?_; (with_reducible first | refine yC ?_ | refine yD ?_)))
    all_goals (try simp (maxSteps := 1000000) (disch := refine hold_ ?_; first | (simp [-List.getD_eq_getElem?_getD]; done) | omega) [-List.getD_eq_getElem?_getD])
  have eb : (l.length == 0) = false := beq_eq_false_iff_ne.2 hz
  rw [eb] at ez ⊢
  have hpos : 0 < l.length := by omega
  have hposz : (0 : Int) < l.length := by omega
  have he0 := nd_elem l 0 hpos
  have k37 := bare_ct (nd l 0)
  have e1 := s_ne0 (nd l 0).l
  have e2 := s_ne0 (nd l 0).t
  have hA0 : ((nd l 0).a == -1) = true → (nd l 0).a = -1 := fun h => by simpa using h
  have f1 : ((nd l 0).k != 0) = !((nd l 0).k == 0) := rfl
  have f2 : ((nd l 0).a != -1) = !((nd l 0).a == -1) := rfl
  have hR : rootB (nd l 0) = (((nd l 0).k == 0) && (((nd l 0).a == -1) && (bareB (nd l 0) && (((nd l 0).l == []) && ((nd l 0).t == []))))) := rfl
  rw [hR]
  clear hR
  generalize hK : ((nd l 0).k == 0) = K at *
  generalize hA : ((nd l 0).a == -1) = A at *
  generalize bareB (nd l 0) = B at *
  generalize ((nd l 0).l == []) = L at *
  generalize ((nd l 0).t == []) = T at *
  have hNd : ndP (nd l 0) = .agg (.vals 1 [.int .i64 (nd l 0).k, .int .i64 (nd l 0).a, .str (txt (nd l 0).p), .str (txt (nd l 0).l), .str (txt (nd l 0).u), .str (txt (nd l 0).t), .sl (dcR (nd l 0).ds) (nd l 0).dn, .sl (atR (nd l 0).ms) (nd l 0).mn]) := rfl
  rw [hNd] at he0 k37
  refine Fn.of_body Tryd.func29 rfl ?_
  rcases anc K (anc A (anc B (anc L (anc T (trivial))))) with rfl | ⟨rfl, rfl | ⟨rfl, rfl | ⟨rfl, rfl | ⟨rfl, rfl | ⟨rfl, _⟩⟩⟩⟩⟩
  iterate 5
    · repeat (first | ((with_reducible first | refine callK_at 37 ?_); refine callK_p ?_; simp (maxSteps := 1000000) (disch := refine hold_ ?_; first | (simp [ez, he0, hpos, hposz, f1, f2, e1, e2, -List.getD_eq_getElem?_getD]; done) | omega) [ez, he0, hpos, hposz, f1, f2, e1, e2, -List.getD_eq_getElem?_getD]; (first | refine callK1_of (Fn.ct k37 Tryd.call37) ?_); (try simp (maxSteps := 1000000) (disch := refine hold_ ?_; first | (simp [ez, he0, hpos, hposz, f1, f2, e1, e2, -List.getD_eq_getElem?_getD]; done) | omega) [ez, he0, hpos, hposz, f1, f2, e1, e2, -List.getD_eq_getElem?_getD]); try first | (with_reducible refine zZ ?_) | subst hK_) | ((first | (with_reducible first | refine zP fun K_ hK_ => ?_ | refine zQ fun K_ hK_ => ?_ | refine zT ?_ | refine zU ?_ | refine zV ?_ | refine zW ?_ | refine zX ?_ | refine zY ?_) | ((with_reducible first | refine zR ?_ ?_ fun K_ hK_ => ?_ | refine zS ?_ ?_ fun K_ hK_ => ?_); (focus kernel_rfl); (focus kernel_rfl))); first | (simp (maxSteps := 1000000) (disch := refine hold_ ?_; first | (simp [ez, he0, hpos, hposz, f1, f2, e1, e2, -List.getD_eq_getElem?_getD]; done) | omega) [ez, he0, hpos, hposz, f1, f2, e1, e2, -List.getD_eq_getElem?_getD]; try first | (with_reducible refine zZ ?_) | subst hK_) | subst hK_) | (with_reducible first | refine zA ?_ | refine zB ?_ | refine zC ?_ | refine zD ?_ | refine zE ?_ | refine zF ?_ | refine zG ?_ | refine zH ?_ | refine zI ?_ | refine zJ ?_ | refine zK ?_ | refine zL ?_ | refine zM ?_ | refine zN ?_ | refine zO ?_) | ((with_reducible refine yG ?_ ?_); (focus decide)) | ((with_reducible refine yA ?_); refine yB rfl ?_; (with_reducible first | refine yC ?_ | refine yD ?_)))
      all_goals (try simp (maxSteps := 1000000) (disch := refine hold_ ?_; first | (simp [-List.getD_eq_getElem?_getD]; done) | omega) [-List.getD_eq_getElem?_getD])
  have ha0 : (nd l 0).a = -1 := hA0 rfl
  repeat (first | ((with_reducible first | refine callK_at 37 ?_); refine callK_p ?_; simp (maxSteps := 1000000) (disch := refine hold_ ?_; first | (simp [ez, he0, hpos, hposz, f1, f2, e1, e2, mk48, hl, -List.getD_eq_getElem?_getD]; done) | omega) [ez, he0, hpos, hposz, f1, f2, e1, e2, mk48, hl, -List.getD_eq_getElem?_getD]; (first | refine callK1_of (Fn.ct k37 Tryd.call37) ?_); (try simp (maxSteps := 1000000) (disch := refine hold_ ?_; first | (simp [ez, he0, hpos, hposz, f1, f2, e1, e2, mk48, hl, -List.getD_eq_getElem?_getD]; done) | omega) [ez, he0, hpos, hposz, f1, f2, e1, e2, mk48, hl, -List.getD_eq_getElem?_getD]); try first | (with_reducible refine zZ ?_) | subst hK_) | ((first | (with_reducible first | refine zP fun K_ hK_ => ?_ | refine zQ fun K_ hK_ => ?_ | refine zT ?_ | refine zU ?_ | refine zV ?_ | refine zW ?_ | refine zX ?_ | refine zY ?_) | ((with_reducible first | refine zR ?_ ?_ fun K_ hK_ => ?_ | refine zS ?_ ?_ fun K_ hK_ => ?_); (focus kernel_rfl); (focus kernel_rfl))); first | (simp (maxSteps := 1000000) (disch := refine hold_ ?_; first | (simp [ez, he0, hpos, hposz, f1, f2, e1, e2, mk48, hl, -List.getD_eq_getElem?_getD]; done) | omega) [ez, he0, hpos, hposz, f1, f2, e1, e2, mk48, hl, -List.getD_eq_getElem?_getD]; try first | (with_reducible refine zZ ?_) | subst hK_) | subst hK_) | (with_reducible first | refine zA ?_ | refine zB ?_ | refine zC ?_ | refine zD ?_ | refine zE ?_ | refine zF ?_ | refine zG ?_ | refine zH ?_ | refine zI ?_ | refine zJ ?_ | refine zK ?_ | refine zL ?_ | refine zM ?_ | refine zN ?_ | refine zO ?_) | ((with_reducible refine yG ?_ ?_); (focus decide)) | ((with_reducible refine yA ?_); refine yB rfl ?_; (with_reducible first | refine yC ?_ | refine yD ?_)))
  clear hNd he0 k37 f1 f2 e1 e2 hA0 hK hA
  refine AW.iter (true :: false :: false :: false :: true :: false :: false :: false :: false :: false :: false :: false :: false :: false :: false :: false :: false :: false :: false :: false :: false :: false :: false :: false :: false :: false :: false :: false :: false :: false :: false :: false :: false :: false :: false :: false :: false :: false :: false :: false :: false :: false :: false :: false :: false :: false :: false :: false :: false :: false :: true :: true :: false :: false :: false :: false :: false :: false :: false :: false :: false :: false :: false :: false :: false :: false :: false :: false :: false :: false :: false :: false :: false :: false :: false :: false :: false :: false :: false :: false :: false :: false :: false :: false :: false :: false :: false :: false :: false :: false :: false :: false :: false :: false :: false :: false :: false :: false :: false :: false :: false :: false :: false :: false :: false :: false :: false :: false :: false :: false :: false :: false :: false :: false :: false :: false :: false :: false :: []) l.length (fun k => ⟨(.p (.sl (ndR l) nl) :: V.junk :: V.junk :: V.junk :: .own 48 0 0 l.length l.length :: V.junk :: V.junk :: V.junk :: V.junk :: V.junk :: V.junk :: V.junk :: V.junk :: V.junk :: V.junk :: V.junk :: V.junk :: V.junk :: V.junk :: V.junk :: V.junk :: V.junk :: V.junk :: V.junk :: V.junk :: V.junk :: V.junk :: V.junk :: V.junk :: V.junk :: V.junk :: V.junk :: V.junk :: V.junk :: V.junk :: V.junk :: V.junk :: V.junk :: V.junk :: V.junk :: V.junk :: V.junk :: V.junk :: V.junk :: V.junk :: V.junk :: V.junk :: V.junk :: V.junk :: V.junk :: .p (.int .i64 l.length) :: .p (.int .i64 k) :: V.junk :: V.junk :: V.junk :: V.junk :: V.junk :: V.junk :: V.junk :: V.junk :: V.junk :: V.junk :: V.junk :: V.junk :: V.junk :: V.junk :: V.junk :: V.junk :: V.junk :: V.junk :: V.junk :: V.junk :: V.junk :: V.junk :: V.junk :: V.junk :: V.junk :: V.junk :: V.junk :: V.junk :: V.junk :: V.junk :: V.junk :: V.junk :: V.junk :: V.junk :: V.junk :: V.junk :: V.junk :: V.junk :: V.junk :: V.junk :: V.junk :: V.junk :: V.junk :: V.junk :: V.junk :: V.junk :: V.junk :: V.junk :: V.junk :: V.junk :: V.junk :: V.junk :: V.junk :: V.junk :: V.junk :: V.junk :: V.junk :: V.junk :: V.junk :: V.junk :: V.junk :: V.junk :: V.junk :: V.junk :: V.junk :: V.junk :: []), ⟨[(48, 0, .row (.ints .i64 (filR l k)))], []⟩⟩) ?_ ?_
  · have e : List.replicate l.length (0 : Int) = filR l 0 := by rw [tabL_rep]; exact tabL_ext _ _ _ fun m _ => rfl
    rw [e]
    simp (maxSteps := 1000000) (disch := refine hold_ ?_; first | (simp [-List.getD_eq_getElem?_getD]; done) | omega) [-List.getD_eq_getElem?_getD]
  intro k hk
  have e0 := wrap_succ k l.length hk (by omega)
  have hlen : (filR l k).length = l.length := tabL_len _ _
  by_cases hkm : k < l.length
  · have hkz : (k : Int) < l.length := by omega
    have hset : (filR l k).set k (-1) = filR l (k + 1) := tabL_set _ _ _ _ _ (if_pos (by omega)) fun m hm hne => by
      by_cases hmk : m < k
      · rw [if_pos hmk, if_pos (by omega)]
      · rw [if_neg hmk, if_neg (by omega)]
    generalize filR l (k + 1) = T1 at *
    generalize filR l k = T0 at *
    repeat (first | ((first | (with_reducible first | refine zP fun K_ hK_ => ?_ | refine zQ fun K_ hK_ => ?_ | refine zT ?_ | refine zU ?_ | refine zV ?_ | refine zW ?_ | refine zX ?_ | refine zY ?_) | ((with_reducible first | refine zR ?_ ?_ fun K_ hK_ => ?_ | refine zS ?_ ?_ fun K_ hK_ => ?_); (focus kernel_rfl); (focus kernel_rfl))); first | (simp (maxSteps := 1000000) (disch := refine hold_ ?_; first | (simp [hkm, hkz, e0, hlen, hset, -List.getD_eq_getElem?_getD]; done) | omega) [hkm, hkz, e0, hlen, hset, -List.getD_eq_getElem?_getD]; try first | (with_reducible refine zZ ?_) | subst hK_) | subst hK_) | (with_reducible first | refine zA ?_ | refine zB ?_ | refine zC ?_ | refine zD ?_ | refine zE ?_ | refine zF ?_ | refine zG ?_ | refine zH ?_ | refine zI ?_ | refine zJ ?_ | refine zK ?_ | refine zL ?_ | refine zM ?_ | refine zN ?_ | refine zO ?_) | ((with_reducible refine yG ?_ ?_); (focus decide)) | ((with_reducible refine yA ?_); refine yB rfl ?_; (with_reducible first | refine yC ?_ | refine yD ?_)))
    refine ⟨hkm, ?_⟩
    simp (maxSteps := 1000000) (disch := refine hold_ ?_; first | (simp [-List.getD_eq_getElem?_getD]; done) | omega) [-List.getD_eq_getElem?_getD]
  have hkz : ¬ (k : Int) < l.length := by omega
  have hkl : k = l.length := by omega
  have hfil : filR l k = lasR l 1 := by
    subst hkl
    exact tabL_ext _ _ _ fun m hm => by rw [if_pos hm]; simp [lastC]
  rw [hfil]
  clear hfil hlen e0 hk
  repeat (first | ((first | (with_reducible first | refine zP fun K_ hK_ => ?_ | refine zQ fun K_ hK_ => ?_ | refine zT ?_ | refine zU ?_ | refine zV ?_ | refine zW ?_ | refine zX ?_ | refine zY ?_) | ((with_reducible first | refine zR ?_ ?_ fun K_ hK_ => ?_ | refine zS ?_ ?_ fun K_ hK_ => ?_); (focus kernel_rfl); (focus kernel_rfl))); first | (simp (maxSteps := 1000000) (disch := refine hold_ ?_; first | (simp [hkz, -List.getD_eq_getElem?_getD]; done) | omega) [hkz, -List.getD_eq_getElem?_getD]; try first | (with_reducible refine zZ ?_) | subst hK_) | subst hK_) | (with_reducible first | refine zA ?_ | refine zB ?_ | refine zC ?_ | refine zD ?_ | refine zE ?_ | refine zF ?_ | refine zG ?_ | refine zH ?_ | refine zI ?_ | refine zJ ?_ | refine zK ?_ | refine zL ?_ | refine zM ?_ | refine zN ?_ | refine zO ?_) | ((with_reducible refine yG ?_ ?_); (focus decide)) | ((with_reducible refine yA ?_); refine yB rfl ?_; (with_reducible first | refine yC ?_ | refine yD ?_)))
  have hN := upto_le (fun j => stepB l (j + 1)) (l.length - 1)
  have hall := upto_all (fun j => stepB l (j + 1)) (l.length - 1)
  have hno := upto_no (fun j => stepB l (j + 1)) (l.length - 1)
  have hAll : allS l = decide (upto (fun j => stepB l (j + 1)) (l.length - 1) = l.length - 1) := allB_upto _ _
  rw [hAll]
  generalize upto (fun j => stepB l (j + 1)) (l.length - 1) = N at *
  refine AW.iter (true :: false :: false :: false :: true :: false :: true :: true :: false :: false :: false :: false :: false :: false :: false :: false :: false :: false :: false :: false :: false :: false :: false :: false :: false :: false :: false :: false :: false :: false :: false :: false :: false :: false :: false :: false :: false :: false :: false :: false :: false :: false :: false :: false :: false :: false :: false :: false :: false :: false :: false :: false :: false :: false :: false :: false :: false :: false :: false :: false :: false :: false :: false :: false :: false :: false :: false :: false :: false :: false :: false :: false :: false :: false :: false :: false :: false :: false :: false :: false :: false :: false :: false :: false :: false :: false :: false :: false :: false :: false :: false :: false :: false :: false :: false :: false :: false :: false :: false :: false :: false :: false :: false :: false :: false :: false :: false :: false :: false :: false :: false :: false :: false :: false :: false :: false :: false :: false :: []) N (fun j => ⟨(.p (.sl (ndR l) nl) :: V.junk :: V.junk :: V.junk :: .own 48 0 0 l.length l.length :: V.junk :: .p (.int .i64 (topN l (j + 1))) :: .p (.int .i64 (j + 1 : Nat)) :: V.junk :: V.junk :: V.junk :: V.junk :: V.junk :: V.junk :: V.junk :: V.junk :: V.junk :: V.junk :: V.junk :: V.junk :: V.junk :: V.junk :: V.junk :: V.junk :: V.junk :: V.junk :: V.junk :: V.junk :: V.junk :: V.junk :: V.junk :: V.junk :: V.junk :: V.junk :: V.junk :: V.junk :: V.junk :: V.junk :: V.junk :: V.junk :: V.junk :: V.junk :: V.junk :: V.junk :: V.junk :: V.junk :: V.junk :: V.junk :: V.junk :: V.junk :: V.junk :: V.junk :: V.junk :: V.junk :: V.junk :: V.junk :: V.junk :: V.junk :: V.junk :: V.junk :: V.junk :: V.junk :: V.junk :: V.junk :: V.junk :: V.junk :: V.junk :: V.junk :: V.junk :: V.junk :: V.junk :: V.junk :: V.junk :: V.junk :: V.junk :: V.junk :: V.junk :: V.junk :: V.junk :: V.junk :: V.junk :: V.junk :: V.junk :: V.junk :: V.junk :: V.junk :: V.junk :: V.junk :: V.junk :: V.junk :: V.junk :: V.junk :: V.junk :: V.junk :: V.junk :: V.junk :: V.junk :: V.junk :: V.junk :: V.junk :: V.junk :: V.junk :: V.junk :: V.junk :: V.junk :: V.junk :: V.junk :: V.junk :: V.junk :: V.junk :: V.junk :: V.junk :: V.junk :: V.junk :: V.junk :: V.junk :: V.junk :: V.junk :: []), ⟨[(48, 0, .row (.ints .i64 (lasR l (j + 1))))], []⟩⟩) ?_ ?_
  · have : topN l 1 = 0 := rfl
    simp (maxSteps := 1000000) (disch := refine hold_ ?_; first | (simp [this, -List.getD_eq_getElem?_getD]; done) | omega) [this, -List.getD_eq_getElem?_getD]
  clear hkz hkm hkl k
  intro j hj
  have hp : pOk l (j + 1) := pOk_of ha0 j fun i hi => node_stand (step_node (hall i (by omega)))
  by_cases hjm : j + 1 < l.length
  case neg =>
    have hkz : ¬ ((j + 1 : Nat) : Int) < l.length := by omega
    have hjN : N = l.length - 1 := by omega
    have hjl : j + 1 = l.length := by omega
    rw [decide_eq_true hjN]
    rw [hjl] at hkz ⊢
    simp only [Bool.not_false, Bool.and_true, Bool.true_and, if_true]
    have ht : decide ((0 : Int) < (topN l l.length : Int)) = decide (0 < topN l l.length) := by
      by_cases h : 0 < topN l l.length
      · rw [decide_eq_true h, decide_eq_true (by omega)]
      · rw [decide_eq_false h, decide_eq_false (by omega)]
    generalize topN l l.length = TN at *
    repeat (first | ((first | (with_reducible first | refine zP fun K_ hK_ => ?_ | refine zQ fun K_ hK_ => ?_ | refine zT ?_ | refine zU ?_ | refine zV ?_ | refine zW ?_ | refine zX ?_ | refine zY ?_) | ((with_reducible first | refine zR ?_ ?_ fun K_ hK_ => ?_ | refine zS ?_ ?_ fun K_ hK_ => ?_); (focus kernel_rfl); (focus kernel_rfl))); first | (simp (maxSteps := 1000000) (disch := refine hold_ ?_; first | (simp [hkz, ht, -List.getD_eq_getElem?_getD]; done) | omega) [hkz, ht, -List.getD_eq_getElem?_getD]; try first | (with_reducible refine zZ ?_) | subst hK_) | subst hK_) | (with_reducible first | refine zA ?_ | refine zB ?_ | refine zC ?_ | refine zD ?_ | refine zE ?_ | refine zF ?_ | refine zG ?_ | refine zH ?_ | refine zI ?_ | refine zJ ?_ | refine zK ?_ | refine zL ?_ | refine zM ?_ | refine zN ?_ | refine zO ?_) | ((with_reducible refine yG ?_ ?_); (focus decide)) | ((with_reducible refine yA ?_); refine yB rfl ?_; (with_reducible first | refine yC ?_ | refine yD ?_)))
    all_goals (try simp (maxSteps := 1000000) (disch := refine hold_ ?_; first | (simp [-List.getD_eq_getElem?_getD]; done) | omega) [-List.getD_eq_getElem?_getD])
  have hg : j < N → stepB l (j + 1) = true := hall j
  have hb : N = j → stepB l (j + 1) = false := fun e => by subst e; exact hno (by omega)
  have e0 := wrap_succ (j + 1) l.length (by omega) (by omega)
  have hnx : topN l (j + 1 + 1) = if isTop l (j + 1) = true then j + 1 else topN l (j + 1) := by
    rw [topN]; simp
  have hlas := fun q => lasR_set l (j + 1) q (by omega)
  have hlget : ∀ q, q < l.length → (lasR l (j + 1)).getD q 0 = lastC l q (j + 1) := fun q hq => by rw [lasR, tabL_get _ _ _ hq]
  have hllen : (lasR l (j + 1)).length = l.length := tabL_len _ _
  have hlb := fun p => lastC_le l p (j + 1)
  have htl := topN_le l (j + 1)
  have hjne : N ≠ l.length - 1 → (j : Nat) = j := fun _ => rfl
  clear hall hno hAll hjne
  generalize hn : j + 1 = n at *
  have hn0 : 0 < n := by omega
  have hnz : (n : Int) < l.length := by omega
  have he := nd_elem l n hjm
  have k38 := stand_ct l nl n hp hjm hn0 hl
  have hpar := fun h => stand_par hp hn0 h
  have hp2 := fun h => hp.succ hn0 h
  unfold stepB nodeB isTop at hg hb
  unfold isTop at hnx
  cases hS : standB l n with
  | false =>
    rw [hS] at k38
    have hjN : j = N := by
      rcases Nat.lt_or_ge j N with h1 | h1
      · have := hg h1; rw [hS] at this; simp at this
      · omega
    have hne : N ≠ l.length - 1 := by omega
    rw [decide_eq_false hne]
    clear hg hb
    repeat (first | ((with_reducible first | refine callK_at 38 ?_); refine callK_p ?_; simp (maxSteps := 1000000) (disch := refine hold_ ?_; first | (simp [hnz, hjm, -List.getD_eq_getElem?_getD]; done) | omega) [hnz, hjm, -List.getD_eq_getElem?_getD]; (first | refine callK1_of (Fn.ct k38 Tryd.call38) ?_); (try simp (maxSteps := 1000000) (disch := refine hold_ ?_; first | (simp [hnz, hjm, -List.getD_eq_getElem?_getD]; done) | omega) [hnz, hjm, -List.getD_eq_getElem?_getD]); try first | (with_reducible refine zZ ?_) | subst hK_) | ((first | (with_reducible first | refine zP fun K_ hK_ => ?_ | refine zQ fun K_ hK_ => ?_ | refine zT ?_ | refine zU ?_ | refine zV ?_ | refine zW ?_ | refine zX ?_ | refine zY ?_) | ((with_reducible first | refine zR ?_ ?_ fun K_ hK_ => ?_ | refine zS ?_ ?_ fun K_ hK_ => ?_); (focus kernel_rfl); (focus kernel_rfl))); first | (simp (maxSteps := 1000000) (disch := refine hold_ ?_; first | (simp [hnz, hjm, -List.getD_eq_getElem?_getD]; done) | omega) [hnz, hjm, -List.getD_eq_getElem?_getD]; try first | (with_reducible refine zZ ?_) | subst hK_) | subst hK_) | (with_reducible first | refine zA ?_ | refine zB ?_ | refine zC ?_ | refine zD ?_ | refine zE ?_ | refine zF ?_ | refine zG ?_ | refine zH ?_ | refine zI ?_ | refine zJ ?_ | refine zK ?_ | refine zL ?_ | refine zM ?_ | refine zN ?_ | refine zO ?_) | ((with_reducible refine yG ?_ ?_); (focus decide)) | ((with_reducible refine yA ?_); refine yB rfl ?_; (with_reducible first | refine yC ?_ | refine yD ?_)))
    all_goals (try simp (maxSteps := 1000000) (disch := refine hold_ ?_; first | (simp [-List.getD_eq_getElem?_getD]; done) | omega) [-List.getD_eq_getElem?_getD])
  | true =>
    rw [hS] at k38 hg hb
    obtain ⟨p0, p1⟩ := hpar hS
    have hpp := hp2 hS
    obtain ⟨q, hq⟩ : ∃ q : Nat, (nd l n).a = q := ⟨(nd l n).a.toNat, by omega⟩
    have hql : q < l.length := by omega
    have hlas' := hlas q hq hql
    have hget := hlget q hql
    obtain ⟨b1, b2⟩ := hlb q
    have k39 := formed_ct l nl n (lastC l q n) hpp hjm hok ⟨b1, by omega⟩
    have k40 := under_ct (nd l n)
    have hNd : ndP (nd l n) = .agg (.vals 1 [.int .i64 (nd l n).k, .int .i64 q, .str (txt (nd l n).p), .str (txt (nd l n).l), .str (txt (nd l n).u), .str (txt (nd l n).t), .sl (dcR (nd l n).ds) (nd l n).dn, .sl (atR (nd l n).ms) (nd l n).mn]) := by rw [← hq]; rfl
    rw [hNd] at he k40
    rw [hq] at hg hb hnx k40
    clear hlas hlget hlb hpar hp2 hNd hpp hq
    generalize lasR l (n + 1) = R1 at *
    generalize lasR l n = R0 at *
    generalize lastC l q n = LC at *
    generalize formB l n LC = F at *
    generalize nd l n = x at *
    generalize topN l (n + 1) = TN1 at *
    have hT0 : decide ((0 : Int) < (topN l n : Int)) = decide (0 < topN l n) := by
      by_cases h : 0 < topN l n
      · rw [decide_eq_true h, decide_eq_true (by omega)]
      · rw [decide_eq_false h, decide_eq_false (by omega)]
    generalize topN l n = TN at *
    generalize hU : decide (0 < TN) = TB at *
    generalize hX : ((q : Int) == 0) = X at *
    generalize hY : (x.k == 2) = Y at *
    generalize hW : (x.k == 1) = W at *
    clear hS
    rcases anc F (spl X (spl Y (spl W (spl TB (trivial))))) with rfl | ⟨rfl, ⟨rfl | rfl, ⟨rfl | rfl, ⟨rfl | rfl, ⟨rfl | rfl, _⟩⟩⟩⟩⟩
    all_goals
      first
        | (have hjN : j = N := by
             rcases Nat.lt_or_ge j N with h1 | h1
             · have := hg h1; simp at this
             · omega
           have hne : N ≠ l.length - 1 := by omega
           rw [decide_eq_false hne]
           repeat (first | ((with_reducible first | refine callK_at 38 ?_ | refine callK_at 39 ?_ | refine callK_at 40 ?_); refine callK_p ?_; simp (maxSteps := 1000000) (disch := refine hold_ ?_; first | (simp [hnz, hjm, he, hql, hget, hllen, hX, hW, hT0, hU, -List.getD_eq_getElem?_getD]; done) | omega) [hnz, hjm, he, hql, hget, hllen, hX, hW, hT0, hU, -List.getD_eq_getElem?_getD]; (first | ((with_reducible refine k1_at 38 ?_); refine callK1_of (Fn.ct k38 Tryd.call38) ?_) | ((with_reducible refine k1_at 39 ?_); refine callK1_of (Fn.ct k39 Tryd.call39) ?_) | ((with_reducible refine k1_at 40 ?_); refine callK1_of (Fn.ct k40 Tryd.call40) ?_)); (try simp (maxSteps := 1000000) (disch := refine hold_ ?_; first | (simp [hnz, hjm, he, hql, hget, hllen, hX, hW, hT0, hU, -List.getD_eq_getElem?_getD]; done) | omega) [hnz, hjm, he, hql, hget, hllen, hX, hW, hT0, hU, -List.getD_eq_getElem?_getD]); try first | (with_reducible refine zZ ?_) | subst hK_) | ((first | (with_reducible first | refine zP fun K_ hK_ => ?_ | refine zQ fun K_ hK_ => ?_ | refine zT ?_ | refine zU ?_ | refine zV ?_ | refine zW ?_ | refine zX ?_ | refine zY ?_) | ((with_reducible first | refine zR ?_ ?_ fun K_ hK_ => ?_ | refine zS ?_ ?_ fun K_ hK_ => ?_); (focus kernel_rfl); (focus kernel_rfl))); first | (simp (maxSteps := 1000000) (disch := refine hold_ ?_; first | (simp [hnz, hjm, he, hql, hget, hllen, hX, hW, hT0, hU, -List.getD_eq_getElem?_getD]; done) | omega) [hnz, hjm, he, hql, hget, hllen, hX, hW, hT0, hU, -List.getD_eq_getElem?_getD]; try first | (with_reducible refine zZ ?_) | subst hK_) | subst hK_) | (with_reducible first | refine zA ?_ | refine zB ?_ | refine zC ?_ | refine zD ?_ | refine zE ?_ | refine zF ?_ | refine zG ?_ | refine zH ?_ | refine zI ?_ | refine zJ ?_ | refine zK ?_ | refine zL ?_ | refine zM ?_ | refine zN ?_ | refine zO ?_) | ((with_reducible refine yG ?_ ?_); (focus decide)) | ((with_reducible refine yA ?_); refine yB rfl ?_; (with_reducible first | refine yC ?_ | refine yD ?_)))
           try simp (maxSteps := 1000000) (disch := refine hold_ ?_; first | (simp [-List.getD_eq_getElem?_getD]; done) | omega) [-List.getD_eq_getElem?_getD])
        | (have hjN : j < N := Nat.lt_of_le_of_ne hj fun e => by simpa using hb e.symm
           simp at hnx
           subst hnx
           repeat (first | ((with_reducible first | refine callK_at 38 ?_ | refine callK_at 39 ?_ | refine callK_at 40 ?_); refine callK_p ?_; simp (maxSteps := 1000000) (disch := refine hold_ ?_; first | (simp [hnz, hjm, he, hql, hget, hllen, hX, hW, hT0, hU, hlas', e0, -List.getD_eq_getElem?_getD]; done) | omega) [hnz, hjm, he, hql, hget, hllen, hX, hW, hT0, hU, hlas', e0, -List.getD_eq_getElem?_getD]; (first | ((with_reducible refine k1_at 38 ?_); refine callK1_of (Fn.ct k38 Tryd.call38) ?_) | ((with_reducible refine k1_at 39 ?_); refine callK1_of (Fn.ct k39 Tryd.call39) ?_) | ((with_reducible refine k1_at 40 ?_); refine callK1_of (Fn.ct k40 Tryd.call40) ?_)); (try simp (maxSteps := 1000000) (disch := refine hold_ ?_; first | (simp [hnz, hjm, he, hql, hget, hllen, hX, hW, hT0, hU, hlas', e0, -List.getD_eq_getElem?_getD]; done) | omega) [hnz, hjm, he, hql, hget, hllen, hX, hW, hT0, hU, hlas', e0, -List.getD_eq_getElem?_getD]); try first | (with_reducible refine zZ ?_) | subst hK_) | ((first | (with_reducible first | refine zP fun K_ hK_ => ?_ | refine zQ fun K_ hK_ => ?_ | refine zT ?_ | refine zU ?_ | refine zV ?_ | refine zW ?_ | refine zX ?_ | refine zY ?_) | ((with_reducible first | refine zR ?_ ?_ fun K_ hK_ => ?_ | refine zS ?_ ?_ fun K_ hK_ => ?_); (focus kernel_rfl); (focus kernel_rfl))); first | (simp (maxSteps := 1000000) (disch := refine hold_ ?_; first | (simp [hnz, hjm, he, hql, hget, hllen, hX, hW, hT0, hU, hlas', e0, -List.getD_eq_getElem?_getD]; done) | omega) [hnz, hjm, he, hql, hget, hllen, hX, hW, hT0, hU, hlas', e0, -List.getD_eq_getElem?_getD]; try first | (with_reducible refine zZ ?_) | subst hK_) | subst hK_) | (with_reducible first | refine zA ?_ | refine zB ?_ | refine zC ?_ | refine zD ?_ | refine zE ?_ | refine zF ?_ | refine zG ?_ | refine zH ?_ | refine zI ?_ | refine zJ ?_ | refine zK ?_ | refine zL ?_ | refine zM ?_ | refine zN ?_ | refine zO ?_) | ((with_reducible refine yG ?_ ?_); (focus decide)) | ((with_reducible refine yA ?_); refine yB rfl ?_; (with_reducible first | refine yC ?_ | refine yD ?_)))
           refine ⟨hjN, ?_⟩
           simp (maxSteps := 1000000) (disch := refine hold_ ?_; first | (simp [-List.getD_eq_getElem?_getD]; done) | omega) [-List.getD_eq_getElem?_getD])
end Go.Av.Doc
end
section
set_option linter.unusedSimpArgs false
set_option linter.unusedVariables false
set_option linter.unusedSectionVars false
open Go Go.Av Go.Proofs
namespace Go.Av.Doc
variable [ML]
def mx (a b : Int) : Int := if a < b then b else a
def updE (l : List Nd) (j : Nat) (e : List Int) : List Int :=
  if 0 ≤ (nd l j).a then (e.set j (mx (e.getD j 0) (j + 1))).set (nd l j).a.toNat (mx ((e.set j (mx (e.getD j 0) (j + 1))).getD (nd l j).a.toNat 0) (mx (e.getD j 0) (j + 1)))
  else e.set j (mx (e.getD j 0) (j + 1))
def endR (l : List Nd) : Nat → List Int
  | 0 => List.replicate l.length 0
  | i + 1 => updE l (l.length - 1 - i) (endR l i)
theorem updE_len (l : List Nd) (j : Nat) (e : List Int) : (updE l j e).length = e.length := by unfold updE; split <;> simp
theorem endR_len (l : List Nd) : ∀ i, (endR l i).length = l.length
  | 0 => by simp [endR]
  | i + 1 => by rw [endR, updE_len, endR_len l i]
theorem app_nd (l : List Nd) (x : Nd) : appRow (ndR l) (.vals 8 [ndP x]) = some (ndR (l ++ [x])) := by
  unfold ndR; rw [app_vals]; simp
def ofSt (l : List Nd) (nl : Bool) (k : Nat) (top : Int) : St := ⟨(.p (.sl (ndR l) nl) :: V.junk :: V.junk :: V.junk :: V.junk :: V.junk :: .ptr 28 0 0 :: V.junk :: V.junk :: V.junk :: V.junk :: V.junk :: V.junk :: V.junk :: V.junk :: V.junk :: V.junk :: V.junk :: V.junk :: V.junk :: V.junk :: V.junk :: V.junk :: V.junk :: V.junk :: V.junk :: V.junk :: V.junk :: V.junk :: .p (.sl (ndR l) nl) :: .p (.int .i64 l.length) :: .p (.int .i64 k) :: V.junk :: V.junk :: V.junk :: V.junk :: V.junk :: V.junk :: V.junk :: V.junk :: V.junk :: V.junk :: V.junk :: V.junk :: V.junk :: V.junk :: V.junk :: V.junk :: V.junk :: V.junk :: V.junk :: V.junk :: V.junk :: V.junk :: V.junk :: V.junk :: V.junk :: V.junk :: V.junk :: V.junk :: V.junk :: V.junk :: V.junk :: V.junk :: V.junk :: V.junk :: V.junk :: V.junk :: V.junk :: V.junk :: V.junk :: V.junk :: V.junk :: V.junk :: V.junk :: V.junk :: V.junk :: V.junk :: V.junk :: V.junk :: V.junk :: V.junk :: V.junk :: V.junk :: V.junk :: V.junk :: V.junk :: V.junk :: V.junk :: V.junk :: V.junk :: V.junk :: V.junk :: V.junk :: V.junk :: V.junk :: V.junk :: V.junk :: V.junk :: []),
  ⟨[(28, 0, .cells [.row (ndR (l.take k)) 0 0 (k == 0), .own 25 0 0 l.length l.length, .p (.int .i64 top)]), (25, 0, .row (.ints .i64 (List.replicate l.length 0)))], [(0, 0)]⟩⟩
def ofSt2 (l : List Nd) (nl : Bool) (i : Nat) (top : Int) : St := ⟨(.p (.sl (ndR l) nl) :: V.junk :: V.junk :: V.junk :: V.junk :: V.junk :: .ptr 28 0 0 :: V.junk :: V.junk :: .p (.int .i64 ((l.length : Int) - 1 - i)) :: V.junk :: V.junk :: V.junk :: V.junk :: V.junk :: V.junk :: V.junk :: V.junk :: V.junk :: V.junk :: V.junk :: V.junk :: V.junk :: V.junk :: V.junk :: V.junk :: V.junk :: V.junk :: V.junk :: V.junk :: V.junk :: V.junk :: V.junk :: V.junk :: V.junk :: V.junk :: V.junk :: V.junk :: V.junk :: V.junk :: V.junk :: V.junk :: V.junk :: V.junk :: V.junk :: V.junk :: V.junk :: V.junk :: V.junk :: V.junk :: V.junk :: V.junk :: V.junk :: V.junk :: V.junk :: V.junk :: V.junk :: V.junk :: V.junk :: V.junk :: V.junk :: V.junk :: V.junk :: V.junk :: V.junk :: V.junk :: V.junk :: V.junk :: V.junk :: V.junk :: V.junk :: V.junk :: V.junk :: V.junk :: V.junk :: V.junk :: V.junk :: V.junk :: V.junk :: V.junk :: V.junk :: V.junk :: V.junk :: V.junk :: V.junk :: V.junk :: V.junk :: V.junk :: V.junk :: V.junk :: V.junk :: V.junk :: V.junk :: V.junk :: V.junk :: V.junk :: V.junk :: V.junk :: V.junk :: []),
  ⟨[(28, 0, .cells [.row (ndR l) 0 0 false, .own 25 0 0 l.length l.length, .p (.int .i64 top)]), (25, 0, .row (.ints .i64 (endR l i)))], [(0, 0)]⟩⟩
set_option maxRecDepth 16000 in
set_option maxHeartbeats 16000000 in
theorem of_ct (l : List Nd) (nl : Bool) (hl : l.length ≤ 4000000) (hok : ∀ x ∈ l, okN x) (top : Nat) (h0 : 0 < l.length) (hc : chkV l = (top, true)) (hp : pOk l l.length) (hw : withB l = true) :
    Fn Tryd.prog 11 [.sl (ndR l) nl] [.p (docP l (endR l l.length) top), .p (.int .i64 0)] := by
  have k29 := check_ct l nl hl hok
  have k30 := within_ct l nl hp hl hok
  rw [hc] at k29
  rw [hw] at k30
  refine Fn.of_body Tryd.func11 rfl ?_
  repeat (first | ((with_reducible first | refine callK_at 29 ?_ | refine callK_at 30 ?_); refine callK_p ?_; simp (maxSteps := 1000000) (disch := refine hold_ ?_; first | (simp [mk48, hl, -List.getD_eq_getElem?_getD]; done) | omega) [mk48, hl, -List.getD_eq_getElem?_getD]; (first | ((with_reducible refine k1_at 29 ?_); refine callK1_of (Fn.ct k29 Tryd.call29) ?_) | ((with_reducible refine k1_at 30 ?_); refine callK1_of (Fn.ct k30 Tryd.call30) ?_)); (try simp (maxSteps := 1000000) (disch := refine hold_ ?_; first | (simp [mk48, hl, -List.getD_eq_getElem?_getD]; done) | omega) [mk48, hl, -List.getD_eq_getElem?_getD]); try first | (with_reducible refine zZ ?_) | subst hK_) | ((first | (with_reducible first | refine zP fun K_ hK_ => ?_ | refine zQ fun K_ hK_ => ?_ | refine zT ?_ | refine zU ?_ | refine zV ?_ | refine zW ?_ | refine zX ?_ | refine zY ?_) | ((with_reducible first | refine zR ?_ ?_ fun K_ hK_ => ?_ | refine zS ?_ ?_ fun K_ hK_ => ?_); (focus kernel_rfl); (focus kernel_rfl))); first | (simp (maxSteps := 1000000) (disch := refine hold_ ?_; first | (simp [mk48, hl, -List.getD_eq_getElem?_getD]; done) | omega) [mk48, hl, -List.getD_eq_getElem?_getD]; try first | (with_reducible refine zZ ?_) | subst hK_) | subst hK_) | (with_reducible first | refine zA ?_ | refine zB ?_ | refine zC ?_ | refine zD ?_ | refine zE ?_ | refine zF ?_ | refine zG ?_ | refine zH ?_ | refine zI ?_ | refine zJ ?_ | refine zK ?_ | refine zL ?_ | refine zM ?_ | refine zN ?_ | refine zO ?_) | ((with_reducible refine yG ?_ ?_); (focus decide)) | ((with_reducible refine yA ?_); refine yB rfl ?_; (with_reducible first | refine yC ?_ | refine yD ?_)))
  refine AW.nilCell 28 0 (ndR []) 28 0 _ _ rfl rfl rfl ?_
  refine AW.iter (true :: false :: false :: false :: false :: false :: true :: false :: false :: false :: false :: false :: false :: false :: false :: false :: false :: false :: false :: false :: false :: false :: false :: false :: false :: false :: false :: false :: false :: true :: true :: true :: false :: false :: false :: false :: false :: false :: false :: false :: false :: false :: false :: false :: false :: false :: false :: false :: false :: false :: false :: false :: false :: false :: false :: false :: false :: false :: false :: false :: false :: false :: false :: false :: false :: false :: false :: false :: false :: false :: false :: false :: false :: false :: false :: false :: false :: false :: false :: false :: false :: false :: false :: false :: false :: false :: false :: false :: false :: false :: false :: false :: false :: false :: false :: false :: false :: false :: false :: []) l.length (fun k => ofSt l nl k top) ?_ ?_
  · (unfold ofSt; simp (maxSteps := 1000000) (disch := refine hold_ ?_; first | (simp [-List.getD_eq_getElem?_getD]; done) | omega) [-List.getD_eq_getElem?_getD])
  clear k29 k30
  intro k hk
  have e0 := wrap_succ k l.length hk (by omega)
  unfold ofSt
  by_cases hkm : k < l.length
  · have hkz : (k : Int) < l.length := by omega
    have he := nd_elem l k hkm
    have k31 := clone_ct (nd l k) (hok _ (mem_getD l k default hkm))
    have ha : appRow (ndR (l.take k)) (.vals 8 [ndP (nd l k)]) = some (ndR (l.take (k + 1))) := by
      rw [app_nd]
      have : l.take k ++ [nd l k] = l.take (k + 1) := by
        rw [List.take_add_one]
        simp [nd, List.getD_eq_getElem?_getD, List.getElem?_eq_getElem hkm]
      rw [this]
    have hlt : (l.take k).length ≤ 4000000 := by rw [List.length_take]; omega
    have hk1 : (k + 1 == 0) = false := rfl
    have hlt1 : (l.take (k + 1)).length * 128 ≤ 140737488355328 := by rw [List.length_take]; omega
    generalize hkb : (k == 0) = kb at *
    generalize l.take (k + 1) = L1 at *
    generalize l.take k = L0 at *
    unfold ndP at he k31 ha
    generalize nd l k = x at *
    repeat (first | ((with_reducible first | refine callK_at 31 ?_); refine callK_p ?_; simp (maxSteps := 1000000) (disch := refine hold_ ?_; first | (simp [hkm, hkz, he, ha, e0, hlt, hlt1, -List.getD_eq_getElem?_getD]; done) | omega) [hkm, hkz, he, ha, e0, hlt, hlt1, -List.getD_eq_getElem?_getD]; (first | refine callK1_of (Fn.ct k31 Tryd.call31) ?_); (try simp (maxSteps := 1000000) (disch := refine hold_ ?_; first | (simp [hkm, hkz, he, ha, e0, hlt, hlt1, -List.getD_eq_getElem?_getD]; done) | omega) [hkm, hkz, he, ha, e0, hlt, hlt1, -List.getD_eq_getElem?_getD]); try first | (with_reducible refine zZ ?_) | subst hK_) | ((first | (with_reducible first | refine zP fun K_ hK_ => ?_ | refine zQ fun K_ hK_ => ?_ | refine zT ?_ | refine zU ?_ | refine zV ?_ | refine zW ?_ | refine zX ?_ | refine zY ?_) | ((with_reducible first | refine zR ?_ ?_ fun K_ hK_ => ?_ | refine zS ?_ ?_ fun K_ hK_ => ?_); (focus kernel_rfl); (focus kernel_rfl))); first | (simp (maxSteps := 1000000) (disch := refine hold_ ?_; first | (simp [hkm, hkz, he, ha, e0, hlt, hlt1, -List.getD_eq_getElem?_getD]; done) | omega) [hkm, hkz, he, ha, e0, hlt, hlt1, -List.getD_eq_getElem?_getD]; try first | (with_reducible refine zZ ?_) | subst hK_) | subst hK_) | (with_reducible first | refine zA ?_ | refine zB ?_ | refine zC ?_ | refine zD ?_ | refine zE ?_ | refine zF ?_ | refine zG ?_ | refine zH ?_ | refine zI ?_ | refine zJ ?_ | refine zK ?_ | refine zL ?_ | refine zM ?_ | refine zN ?_ | refine zO ?_) | ((with_reducible refine yG ?_ ?_); (focus decide)) | ((with_reducible refine yA ?_); refine yB rfl ?_; (with_reducible first | refine yC ?_ | refine yD ?_)))
    refine ⟨hkm, ?_⟩
    simp (maxSteps := 1000000) (disch := refine hold_ ?_; first | (simp [-List.getD_eq_getElem?_getD]; done) | omega) [-List.getD_eq_getElem?_getD]
  have hkz : ¬ (k : Int) < l.length := by omega
  have hkl : k = l.length := by omega
  subst hkl
  rw [List.take_length]
  have hkb : (l.length == 0) = false := beq_eq_false_iff_ne.2 (by omega)
  rw [hkb]
  have w1 : IntKind.i64.wrap ((l.length : Int) - 1) = (l.length : Int) - 1 := wrap_i64 _ (by omega) (by omega)
  have hE0 : List.replicate l.length (0 : Int) = endR l 0 := rfl
  rw [hE0]
  clear hE0 e0 hkm hk
  repeat (first | ((first | (with_reducible first | refine zP fun K_ hK_ => ?_ | refine zQ fun K_ hK_ => ?_ | refine zT ?_ | refine zU ?_ | refine zV ?_ | refine zW ?_ | refine zX ?_ | refine zY ?_) | ((with_reducible first | refine zR ?_ ?_ fun K_ hK_ => ?_ | refine zS ?_ ?_ fun K_ hK_ => ?_); (focus kernel_rfl); (focus kernel_rfl))); first | (simp (maxSteps := 1000000) (disch := refine hold_ ?_; first | (simp [hkz, w1, -List.getD_eq_getElem?_getD]; done) | omega) [hkz, w1, -List.getD_eq_getElem?_getD]; try first | (with_reducible refine zZ ?_) | subst hK_) | subst hK_) | (with_reducible first | refine zA ?_ | refine zB ?_ | refine zC ?_ | refine zD ?_ | refine zE ?_ | refine zF ?_ | refine zG ?_ | refine zH ?_ | refine zI ?_ | refine zJ ?_ | refine zK ?_ | refine zL ?_ | refine zM ?_ | refine zN ?_ | refine zO ?_) | ((with_reducible refine yG ?_ ?_); (focus decide)) | ((with_reducible refine yA ?_); refine yB rfl ?_; (with_reducible first | refine yC ?_ | refine yD ?_)))
  refine AW.iter (true :: false :: false :: false :: false :: false :: true :: false :: false :: true :: false :: false :: false :: false :: false :: false :: false :: false :: false :: false :: false :: false :: false :: false :: false :: false :: false :: false :: false :: false :: false :: false :: false :: false :: false :: false :: false :: false :: false :: false :: false :: false :: false :: false :: false :: false :: false :: false :: false :: false :: false :: false :: false :: false :: false :: false :: false :: false :: false :: false :: false :: false :: false :: false :: false :: false :: false :: false :: false :: false :: false :: false :: false :: false :: false :: false :: false :: false :: false :: false :: false :: false :: false :: false :: false :: false :: false :: false :: false :: false :: false :: false :: false :: false :: false :: false :: false :: false :: false :: []) l.length (fun i => ofSt2 l nl i top) ?_ ?_
  · (unfold ofSt2; simp (maxSteps := 1000000) (disch := refine hold_ ?_; first | (simp [-List.getD_eq_getElem?_getD]; done) | omega) [-List.getD_eq_getElem?_getD])
  clear hkz w1 hkb
  intro i hi
  unfold ofSt2
  have hlE := endR_len l i
  by_cases him : i < l.length
  · have hr : endR l (i + 1) = updE l (l.length - 1 - i) (endR l i) := rfl
    obtain ⟨j, hj⟩ : ∃ j : Nat, l.length - 1 - i = j := ⟨_, rfl⟩
    have hjz : (l.length : Int) - 1 - i = j := by omega
    have hjz' : (l.length : Int) - 1 - (i + 1 : Nat) = (j : Int) - 1 := by omega
    rw [hj] at hr
    rw [hjz, hjz']
    have hjl : j < l.length := by omega
    have hjl2 : (j : Int) < l.length := by omega
    have he := nd_elem l j hjl
    have w2 : IntKind.i64.wrap ((j : Int) - 1) = (j : Int) - 1 := wrap_i64 _ (by omega) (by omega)
    have w3 := wrap_succ j l.length (by omega) (by omega)
    have hpar := hp.lt hjl
    have hj0 : (0 : Int) ≤ j := by omega
    clear hj hjz hjz'
    unfold updE mx at hr
    generalize endR l (i + 1) = E1 at *
    generalize endR l i = E at *
    have w3' : ((j + 1 : Nat) : Int) = (j : Int) + 1 := by omega
    rw [w3'] at w3
    by_cases hq0 : 0 ≤ (nd l j).a
    · rw [if_pos hq0] at hr
      obtain ⟨q, hq⟩ : ∃ q : Nat, (nd l j).a = q := ⟨(nd l j).a.toNat, by omega⟩
      have hNd : ndP (nd l j) = .agg (.vals 1 [.int .i64 (nd l j).k, .int .i64 q, .str (txt (nd l j).p), .str (txt (nd l j).l), .str (txt (nd l j).u), .str (txt (nd l j).t), .sl (dcR (nd l j).ds) (nd l j).dn, .sl (atR (nd l j).ms) (nd l j).mn]) := by rw [← hq]; rfl
      rw [hNd] at he
      rw [hq] at hr hpar
      clear hNd hq0 hq
      have hql : q < l.length := by omega
      rw [Int.toNat_natCast] at hr
      generalize nd l j = x at *
      have hg2 : ∀ v, (E.set j v).getD j 0 = v := fun v => by simp [List.getD_eq_getElem?_getD, hlE, hjl]
      generalize hv : (if E.getD j 0 < (j : Int) + 1 then (j : Int) + 1 else E.getD j 0) = v at *
      have hl2 : (E.set j v).length = l.length := by simp [hlE]
      have hg3 := hg2 v
      clear hg2
      generalize hE2 : E.set j v = E2 at *
      generalize hv2 : (if E2.getD q 0 < v then v else E2.getD q 0) = v2 at *
      have hr' := hr.symm
      clear hr
      repeat (first | ((first | (with_reducible first | refine zP fun K_ hK_ => ?_ | refine zQ fun K_ hK_ => ?_ | refine zT ?_ | refine zU ?_ | refine zV ?_ | refine zW ?_ | refine zX ?_ | refine zY ?_) | ((with_reducible first | refine zR ?_ ?_ fun K_ hK_ => ?_ | refine zS ?_ ?_ fun K_ hK_ => ?_); (focus kernel_rfl); (focus kernel_rfl))); first | (simp (maxSteps := 1000000) (disch := refine hold_ ?_; first | (simp [hjl, hjl2, he, w2, w3, hj0, hlE, hv, hv2, hl2, hg3, hql, hE2, hr', -List.getD_eq_getElem?_getD]; done) | omega) [hjl, hjl2, he, w2, w3, hj0, hlE, hv, hv2, hl2, hg3, hql, hE2, hr', -List.getD_eq_getElem?_getD]; try first | (with_reducible refine zZ ?_) | subst hK_) | subst hK_) | (with_reducible first | refine zA ?_ | refine zB ?_ | refine zC ?_ | refine zD ?_ | refine zE ?_ | refine zF ?_ | refine zG ?_ | refine zH ?_ | refine zI ?_ | refine zJ ?_ | refine zK ?_ | refine zL ?_ | refine zM ?_ | refine zN ?_ | refine zO ?_) | ((with_reducible refine yG ?_ ?_); (focus decide)) | ((with_reducible refine yA ?_); refine yB rfl ?_; (with_reducible first | refine yC ?_ | refine yD ?_)))
      refine ⟨him, ?_⟩
      simp (maxSteps := 1000000) (disch := refine hold_ ?_; first | (simp [-List.getD_eq_getElem?_getD]; done) | omega) [-List.getD_eq_getElem?_getD]
    · rw [if_neg hq0] at hr
      unfold ndP at he
      generalize nd l j = x at *
      generalize hv : (if E.getD j 0 < (j : Int) + 1 then (j : Int) + 1 else E.getD j 0) = v at *
      have hr' := hr.symm
      clear hr
      repeat (first | ((first | (with_reducible first | refine zP fun K_ hK_ => ?_ | refine zQ fun K_ hK_ => ?_ | refine zT ?_ | refine zU ?_ | refine zV ?_ | refine zW ?_ | refine zX ?_ | refine zY ?_) | ((with_reducible first | refine zR ?_ ?_ fun K_ hK_ => ?_ | refine zS ?_ ?_ fun K_ hK_ => ?_); (focus kernel_rfl); (focus kernel_rfl))); first | (simp (maxSteps := 1000000) (disch := refine hold_ ?_; first | (simp [hjl, hjl2, he, w2, w3, hj0, hlE, hv, hq0, hr', -List.getD_eq_getElem?_getD]; done) | omega) [hjl, hjl2, he, w2, w3, hj0, hlE, hv, hq0, hr', -List.getD_eq_getElem?_getD]; try first | (with_reducible refine zZ ?_) | subst hK_) | subst hK_) | (with_reducible first | refine zA ?_ | refine zB ?_ | refine zC ?_ | refine zD ?_ | refine zE ?_ | refine zF ?_ | refine zG ?_ | refine zH ?_ | refine zI ?_ | refine zJ ?_ | refine zK ?_ | refine zL ?_ | refine zM ?_ | refine zN ?_ | refine zO ?_) | ((with_reducible refine yG ?_ ?_); (focus decide)) | ((with_reducible refine yA ?_); refine yB rfl ?_; (with_reducible first | refine yC ?_ | refine yD ?_)))
      refine ⟨him, ?_⟩
      simp (maxSteps := 1000000) (disch := refine hold_ ?_; first | (simp [-List.getD_eq_getElem?_getD]; done) | omega) [-List.getD_eq_getElem?_getD]
  have hil : i = l.length := by omega
  subst hil
  have hz : (l.length : Int) - 1 - l.length = -1 := by omega
  rw [hz]
  clear hz
  unfold docP
  generalize endR l l.length = E at *
  repeat (first | ((with_reducible refine Go.Av.AW.freezeAt 19 25 ?_ ?_ fun K_ hK_ => ?_); (focus decide); (focus (simp; done)); simp (maxSteps := 1000000) (disch := refine hold_ ?_; first | (simp [-ownSl, Go.Av.ownSl_bl, hlE, -List.getD_eq_getElem?_getD]; done) | omega) [-ownSl, Go.Av.ownSl_bl, hlE, -List.getD_eq_getElem?_getD]; subst hK_) | ((with_reducible refine Go.Av.AW.freezeAt 19 28 ?_ ?_ fun K_ hK_ => ?_); (focus decide); (focus (simp; done)); simp (maxSteps := 1000000) (disch := refine hold_ ?_; first | (simp [-ownSl, Go.Av.ownSl_bl, hlE, -List.getD_eq_getElem?_getD]; done) | omega) [-ownSl, Go.Av.ownSl_bl, hlE, -List.getD_eq_getElem?_getD]; subst hK_) | ((first | (with_reducible first | refine zP fun K_ hK_ => ?_ | refine zQ fun K_ hK_ => ?_ | refine zT ?_ | refine zU ?_ | refine zV ?_ | refine zW ?_ | refine zX ?_ | refine zY ?_) | ((with_reducible first | refine zR ?_ ?_ fun K_ hK_ => ?_ | refine zS ?_ ?_ fun K_ hK_ => ?_); (focus kernel_rfl); (focus kernel_rfl))); first | (simp (maxSteps := 1000000) (disch := refine hold_ ?_; first | (simp [hlE, -List.getD_eq_getElem?_getD]; done) | omega) [hlE, -List.getD_eq_getElem?_getD]; try first | (with_reducible refine zZ ?_) | subst hK_) | subst hK_) | (with_reducible first | refine zA ?_ | refine zB ?_ | refine zC ?_ | refine zD ?_ | refine zE ?_ | refine zF ?_ | refine zG ?_ | refine zH ?_ | refine zI ?_ | refine zJ ?_ | refine zK ?_ | refine zL ?_ | refine zM ?_ | refine zN ?_ | refine zO ?_) | ((with_reducible refine yG ?_ ?_); (focus decide)) | ((with_reducible refine yA ?_); refine yB rfl ?_; (with_reducible first | refine yC ?_ | refine yD ?_)))
  all_goals (try simp (maxSteps := 1000000) (disch := refine hold_ ?_; first | (simp [hlE, -List.getD_eq_getElem?_getD]; done) | omega) [hlE, -List.getD_eq_getElem?_getD])
end Go.Av.Doc
end
section
set_option linter.unusedSimpArgs false
set_option linter.unusedVariables false
set_option linter.unusedSectionVars false
open Go Go.Av Go.Proofs
namespace Go.Av.Doc
variable [ML]
def awL : List Nd := [⟨0, -1, [], [], [], [], [], true, [], true⟩, ⟨1, 0, [], [97#8], [], [], [], true, [], true⟩]
set_option maxRecDepth 20000 in
theorem name_a : nameB [97#8] = true := by
  unfold nameB
  rw [charsL_step _ (by simp) (by decide)]
  have : okS [97#8] = 1 := by decide
  rw [this]
  show (match Option.map _ (charsL []) with | some c => nameC c | none => false) = true
  rw [charsL_nil]
  rfl
theorem aw_form : formB awL 1 (-1) = true := by
  have h : formB awL 1 (-1) = (([] : List (BitVec 8)) == [] && (true && ((true && (true && (nameB [97#8] && (true && true)))) && true))) := by
    unfold formB namedB elOk
    show (if (1 : Int) = 1 then _ else _) = _
    rw [if_pos rfl]
    simp only [Bool.not_or, Bool.not_not, Bool.and_assoc]
    rfl
  rw [h, name_a]; rfl
theorem aw_chk : chkV awL = (1, true) := by
  have h : allS awL = true := by
    show (stepB awL 1 && true) = true
    unfold stepB nodeB
    rw [show lastC awL (nd awL 1).a 1 = -1 from rfl, aw_form]
    rfl
  unfold chkV
  rw [h]
  rfl
theorem aw_ok : ∀ x ∈ awL, okN x := by
  intro x hx
  have : x = ⟨0, -1, [], [], [], [], [], true, [], true⟩ ∨ x = ⟨1, 0, [], [97#8], [], [], [], true, [], true⟩ := by simpa [awL] using hx
  rcases this with rfl | rfl
  · exact ⟨fun _ => rfl, fun _ => rfl, by simp, by simp, by simp, by simp, by simp, by simp, by simp, by simp⟩
  · exact ⟨fun _ => rfl, fun _ => rfl, by simp, by simp, by simp, by simp, by simp, by simp, by simp, by simp⟩
theorem aw_of : Fn Tryd.prog 11 [.sl (ndR awL) false] [.p (docP awL [2, 2] 1), .p (.int .i64 0)] := by
  have hp : pOk awL 2 := ⟨rfl, fun m h1 h2 => by obtain rfl : m = 1 := by omega
                                                 exact ⟨by decide, by decide⟩⟩
  exact of_ct awL false (by decide) aw_ok 1 (by decide) aw_chk hp rfl
theorem aw_eq : PEq (.sl (.vals 8 [.agg (.vals 1 [.int .i64 0, .int .i64 (-1), .str ByteArray.empty, .str ByteArray.empty, .str ByteArray.empty, .str ByteArray.empty, .sl (.vals 1 []) true, .sl (.vals 1 []) true]),
    .agg (.vals 1 [.int .i64 1, .int .i64 0, .str ByteArray.empty, .str (ByteArray.mk #[97]), .str ByteArray.empty, .str ByteArray.empty, .sl (.vals 1 []) true, .sl (.vals 1 []) true])]) false) (.sl (ndR awL) false) := by
  refine PEq.rows (s := 8) (L := [[.int .i64 0, .int .i64 (-1), .str ByteArray.empty, .str ByteArray.empty, .str ByteArray.empty, .str ByteArray.empty, .sl (.vals 1 []) true, .sl (.vals 1 []) true],
    [.int .i64 1, .int .i64 0, .str ByteArray.empty, .str (ByteArray.mk #[97]), .str ByteArray.empty, .str ByteArray.empty, .sl (.vals 1 []) true, .sl (.vals 1 []) true]])
    (L' := [[.int .i64 0, .int .i64 (-1), .str (txt []), .str (txt []), .str (txt []), .str (txt []), .sl (dcR []) true, .sl (atR []) true],
    [.int .i64 1, .int .i64 0, .str (txt []), .str (txt [97#8]), .str (txt []), .str (txt []), .sl (dcR []) true, .sl (atR []) true]]) false rfl ?_
  intro i hi
  have hi2 : i = 0 ∨ i = 1 := by simp at hi; omega
  rcases hi2 with rfl | rfl
  · refine ⟨rfl, rfl, ?_, by simp [PV.one]⟩
    exact .cons (PEq.refl _) (.cons (PEq.refl _) (.cons (PEq.refl _) (.cons (PEq.refl _) (.cons (PEq.refl _) (.cons (PEq.refl _) (.cons (PEq.nil _ _ rfl rfl) (.cons (PEq.nil _ _ rfl rfl) .nil)))))))
  · refine ⟨rfl, rfl, ?_, by simp [PV.one]⟩
    exact .cons (PEq.refl _) (.cons (PEq.refl _) (.cons (PEq.refl _) (.cons (PEq.refl _) (.cons (PEq.refl _) (.cons (PEq.refl _) (.cons (PEq.nil _ _ rfl rfl) (.cons (PEq.nil _ _ rfl rfl) .nil)))))))
theorem awake_ct : Fn Tryd.prog 9 [] [.p (.bool true)] := by
  have k11 := aw_of
  have k17 := len_ct awL [2, 2] 1
  have k23 := top_ct awL [2, 2] 1
  have k22 := end_ct awL [2, 2] 1 0 (by decide) rfl
  have hq := aw_eq
  have e : (awL.length : Int) = 2 := rfl
  rw [e] at k17
  have e2 : ([2, 2] : List Int).getD 0 0 = 2 := rfl
  rw [e2] at k22
  generalize ndR awL = R at *
  generalize docP awL [2, 2] 1 = D at *
  have c11 : Ct Tryd.prog 11 _ [] 0 _ [] 0 := Ct.args (Fn.ct k11 Tryd.call11) (.cons hq .nil)
  refine Fn.of_body Tryd.func9 rfl ?_
  repeat (first | ((with_reducible first | refine callK_at 11 ?_ | refine callK_at 17 ?_ | refine callK_at 23 ?_ | refine callK_at 22 ?_); refine callK_p ?_; simp (maxSteps := 1000000) (disch := refine hold_ ?_; first | (simp [-List.getD_eq_getElem?_getD]; done) | omega) [-List.getD_eq_getElem?_getD]; (first | ((with_reducible refine k1_at 11 ?_); refine callK1_of (c11) ?_) | ((with_reducible refine k1_at 17 ?_); refine callK1_of (Fn.ct k17 Tryd.call17) ?_) | ((with_reducible refine k1_at 23 ?_); refine callK1_of (Fn.ct k23 Tryd.call23) ?_) | ((with_reducible refine k1_at 22 ?_); refine callK1_of (Fn.ct k22 Tryd.call22) ?_)); (try simp (maxSteps := 1000000) (disch := refine hold_ ?_; first | (simp [-List.getD_eq_getElem?_getD]; done) | omega) [-List.getD_eq_getElem?_getD]); try first | (with_reducible refine zZ ?_) | subst hK_) | ((first | (with_reducible first | refine zP fun K_ hK_ => ?_ | refine zQ fun K_ hK_ => ?_ | refine zT ?_ | refine zU ?_ | refine zV ?_ | refine zW ?_ | refine zX ?_ | refine zY ?_) | ((with_reducible first | refine zR ?_ ?_ fun K_ hK_ => ?_ | refine zS ?_ ?_ fun K_ hK_ => ?_); (focus kernel_rfl); (focus kernel_rfl))); first | (simp (maxSteps := 1000000) (disch := refine hold_ ?_; first | (simp [-List.getD_eq_getElem?_getD]; done) | omega) [-List.getD_eq_getElem?_getD]; try first | (with_reducible refine zZ ?_) | subst hK_) | subst hK_) | (with_reducible first | refine zA ?_ | refine zB ?_ | refine zC ?_ | refine zD ?_ | refine zE ?_ | refine zF ?_ | refine zG ?_ | refine zH ?_ | refine zI ?_ | refine zJ ?_ | refine zK ?_ | refine zL ?_ | refine zM ?_ | refine zN ?_ | refine zO ?_) | ((with_reducible refine yG ?_ ?_); (focus decide)) | ((with_reducible refine yA ?_); refine yB rfl ?_; (with_reducible first | refine yC ?_ | refine yD ?_)))
  all_goals (try simp (maxSteps := 1000000) (disch := refine hold_ ?_; first | (simp [-List.getD_eq_getElem?_getD]; done) | omega) [-List.getD_eq_getElem?_getD])
end Go.Av.Doc
end
section
set_option linter.unusedSimpArgs false
set_option linter.unusedVariables false
set_option linter.unusedSectionVars false
open Go Go.Av Go.Proofs
namespace Go.Av.Doc
variable [ML]
end Go.Av.Doc
namespace Go.Proofs.YtkphnlnphenphaaDoor
open Go Go.Av Go.Av.Doc
theorem firstL_at (c : Nat) (h : c < 256) : firstL.getD c 0 = ((Lib.firstT c : Nat) : Int) := by
  rw [show firstL.getD c 0 = firstF c by simp [firstL, List.getD_eq_getElem?_getD, h]]
  unfold firstF Lib.firstT
  (repeat' split) <;> omega
theorem accL_at : ∀ i : Fin 16, accL.getD (2 * i.val) 0 = ((Lib.accLo i.val : Nat) : Int) ∧ accL.getD (2 * i.val + 1) 0 = ((Lib.accHi i.val : Nat) : Int) := by decide
theorem noVars (W : World) (m : Int) (hm : W.cell? ⟨0, 0, none⟩ = some (.int .i64 m)) (h : Lib.Utf8Tabs 1 2 W) :
    ∀ g r, (@Tables.gl (@instTablesOfML ⟨m⟩)) g = some r → RepP (cellsOf W) (.eptr r 0 0) (.pointer (some ⟨g, 0, none⟩)) := by
  intro g r hg
  have one : ∀ (b : Nat) (l : List Int) (n : Nat), l.length = n → n ≠ 0 → (∀ j, j < n → W.cell? ⟨b, j, none⟩ = some (.int .u8 (l.getD j 0))) → RepP (cellsOf W) (.eptr (.vals n [.agg (.ints .u8 l)]) 0 0) (.pointer (some ⟨b, 0, none⟩)) := by
    intro b l n hl h0 hc
    have := RepP.eptr (m := cellsOf W) (.vals n [.agg (.ints .u8 l)]) 0 0 b 0 (fun _ j => .int .u8 (l.getD j 0)) (by simp [Row.len]) ?_ ?_ ?_ ?_
    · simpa using this
    · intro i hi
      simp only [Row.len, List.length_singleton] at hi
      obtain rfl : i = 0 := by omega
      simpa [Row.elem, PV.width, Row.len, Row.sz] using hl
    · intro i j hi hj
      simp only [Row.len, List.length_singleton] at hi
      obtain rfl : i = 0 := by omega
      show W.cell? ⟨b, 0 + 0 * n + j, none⟩ = _
      rw [show 0 + 0 * n + j = j by omega]; exact hc j (by simpa [Row.sz] using hj)
    · intro i j hi hj
      simp only [Row.len, List.length_singleton] at hi
      obtain rfl : i = 0 := by omega
      rfl
    · intro i j hi hj
      simp only [Row.len, List.length_singleton] at hi
      obtain rfl : i = 0 := by omega
      exact .int .u8 _
  match g, hg with
  | 0, hg =>
    have : r = .vals 1 [.int .i64 m] := (Option.some.inj hg).symm
    subst this
    have := RepP.eptr (m := cellsOf W) (.vals 1 [.int .i64 m]) 0 0 0 0 (fun _ _ => .int .i64 m) (by simp [Row.len]) ?_ ?_ ?_ ?_
    · simpa using this
    · intro i hi
      simp only [Row.len, List.length_singleton] at hi
      obtain rfl : i = 0 := by omega
      rfl
    · intro i j hi hj
      simp only [Row.len, List.length_singleton] at hi
      simp only [Row.sz] at hj
      obtain rfl : i = 0 := by omega
      obtain rfl : j = 0 := by omega
      exact hm
    · intro i j hi hj
      simp only [Row.len, List.length_singleton] at hi
      obtain rfl : i = 0 := by omega
      rfl
    · intro i j hi hj
      simp only [Row.len, List.length_singleton] at hi
      obtain rfl : i = 0 := by omega
      exact .int .i64 _
  | 1, hg =>
    have : r = .vals 256 [.agg (.ints .u8 firstL)] := (Option.some.inj hg).symm
    subst this
    exact one 1 firstL 256 (by simp [firstL]) (by omega) fun j hj => by rw [h.1 j hj, firstL_at j hj]
  | 2, hg =>
    have : r = .vals 32 [.agg (.ints .u8 accL)] := (Option.some.inj hg).symm
    subst this
    refine one 2 accL 32 rfl (by omega) fun j hj => ?_
    obtain ⟨k, hk⟩ : ∃ k, j = 2 * k ∨ j = 2 * k + 1 := ⟨j / 2, by omega⟩
    have hk16 : k < 16 := by omega
    obtain ⟨q1, q2⟩ := h.2 k hk16
    obtain ⟨a1, a2⟩ := accL_at ⟨k, hk16⟩
    rcases hk with rfl | rfl
    · rw [q1, a1]
    · rw [q2, a2]
end Go.Proofs.YtkphnlnphenphaaDoor
end
