/- The walks of this seat's functions, and what is known of what they reckon (Doch). Conditions: those that each theorem names. -/
import Derived.Test.YtkphnlnphenphaaDoorDocf
section
set_option linter.unusedSimpArgs false
set_option linter.unusedVariables false
set_option linter.unusedSectionVars false
open Go Go.Av Go.Proofs
namespace Go.Av.Doc
variable [ML]
structure Stood (l : List Nd) : Prop where
  p : pOk l l.length
  s : ∀ k, 0 < k → k < l.length → ab l (nd l k).a ((k : Int) - 1) = true
theorem formd_stood (l : List Nd) (h : formdB l = true) : Stood l := by
  refine ⟨(formd_pOk l h).2, fun k h0 hk => ?_⟩
  unfold formdB at h
  rw [Bool.and_eq_true, Bool.and_eq_true, Bool.and_eq_true] at h
  have := allB_iff.1 h.2.2.1 (k - 1) (by omega)
  rw [show k - 1 + 1 = k by omega] at this
  have := node_stand this
  unfold standB at this
  rw [Bool.and_eq_true] at this
  exact this.1
def pn (l : List Nd) (k : Nat) : Nat := (nd l k).a.toNat
theorem pn_eq {l : List Nd} (h : Stood l) {k : Nat} (h0 : 0 < k) (hk : k < l.length) : (nd l k).a = pn l k ∧ pn l k < k := by
  have := h.p.2 k h0 hk
  unfold pn; omega
def up (l : List Nd) (a k : Nat) : Prop := ab l a k = true
theorem up_self (l : List Nd) (k : Nat) : up l k k := ab_self l k (by omega)
theorem up_step {l : List Nd} (h : Stood l) {a k : Nat} (h0 : 0 < k) (hk : k < l.length) : up l a k ↔ a = k ∨ up l a (pn l k) := by
  unfold up
  by_cases e : a = k
  · subst e; simp [ab_self]
  · have := ab_up h.p (show (0 : Int) ≤ k by omega) (show (k : Int) < l.length by omega) (show (a : Int) ≠ k by omega)
    rw [this, Int.toNat_natCast, (pn_eq h h0 hk).1]; simp [e]
theorem up_zero {l : List Nd} (h : Stood l) {a : Nat} (h0 : 0 < l.length) : up l a 0 ↔ a = 0 := by
  unfold up
  by_cases e : a = 0
  · subst e; simp [ab_self]
  · have := ab_up h.p (show (0 : Int) ≤ 0 by omega) (show (0 : Int) < l.length by omega) (show (a : Int) ≠ 0 by omega)
    rw [show ((0 : Nat) : Int) = 0 from rfl, this]
    rw [show (nd l (Int.toNat 0)).a = -1 from h.p.1, ab_neg l a (-1) (by omega)]; simp [e]
theorem up_le {l : List Nd} (h : Stood l) : ∀ (k a : Nat), k < l.length → up l a k → a ≤ k := by
  intro k
  induction k using Nat.strongRecOn with
  | ind k ih =>
    intro a hk hu
    by_cases h0 : 0 < k
    · rcases (up_step h h0 hk).1 hu with e | e
      · omega
      · have := (pn_eq h h0 hk).2
        have := ih _ this a (by omega) e
        omega
    · obtain rfl : k = 0 := by omega
      have := (up_zero h (by omega)).1 hu
      omega
theorem up_trans {l : List Nd} (h : Stood l) : ∀ (k a b : Nat), k < l.length → up l a b → up l b k → up l a k := by
  intro k
  induction k using Nat.strongRecOn with
  | ind k ih =>
    intro a b hk hab hbk
    by_cases e : b = k
    · subst e; exact hab
    · by_cases h0 : 0 < k
      · rcases (up_step h h0 hk).1 hbk with e' | e'
        · exact absurd e' e
        · have hp := (pn_eq h h0 hk).2
          exact (up_step h h0 hk).2 (.inr (ih _ hp a b (by omega) hab e'))
      · obtain rfl : k = 0 := by omega
        exact absurd ((up_zero h (by omega)).1 hbk) e
theorem up_prev {l : List Nd} (h : Stood l) {a k : Nat} (hk : k < l.length) (hak : a < k) (hu : up l a k) : up l a (k - 1) := by
  have h0 : 0 < k := by omega
  rcases (up_step h h0 hk).1 hu with e | e
  · omega
  · have hs := h.s k h0 hk
    rw [(pn_eq h h0 hk).1, show (k : Int) - 1 = (k - 1 : Nat) by omega] at hs
    exact up_trans h (k - 1) a _ (by omega) e hs
theorem up_mid {l : List Nd} (h : Stood l) {a : Nat} : ∀ (d k : Nat), k < l.length → k - a = d → a ≤ k → up l a k → ∀ j, a ≤ j → j ≤ k → up l a j := by
  intro d
  induction d with
  | zero => intro k hk hd hak hu j h1 h2
            obtain rfl : j = k := by omega
            exact hu
  | succ d ih =>
    intro k hk hd hak hu j h1 h2
    by_cases e : j = k
    · subst e; exact hu
    · exact ih (k - 1) (by omega) (by omega) (by omega) (up_prev h hk (by omega) hu) j h1 (by omega)
def enF (l : List Nd) (a : Nat) : Nat → Nat
  | 0 => 0
  | k + 1 => if ab l a k = true then k + 1 else enF l a k
def en (l : List Nd) (a : Nat) : Nat := enF l a l.length
theorem enF_spec (l : List Nd) (a : Nat) : ∀ k, enF l a k ≤ k ∧ (∀ j, j < k → up l a j → j < enF l a k) ∧ (0 < enF l a k → up l a (enF l a k - 1))
  | 0 => ⟨Nat.le_refl _, fun j h => absurd h (Nat.not_lt_zero _), fun h => absurd h (Nat.lt_irrefl _)⟩
  | k + 1 => by
    obtain ⟨h1, h2, h3⟩ := enF_spec l a k
    unfold enF
    by_cases e : ab l a k = true
    · rw [if_pos e]
      exact ⟨Nat.le_refl _, fun j hj _ => hj, fun _ => e⟩
    · rw [if_neg e]
      refine ⟨by omega, fun j hj hu => ?_, h3⟩
      by_cases ej : j = k
      · subst ej; exact absurd hu e
      · exact h2 j (by omega) hu
theorem en_iff {l : List Nd} (h : Stood l) {a k : Nat} (ha : a < l.length) (hk : k < l.length) : up l a k ↔ a ≤ k ∧ k < en l a := by
  obtain ⟨h1, h2, h3⟩ := enF_spec l a l.length
  change en l a ≤ _ at h1
  change ∀ j, j < l.length → up l a j → j < en l a at h2
  change 0 < en l a → up l a (en l a - 1) at h3
  constructor
  · intro hu; exact ⟨up_le h k a hk hu, h2 k hk hu⟩
  · rintro ⟨h4, h5⟩
    have h6 := h3 (by omega)
    exact up_mid h _ (en l a - 1) (by omega) rfl (by omega) h6 k h4 (by omega)
theorem en_le (l : List Nd) (a : Nat) : en l a ≤ l.length := (enF_spec l a l.length).1
theorem en_gt {l : List Nd} {a : Nat} (ha : a < l.length) : a < en l a := (enF_spec l a l.length).2.1 a ha (up_self l a)
end Go.Av.Doc
end
section
set_option linter.unusedSimpArgs false
set_option linter.unusedVariables false
set_option linter.unusedSectionVars false
open Go Go.Av Go.Proofs
namespace Go.Av.Doc
variable [ML]
end Go.Av.Doc
end
section
set_option linter.unusedSimpArgs false
set_option linter.unusedVariables false
set_option linter.unusedSectionVars false
open Go Go.Av Go.Proofs
namespace Go.Av.Doc
variable [ML]
theorem app_ints (o : List Int) (m : Int) : appRow (.ints .i64 o) (.ints .i64 [m]) = some (.ints .i64 (o ++ [m])) := by rfl
end Go.Av.Doc
end
section
set_option linter.unusedSimpArgs false
set_option linter.unusedVariables false
set_option linter.unusedSectionVars false
open Go Go.Av Go.Proofs
namespace Go.Av.Doc
variable [ML]
end Go.Av.Doc
end
section
set_option linter.unusedSimpArgs false
set_option linter.unusedVariables false
set_option linter.unusedSectionVars false
open Go Go.Av Go.Proofs
namespace Go.Av.Doc
variable [ML]
theorem rend_ct (l : List Nd) (nl : Bool) (hl : l.length ≤ 4000000) (hp : pOk l l.length) (n : Nat) (hn : n < l.length) : Fn Tryd.prog 14 [.sl (ndR l) nl, .int .i64 n] [.p (.int .i64 (en l n : Nat))] := by
  have hnz : (n : Int) < l.length := by omega
  have hn0 : (0 : Int) ≤ n := by omega
  unfold en
  refine Fn.of_body Tryd.func14 rfl ?_
  repeat (first | ((first | (with_reducible first | refine zP fun K_ hK_ => ?_ | refine zQ fun K_ hK_ => ?_ | refine zT ?_ | refine zU ?_ | refine zV ?_ | refine zW ?_ | refine zX ?_ | refine zY ?_) | ((with_reducible first | refine zR ?_ ?_ fun K_ hK_ => ?_ | refine zS ?_ ?_ fun K_ hK_ => ?_); (focus kernel_rfl); (focus kernel_rfl))); first | (simp (maxSteps := 1000000) (disch := refine hold_ ?_; first | (simp [-List.getD_eq_getElem?_getD]; done) | omega) [-List.getD_eq_getElem?_getD]; try first | (with_reducible refine zZ ?_) | subst hK_) | subst hK_) | (with_reducible first | refine zA ?_ | refine zB ?_ | refine zC ?_ | refine zD ?_ | refine zE ?_ | refine zF ?_ | refine zG ?_ | refine zH ?_ | refine zI ?_ | refine zJ ?_ | refine zK ?_ | refine zL ?_ | refine zM ?_ | refine zN ?_ | refine zO ?_) | ((with_reducible refine yG ?_ ?_); (focus decide)) | ((with_reducible refine yA ?_); refine yB rfl ?_; (with_reducible first | refine yC ?_ | refine yD ?_)))
  refine AW.iter (true :: true :: false :: false :: false :: true :: false :: false :: true :: true :: false :: false :: false :: false :: false :: false :: false :: false :: false :: false :: false :: false :: false :: false :: false :: false :: false :: false :: false :: false :: []) l.length (fun k => ⟨(.p (.sl (ndR l) nl) :: .p (.int .i64 n) :: V.junk :: V.junk :: V.junk :: .p (.int .i64 (enF l n k : Nat)) :: V.junk :: V.junk :: .p (.int .i64 l.length) :: .p (.int .i64 k) :: V.junk :: V.junk :: V.junk :: V.junk :: V.junk :: V.junk :: V.junk :: V.junk :: V.junk :: V.junk :: V.junk :: V.junk :: V.junk :: V.junk :: V.junk :: V.junk :: V.junk :: V.junk :: V.junk :: V.junk :: []), ⟨[], []⟩⟩) ?_ ?_
  · (unfold enF; simp (maxSteps := 1000000) (disch := refine hold_ ?_; first | (simp [-List.getD_eq_getElem?_getD]; done) | omega) [-List.getD_eq_getElem?_getD])
  intro k hk
  have e0 := wrap_succ k l.length hk (by omega)
  by_cases hkm : k < l.length
  · have hkz : (k : Int) < l.length := by omega
    have k34 := above_ct l nl n k l.length hp (Nat.le_refl _) (by omega) (by omega)
    have hE : enF l n (k + 1) = if ab l n k = true then k + 1 else enF l n k := rfl
    generalize enF l n (k + 1) = E1 at *
    generalize enF l n k = E0 at *
    generalize ab l n k = A at *
    subst hE
    cases A
    all_goals
      repeat (first | ((with_reducible first | refine callK_at 34 ?_); refine callK_p ?_; simp (maxSteps := 1000000) (disch := refine hold_ ?_; first | (simp [hkm, hkz, hnz, hn, hn0, e0, -List.getD_eq_getElem?_getD]; done) | omega) [hkm, hkz, hnz, hn, hn0, e0, -List.getD_eq_getElem?_getD]; (first | refine callK1_of (Fn.ct k34 Tryd.call34) ?_); (try simp (maxSteps := 1000000) (disch := refine hold_ ?_; first | (simp [hkm, hkz, hnz, hn, hn0, e0, -List.getD_eq_getElem?_getD]; done) | omega) [hkm, hkz, hnz, hn, hn0, e0, -List.getD_eq_getElem?_getD]); try first | (with_reducible refine zZ ?_) | subst hK_) | ((first | (with_reducible first | refine zP fun K_ hK_ => ?_ | refine zQ fun K_ hK_ => ?_ | refine zT ?_ | refine zU ?_ | refine zV ?_ | refine zW ?_ | refine zX ?_ | refine zY ?_) | ((with_reducible first | refine zR ?_ ?_ fun K_ hK_ => ?_ | refine zS ?_ ?_ fun K_ hK_ => ?_); (focus kernel_rfl); (focus kernel_rfl))); first | (simp (maxSteps := 1000000) (disch := refine hold_ ?_; first | (simp [hkm, hkz, hnz, hn, hn0, e0, -List.getD_eq_getElem?_getD]; done) | omega) [hkm, hkz, hnz, hn, hn0, e0, -List.getD_eq_getElem?_getD]; try first | (with_reducible refine zZ ?_) | subst hK_) | subst hK_) | (with_reducible first | refine zA ?_ | refine zB ?_ | refine zC ?_ | refine zD ?_ | refine zE ?_ | refine zF ?_ | refine zG ?_ | refine zH ?_ | refine zI ?_ | refine zJ ?_ | refine zK ?_ | refine zL ?_ | refine zM ?_ | refine zN ?_ | refine zO ?_) | ((with_reducible refine yG ?_ ?_); (focus decide)) | ((with_reducible refine yA ?_); refine yB rfl ?_; (with_reducible first | refine yC ?_ | refine yD ?_)))
      refine ⟨hkm, ?_⟩
      simp (maxSteps := 1000000) (disch := refine hold_ ?_; first | (simp [-List.getD_eq_getElem?_getD]; done) | omega) [-List.getD_eq_getElem?_getD]
  · have hkz : ¬ (k : Int) < l.length := by omega
    obtain rfl : k = l.length := by omega
    generalize enF l n l.length = E0 at *
    repeat (first | ((first | (with_reducible first | refine zP fun K_ hK_ => ?_ | refine zQ fun K_ hK_ => ?_ | refine zT ?_ | refine zU ?_ | refine zV ?_ | refine zW ?_ | refine zX ?_ | refine zY ?_) | ((with_reducible first | refine zR ?_ ?_ fun K_ hK_ => ?_ | refine zS ?_ ?_ fun K_ hK_ => ?_); (focus kernel_rfl); (focus kernel_rfl))); first | (simp (maxSteps := 1000000) (disch := refine hold_ ?_; first | (simp [hkz, -List.getD_eq_getElem?_getD]; done) | omega) [hkz, -List.getD_eq_getElem?_getD]; try first | (with_reducible refine zZ ?_) | subst hK_) | subst hK_) | (with_reducible first | refine zA ?_ | refine zB ?_ | refine zC ?_ | refine zD ?_ | refine zE ?_ | refine zF ?_ | refine zG ?_ | refine zH ?_ | refine zI ?_ | refine zJ ?_ | refine zK ?_ | refine zL ?_ | refine zM ?_ | refine zN ?_ | refine zO ?_) | ((with_reducible refine yG ?_ ?_); (focus decide)) | ((with_reducible refine yA ?_); refine yB rfl ?_; (with_reducible first | refine yC ?_ | refine yD ?_)))
    all_goals (try simp (maxSteps := 1000000) (disch := refine hold_ ?_; first | (simp [-List.getD_eq_getElem?_getD]; done) | omega) [-List.getD_eq_getElem?_getD])
end Go.Av.Doc
end
section
set_option linter.unusedSimpArgs false
set_option linter.unusedVariables false
set_option linter.unusedSectionVars false
open Go Go.Av Go.Proofs
namespace Go.Av.Doc
variable [ML]
def noTop (l : List Nd) (k : Nat) : Bool := !(decide (0 < k) && isTop l k)
theorem top_one {l : List Nd} (h : cntT l l.length = 1) : upto (noTop l) l.length < l.length ∧ topN l l.length = upto (noTop l) l.length := by
  have hN := upto_le (noTop l) l.length
  have hall := upto_all (noTop l) l.length
  have hno := upto_no (noTop l) l.length
  generalize upto (noTop l) l.length = N at *
  have hz : ∀ k, k ≤ N → cntT l k = 0 := by
    intro k
    induction k with
    | zero => intro _; rfl
    | succ k ih =>
      intro hk
      have := hall k (by omega)
      unfold noTop at this
      rw [cntT, ih (by omega), if_neg]
      rintro ⟨h1, h2⟩
      rw [decide_eq_true h1, h2] at this; simp at this
  have hlt : N < l.length := by
    rcases Nat.lt_or_ge N l.length with h1 | h1
    · exact h1
    · have := hz l.length (by omega); omega
  refine ⟨hlt, ?_⟩
  have hNt := hno hlt
  unfold noTop at hNt
  have hNt' : 0 < N ∧ isTop l N = true := by
    cases hi : isTop l N with
    | false => rw [hi] at hNt; simp at hNt
    | true => rw [hi] at hNt; simp at hNt; exact ⟨hNt, rfl⟩
  have hc1 : cntT l (N + 1) = 1 := by rw [cntT, hz N (Nat.le_refl _), if_pos hNt']
  have : ∀ k, N < k → k ≤ l.length → topN l k = N := by
    intro k
    induction k with
    | zero => intro h1; omega
    | succ k ih =>
      intro h1 h2
      unfold topN
      by_cases e : k = N
      · subst e; rw [if_pos hNt']
      · rw [if_neg, ih (by omega) (by omega)]
        rintro ⟨h3, h4⟩
        have h5 : cntT l (k + 1) = cntT l k + 1 := by rw [cntT, if_pos ⟨h3, h4⟩]
        have h6 := cntT_mono l (N + 1) k (by omega)
        have h7 := cntT_mono l (k + 1) l.length h2
        omega
  exact this _ hlt (Nat.le_refl _)
theorem rtop_ct {l : List Nd} (nl : Bool) (h : cntT l l.length = 1) (hl : l.length ≤ 4000000) : Fn Tryd.prog 13 [.sl (ndR l) nl] [.p (.int .i64 (topN l l.length : Nat))] := by
  obtain ⟨h1, h2⟩ := top_one h
  rw [h2]
  have hall := upto_all (noTop l) l.length
  have hno := upto_no (noTop l) l.length
  generalize upto (noTop l) l.length = N at *
  refine Fn.of_body Tryd.func13 rfl ?_
  repeat (first | ((first | (with_reducible first | refine zP fun K_ hK_ => ?_ | refine zQ fun K_ hK_ => ?_ | refine zT ?_ | refine zU ?_ | refine zV ?_ | refine zW ?_ | refine zX ?_ | refine zY ?_) | ((with_reducible first | refine zR ?_ ?_ fun K_ hK_ => ?_ | refine zS ?_ ?_ fun K_ hK_ => ?_); (focus kernel_rfl); (focus kernel_rfl))); first | (simp (maxSteps := 1000000) (disch := refine hold_ ?_; first | (simp [-List.getD_eq_getElem?_getD]; done) | omega) [-List.getD_eq_getElem?_getD]; try first | (with_reducible refine zZ ?_) | subst hK_) | subst hK_) | (with_reducible first | refine zA ?_ | refine zB ?_ | refine zC ?_ | refine zD ?_ | refine zE ?_ | refine zF ?_ | refine zG ?_ | refine zH ?_ | refine zI ?_ | refine zJ ?_ | refine zK ?_ | refine zL ?_ | refine zM ?_ | refine zN ?_ | refine zO ?_) | ((with_reducible refine yG ?_ ?_); (focus decide)) | ((with_reducible refine yA ?_); refine yB rfl ?_; (with_reducible first | refine yC ?_ | refine yD ?_)))
  refine AW.iter (true :: false :: false :: false :: false :: true :: true :: false :: false :: false :: false :: false :: false :: false :: false :: false :: false :: false :: false :: false :: false :: false :: false :: false :: false :: false :: false :: false :: false :: []) N (fun k => ⟨(.p (.sl (ndR l) nl) :: V.junk :: V.junk :: V.junk :: V.junk :: .p (.int .i64 l.length) :: .p (.int .i64 k) :: V.junk :: V.junk :: V.junk :: V.junk :: V.junk :: V.junk :: V.junk :: V.junk :: V.junk :: V.junk :: V.junk :: V.junk :: V.junk :: V.junk :: V.junk :: V.junk :: V.junk :: V.junk :: V.junk :: V.junk :: V.junk :: V.junk :: []), ⟨[], []⟩⟩) ?_ ?_
  · simp (maxSteps := 1000000) (disch := refine hold_ ?_; first | (simp [-List.getD_eq_getElem?_getD]; done) | omega) [-List.getD_eq_getElem?_getD]
  intro k hk
  have e0 := wrap_succ k l.length (by omega) (by omega)
  have hkm : k < l.length := by omega
  have hkz : (k : Int) < l.length := by omega
  have he := nd_elem l k hkm
  unfold ndP at he
  have hg : k < N → noTop l k = true := hall k
  have hb : N = k → noTop l k = false := fun e => by subst e; exact hno hkm
  clear hall hno h2 h
  unfold noTop isTop at hg hb
  by_cases h0 : 0 < k
  · have h0z : (0 : Int) < k := by omega
    rw [decide_eq_true h0] at hg hb
    generalize hA : ((nd l k).a == 0) = A at *
    generalize hB : ((nd l k).k == 1) = B at *
    generalize nd l k = x at *
    rcases anc A (spl B (trivial)) with rfl | ⟨rfl, ⟨rfl | rfl, _⟩⟩
    all_goals
      first
        | (have hkN : k = N := by
             rcases Nat.lt_or_ge k N with h1 | h1
             · have := hg h1; simp at this
             · omega
           subst hkN
           repeat (first | ((first | (with_reducible first | refine zP fun K_ hK_ => ?_ | refine zQ fun K_ hK_ => ?_ | refine zT ?_ | refine zU ?_ | refine zV ?_ | refine zW ?_ | refine zX ?_ | refine zY ?_) | ((with_reducible first | refine zR ?_ ?_ fun K_ hK_ => ?_ | refine zS ?_ ?_ fun K_ hK_ => ?_); (focus kernel_rfl); (focus kernel_rfl))); first | (simp (maxSteps := 1000000) (disch := refine hold_ ?_; first | (simp [hkm, hkz, he, h0, h0z, hA, hB, -List.getD_eq_getElem?_getD]; done) | omega) [hkm, hkz, he, h0, h0z, hA, hB, -List.getD_eq_getElem?_getD]; try first | (with_reducible refine zZ ?_) | subst hK_) | subst hK_) | (with_reducible first | refine zA ?_ | refine zB ?_ | refine zC ?_ | refine zD ?_ | refine zE ?_ | refine zF ?_ | refine zG ?_ | refine zH ?_ | refine zI ?_ | refine zJ ?_ | refine zK ?_ | refine zL ?_ | refine zM ?_ | refine zN ?_ | refine zO ?_) | ((with_reducible refine yG ?_ ?_); (focus decide)) | ((with_reducible refine yA ?_); refine yB rfl ?_; (with_reducible first | refine yC ?_ | refine yD ?_)))
           simp (maxSteps := 1000000) (disch := refine hold_ ?_; first | (simp [-List.getD_eq_getElem?_getD]; done) | omega) [-List.getD_eq_getElem?_getD])
        | (have hkN : k < N := Nat.lt_of_le_of_ne hk fun e => by simpa using hb e.symm
           repeat (first | ((first | (with_reducible first | refine zP fun K_ hK_ => ?_ | refine zQ fun K_ hK_ => ?_ | refine zT ?_ | refine zU ?_ | refine zV ?_ | refine zW ?_ | refine zX ?_ | refine zY ?_) | ((with_reducible first | refine zR ?_ ?_ fun K_ hK_ => ?_ | refine zS ?_ ?_ fun K_ hK_ => ?_); (focus kernel_rfl); (focus kernel_rfl))); first | (simp (maxSteps := 1000000) (disch := refine hold_ ?_; first | (simp [hkm, hkz, he, h0, h0z, hA, hB, e0, -List.getD_eq_getElem?_getD]; done) | omega) [hkm, hkz, he, h0, h0z, hA, hB, e0, -List.getD_eq_getElem?_getD]; try first | (with_reducible refine zZ ?_) | subst hK_) | subst hK_) | (with_reducible first | refine zA ?_ | refine zB ?_ | refine zC ?_ | refine zD ?_ | refine zE ?_ | refine zF ?_ | refine zG ?_ | refine zH ?_ | refine zI ?_ | refine zJ ?_ | refine zK ?_ | refine zL ?_ | refine zM ?_ | refine zN ?_ | refine zO ?_) | ((with_reducible refine yG ?_ ?_); (focus decide)) | ((with_reducible refine yA ?_); refine yB rfl ?_; (with_reducible first | refine yC ?_ | refine yD ?_)))
           refine ⟨hkN, ?_⟩
           simp (maxSteps := 1000000) (disch := refine hold_ ?_; first | (simp [-List.getD_eq_getElem?_getD]; done) | omega) [-List.getD_eq_getElem?_getD])
  · have h0z : ¬ (0 : Int) < k := by omega
    rw [decide_eq_false h0] at hg hb
    have hkN : k < N := Nat.lt_of_le_of_ne hk fun e => by simpa using hb e.symm
    repeat (first | ((first | (with_reducible first | refine zP fun K_ hK_ => ?_ | refine zQ fun K_ hK_ => ?_ | refine zT ?_ | refine zU ?_ | refine zV ?_ | refine zW ?_ | refine zX ?_ | refine zY ?_) | ((with_reducible first | refine zR ?_ ?_ fun K_ hK_ => ?_ | refine zS ?_ ?_ fun K_ hK_ => ?_); (focus kernel_rfl); (focus kernel_rfl))); first | (simp (maxSteps := 1000000) (disch := refine hold_ ?_; first | (simp [hkm, hkz, h0, h0z, e0, -List.getD_eq_getElem?_getD]; done) | omega) [hkm, hkz, h0, h0z, e0, -List.getD_eq_getElem?_getD]; try first | (with_reducible refine zZ ?_) | subst hK_) | subst hK_) | (with_reducible first | refine zA ?_ | refine zB ?_ | refine zC ?_ | refine zD ?_ | refine zE ?_ | refine zF ?_ | refine zG ?_ | refine zH ?_ | refine zI ?_ | refine zJ ?_ | refine zK ?_ | refine zL ?_ | refine zM ?_ | refine zN ?_ | refine zO ?_) | ((with_reducible refine yG ?_ ?_); (focus decide)) | ((with_reducible refine yA ?_); refine yB rfl ?_; (with_reducible first | refine yC ?_ | refine yD ?_)))
    refine ⟨hkN, ?_⟩
    simp (maxSteps := 1000000) (disch := refine hold_ ?_; first | (simp [-List.getD_eq_getElem?_getD]; done) | omega) [-List.getD_eq_getElem?_getD]
theorem nd0_okN : okN nd0 := ⟨fun _ => rfl, fun _ => rfl, by simp [nd0], by simp [nd0], by simp [nd0], by simp [nd0], by simp [nd0], by simp [nd0], by simp [nd0], by simp [nd0]⟩
end Go.Av.Doc
end
section
set_option linter.unusedSimpArgs false
set_option linter.unusedVariables false
set_option linter.unusedSectionVars false
open Go Go.Av Go.Proofs
namespace Go.Av.Doc
variable [ML]
def Alike (l m : List Nd) (n : Nat) : Prop := ∀ k, k < n → nd m k = nd l k
theorem abF_alike {l m : List Nd} {n : Nat} (h : Alike l m n) (hp : pOk l n) (a : Int) : ∀ (f : Nat) (c : Int), c < n → abF m a f c = abF l a f c
  | 0, _, _ => rfl
  | f + 1, c, hc => by
    unfold abF
    split
    · rfl
    · split
      · rfl
      · have hk : c.toNat < n := by omega
        rw [h _ hk]
        have := hp.lt hk
        exact abF_alike h hp a f _ (by omega)
theorem ab_alike {l m : List Nd} {n : Nat} (h : Alike l m n) (hp : pOk l n) (a c : Int) (hc : c < n) : ab m a c = ab l a c := abF_alike h hp a _ c hc
theorem meF_alike {l m : List Nd} {n : Nat} (h : Alike l m n) (hp : pOk l n) (p : List (BitVec 8)) : ∀ (f : Nat) (c : Int), c < n → meF m p f c = meF l p f c
  | 0, _, _ => rfl
  | f + 1, c, hc => by
    unfold meF
    split
    · have hk : c.toNat < n := by omega
      rw [h _ hk]
      split
      · rfl
      · have := hp.lt hk
        exact meF_alike h hp p f _ (by omega)
    · rfl
theorem means_alike {l m : List Nd} {n : Nat} (h : Alike l m n) (hp : pOk l n) (p : List (BitVec 8)) (c : Int) (hc : c < n) : meansL m p c = meansL l p c := by
  unfold meansL meL
  rw [meF_alike h hp p _ c hc]
theorem lastC_alike {l m : List Nd} {n : Nat} (h : Alike l m n) (p : Int) : ∀ k, k ≤ n → lastC m p k = lastC l p k
  | 0, _ => rfl
  | k + 1, hk => by
    unfold lastC
    rw [h k (by omega), lastC_alike h p k (by omega)]
theorem named_alike {l m : List Nd} {n : Nat} (h : Alike l m (n + 1)) (hp : pOk l (n + 1)) : namedB m n = namedB l n := by
  unfold namedB
  rw [h n (by omega)]
  have : ∀ p, meansL m p n = meansL l p n := fun p => means_alike h hp p n (by omega)
  simp only [this]
theorem form_alike {l m : List Nd} {n : Nat} (h : Alike l m (n + 1)) (hp : pOk l (n + 1)) (ls : Int) (hls : ls < n) : formB m n ls = formB l n ls := by
  unfold formB
  rw [named_alike h hp, h n (by omega)]
  by_cases h0 : ls < 0
  · simp only [h0, decide_true, Bool.true_or]
  · rw [h ls.toNat (by omega)]
theorem node_alike {l m : List Nd} {n : Nat} (h : Alike l m (n + 1)) (hp : pOk l (n + 1)) (h0 : 0 < n) : nodeB m n = nodeB l n := by
  unfold nodeB standB
  have hpn : pOk l n := hp.le (by omega)
  have hp2 := hp.2 n h0 (by omega)
  rw [h n (by omega), ab_alike (fun k hk => h k (by omega)) hpn _ _ (by omega), lastC_alike (n := n) (fun k hk => h k (by omega)) _ n (Nat.le_refl _), h (nd l n).a.toNat (by omega)]
  have hl := lastC_le l (nd l n).a n
  rw [form_alike h hp _ (by omega)]
theorem depF_alike {l m : List Nd} {n : Nat} (h : Alike l m n) (hp : pOk l n) : ∀ (f : Nat) (c : Int), c < n → depF m f c = depF l f c
  | 0, _, _ => rfl
  | f + 1, c, hc => by
    unfold depF
    split
    · have hk : c.toNat < n := by omega
      rw [h _ hk]
      have := hp.lt hk
      rw [depF_alike h hp f _ (by omega)]
    · rfl
theorem isTop_of {l m : List Nd} {k j : Nat} (h : nd m j = nd l k) : isTop m j = isTop l k := by unfold isTop; rw [h]
def moreL (l : List Nd) (e : Nat) (x : Nd) : List Nd := l.take e ++ (x :: l.drop e)
theorem more_len (l : List Nd) (e : Nat) (x : Nd) (h : e ≤ l.length) : (moreL l e x).length = l.length + 1 := by
  unfold moreL; simp; omega
theorem more_lt {l : List Nd} {e : Nat} {x : Nd} (he : e ≤ l.length) {k : Nat} (h : k < e) : nd (moreL l e x) k = nd l k := by
  unfold nd moreL
  simp only [List.getD_eq_getElem?_getD]
  rw [List.getElem?_append_left (by simp; omega), List.getElem?_take, if_pos h]
theorem more_at {l : List Nd} {e : Nat} {x : Nd} (he : e ≤ l.length) : nd (moreL l e x) e = x := by
  unfold nd moreL
  simp only [List.getD_eq_getElem?_getD]
  rw [List.getElem?_append_right (by simp; omega)]
  have : e - (l.take e).length = 0 := by simp; omega
  rw [this]; rfl
theorem more_gt {l : List Nd} {e : Nat} {x : Nd} (he : e ≤ l.length) {k : Nat} (h : e ≤ k) : nd (moreL l e x) (k + 1) = nd l k := by
  unfold nd moreL
  simp only [List.getD_eq_getElem?_getD]
  rw [List.getElem?_append_right (by simp; omega)]
  have : k + 1 - (l.take e).length = (k - e) + 1 := by simp; omega
  rw [this, List.getElem?_cons_succ, List.getElem?_drop, show e + (k - e) = k by omega]
structure Tops (l : List Nd) (T : Nat) : Prop where
  t0 : 0 < T
  tl : T < l.length
  ta : (nd l T).a = 0
  tk : (nd l T).k = 1
  one : ∀ k, 0 < k → k < l.length → (nd l k).a = 0 → (nd l k).k = 1 → k = T
  nodes : ∀ k, 0 < k → k < l.length → nodeB l k = true
theorem tops_of {l : List Nd} (h : formdB l = true) : Tops l (topN l l.length) := by
  have hc : cntT l l.length = 1 ∧ allN l = true := by
    unfold formdB at h
    rw [Bool.and_eq_true, Bool.and_eq_true, Bool.and_eq_true] at h
    exact ⟨by simpa using h.2.2.2, h.2.2.1⟩
  obtain ⟨h1, h2⟩ := top_one hc.1
  have hN := upto_no (noTop l) l.length h1
  have ha := upto_all (noTop l) l.length
  rw [← h2] at h1 hN ha
  unfold noTop at hN
  have hT : 0 < topN l l.length ∧ isTop l (topN l l.length) = true := by
    cases hi : isTop l (topN l l.length) with
    | false => rw [hi] at hN; simp at hN
    | true => rw [hi] at hN; simp at hN; exact ⟨hN, rfl⟩
  have hT2 := hT.2
  unfold isTop at hT2
  rw [Bool.and_eq_true, beq_iff_eq, beq_iff_eq] at hT2
  refine ⟨hT.1, h1, hT2.1, hT2.2, fun k h0 hk h3 h4 => ?_, fun k h0 hk => ?_⟩
  · have hik : isTop l k = true := by unfold isTop; rw [h3, h4]; rfl
    rcases Nat.lt_trichotomy k (topN l l.length) with h5 | h5 | h5
    · have := ha k h5
      unfold noTop at this
      rw [decide_eq_true h0, hik] at this; simp at this
    · exact h5
    · have q1 : cntT l (topN l l.length + 1) = cntT l (topN l l.length) + 1 := by rw [cntT, if_pos hT]
      have q2 := cntT_mono l (topN l l.length + 1) k (by omega)
      have q3 : cntT l (k + 1) = cntT l k + 1 := by rw [cntT, if_pos ⟨h0, hik⟩]
      have q4 := cntT_mono l (k + 1) l.length (by omega)
      omega
  · have := allB_iff.1 hc.2 (k - 1) (by omega)
    rwa [show k - 1 + 1 = k by omega] at this
theorem kind_of {l : List Nd} {T k : Nat} (h : Tops l T) (h0 : 0 < k) (hk : k < l.length) : (nd l k).k = 1 ∨ (nd l k).k = 2 ∨ (nd l k).k = 3 ∨ (nd l k).k = 4 := by
  have := h.nodes k h0 hk
  unfold nodeB formB at this
  by_cases h1 : (nd l k).k = 1
  · exact .inl h1
  by_cases h2 : (nd l k).k = 2
  · exact .inr (.inl h2)
  by_cases h3 : (nd l k).k = 3
  · exact .inr (.inr (.inl h3))
  by_cases h4 : (nd l k).k = 4
  · exact .inr (.inr (.inr h4))
  rw [if_neg h1, if_neg h2, if_neg h3, if_neg h4] at this
  simp at this
theorem par_kind {l : List Nd} {T k : Nat} (h : Tops l T) (hS : Stood l) (h0 : 0 < k) (hk : k < l.length) (hp : 0 < pn l k) : (nd l (pn l k)).k = 1 := by
  have hs := node_stand (h.nodes k h0 hk)
  unfold standB at hs
  rw [Bool.and_eq_true, (pn_eq hS h0 hk).1, Int.toNat_natCast, Bool.or_eq_true, beq_iff_eq, beq_iff_eq] at hs
  have hpk := (pn_eq hS h0 hk).2
  rcases hs.2 with e | e
  · have := kind_of h hp (show pn l k < l.length by omega)
    omega
  · exact e
theorem below {l : List Nd} {T : Nat} (h : Tops l T) (hS : Stood l) : ∀ k, 0 < k → k < l.length → pn l k ≠ 0 → up l T k := by
  intro k
  induction k using Nat.strongRecOn with
  | ind k ih =>
    intro h0 hk hp
    have hpk := (pn_eq hS h0 hk).2
    have hk1 := par_kind h hS h0 hk (by omega)
    by_cases h2 : pn l (pn l k) = 0
    · have h3 := (pn_eq hS (show 0 < pn l k by omega) (by omega)).1
      rw [h2] at h3
      have := h.one (pn l k) (by omega) (by omega) h3 hk1
      exact (up_step hS h0 hk).2 (.inr (by rw [this]; exact up_self l T))
    · exact (up_step hS h0 hk).2 (.inr (ih (pn l k) hpk (by omega) (by omega) h2))
theorem behind {l : List Nd} {T k : Nat} (h : Tops l T) (hS : Stood l) (hk : k < l.length) (he : en l T ≤ k) : (nd l k).a = 0 ∧ ((nd l k).k = 3 ∨ (nd l k).k = 4) := by
  have hT := en_gt h.tl
  have h0 : 0 < k := by omega
  have hp : pn l k = 0 := by
    rcases Nat.eq_zero_or_pos (pn l k) with e | e
    · exact e
    · have := (en_iff hS h.tl hk).1 (below h hS k h0 hk (by omega))
      omega
  have ha := (pn_eq hS h0 hk).1
  rw [hp] at ha
  refine ⟨ha, ?_⟩
  rcases kind_of h h0 hk with e | e | e | e
  · have := h.one k h0 hk ha e
    have := h.t0
    omega
  · have := h.nodes k h0 hk
    unfold nodeB at this
    rw [ha, e] at this
    simp at this
  · exact .inl e
  · exact .inr e
end Go.Av.Doc
end
section
set_option linter.unusedSimpArgs false
set_option linter.unusedVariables false
set_option linter.unusedSectionVars false
open Go Go.Av Go.Proofs
namespace Go.Av.Doc
variable [ML]
def newN (l : List Nd) (T : Nat) (s : List (BitVec 8)) : Nd := ⟨1, T, [], s, (meansL l [] T).1, [], [], true, [], true⟩
section
variable {l : List Nd} {T : Nat} {s : List (BitVec 8)} (h : Tops l T) (hS : Stood l) (hr : rootB (nd l 0) = true)
include h hS
theorem m_alike : Alike l (moreL l (en l T) (newN l T s)) (en l T) := fun k hk => more_lt (en_le l T) hk
theorem m_pOk : pOk (moreL l (en l T) (newN l T s)) (l.length + 1) := by
  have he := en_le l T
  have hT := en_gt h.tl
  refine ⟨?_, fun k h0 hk => ?_⟩
  · rw [more_lt he (by omega)]; exact hS.p.1
  · rcases Nat.lt_trichotomy k (en l T) with e | e | e
    · rw [more_lt he e]; exact hS.p.2 k h0 (by omega)
    · subst e; rw [more_at he]
      show (0 : Int) ≤ (T : Int) ∧ (T : Int) < _
      omega
    · obtain ⟨j, rfl⟩ : ∃ j, k = j + 1 := ⟨k - 1, by omega⟩
      rw [more_gt he (by omega), (behind h hS (show j < l.length by omega) (by omega)).1]; omega
theorem m_new : nodeB (moreL l (en l T) (newN l T s)) (en l T) = nameB s := by
  have he := en_le l T
  have hT := en_gt h.tl
  have hA := m_alike (s := s) h hS
  have hp := m_pOk (s := s) h hS
  have hat : nd (moreL l (en l T) (newN l T s)) (en l T) = newN l T s := more_at he
  have hpe : pOk l (en l T) := hS.p.le he
  have hst : standB (moreL l (en l T) (newN l T s)) (en l T) = true := by
    unfold standB
    rw [hat]
    show (ab _ (T : Int) ((en l T : Int) - 1) && (_ || _)) = true
    rw [ab_alike hA hpe _ _ (by omega)]
    have hu : up l T (en l T - 1) := (en_iff hS h.tl (by omega)).2 ⟨by omega, by omega⟩
    have : ab l (T : Int) ((en l T : Int) - 1) = true := by
      rw [show (en l T : Int) - 1 = (en l T - 1 : Nat) by omega]; exact hu
    rw [this]
    show (_ || (nd _ (Int.toNat (T : Int))).k == 1) = true
    rw [Int.toNat_natCast, more_lt he hT, h.tk]
    simp
  have hme : meansL (moreL l (en l T) (newN l T s)) [] (en l T) = meansL l [] T := by
    unfold meansL
    rw [show (([] : List (BitVec 8)) == xmlS) = false from rfl]
    simp only [Bool.false_eq_true, if_false]
    rw [meL_up hp (show en l T < l.length + 1 by omega) (by omega) (by rw [hat]; exact Nat.lt_irrefl 0), hat]
    show meL _ [] (T : Int) = _
    unfold meL
    exact meF_alike hA hpe [] _ _ (by omega)
  have hm2 : (meansL l [] T).2 = true := by unfold meansL; rw [show (([] : List (BitVec 8)) == xmlS) = false from rfl]; exact meL_nil l T
  unfold nodeB
  rw [hst]
  unfold formB namedB
  rw [hat]
  show (true && (_ && _)) = _
  rw [if_pos (show (newN l T s).k = 1 from rfl)]
  show (true && ((([] : List (BitVec 8)) == [] && (declB [] && (elOk (newN l T s) (meansL _ [] _) && allB _ 0))) && (_ || !((1 : Int) == 2)))) = _
  rw [hme]
  unfold elOk
  rw [hm2]
  show (true && ((true && (true && (!(!true || !((meansL l [] T).1 == (meansL l [] T).1) || !nameB s || !preOk [] || ([] == xmlnsS)) && true))) && (_ || true))) = _
  rw [show preOk ([] : List (BitVec 8)) = true from rfl, show (([] : List (BitVec 8)) == xmlnsS) = false from rfl]
  simp
theorem ab_root {m : List Nd} {N : Nat} (hp : pOk m N) : ∀ (k : Nat), k < N → ab m 0 k = true := by
  intro k
  induction k using Nat.strongRecOn with
  | ind k ih =>
    intro hk
    by_cases h0 : k = 0
    · subst h0; exact ab_self m 0 (by omega)
    · have hk2 := hp.2 k (by omega) hk
      rw [ab_up hp (show (0 : Int) ≤ k by omega) (show (k : Int) < N by omega) (show (0 : Int) ≠ k by omega), Int.toNat_natCast]
      obtain ⟨q, hq⟩ : ∃ q : Nat, (nd m k).a = q := ⟨(nd m k).a.toNat, by omega⟩
      rw [hq]
      exact ih q (by omega) (by omega)
include hr
theorem m_behind {j : Nat} (hj : en l T ≤ j) (hjl : j < l.length) : nodeB (moreL l (en l T) (newN l T s)) (j + 1) = true := by
  have he := en_le l T
  have hT := en_gt h.tl
  have hp := m_pOk (s := s) h hS
  have hat : nd (moreL l (en l T) (newN l T s)) (j + 1) = nd l j := more_gt he hj
  obtain ⟨b1, b2⟩ := behind h hS hjl hj
  have hn := h.nodes j (by omega) hjl
  have hk0 : (nd l 0).k = 0 := by
    unfold rootB at hr
    rw [Bool.and_eq_true] at hr
    simpa using hr.1
  have hst : standB (moreL l (en l T) (newN l T s)) (j + 1) = true := by
    unfold standB
    rw [hat, b1, show ((j + 1 : Nat) : Int) - 1 = (j : Nat) by omega, ab_root h hS hp j (by omega)]
    show (true && ((nd _ 0).k == 0 || _)) = true
    rw [more_lt he (show 0 < en l T by omega), hk0]; rfl
  unfold nodeB at hn ⊢
  rw [hst, hat, b1, Bool.true_and]
  rw [b1] at hn
  have hf : ∀ ls ls', formB (moreL l (en l T) (newN l T s)) (j + 1) ls = formB l j ls' := fun ls ls' => by
    unfold formB
    rw [hat]
    rcases b2 with e | e <;> simp [e]
  rw [hf _ (lastC l 0 j)]
  rw [Bool.and_eq_true] at hn
  exact hn.2
theorem m_formd : formdB (moreL l (en l T) (newN l T s)) = nameB s ∨ cntT l l.length ≠ 1 := by
  by_cases hc : cntT l l.length = 1
  case neg => exact .inr hc
  left
  have he := en_le l T
  have hT := en_gt h.tl
  have hlen := more_len l (en l T) (newN l T s) he
  have hA := m_alike (s := s) h hS
  have hnew := m_new (s := s) h hS
  have c1 : ∀ k, k ≤ en l T → cntT (moreL l (en l T) (newN l T s)) k = cntT l k := by
    intro k
    induction k with
    | zero => intro _; rfl
    | succ k ih => intro hk; unfold cntT; rw [ih (by omega), isTop_of (hA k (by omega))]
  have c2 : cntT (moreL l (en l T) (newN l T s)) (en l T + 1) = cntT l (en l T) := by
    rw [cntT, c1 _ (Nat.le_refl _), if_neg, Nat.add_zero]
    rintro ⟨_, hi⟩
    unfold isTop at hi
    rw [more_at he] at hi
    have h0 := h.t0
    have : ((T : Int) == 0) = false := beq_eq_false_iff_ne.2 (by omega)
    simp [newN, this] at hi
  have c3 : ∀ d, en l T + d ≤ l.length → cntT (moreL l (en l T) (newN l T s)) (en l T + d + 1) = cntT l (en l T + d) := by
    intro d
    induction d with
    | zero => intro _; exact c2
    | succ d ih =>
      intro hd
      rw [cntT, show en l T + (d + 1) = en l T + d + 1 by omega, ih (by omega), isTop_of (more_gt he (by omega : en l T ≤ en l T + d))]
      show _ = cntT l (en l T + d) + _
      have : (0 < en l T + d + 1 ∧ isTop l (en l T + d) = true) ↔ (0 < en l T + d ∧ isTop l (en l T + d) = true) := by
        constructor
        · rintro ⟨_, q⟩; exact ⟨by omega, q⟩
        · rintro ⟨_, q⟩; exact ⟨by omega, q⟩
      simp only [this]
  have hcm : cntT (moreL l (en l T) (newN l T s)) (l.length + 1) = 1 := by
    have := c3 (l.length - en l T) (by omega)
    rw [show en l T + (l.length - en l T) = l.length by omega] at this
    rw [this, hc]
  have hroot : nd (moreL l (en l T) (newN l T s)) 0 = nd l 0 := hA 0 (by omega)
  have hN : allN (moreL l (en l T) (newN l T s)) = nameB s := by
    unfold allN
    rw [hlen, Nat.add_sub_cancel]
    cases hb : nameB s with
    | false =>
      cases ha : allB (fun j => nodeB (moreL l (en l T) (newN l T s)) (j + 1)) l.length with
      | false => rfl
      | true =>
        have := allB_iff.1 ha (en l T - 1) (by omega)
        rw [show en l T - 1 + 1 = en l T by omega, hnew, hb] at this
        cases this
    | true =>
      rw [allB_iff]
      intro k hk
      rcases Nat.lt_trichotomy (k + 1) (en l T) with e | e | e
      · rw [node_alike (fun i hi => hA i (by omega)) (hS.p.le (by omega)) (by omega)]
        exact h.nodes (k + 1) (by omega) (by omega)
      · rw [e, hnew, hb]
      · exact m_behind h hS hr (by omega) hk
  unfold formdB
  rw [hlen, hroot, hr, hN, hcm]
  have : (l.length + 1 == 0) = false := rfl
  rw [this]; simp
omit hr in
theorem m_with (hw : withB l = true) (hl : l.length ≤ 30) : withB (moreL l (en l T) (newN l T s)) = true := by
  have he := en_le l T
  have hT := en_gt h.tl
  have hlen := more_len l (en l T) (newN l T s) he
  have hA := m_alike (s := s) h hS
  have hp := m_pOk (s := s) h hS
  unfold withB at hw ⊢
  rw [hlen, decide_eq_true (by omega), Bool.true_and, allB_iff]
  rw [Bool.and_eq_true, allB_iff] at hw
  have hd0 : dep (moreL l (en l T) (newN l T s)) 0 = 0 := dep_zero _ _ (by omega)
  have hdT : dep (moreL l (en l T) (newN l T s)) T = 1 := by
    rw [dep_up hp (show T < l.length + 1 by omega) h.t0, hA T hT, h.ta, hd0]
  intro k hk
  unfold limB
  rw [Bool.and_eq_true, decide_eq_true_iff, decide_eq_true_iff]
  rcases Nat.lt_trichotomy k (en l T) with e | e | e
  · have h1 := hw.2 k (by omega)
    unfold limB at h1
    rw [Bool.and_eq_true, decide_eq_true_iff, decide_eq_true_iff] at h1
    rw [hA k e]
    have : dep (moreL l (en l T) (newN l T s)) k = dep l k := depF_alike hA (hS.p.le he) _ _ (by omega)
    rw [this]; exact h1
  · subst e
    rw [dep_up hp hk (by omega), more_at he]
    show dep _ (T : Int) + 1 ≤ 64 ∧ _
    rw [hdT]
    exact ⟨by omega, by simp [newN]⟩
  · obtain ⟨j, rfl⟩ : ∃ j, k = j + 1 := ⟨k - 1, by omega⟩
    have hat := more_gt (x := newN l T s) he (show en l T ≤ j by omega)
    rw [dep_up hp hk (by omega), hat, (behind h hS (show j < l.length by omega) (by omega)).1, hd0]
    have h1 := hw.2 j (by omega)
    unfold limB at h1
    rw [Bool.and_eq_true, decide_eq_true_iff, decide_eq_true_iff] at h1
    exact ⟨by omega, h1.2⟩
end
end Go.Av.Doc
end
section
set_option linter.unusedSimpArgs false
set_option linter.unusedVariables false
set_option linter.unusedSectionVars false
open Go Go.Av Go.Proofs
namespace Go.Av.Doc
variable [ML]
theorem nd_ok {l : List Nd} (hok : ∀ x ∈ l, okN x) (k : Nat) : okN (nd l k) := by
  by_cases h : k < l.length
  · exact hok _ (mem_getD l k default h)
  · have : nd l k = default := by unfold nd; rw [List.getD_eq_getElem?_getD, List.getElem?_eq_none (by omega)]; rfl
    rw [this]
    exact nd0_okN
theorem means_len {l : List Nd} (hok : ∀ x ∈ l, okN x) (p : List (BitVec 8)) (n : Int) : (meansL l p n).1.length ≤ 4000000 := by
  have : ∀ f c, (meF l p f c).1.length ≤ 4000000 := by
    intro f
    induction f with
    | zero => intro c; simp [meF]
    | succ f ih =>
      intro c
      unfold meF
      split
      · split
        · rename_i h
          exact ((nd_ok hok c.toNat).ds _ (mem_getD _ _ _ h)).u
        · exact ih _
      · simp
  unfold meansL
  split
  · decide
  · exact this _ _
def zP (T : Nat) (s U : List (BitVec 8)) : PV := .agg (.vals 1 [.int .i64 1, .int .i64 T, .str ByteArray.empty, .str (txt s), .str (txt U), .str ByteArray.empty, .sl (.vals 1 []) true, .sl (.vals 1 []) true])
def zV (T : Nat) (s U : List (BitVec 8)) : List PV := [.int .i64 1, .int .i64 T, .str ByteArray.empty, .str (txt s), .str (txt U), .str ByteArray.empty, .sl (.vals 1 []) true, .sl (.vals 1 []) true]
def ndV' (x : Nd) : List PV := [.int .i64 x.k, .int .i64 x.a, .str (txt x.p), .str (txt x.l), .str (txt x.u), .str (txt x.t), .sl (dcR x.ds) x.dn, .sl (atR x.ms) x.mn]
theorem PEqs.all (L : List PV) : PEqs L L := PEqs.refl L
theorem more_eq (l : List Nd) (T e : Nat) (s : List (BitVec 8)) :
    PEq (.sl (.vals 8 ((l.take e).map ndP ++ [zP T s (meansL l [] T).1] ++ (l.drop e).map ndP)) false) (.sl (ndR (moreL l e (newN l T s))) false) := by
  have h1 : (l.take e).map ndP ++ [zP T s (meansL l [] T).1] ++ (l.drop e).map ndP = ((l.take e).map ndV' ++ [zV T s (meansL l [] T).1] ++ (l.drop e).map ndV').map agP := by
    simp only [List.map_append, List.map_map, List.map_cons, List.map_nil]; rfl
  have h2 : ndR (moreL l e (newN l T s)) = .vals 8 (((l.take e).map ndV' ++ [ndV' (newN l T s)] ++ (l.drop e).map ndV').map agP) := by
    unfold ndR moreL
    simp only [List.map_append, List.map_map, List.map_cons, List.map_nil, List.append_assoc, List.singleton_append]; rfl
  rw [h1, h2]
  refine PEq.rows false (by simp) fun i hi => ?_
  have one : ∀ x : Nd, ∀ y ∈ ndV' x, y.one = true := by intro x; simp [ndV', PV.one]
  have a8 : ∀ x : Nd, (ndV' x).length = 8 := fun x => rfl
  by_cases c1 : i < ((l.take e).map ndV').length
  · have e1 : ∀ M N : List (List PV), ((l.take e).map ndV' ++ M ++ N).getD i [] = ((l.take e).map ndV')[i] := fun M N => by
      rw [List.append_assoc, List.getD_eq_getElem?_getD, List.getElem?_append_left c1, List.getElem?_eq_getElem c1]; rfl
    rw [e1, e1, List.getElem_map]
    exact ⟨a8 _, a8 _, PEqs.refl _, one _⟩
  · by_cases c2 : i = ((l.take e).map ndV').length
    · have e1 : ∀ (z : List PV) (N : List (List PV)), ((l.take e).map ndV' ++ [z] ++ N).getD i [] = z := fun z N => by
        rw [List.append_assoc, List.getD_eq_getElem?_getD, List.getElem?_append_right (by omega), c2, Nat.sub_self]; rfl
      rw [e1, e1]
      refine ⟨rfl, rfl, ?_, one _⟩
      exact .cons (PEq.refl _) (.cons (PEq.refl _) (.cons (PEq.refl _) (.cons (PEq.refl _) (.cons (PEq.refl _) (.cons (PEq.refl _) (.cons (PEq.nil _ _ rfl rfl) (.cons (PEq.nil _ _ rfl rfl) .nil)))))))
    · have hd : i - ((l.take e).map ndV').length - 1 < ((l.drop e).map ndV').length := by simp at hi c1 c2 ⊢; omega
      have e1 : ∀ (z : List PV), ((l.take e).map ndV' ++ [z] ++ (l.drop e).map ndV').getD i [] = ((l.drop e).map ndV')[i - ((l.take e).map ndV').length - 1] := fun z => by
        rw [List.append_assoc, List.getD_eq_getElem?_getD, List.getElem?_append_right (by omega)]
        obtain ⟨j, hj⟩ : ∃ j, i - ((l.take e).map ndV').length = j + 1 := ⟨i - ((l.take e).map ndV').length - 1, by omega⟩
        simp only [hj, Nat.add_sub_cancel] at hd ⊢
        rw [List.singleton_append, List.getElem?_cons_succ, List.getElem?_eq_getElem hd]; rfl
      rw [e1, e1, List.getElem_map]
      exact ⟨a8 _, a8 _, PEqs.refl _, one _⟩
theorem app_v (a b : List PV) : appRow (.vals 8 a) (.vals 8 b) = some (.vals 8 (a ++ b)) := by rw [app_vals]
set_option maxRecDepth 16000 in
set_option maxHeartbeats 16000000 in
theorem more_law (l : List Nd) (nl : Bool) (hl : l.length ≤ 4000000) (hok : ∀ x ∈ l, okN x) (s0 : ByteArray) (hs0 : s0.size ≤ reachBytes) (ck : Fn Tryd.prog 12 [.sl (ndR l) nl] [.p (.int .i64 (chkR l))]) :
    Fn Tryd.prog 4 [.sl (ndR l) nl, .str s0] [.p (.bool true)] := by
  obtain ⟨s, rfl⟩ := txt_of s0
  rw [txt_size] at hs0
  have hsz := txt_size s
  have k10 := few_ct l nl 30 hl
  cases hF : fewB l 30 with
  | false =>
    rw [hF] at k10
    refine Fn.of_body Tryd.func4 rfl ?_
    repeat (first | ((with_reducible first | refine callK_at 9 ?_ | refine callK_at 10 ?_); refine callK_p ?_; simp (maxSteps := 1000000) (disch := refine hold_ ?_; first | (simp [-List.getD_eq_getElem?_getD]; done) | omega) [-List.getD_eq_getElem?_getD]; (first | ((with_reducible refine k1_at 9 ?_); refine callK1_of (Fn.ct awake_ct Tryd.call9) ?_) | ((with_reducible refine k1_at 10 ?_); refine callK1_of (Fn.ct k10 Tryd.call10) ?_)); (try simp (maxSteps := 1000000) (disch := refine hold_ ?_; first | (simp [-List.getD_eq_getElem?_getD]; done) | omega) [-List.getD_eq_getElem?_getD]); try first | (with_reducible refine zZ ?_) | subst hK_) | ((first | (with_reducible first | refine zP fun K_ hK_ => ?_ | refine zQ fun K_ hK_ => ?_ | refine zT ?_ | refine zU ?_ | refine zV ?_ | refine zW ?_ | refine zX ?_ | refine zY ?_) | ((with_reducible first | refine zR ?_ ?_ fun K_ hK_ => ?_ | refine zS ?_ ?_ fun K_ hK_ => ?_); (focus kernel_rfl); (focus kernel_rfl))); first | (simp (maxSteps := 1000000) (disch := refine hold_ ?_; first | (simp [-List.getD_eq_getElem?_getD]; done) | omega) [-List.getD_eq_getElem?_getD]; try first | (with_reducible refine zZ ?_) | subst hK_) | subst hK_) | (with_reducible first | refine zA ?_ | refine zB ?_ | refine zC ?_ | refine zD ?_ | refine zE ?_ | refine zF ?_ | refine zG ?_ | refine zH ?_ | refine zI ?_ | refine zJ ?_ | refine zK ?_ | refine zL ?_ | refine zM ?_ | refine zN ?_ | refine zO ?_) | ((with_reducible refine yG ?_ ?_); (focus decide)) | ((with_reducible refine yA ?_); refine yB rfl ?_; (with_reducible first | refine yC ?_ | refine yD ?_)))
    all_goals (try simp (maxSteps := 1000000) (disch := refine hold_ ?_; first | (simp [-List.getD_eq_getElem?_getD]; done) | omega) [-List.getD_eq_getElem?_getD])
  | true =>
  rw [hF] at k10
  have hl30 : l.length ≤ 30 := by
    unfold fewB at hF
    rw [Bool.and_eq_true, decide_eq_true_iff] at hF
    exact hF.1
  by_cases h100 : s.length ≤ 100
  case neg =>
    have hz : (100 : Int) < s.length := by omega
    refine Fn.of_body Tryd.func4 rfl ?_
    repeat (first | ((with_reducible first | refine callK_at 9 ?_ | refine callK_at 10 ?_); refine callK_p ?_; simp (maxSteps := 1000000) (disch := refine hold_ ?_; first | (simp [hsz, hz, -List.getD_eq_getElem?_getD]; done) | omega) [hsz, hz, -List.getD_eq_getElem?_getD]; (first | ((with_reducible refine k1_at 9 ?_); refine callK1_of (Fn.ct awake_ct Tryd.call9) ?_) | ((with_reducible refine k1_at 10 ?_); refine callK1_of (Fn.ct k10 Tryd.call10) ?_)); (try simp (maxSteps := 1000000) (disch := refine hold_ ?_; first | (simp [hsz, hz, -List.getD_eq_getElem?_getD]; done) | omega) [hsz, hz, -List.getD_eq_getElem?_getD]); try first | (with_reducible refine zZ ?_) | subst hK_) | ((first | (with_reducible first | refine zP fun K_ hK_ => ?_ | refine zQ fun K_ hK_ => ?_ | refine zT ?_ | refine zU ?_ | refine zV ?_ | refine zW ?_ | refine zX ?_ | refine zY ?_) | ((with_reducible first | refine zR ?_ ?_ fun K_ hK_ => ?_ | refine zS ?_ ?_ fun K_ hK_ => ?_); (focus kernel_rfl); (focus kernel_rfl))); first | (simp (maxSteps := 1000000) (disch := refine hold_ ?_; first | (simp [hsz, hz, -List.getD_eq_getElem?_getD]; done) | omega) [hsz, hz, -List.getD_eq_getElem?_getD]; try first | (with_reducible refine zZ ?_) | subst hK_) | subst hK_) | (with_reducible first | refine zA ?_ | refine zB ?_ | refine zC ?_ | refine zD ?_ | refine zE ?_ | refine zF ?_ | refine zG ?_ | refine zH ?_ | refine zI ?_ | refine zJ ?_ | refine zK ?_ | refine zL ?_ | refine zM ?_ | refine zN ?_ | refine zO ?_) | ((with_reducible refine yG ?_ ?_); (focus decide)) | ((with_reducible refine yA ?_); refine yB rfl ?_; (with_reducible first | refine yC ?_ | refine yD ?_)))
    all_goals (try simp (maxSteps := 1000000) (disch := refine hold_ ?_; first | (simp [-List.getD_eq_getElem?_getD]; done) | omega) [-List.getD_eq_getElem?_getD])
  have hz : ¬ (100 : Int) < s.length := by omega
  by_cases hc : chkR l = 0
  case neg =>
    have hcb : (chkR l != 0) = true := bne_iff_ne.2 hc
    refine Fn.of_body Tryd.func4 rfl ?_
    repeat (first | ((with_reducible first | refine callK_at 9 ?_ | refine callK_at 10 ?_ | refine callK_at 12 ?_); refine callK_p ?_; simp (maxSteps := 1000000) (disch := refine hold_ ?_; first | (simp [hsz, hz, hcb, -List.getD_eq_getElem?_getD]; done) | omega) [hsz, hz, hcb, -List.getD_eq_getElem?_getD]; (first | ((with_reducible refine k1_at 9 ?_); refine callK1_of (Fn.ct awake_ct Tryd.call9) ?_) | ((with_reducible refine k1_at 10 ?_); refine callK1_of (Fn.ct k10 Tryd.call10) ?_) | ((with_reducible refine k1_at 12 ?_); refine callK1_of (Fn.ct ck Tryd.call12) ?_)); (try simp (maxSteps := 1000000) (disch := refine hold_ ?_; first | (simp [hsz, hz, hcb, -List.getD_eq_getElem?_getD]; done) | omega) [hsz, hz, hcb, -List.getD_eq_getElem?_getD]); try first | (with_reducible refine zZ ?_) | subst hK_) | ((first | (with_reducible first | refine zP fun K_ hK_ => ?_ | refine zQ fun K_ hK_ => ?_ | refine zT ?_ | refine zU ?_ | refine zV ?_ | refine zW ?_ | refine zX ?_ | refine zY ?_) | ((with_reducible first | refine zR ?_ ?_ fun K_ hK_ => ?_ | refine zS ?_ ?_ fun K_ hK_ => ?_); (focus kernel_rfl); (focus kernel_rfl))); first | (simp (maxSteps := 1000000) (disch := refine hold_ ?_; first | (simp [hsz, hz, hcb, -List.getD_eq_getElem?_getD]; done) | omega) [hsz, hz, hcb, -List.getD_eq_getElem?_getD]; try first | (with_reducible refine zZ ?_) | subst hK_) | subst hK_) | (with_reducible first | refine zA ?_ | refine zB ?_ | refine zC ?_ | refine zD ?_ | refine zE ?_ | refine zF ?_ | refine zG ?_ | refine zH ?_ | refine zI ?_ | refine zJ ?_ | refine zK ?_ | refine zL ?_ | refine zM ?_ | refine zN ?_ | refine zO ?_) | ((with_reducible refine yG ?_ ?_); (focus decide)) | ((with_reducible refine yA ?_); refine yB rfl ?_; (with_reducible first | refine yC ?_ | refine yD ?_)))
    all_goals (try simp (maxSteps := 1000000) (disch := refine hold_ ?_; first | (simp [-List.getD_eq_getElem?_getD]; done) | omega) [-List.getD_eq_getElem?_getD])
  rw [hc] at ck
  have hD : formdB l = true := by
    cases h : formdB l with
    | true => rfl
    | false => unfold chkR at hc; rw [h] at hc; simp at hc
  have hW : withB l = true := by
    cases h : withB l with
    | true => rfl
    | false => unfold chkR at hc; rw [hD, h] at hc; simp at hc
  have hS := formd_stood l hD
  have hT := tops_of hD
  have hcnt : cntT l l.length = 1 ∧ rootB (nd l 0) = true := by
    unfold formdB at hD
    rw [Bool.and_eq_true, Bool.and_eq_true, Bool.and_eq_true] at hD
    exact ⟨by simpa using hD.2.2.2, hD.2.1⟩
  have k13 := rtop_ct nl hcnt.1 hl
  generalize topN l l.length = T at *
  have k14 := rend_ct l nl hl hS.p T hT.tl
  have k15 := Means_ct l nl [] T (hS.p.le hT.tl) hT.tl hok
  change Fn Tryd.prog 15 [_, _, .str (ByteArray.mk #[])] _ at k15
  have k16 := ris_ct s (by omega)
  have hle := en_le l T
  have hlez : ((en l T : Nat) : Int) ≤ l.length := by omega
  have hml := more_len l (en l T) (newN l T s) hle
  have hmok : ∀ x ∈ moreL l (en l T) (newN l T s), okN x := by
    intro x hx
    unfold moreL at hx
    rcases List.mem_append.1 hx with h1 | h1
    · exact hok x (List.mem_of_mem_take h1)
    · rcases List.mem_cons.1 h1 with h2 | h2
      · subst h2
        exact ⟨fun _ => rfl, fun _ => rfl, by simp [newN], by simp [newN], by simp [newN], by simp [newN]; omega, means_len hok [] T, by simp [newN], by simp [newN], by simp [newN]⟩
      · exact hok x (List.mem_of_mem_drop h2)
  have hmf : formdB (moreL l (en l T) (newN l T s)) = nameB s := by
    rcases m_formd (s := s) hT hS hcnt.2 with h | h
    · exact h
    · exact absurd hcnt.1 h
  have hmw := m_with (s := s) hT hS hW hl30
  have hpe := more_eq l T (en l T) s
  have hcut1 : (ndR l).cut 0 (en l T) = .vals 8 ((l.take (en l T)).map ndP) := by simp [ndR, Row.cut, List.map_take]
  have hcut2 : (ndR l).cut (en l T) l.length = .vals 8 ((l.drop (en l T)).map ndP) := by
    have : List.take l.length (List.map ndP l) = List.map ndP l := by rw [List.take_of_length_le (by simp)]
    simp only [ndR, Row.cut, this, List.map_drop]
  have ha1 := app_v [] ((l.take (en l T)).map ndP)
  rw [List.nil_append] at ha1
  have ha2 := app_v ((l.take (en l T)).map ndP) [zP T s (meansL l [] T).1]
  have ha3 := app_v ((l.take (en l T)).map ndP ++ [zP T s (meansL l [] T).1]) ((l.drop (en l T)).map ndP)
  have hn1 : ((l.take (en l T)).map ndP).length ≤ 100 := by simp; omega
  have hn2 : ((l.take (en l T)).map ndP ++ [zP T s (meansL l [] T).1]).length ≤ 100 := by simp; omega
  have hn3 : ((l.take (en l T)).map ndP ++ [zP T s (meansL l [] T).1] ++ (l.drop (en l T)).map ndP).length ≤ 100 := by simp; omega
  have hb1 : ((l.take (en l T)).map ndP).length * 128 ≤ 140737488355328 := by omega
  have hb2 : ((l.take (en l T)).map ndP ++ [zP T s (meansL l [] T).1]).length * 128 ≤ 140737488355328 := by omega
  have hb3 : ((l.take (en l T)).map ndP ++ [zP T s (meansL l [] T).1] ++ (l.drop (en l T)).map ndP).length * 128 ≤ 140737488355328 := by omega
  have w1 := wrap_succ l.length l.length (Nat.le_refl _) (by omega)
  have hmlz : (((moreL l (en l T) (newN l T s)).length : Nat) : Int) = ((l.length + 1 : Nat) : Int) := by rw [hml]
  cases hN : nameB s with
  | false =>
    rw [hN] at hmf k16
    have k11 := of_bad _ false (by omega) hmok hmf
    have c11 : Ct Tryd.prog 11 _ [] 0 _ [] 0 := Ct.args (Fn.ct k11 Tryd.call11) (.cons hpe .nil)
    clear hpe k11 hmok hmf hmw hml hmlz hn1 hn2 hn3
    generalize (l.take (en l T)).map ndP ++ [zP T s (meansL l [] T).1] ++ (l.drop (en l T)).map ndP = L3 at *
    generalize (l.take (en l T)).map ndP ++ [zP T s (meansL l [] T).1] = L2 at *
    generalize (l.take (en l T)).map ndP = L1 at *
    generalize (l.drop (en l T)).map ndP = L4 at *
    unfold zP at ha2
    generalize (meansL l [] T).1 = U at *
    generalize (meansL l [] T).2 = UO at *
    generalize en l T = EN at *
    refine Fn.of_body Tryd.func4 rfl ?_
    repeat (first | ((with_reducible first | refine callK_at 9 ?_ | refine callK_at 10 ?_ | refine callK_at 12 ?_ | refine callK_at 13 ?_ | refine callK_at 14 ?_ | refine callK_at 15 ?_ | refine callK_at 16 ?_ | refine callK_at 11 ?_); refine callK_p ?_; simp (maxSteps := 1000000) (disch := refine hold_ ?_; first | (simp [hsz, hz, hle, hlez, hcut1, hcut2, ha1, ha2, ha3, hb1, hb2, hb3, -List.getD_eq_getElem?_getD]; done) | omega) [hsz, hz, hle, hlez, hcut1, hcut2, ha1, ha2, ha3, hb1, hb2, hb3, -List.getD_eq_getElem?_getD]; (first | ((with_reducible refine k1_at 9 ?_); refine callK1_of (Fn.ct awake_ct Tryd.call9) ?_) | ((with_reducible refine k1_at 10 ?_); refine callK1_of (Fn.ct k10 Tryd.call10) ?_) | ((with_reducible refine k1_at 12 ?_); refine callK1_of (Fn.ct ck Tryd.call12) ?_) | ((with_reducible refine k1_at 13 ?_); refine callK1_of (Fn.ct k13 Tryd.call13) ?_) | ((with_reducible refine k1_at 14 ?_); refine callK1_of (Fn.ct k14 Tryd.call14) ?_) | ((with_reducible refine k1_at 15 ?_); refine callK1_of (Fn.ct k15 Tryd.call15) ?_) | ((with_reducible refine k1_at 16 ?_); refine callK1_of (Fn.ct k16 Tryd.call16) ?_) | ((with_reducible refine k1_at 11 ?_); refine callK1_of (c11) ?_)); (try simp (maxSteps := 1000000) (disch := refine hold_ ?_; first | (simp [hsz, hz, hle, hlez, hcut1, hcut2, ha1, ha2, ha3, hb1, hb2, hb3, -List.getD_eq_getElem?_getD]; done) | omega) [hsz, hz, hle, hlez, hcut1, hcut2, ha1, ha2, ha3, hb1, hb2, hb3, -List.getD_eq_getElem?_getD]); try first | (with_reducible refine zZ ?_) | subst hK_) | ((first | (with_reducible first | refine zP fun K_ hK_ => ?_ | refine zQ fun K_ hK_ => ?_ | refine zT ?_ | refine zU ?_ | refine zV ?_ | refine zW ?_ | refine zX ?_ | refine zY ?_) | ((with_reducible first | refine zR ?_ ?_ fun K_ hK_ => ?_ | refine zS ?_ ?_ fun K_ hK_ => ?_); (focus kernel_rfl); (focus kernel_rfl))); first | (simp (maxSteps := 1000000) (disch := refine hold_ ?_; first | (simp [hsz, hz, hle, hlez, hcut1, hcut2, ha1, ha2, ha3, hb1, hb2, hb3, -List.getD_eq_getElem?_getD]; done) | omega) [hsz, hz, hle, hlez, hcut1, hcut2, ha1, ha2, ha3, hb1, hb2, hb3, -List.getD_eq_getElem?_getD]; try first | (with_reducible refine zZ ?_) | subst hK_) | subst hK_) | (with_reducible first | refine zA ?_ | refine zB ?_ | refine zC ?_ | refine zD ?_ | refine zE ?_ | refine zF ?_ | refine zG ?_ | refine zH ?_ | refine zI ?_ | refine zJ ?_ | refine zK ?_ | refine zL ?_ | refine zM ?_ | refine zN ?_ | refine zO ?_) | ((with_reducible refine yG ?_ ?_); (focus decide)) | ((with_reducible refine yA ?_); refine yB rfl ?_; (with_reducible first | refine yC ?_ | refine yD ?_)))
    all_goals (try simp (maxSteps := 1000000) (disch := refine hold_ ?_; first | (simp [-List.getD_eq_getElem?_getD]; done) | omega) [-List.getD_eq_getElem?_getD])
  | true =>
    rw [hN] at hmf k16
    have k11 := of_ok _ false (by omega) hmok hmf hmw
    have k17 := len_ct (moreL l (en l T) (newN l T s)) (endR (moreL l (en l T) (newN l T s)) (moreL l (en l T) (newN l T s)).length) (topN (moreL l (en l T) (newN l T s)) (moreL l (en l T) (newN l T s)).length : Nat)
    rw [hmlz] at k17
    have c11 : Ct Tryd.prog 11 _ [] 0 _ [] 0 := Ct.args (Fn.ct k11 Tryd.call11) (.cons hpe .nil)
    clear hpe k11 hmok hmf hmw hmlz hn1 hn2 hn3
    generalize docP (moreL l (en l T) (newN l T s)) (endR (moreL l (en l T) (newN l T s)) (moreL l (en l T) (newN l T s)).length) (topN (moreL l (en l T) (newN l T s)) (moreL l (en l T) (newN l T s)).length : Nat) = D at *
    clear hml
    generalize (l.take (en l T)).map ndP ++ [zP T s (meansL l [] T).1] ++ (l.drop (en l T)).map ndP = L3 at *
    generalize (l.take (en l T)).map ndP ++ [zP T s (meansL l [] T).1] = L2 at *
    generalize (l.take (en l T)).map ndP = L1 at *
    generalize (l.drop (en l T)).map ndP = L4 at *
    unfold zP at ha2
    generalize (meansL l [] T).1 = U at *
    generalize (meansL l [] T).2 = UO at *
    generalize en l T = EN at *
    refine Fn.of_body Tryd.func4 rfl ?_
    repeat (first | ((with_reducible first | refine callK_at 9 ?_ | refine callK_at 10 ?_ | refine callK_at 12 ?_ | refine callK_at 13 ?_ | refine callK_at 14 ?_ | refine callK_at 15 ?_ | refine callK_at 16 ?_ | refine callK_at 11 ?_ | refine callK_at 17 ?_); refine callK_p ?_; simp (maxSteps := 1000000) (disch := refine hold_ ?_; first | (simp [hsz, hz, hle, hlez, hcut1, hcut2, ha1, ha2, ha3, hb1, hb2, hb3, w1, -List.getD_eq_getElem?_getD]; done) | omega) [hsz, hz, hle, hlez, hcut1, hcut2, ha1, ha2, ha3, hb1, hb2, hb3, w1, -List.getD_eq_getElem?_getD]; (first | ((with_reducible refine k1_at 9 ?_); refine callK1_of (Fn.ct awake_ct Tryd.call9) ?_) | ((with_reducible refine k1_at 10 ?_); refine callK1_of (Fn.ct k10 Tryd.call10) ?_) | ((with_reducible refine k1_at 12 ?_); refine callK1_of (Fn.ct ck Tryd.call12) ?_) | ((with_reducible refine k1_at 13 ?_); refine callK1_of (Fn.ct k13 Tryd.call13) ?_) | ((with_reducible refine k1_at 14 ?_); refine callK1_of (Fn.ct k14 Tryd.call14) ?_) | ((with_reducible refine k1_at 15 ?_); refine callK1_of (Fn.ct k15 Tryd.call15) ?_) | ((with_reducible refine k1_at 16 ?_); refine callK1_of (Fn.ct k16 Tryd.call16) ?_) | ((with_reducible refine k1_at 11 ?_); refine callK1_of (c11) ?_) | ((with_reducible refine k1_at 17 ?_); refine callK1_of (Fn.ct k17 Tryd.call17) ?_)); (try simp (maxSteps := 1000000) (disch := refine hold_ ?_; first | (simp [hsz, hz, hle, hlez, hcut1, hcut2, ha1, ha2, ha3, hb1, hb2, hb3, w1, -List.getD_eq_getElem?_getD]; done) | omega) [hsz, hz, hle, hlez, hcut1, hcut2, ha1, ha2, ha3, hb1, hb2, hb3, w1, -List.getD_eq_getElem?_getD]); try first | (with_reducible refine zZ ?_) | subst hK_) | ((first | (with_reducible first | refine zP fun K_ hK_ => ?_ | refine zQ fun K_ hK_ => ?_ | refine zT ?_ | refine zU ?_ | refine zV ?_ | refine zW ?_ | refine zX ?_ | refine zY ?_) | ((with_reducible first | refine zR ?_ ?_ fun K_ hK_ => ?_ | refine zS ?_ ?_ fun K_ hK_ => ?_); (focus kernel_rfl); (focus kernel_rfl))); first | (simp (maxSteps := 1000000) (disch := refine hold_ ?_; first | (simp [hsz, hz, hle, hlez, hcut1, hcut2, ha1, ha2, ha3, hb1, hb2, hb3, w1, -List.getD_eq_getElem?_getD]; done) | omega) [hsz, hz, hle, hlez, hcut1, hcut2, ha1, ha2, ha3, hb1, hb2, hb3, w1, -List.getD_eq_getElem?_getD]; try first | (with_reducible refine zZ ?_) | subst hK_) | subst hK_) | (with_reducible first | refine zA ?_ | refine zB ?_ | refine zC ?_ | refine zD ?_ | refine zE ?_ | refine zF ?_ | refine zG ?_ | refine zH ?_ | refine zI ?_ | refine zJ ?_ | refine zK ?_ | refine zL ?_ | refine zM ?_ | refine zN ?_ | refine zO ?_) | ((with_reducible refine yG ?_ ?_); (focus decide)) | ((with_reducible refine yA ?_); refine yB rfl ?_; (with_reducible first | refine yC ?_ | refine yD ?_)))
    all_goals (try simp (maxSteps := 1000000) (disch := refine hold_ ?_; first | (simp [-List.getD_eq_getElem?_getD]; done) | omega) [-List.getD_eq_getElem?_getD])
end Go.Av.Doc
end
section
open Go Go.Av Go.Proofs
namespace Go.Av.Doc
variable [ML]
theorem moreC_law (l : List Nd) (nl : Bool) (hl : l.length ≤ 4000000) (hok : ∀ x ∈ l, okN x) (s0 : ByteArray) (hs0 : s0.size ≤ reachBytes) :
    Fn Tryd.prog 4 [.sl (ndR l) nl, .str s0] [.p (.bool true)] := more_law l nl hl hok s0 hs0 (Check_ct l nl hl hok)
end Go.Av.Doc
end
