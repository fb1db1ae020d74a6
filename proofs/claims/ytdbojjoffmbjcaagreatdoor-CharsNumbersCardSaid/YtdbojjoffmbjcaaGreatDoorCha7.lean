/- The walks of this seat's functions, and what is known of what they reckon (Cha7). Conditions: those that each theorem names. -/
import Derived.Test.YtdbojjoffmbjcaaGreatDoorCha4
import Derived.Test.YtdbojjoffmbjcaaGreatDoorCha6
section
set_option linter.unusedSimpArgs false
set_option linter.unusedVariables false
set_option linter.unusedSectionVars false
open Go Go.Av Go.Proofs
namespace Go.Av.Cha
variable [ML]
theorem kNil : (ByteArray.mk #[]) = txt [] := rfl
def digV (c : Int) : Int := if 48 ≤ c ∧ c ≤ 57 then c - 48 else if 97 ≤ c ∧ c ≤ 102 then c - 87 else if 65 ≤ c ∧ c ≤ 70 then c - 55 else -1
def digI (c base : Int) : Int := if base ≤ digV c then -1 else digV c
def mn (x : Int) : Int := if 1114112 < x then 1114112 else x
def numF (base : Int) : Int → List (BitVec 8) → Option Int
  | n, [] => some n
  | n, c :: l => if digI (ub c) base < 0 then none else numF base (mn (n * base + digI (ub c) base)) l
def refF (base : Int) : Int → List (BitVec 8) → Option Int
  | n, [] => some n
  | n, c :: l => if digI (ub c) base < 0 then none else refF base (if n < 2097152 then n * base + digI (ub c) base else n) l
def numN (base : Int) (l : List (BitVec 8)) : Int := (numF base 0 l).getD 0
def numO (base : Int) (l : List (BitVec 8)) : Bool := (numF base 0 l).isSome && !(l == [])
theorem digV_lt (c : Int) : digV c ≤ 15 := by unfold digV; (repeat' split) <;> omega
theorem numF_cons (base n : Int) (l : List (BitVec 8)) (k : Nat) (h : k < l.length) : numF base n (l.drop k) = if digI (ub (l.getD k 0#8)) base < 0 then none else numF base (mn (n * base + digI (ub (l.getD k 0#8)) base)) (l.drop (k + 1)) := by
  have g : l.getD k 0#8 = l[k] := by simp [List.getD_eq_getElem?_getD, h]
  rw [List.drop_eq_getElem_cons h, numF, g]
theorem refF_cons (base n : Int) (l : List (BitVec 8)) (k : Nat) (h : k < l.length) : refF base n (l.drop k) = if digI (ub (l.getD k 0#8)) base < 0 then none else refF base (if n < 2097152 then n * base + digI (ub (l.getD k 0#8)) base else n) (l.drop (k + 1)) := by
  have g : l.getD k 0#8 = l[k] := by simp [List.getD_eq_getElem?_getD, h]
  rw [List.drop_eq_getElem_cons h, refF, g]
def numS (l : List (BitVec 8)) (base n : Int) (k : Nat) : St := ⟨(.p (.str (txt l)) :: .p (.int .i32 base) :: V.junk :: V.junk :: V.junk :: V.junk :: .p (.int .i32 n) :: V.junk :: V.junk :: V.junk :: V.junk :: .p (.int .i64 l.length) :: .p (.int .i64 k) :: V.junk :: V.junk :: V.junk :: V.junk :: V.junk :: V.junk :: V.junk :: V.junk :: V.junk :: V.junk :: V.junk :: V.junk :: V.junk :: V.junk :: V.junk :: V.junk :: V.junk :: V.junk :: V.junk :: V.junk :: V.junk :: V.junk :: V.junk :: V.junk :: V.junk :: V.junk :: V.junk :: V.junk :: V.junk :: V.junk :: V.junk :: V.junk :: V.junk :: V.junk :: V.junk :: V.junk :: V.junk :: V.junk :: V.junk :: V.junk :: V.junk :: V.junk :: V.junk :: V.junk :: V.junk :: V.junk :: V.junk :: V.junk :: V.junk :: []), ⟨[], []⟩⟩
def numI (l : List (BitVec 8)) (base : Int) (m : Nat) (σ : St) : Prop := ∃ (k : Nat) (n : Int), m = l.length - k ∧ k ≤ l.length ∧ 0 ≤ n ∧ n ≤ 1114112 ∧ σ = numS l base n k ∧ numF base 0 l = numF base n (l.drop k)
set_option maxHeartbeats 10000000 in
theorem number_ct (l : List (BitVec 8)) (base : Int) (hb : base = 10 ∨ base = 16) (hl : l.length ≤ 4000000) : Fn Tryz.prog 40 [.str (txt l), .int .i32 base] [.p (.int .i32 (numN base l)), .p (.bool (numO base l))] := by
  have hsz := txt_size l
  refine Fn.of_body Tryz.func40 rfl ?_
  repeat (first | ((first | (with_reducible first | refine zP fun K_ hK_ => ?_ | refine zQ fun K_ hK_ => ?_ | refine zT ?_ | refine zU ?_ | refine zV ?_ | refine zW ?_ | refine zX ?_ | refine zY ?_) | ((with_reducible first | refine zR ?_ ?_ fun K_ hK_ => ?_ | refine zS ?_ ?_ fun K_ hK_ => ?_); (focus kernel_rfl); (focus kernel_rfl))); first | (simp (maxSteps := 1000000) (disch := refine hold_ ?_; first | (simp [hsz, -List.getD_eq_getElem?_getD]; done) | omega) [hsz, -List.getD_eq_getElem?_getD]; try first | (with_reducible refine zZ ?_) | subst hK_) | subst hK_) | (with_reducible first | refine zA ?_ | refine zB ?_ | refine zC ?_ | refine zD ?_ | refine zE ?_ | refine zF ?_ | refine zG ?_ | refine zH ?_ | refine zI ?_ | refine zJ ?_ | refine zK ?_ | refine zL ?_ | refine zM ?_ | refine zN ?_ | refine zO ?_) | ((with_reducible refine yG ?_ ?_); (focus decide)) | ((with_reducible refine yA ?_); refine yB rfl ?_; (with_reducible first | refine yC ?_ | refine yD ?_)))
  refine AW.iterI (true :: true :: false :: false :: false :: false :: true :: false :: false :: false :: false :: true :: true :: false :: false :: false :: false :: false :: false :: false :: false :: false :: false :: false :: false :: false :: false :: false :: false :: false :: false :: false :: false :: false :: false :: false :: false :: false :: false :: false :: false :: false :: false :: false :: false :: false :: false :: false :: false :: false :: false :: false :: false :: false :: false :: false :: false :: false :: false :: false :: false :: false :: []) l.length (numI l base) (τ := numS l base 0 0) ?_ ⟨0, 0, by simp, Nat.zero_le _, by omega, by omega, rfl, rfl⟩ ?_
  · unfold numS
    simp (maxSteps := 1000000) (disch := refine hold_ ?_; first | (simp [-List.getD_eq_getElem?_getD]; done) | omega) [-List.getD_eq_getElem?_getD]
  rintro m σ ⟨k, n, rfl, hk, hn0, hn1, rfl, hI⟩
  have e1 : IntKind.i64.wrap ((k : Int) + 1) = k + 1 := wrap_i64 _ (by omega) (by omega)
  by_cases hkc : k < l.length
  · have hkz : (k : Int) < l.length := by omega
    have hg : (((txt l).data.toList.getD k 0).toNat : Int) = ub (l.getD k 0#8) := txt_get l k
    rw [numF_cons base n l k hkc] at hI
    have hc0 := (ub_lt (l.getD k 0#8)).1
    have hc1 := (ub_lt (l.getD k 0#8)).2
    generalize ub (l.getD k 0#8) = c at *
    have e2 : IntKind.i32.wrap c = c := wrap_i32 _ (by omega) (by omega)
    by_cases q0 : 48 ≤ c ∧ c ≤ 57
    · have p1 := q0.1
      have p2 := q0.2
      have hd : digV c = c - 48 := by unfold digV; rw [if_pos q0]
      have w1 : IntKind.i32.wrap (c - 48) = c - 48 := wrap_i32 _ (by omega) (by omega)
      have w2 := w1
      by_cases g : base ≤ c - 48
      · have hi : digI c base = -1 := by unfold digI; rw [hd, if_pos g]
        rw [hi, if_pos (by omega)] at hI
        unfold numS numN numO
        rw [hI]
        repeat (first | ((first | (with_reducible first | refine zP fun K_ hK_ => ?_ | refine zQ fun K_ hK_ => ?_ | refine zT ?_ | refine zU ?_ | refine zV ?_ | refine zW ?_ | refine zX ?_ | refine zY ?_) | ((with_reducible first | refine zR ?_ ?_ fun K_ hK_ => ?_ | refine zS ?_ ?_ fun K_ hK_ => ?_); (focus kernel_rfl); (focus kernel_rfl))); first | (simp (maxSteps := 1000000) (disch := refine hold_ ?_; first | (simp [hsz, hkz, hkc, hg, e1, e2, p1, p2, w1, w2, g, -List.getD_eq_getElem?_getD]; done) | omega) [hsz, hkz, hkc, hg, e1, e2, p1, p2, w1, w2, g, -List.getD_eq_getElem?_getD]; try first | (with_reducible refine zZ ?_) | subst hK_) | subst hK_) | (with_reducible first | refine zA ?_ | refine zB ?_ | refine zC ?_ | refine zD ?_ | refine zE ?_ | refine zF ?_ | refine zG ?_ | refine zH ?_ | refine zI ?_ | refine zJ ?_ | refine zK ?_ | refine zL ?_ | refine zM ?_ | refine zN ?_ | refine zO ?_) | ((with_reducible refine yG ?_ ?_); (focus decide)) | ((with_reducible refine yA ?_); refine yB rfl ?_; (with_reducible first | refine yC ?_ | refine yD ?_)))
        all_goals simp (maxSteps := 1000000) (disch := refine hold_ ?_; first | (simp [-List.getD_eq_getElem?_getD]; done) | omega) [-List.getD_eq_getElem?_getD]
      · have hi : digI c base = c - 48 := by unfold digI; rw [hd, if_neg g]
        rw [hi, if_neg (by omega)] at hI
        have v1 : IntKind.i32.wrap (n * base) = n * base := by rcases hb with rfl | rfl <;> exact wrap_i32 _ (by omega) (by omega)
        have v2 : IntKind.i32.wrap (n * base + (c - 48)) = n * base + (c - 48) := by rcases hb with rfl | rfl <;> exact wrap_i32 _ (by omega) (by omega)
        have v3 : (if 1114112 < n * base + (c - 48) then (1114112 : Int) else n * base + (c - 48)) = mn (n * base + (c - 48)) := rfl
        have v4 : 0 ≤ mn (n * base + (c - 48)) ∧ mn (n * base + (c - 48)) ≤ 1114112 := by unfold mn; rcases hb with rfl | rfl <;> split <;> omega
        generalize mn (n * base + (c - 48)) = n2 at *
        unfold numS
        repeat (first | ((first | (with_reducible first | refine zP fun K_ hK_ => ?_ | refine zQ fun K_ hK_ => ?_ | refine zT ?_ | refine zU ?_ | refine zV ?_ | refine zW ?_ | refine zX ?_ | refine zY ?_) | ((with_reducible first | refine zR ?_ ?_ fun K_ hK_ => ?_ | refine zS ?_ ?_ fun K_ hK_ => ?_); (focus kernel_rfl); (focus kernel_rfl))); first | (simp (maxSteps := 1000000) (disch := refine hold_ ?_; first | (simp [hsz, hkz, hkc, hg, e1, e2, p1, p2, w1, w2, g, v1, v2, v3, -List.getD_eq_getElem?_getD]; done) | omega) [hsz, hkz, hkc, hg, e1, e2, p1, p2, w1, w2, g, v1, v2, v3, -List.getD_eq_getElem?_getD]; try first | (with_reducible refine zZ ?_) | subst hK_) | subst hK_) | (with_reducible first | refine zA ?_ | refine zB ?_ | refine zC ?_ | refine zD ?_ | refine zE ?_ | refine zF ?_ | refine zG ?_ | refine zH ?_ | refine zI ?_ | refine zJ ?_ | refine zK ?_ | refine zL ?_ | refine zM ?_ | refine zN ?_ | refine zO ?_) | ((with_reducible refine yG ?_ ?_); (focus decide)) | ((with_reducible refine yA ?_); refine yB rfl ?_; (with_reducible first | refine yC ?_ | refine yD ?_)))
        refine ⟨l.length - (k + 1), numS l base n2 (k + 1), by omega, ?_, k + 1, n2, rfl, hkc, v4.1, v4.2, rfl, hI⟩
        unfold numS
        simp (maxSteps := 1000000) (disch := refine hold_ ?_; first | (simp [-List.getD_eq_getElem?_getD]; done) | omega) [-List.getD_eq_getElem?_getD]
    by_cases q1 : 97 ≤ c ∧ c ≤ 102
    · have p1 := q1.1
      have p2 := q1.2
      have m0 : ¬ (48 ≤ c ∧ c ≤ 57) := q0
      have hd : digV c = c - 87 := by unfold digV; rw [if_neg q0]; rw [if_pos q1]
      have w1 : IntKind.i32.wrap (c - 97) = c - 97 := wrap_i32 _ (by omega) (by omega)
      have w2 : IntKind.i32.wrap (c - 97 + 10) = c - 87 := (wrap_i32 _ (by omega) (by omega)).trans (by omega)
      have x0 : ¬ c ≤ 57 := by omega
      have x1 : 48 ≤ c := by omega
      by_cases g : base ≤ c - 87
      · have hi : digI c base = -1 := by unfold digI; rw [hd, if_pos g]
        rw [hi, if_pos (by omega)] at hI
        unfold numS numN numO
        rw [hI]
        repeat (first | ((first | (with_reducible first | refine zP fun K_ hK_ => ?_ | refine zQ fun K_ hK_ => ?_ | refine zT ?_ | refine zU ?_ | refine zV ?_ | refine zW ?_ | refine zX ?_ | refine zY ?_) | ((with_reducible first | refine zR ?_ ?_ fun K_ hK_ => ?_ | refine zS ?_ ?_ fun K_ hK_ => ?_); (focus kernel_rfl); (focus kernel_rfl))); first | (simp (maxSteps := 1000000) (disch := refine hold_ ?_; first | (simp [hsz, hkz, hkc, hg, e1, e2, p1, p2, w1, w2, x0, x1, g, -List.getD_eq_getElem?_getD]; done) | omega) [hsz, hkz, hkc, hg, e1, e2, p1, p2, w1, w2, x0, x1, g, -List.getD_eq_getElem?_getD]; try first | (with_reducible refine zZ ?_) | subst hK_) | subst hK_) | (with_reducible first | refine zA ?_ | refine zB ?_ | refine zC ?_ | refine zD ?_ | refine zE ?_ | refine zF ?_ | refine zG ?_ | refine zH ?_ | refine zI ?_ | refine zJ ?_ | refine zK ?_ | refine zL ?_ | refine zM ?_ | refine zN ?_ | refine zO ?_) | ((with_reducible refine yG ?_ ?_); (focus decide)) | ((with_reducible refine yA ?_); refine yB rfl ?_; (with_reducible first | refine yC ?_ | refine yD ?_)))
        all_goals simp (maxSteps := 1000000) (disch := refine hold_ ?_; first | (simp [-List.getD_eq_getElem?_getD]; done) | omega) [-List.getD_eq_getElem?_getD]
      · have hi : digI c base = c - 87 := by unfold digI; rw [hd, if_neg g]
        rw [hi, if_neg (by omega)] at hI
        have v1 : IntKind.i32.wrap (n * base) = n * base := by rcases hb with rfl | rfl <;> exact wrap_i32 _ (by omega) (by omega)
        have v2 : IntKind.i32.wrap (n * base + (c - 87)) = n * base + (c - 87) := by rcases hb with rfl | rfl <;> exact wrap_i32 _ (by omega) (by omega)
        have v3 : (if 1114112 < n * base + (c - 87) then (1114112 : Int) else n * base + (c - 87)) = mn (n * base + (c - 87)) := rfl
        have v4 : 0 ≤ mn (n * base + (c - 87)) ∧ mn (n * base + (c - 87)) ≤ 1114112 := by unfold mn; rcases hb with rfl | rfl <;> split <;> omega
        generalize mn (n * base + (c - 87)) = n2 at *
        unfold numS
        repeat (first | ((first | (with_reducible first | refine zP fun K_ hK_ => ?_ | refine zQ fun K_ hK_ => ?_ | refine zT ?_ | refine zU ?_ | refine zV ?_ | refine zW ?_ | refine zX ?_ | refine zY ?_) | ((with_reducible first | refine zR ?_ ?_ fun K_ hK_ => ?_ | refine zS ?_ ?_ fun K_ hK_ => ?_); (focus kernel_rfl); (focus kernel_rfl))); first | (simp (maxSteps := 1000000) (disch := refine hold_ ?_; first | (simp [hsz, hkz, hkc, hg, e1, e2, p1, p2, w1, w2, x0, x1, g, v1, v2, v3, -List.getD_eq_getElem?_getD]; done) | omega) [hsz, hkz, hkc, hg, e1, e2, p1, p2, w1, w2, x0, x1, g, v1, v2, v3, -List.getD_eq_getElem?_getD]; try first | (with_reducible refine zZ ?_) | subst hK_) | subst hK_) | (with_reducible first | refine zA ?_ | refine zB ?_ | refine zC ?_ | refine zD ?_ | refine zE ?_ | refine zF ?_ | refine zG ?_ | refine zH ?_ | refine zI ?_ | refine zJ ?_ | refine zK ?_ | refine zL ?_ | refine zM ?_ | refine zN ?_ | refine zO ?_) | ((with_reducible refine yG ?_ ?_); (focus decide)) | ((with_reducible refine yA ?_); refine yB rfl ?_; (with_reducible first | refine yC ?_ | refine yD ?_)))
        refine ⟨l.length - (k + 1), numS l base n2 (k + 1), by omega, ?_, k + 1, n2, rfl, hkc, v4.1, v4.2, rfl, hI⟩
        unfold numS
        simp (maxSteps := 1000000) (disch := refine hold_ ?_; first | (simp [-List.getD_eq_getElem?_getD]; done) | omega) [-List.getD_eq_getElem?_getD]
    by_cases q2 : 65 ≤ c ∧ c ≤ 70
    · have p1 := q2.1
      have p2 := q2.2
      have m0 : ¬ (48 ≤ c ∧ c ≤ 57) := q0
      have m1 : ¬ (97 ≤ c ∧ c ≤ 102) := q1
      have hd : digV c = c - 55 := by unfold digV; rw [if_neg q0]; rw [if_neg q1]; rw [if_pos q2]
      have w1 : IntKind.i32.wrap (c - 65) = c - 65 := wrap_i32 _ (by omega) (by omega)
      have w2 : IntKind.i32.wrap (c - 65 + 10) = c - 55 := (wrap_i32 _ (by omega) (by omega)).trans (by omega)
      have x0 : ¬ c ≤ 57 := by omega
      have x1 : 48 ≤ c := by omega
      have x2 : ¬ 97 ≤ c := by omega
      by_cases g : base ≤ c - 55
      · have hi : digI c base = -1 := by unfold digI; rw [hd, if_pos g]
        rw [hi, if_pos (by omega)] at hI
        unfold numS numN numO
        rw [hI]
        repeat (first | ((first | (with_reducible first | refine zP fun K_ hK_ => ?_ | refine zQ fun K_ hK_ => ?_ | refine zT ?_ | refine zU ?_ | refine zV ?_ | refine zW ?_ | refine zX ?_ | refine zY ?_) | ((with_reducible first | refine zR ?_ ?_ fun K_ hK_ => ?_ | refine zS ?_ ?_ fun K_ hK_ => ?_); (focus kernel_rfl); (focus kernel_rfl))); first | (simp (maxSteps := 1000000) (disch := refine hold_ ?_; first | (simp [hsz, hkz, hkc, hg, e1, e2, p1, p2, w1, w2, x0, x1, x2, g, -List.getD_eq_getElem?_getD]; done) | omega) [hsz, hkz, hkc, hg, e1, e2, p1, p2, w1, w2, x0, x1, x2, g, -List.getD_eq_getElem?_getD]; try first | (with_reducible refine zZ ?_) | subst hK_) | subst hK_) | (with_reducible first | refine zA ?_ | refine zB ?_ | refine zC ?_ | refine zD ?_ | refine zE ?_ | refine zF ?_ | refine zG ?_ | refine zH ?_ | refine zI ?_ | refine zJ ?_ | refine zK ?_ | refine zL ?_ | refine zM ?_ | refine zN ?_ | refine zO ?_) | ((with_reducible refine yG ?_ ?_); (focus decide)) | ((with_reducible refine yA ?_); refine yB rfl ?_; (with_reducible first | refine yC ?_ | refine yD ?_)))
        all_goals simp (maxSteps := 1000000) (disch := refine hold_ ?_; first | (simp [-List.getD_eq_getElem?_getD]; done) | omega) [-List.getD_eq_getElem?_getD]
      · have hi : digI c base = c - 55 := by unfold digI; rw [hd, if_neg g]
        rw [hi, if_neg (by omega)] at hI
        have v1 : IntKind.i32.wrap (n * base) = n * base := by rcases hb with rfl | rfl <;> exact wrap_i32 _ (by omega) (by omega)
        have v2 : IntKind.i32.wrap (n * base + (c - 55)) = n * base + (c - 55) := by rcases hb with rfl | rfl <;> exact wrap_i32 _ (by omega) (by omega)
        have v3 : (if 1114112 < n * base + (c - 55) then (1114112 : Int) else n * base + (c - 55)) = mn (n * base + (c - 55)) := rfl
        have v4 : 0 ≤ mn (n * base + (c - 55)) ∧ mn (n * base + (c - 55)) ≤ 1114112 := by unfold mn; rcases hb with rfl | rfl <;> split <;> omega
        generalize mn (n * base + (c - 55)) = n2 at *
        unfold numS
        repeat (first | ((first | (with_reducible first | refine zP fun K_ hK_ => ?_ | refine zQ fun K_ hK_ => ?_ | refine zT ?_ | refine zU ?_ | refine zV ?_ | refine zW ?_ | refine zX ?_ | refine zY ?_) | ((with_reducible first | refine zR ?_ ?_ fun K_ hK_ => ?_ | refine zS ?_ ?_ fun K_ hK_ => ?_); (focus kernel_rfl); (focus kernel_rfl))); first | (simp (maxSteps := 1000000) (disch := refine hold_ ?_; first | (simp [hsz, hkz, hkc, hg, e1, e2, p1, p2, w1, w2, x0, x1, x2, g, v1, v2, v3, -List.getD_eq_getElem?_getD]; done) | omega) [hsz, hkz, hkc, hg, e1, e2, p1, p2, w1, w2, x0, x1, x2, g, v1, v2, v3, -List.getD_eq_getElem?_getD]; try first | (with_reducible refine zZ ?_) | subst hK_) | subst hK_) | (with_reducible first | refine zA ?_ | refine zB ?_ | refine zC ?_ | refine zD ?_ | refine zE ?_ | refine zF ?_ | refine zG ?_ | refine zH ?_ | refine zI ?_ | refine zJ ?_ | refine zK ?_ | refine zL ?_ | refine zM ?_ | refine zN ?_ | refine zO ?_) | ((with_reducible refine yG ?_ ?_); (focus decide)) | ((with_reducible refine yA ?_); refine yB rfl ?_; (with_reducible first | refine yC ?_ | refine yD ?_)))
        refine ⟨l.length - (k + 1), numS l base n2 (k + 1), by omega, ?_, k + 1, n2, rfl, hkc, v4.1, v4.2, rfl, hI⟩
        unfold numS
        simp (maxSteps := 1000000) (disch := refine hold_ ?_; first | (simp [-List.getD_eq_getElem?_getD]; done) | omega) [-List.getD_eq_getElem?_getD]
    have hd : digV c = -1 := by unfold digV; rw [if_neg q0, if_neg q1, if_neg q2]
    have hbb : 0 < base := by omega
    have hi : digI c base = -1 := by unfold digI; rw [hd, if_neg (by omega)]
    rw [hi, if_pos (by omega)] at hI
    unfold numS numN numO
    rw [hI]
    rcases (by omega : c < 48 ∨ (57 < c ∧ c < 65) ∨ (70 < c ∧ c < 97) ∨ 102 < c) with r | r | r | r
    · have y0 : ¬ 48 ≤ c := by omega
      have y1 : ¬ 97 ≤ c := by omega
      have y2 : ¬ 65 ≤ c := by omega
      repeat (first | ((first | (with_reducible first | refine zP fun K_ hK_ => ?_ | refine zQ fun K_ hK_ => ?_ | refine zT ?_ | refine zU ?_ | refine zV ?_ | refine zW ?_ | refine zX ?_ | refine zY ?_) | ((with_reducible first | refine zR ?_ ?_ fun K_ hK_ => ?_ | refine zS ?_ ?_ fun K_ hK_ => ?_); (focus kernel_rfl); (focus kernel_rfl))); first | (simp (maxSteps := 1000000) (disch := refine hold_ ?_; first | (simp [hsz, hkz, hkc, hg, e1, e2, y0, y1, y2, -List.getD_eq_getElem?_getD]; done) | omega) [hsz, hkz, hkc, hg, e1, e2, y0, y1, y2, -List.getD_eq_getElem?_getD]; try first | (with_reducible refine zZ ?_) | subst hK_) | subst hK_) | (with_reducible first | refine zA ?_ | refine zB ?_ | refine zC ?_ | refine zD ?_ | refine zE ?_ | refine zF ?_ | refine zG ?_ | refine zH ?_ | refine zI ?_ | refine zJ ?_ | refine zK ?_ | refine zL ?_ | refine zM ?_ | refine zN ?_ | refine zO ?_) | ((with_reducible refine yG ?_ ?_); (focus decide)) | ((with_reducible refine yA ?_); refine yB rfl ?_; (with_reducible first | refine yC ?_ | refine yD ?_)))
      all_goals simp (maxSteps := 1000000) (disch := refine hold_ ?_; first | (simp [-List.getD_eq_getElem?_getD]; done) | omega) [-List.getD_eq_getElem?_getD]
    · have y0 : 48 ≤ c := by omega
      have y1 : ¬ c ≤ 57 := by omega
      have y2 : ¬ 97 ≤ c := by omega
      have y3 : ¬ 65 ≤ c := by omega
      repeat (first | ((first | (with_reducible first | refine zP fun K_ hK_ => ?_ | refine zQ fun K_ hK_ => ?_ | refine zT ?_ | refine zU ?_ | refine zV ?_ | refine zW ?_ | refine zX ?_ | refine zY ?_) | ((with_reducible first | refine zR ?_ ?_ fun K_ hK_ => ?_ | refine zS ?_ ?_ fun K_ hK_ => ?_); (focus kernel_rfl); (focus kernel_rfl))); first | (simp (maxSteps := 1000000) (disch := refine hold_ ?_; first | (simp [hsz, hkz, hkc, hg, e1, e2, y0, y1, y2, y3, -List.getD_eq_getElem?_getD]; done) | omega) [hsz, hkz, hkc, hg, e1, e2, y0, y1, y2, y3, -List.getD_eq_getElem?_getD]; try first | (with_reducible refine zZ ?_) | subst hK_) | subst hK_) | (with_reducible first | refine zA ?_ | refine zB ?_ | refine zC ?_ | refine zD ?_ | refine zE ?_ | refine zF ?_ | refine zG ?_ | refine zH ?_ | refine zI ?_ | refine zJ ?_ | refine zK ?_ | refine zL ?_ | refine zM ?_ | refine zN ?_ | refine zO ?_) | ((with_reducible refine yG ?_ ?_); (focus decide)) | ((with_reducible refine yA ?_); refine yB rfl ?_; (with_reducible first | refine yC ?_ | refine yD ?_)))
      all_goals simp (maxSteps := 1000000) (disch := refine hold_ ?_; first | (simp [-List.getD_eq_getElem?_getD]; done) | omega) [-List.getD_eq_getElem?_getD]
    · have y0 : 48 ≤ c := by omega
      have y1 : ¬ c ≤ 57 := by omega
      have y2 : ¬ 97 ≤ c := by omega
      have y3 : 65 ≤ c := by omega
      have y4 : ¬ c ≤ 70 := by omega
      repeat (first | ((first | (with_reducible first | refine zP fun K_ hK_ => ?_ | refine zQ fun K_ hK_ => ?_ | refine zT ?_ | refine zU ?_ | refine zV ?_ | refine zW ?_ | refine zX ?_ | refine zY ?_) | ((with_reducible first | refine zR ?_ ?_ fun K_ hK_ => ?_ | refine zS ?_ ?_ fun K_ hK_ => ?_); (focus kernel_rfl); (focus kernel_rfl))); first | (simp (maxSteps := 1000000) (disch := refine hold_ ?_; first | (simp [hsz, hkz, hkc, hg, e1, e2, y0, y1, y2, y3, y4, -List.getD_eq_getElem?_getD]; done) | omega) [hsz, hkz, hkc, hg, e1, e2, y0, y1, y2, y3, y4, -List.getD_eq_getElem?_getD]; try first | (with_reducible refine zZ ?_) | subst hK_) | subst hK_) | (with_reducible first | refine zA ?_ | refine zB ?_ | refine zC ?_ | refine zD ?_ | refine zE ?_ | refine zF ?_ | refine zG ?_ | refine zH ?_ | refine zI ?_ | refine zJ ?_ | refine zK ?_ | refine zL ?_ | refine zM ?_ | refine zN ?_ | refine zO ?_) | ((with_reducible refine yG ?_ ?_); (focus decide)) | ((with_reducible refine yA ?_); refine yB rfl ?_; (with_reducible first | refine yC ?_ | refine yD ?_)))
      all_goals simp (maxSteps := 1000000) (disch := refine hold_ ?_; first | (simp [-List.getD_eq_getElem?_getD]; done) | omega) [-List.getD_eq_getElem?_getD]
    · have y0 : 48 ≤ c := by omega
      have y1 : ¬ c ≤ 57 := by omega
      have y2 : 97 ≤ c := by omega
      have y3 : ¬ c ≤ 102 := by omega
      have y4 : 65 ≤ c := by omega
      have y5 : ¬ c ≤ 70 := by omega
      repeat (first | ((first | (with_reducible first | refine zP fun K_ hK_ => ?_ | refine zQ fun K_ hK_ => ?_ | refine zT ?_ | refine zU ?_ | refine zV ?_ | refine zW ?_ | refine zX ?_ | refine zY ?_) | ((with_reducible first | refine zR ?_ ?_ fun K_ hK_ => ?_ | refine zS ?_ ?_ fun K_ hK_ => ?_); (focus kernel_rfl); (focus kernel_rfl))); first | (simp (maxSteps := 1000000) (disch := refine hold_ ?_; first | (simp [hsz, hkz, hkc, hg, e1, e2, y0, y1, y2, y3, y4, y5, -List.getD_eq_getElem?_getD]; done) | omega) [hsz, hkz, hkc, hg, e1, e2, y0, y1, y2, y3, y4, y5, -List.getD_eq_getElem?_getD]; try first | (with_reducible refine zZ ?_) | subst hK_) | subst hK_) | (with_reducible first | refine zA ?_ | refine zB ?_ | refine zC ?_ | refine zD ?_ | refine zE ?_ | refine zF ?_ | refine zG ?_ | refine zH ?_ | refine zI ?_ | refine zJ ?_ | refine zK ?_ | refine zL ?_ | refine zM ?_ | refine zN ?_ | refine zO ?_) | ((with_reducible refine yG ?_ ?_); (focus decide)) | ((with_reducible refine yA ?_); refine yB rfl ?_; (with_reducible first | refine yC ?_ | refine yD ?_)))
      all_goals simp (maxSteps := 1000000) (disch := refine hold_ ?_; first | (simp [-List.getD_eq_getElem?_getD]; done) | omega) [-List.getD_eq_getElem?_getD]
  · have hk2 : k = l.length := by omega
    subst hk2
    have hne : ¬ (l.length : Int) < l.length := by omega
    rw [List.drop_length] at hI
    have hF : numF base 0 l = some n := hI
    have hq := str_neq_txt l []
    unfold numS numN numO
    rw [hF]
    repeat (first | ((first | (with_reducible first | refine zP fun K_ hK_ => ?_ | refine zQ fun K_ hK_ => ?_ | refine zT ?_ | refine zU ?_ | refine zV ?_ | refine zW ?_ | refine zX ?_ | refine zY ?_) | ((with_reducible first | refine zR ?_ ?_ fun K_ hK_ => ?_ | refine zS ?_ ?_ fun K_ hK_ => ?_); (focus kernel_rfl); (focus kernel_rfl))); first | (simp (maxSteps := 1000000) (disch := refine hold_ ?_; first | (simp [hsz, hne, kNil, hq, -List.getD_eq_getElem?_getD]; done) | omega) [hsz, hne, kNil, hq, -List.getD_eq_getElem?_getD]; try first | (with_reducible refine zZ ?_) | subst hK_) | subst hK_) | (with_reducible first | refine zA ?_ | refine zB ?_ | refine zC ?_ | refine zD ?_ | refine zE ?_ | refine zF ?_ | refine zG ?_ | refine zH ?_ | refine zI ?_ | refine zJ ?_ | refine zK ?_ | refine zL ?_ | refine zM ?_ | refine zN ?_ | refine zO ?_) | ((with_reducible refine yG ?_ ?_); (focus decide)) | ((with_reducible refine yA ?_); refine yB rfl ?_; (with_reducible first | refine yC ?_ | refine yD ?_)))
    all_goals simp (maxSteps := 1000000) (disch := refine hold_ ?_; first | (simp [-List.getD_eq_getElem?_getD]; done) | omega) [-List.getD_eq_getElem?_getD]
end Go.Av.Cha
end
section
set_option linter.unusedSimpArgs false
set_option linter.unusedVariables false
set_option linter.unusedSectionVars false
open Go Go.Av Go.Proofs
namespace Go.Av.Cha
variable [ML]
theorem sLt : (ByteArray.mk #[108, 116]) = txt [108#8, 116#8] := rfl
theorem sGt : (ByteArray.mk #[103, 116]) = txt [103#8, 116#8] := rfl
theorem sAmp : (ByteArray.mk #[97, 109, 112]) = txt [97#8, 109#8, 112#8] := rfl
theorem sApos : (ByteArray.mk #[97, 112, 111, 115]) = txt [97#8, 112#8, 111#8, 115#8] := rfl
theorem sQuot : (ByteArray.mk #[113, 117, 111, 116]) = txt [113#8, 117#8, 111#8, 116#8] := rfl
theorem vLt : (ByteArray.mk #[60]) = txt [60#8] := rfl
theorem vGt : (ByteArray.mk #[62]) = txt [62#8] := rfl
theorem vAmp : (ByteArray.mk #[38]) = txt [38#8] := rfl
theorem vApos : (ByteArray.mk #[39]) = txt [39#8] := rfl
theorem vQuot : (ByteArray.mk #[34]) = txt [34#8] := rfl
theorem vHash : (ByteArray.mk #[35]) = txt [35#8] := rfl
theorem vX : (ByteArray.mk #[120]) = txt [120#8] := rfl
theorem str_eql (a b : List (BitVec 8)) : strBin .eql (txt a) (txt b) = some (.bool (a == b)) := str_eq_txt a b
def namedV (s : List (BitVec 8)) : Option (List (BitVec 8)) :=
  if s = [108#8, 116#8] then some [60#8] else if s = [103#8, 116#8] then some [62#8] else if s = [97#8, 109#8, 112#8] then some [38#8] else if s = [97#8, 112#8, 111#8, 115#8] then some [39#8] else if s = [113#8, 117#8, 111#8, 116#8] then some [34#8] else none
def resV : Option (List (BitVec 8)) → List V
  | none => [.p (.str (txt [])), .p (.bool false)]
  | some x => [.p (.str (txt x)), .p (.bool true)]
def chV (n : Int) : Option (List (BitVec 8)) := if xmlB n = true then some (encL n) else none
def numV (base : Int) (d : List (BitVec 8)) : Option (List (BitVec 8)) := if numO base d = true then chV (numN base d) else none
def standsV (s : List (BitVec 8)) : Option (List (BitVec 8)) :=
  if s.head? = some 35#8 then (if (s.drop 1).head? = some 120#8 then numV 16 ((s.drop 1).drop 1) else numV 10 (s.drop 1)) else namedV s
theorem preB_one (s : List (BitVec 8)) (c : BitVec 8) : preB s [c] = decide (s.head? = some c) := by
  unfold preB
  cases s with
  | nil => simp
  | cons b l =>
    simp [List.take_succ_cons]
    rfl
set_option maxHeartbeats 8000000 in
theorem named_ct (s : List (BitVec 8)) : Fn Tryz.prog 39 [.str (txt s)] (resV (namedV s)) := by
  refine Fn.of_body Tryz.func39 rfl ?_
  unfold namedV
  by_cases h1 : s = [108#8, 116#8]
  · rw [if_pos h1, h1]
    repeat (first | ((first | (with_reducible first | refine zP fun K_ hK_ => ?_ | refine zQ fun K_ hK_ => ?_ | refine zT ?_ | refine zU ?_ | refine zV ?_ | refine zW ?_ | refine zX ?_ | refine zY ?_) | ((with_reducible first | refine zR ?_ ?_ fun K_ hK_ => ?_ | refine zS ?_ ?_ fun K_ hK_ => ?_); (focus kernel_rfl); (focus kernel_rfl))); first | (simp (maxSteps := 1000000) (disch := refine hold_ ?_; first | (simp [kNil, sLt, vLt, str_eql, -List.getD_eq_getElem?_getD]; done) | omega) [kNil, sLt, vLt, str_eql, -List.getD_eq_getElem?_getD]; try first | (with_reducible refine zZ ?_) | subst hK_) | subst hK_) | (with_reducible first | refine zA ?_ | refine zB ?_ | refine zC ?_ | refine zD ?_ | refine zE ?_ | refine zF ?_ | refine zG ?_ | refine zH ?_ | refine zI ?_ | refine zJ ?_ | refine zK ?_ | refine zL ?_ | refine zM ?_ | refine zN ?_ | refine zO ?_) | ((with_reducible refine yG ?_ ?_); (focus decide)) | ((with_reducible refine yA ?_); refine yB rfl ?_; (with_reducible first | refine yC ?_ | refine yD ?_)))
    all_goals simp (maxSteps := 1000000) (disch := refine hold_ ?_; first | (simp [resV, -List.getD_eq_getElem?_getD]; done) | omega) [resV, -List.getD_eq_getElem?_getD]
  rw [if_neg h1]
  have b1 : (s == [108#8, 116#8]) = false := beq_eq_false_iff_ne.2 h1
  by_cases h2 : s = [103#8, 116#8]
  · rw [if_pos h2]
    have g : (s == [103#8, 116#8]) = true := beq_iff_eq.2 h2
    clear h2 h1
    repeat (first | ((first | (with_reducible first | refine zP fun K_ hK_ => ?_ | refine zQ fun K_ hK_ => ?_ | refine zT ?_ | refine zU ?_ | refine zV ?_ | refine zW ?_ | refine zX ?_ | refine zY ?_) | ((with_reducible first | refine zR ?_ ?_ fun K_ hK_ => ?_ | refine zS ?_ ?_ fun K_ hK_ => ?_); (focus kernel_rfl); (focus kernel_rfl))); first | (simp (maxSteps := 1000000) (disch := refine hold_ ?_; first | (simp [kNil, sLt, sGt, vGt, str_eql, b1, g, -List.getD_eq_getElem?_getD]; done) | omega) [kNil, sLt, sGt, vGt, str_eql, b1, g, -List.getD_eq_getElem?_getD]; try first | (with_reducible refine zZ ?_) | subst hK_) | subst hK_) | (with_reducible first | refine zA ?_ | refine zB ?_ | refine zC ?_ | refine zD ?_ | refine zE ?_ | refine zF ?_ | refine zG ?_ | refine zH ?_ | refine zI ?_ | refine zJ ?_ | refine zK ?_ | refine zL ?_ | refine zM ?_ | refine zN ?_ | refine zO ?_) | ((with_reducible refine yG ?_ ?_); (focus decide)) | ((with_reducible refine yA ?_); refine yB rfl ?_; (with_reducible first | refine yC ?_ | refine yD ?_)))
    all_goals simp (maxSteps := 1000000) (disch := refine hold_ ?_; first | (simp [resV, -List.getD_eq_getElem?_getD]; done) | omega) [resV, -List.getD_eq_getElem?_getD]
  rw [if_neg h2]
  have b2 : (s == [103#8, 116#8]) = false := beq_eq_false_iff_ne.2 h2
  by_cases h3 : s = [97#8, 109#8, 112#8]
  · rw [if_pos h3]
    have g : (s == [97#8, 109#8, 112#8]) = true := beq_iff_eq.2 h3
    clear h3 h2 h1
    repeat (first | ((first | (with_reducible first | refine zP fun K_ hK_ => ?_ | refine zQ fun K_ hK_ => ?_ | refine zT ?_ | refine zU ?_ | refine zV ?_ | refine zW ?_ | refine zX ?_ | refine zY ?_) | ((with_reducible first | refine zR ?_ ?_ fun K_ hK_ => ?_ | refine zS ?_ ?_ fun K_ hK_ => ?_); (focus kernel_rfl); (focus kernel_rfl))); first | (simp (maxSteps := 1000000) (disch := refine hold_ ?_; first | (simp [kNil, sLt, sGt, sAmp, vAmp, str_eql, b1, b2, g, -List.getD_eq_getElem?_getD]; done) | omega) [kNil, sLt, sGt, sAmp, vAmp, str_eql, b1, b2, g, -List.getD_eq_getElem?_getD]; try first | (with_reducible refine zZ ?_) | subst hK_) | subst hK_) | (with_reducible first | refine zA ?_ | refine zB ?_ | refine zC ?_ | refine zD ?_ | refine zE ?_ | refine zF ?_ | refine zG ?_ | refine zH ?_ | refine zI ?_ | refine zJ ?_ | refine zK ?_ | refine zL ?_ | refine zM ?_ | refine zN ?_ | refine zO ?_) | ((with_reducible refine yG ?_ ?_); (focus decide)) | ((with_reducible refine yA ?_); refine yB rfl ?_; (with_reducible first | refine yC ?_ | refine yD ?_)))
    all_goals simp (maxSteps := 1000000) (disch := refine hold_ ?_; first | (simp [resV, -List.getD_eq_getElem?_getD]; done) | omega) [resV, -List.getD_eq_getElem?_getD]
  rw [if_neg h3]
  have b3 : (s == [97#8, 109#8, 112#8]) = false := beq_eq_false_iff_ne.2 h3
  by_cases h4 : s = [97#8, 112#8, 111#8, 115#8]
  · rw [if_pos h4]
    have g : (s == [97#8, 112#8, 111#8, 115#8]) = true := beq_iff_eq.2 h4
    clear h4 h3 h2 h1
    repeat (first | ((first | (with_reducible first | refine zP fun K_ hK_ => ?_ | refine zQ fun K_ hK_ => ?_ | refine zT ?_ | refine zU ?_ | refine zV ?_ | refine zW ?_ | refine zX ?_ | refine zY ?_) | ((with_reducible first | refine zR ?_ ?_ fun K_ hK_ => ?_ | refine zS ?_ ?_ fun K_ hK_ => ?_); (focus kernel_rfl); (focus kernel_rfl))); first | (simp (maxSteps := 1000000) (disch := refine hold_ ?_; first | (simp [kNil, sLt, sGt, sAmp, sApos, vApos, str_eql, b1, b2, b3, g, -List.getD_eq_getElem?_getD]; done) | omega) [kNil, sLt, sGt, sAmp, sApos, vApos, str_eql, b1, b2, b3, g, -List.getD_eq_getElem?_getD]; try first | (with_reducible refine zZ ?_) | subst hK_) | subst hK_) | (with_reducible first | refine zA ?_ | refine zB ?_ | refine zC ?_ | refine zD ?_ | refine zE ?_ | refine zF ?_ | refine zG ?_ | refine zH ?_ | refine zI ?_ | refine zJ ?_ | refine zK ?_ | refine zL ?_ | refine zM ?_ | refine zN ?_ | refine zO ?_) | ((with_reducible refine yG ?_ ?_); (focus decide)) | ((with_reducible refine yA ?_); refine yB rfl ?_; (with_reducible first | refine yC ?_ | refine yD ?_)))
    all_goals simp (maxSteps := 1000000) (disch := refine hold_ ?_; first | (simp [resV, -List.getD_eq_getElem?_getD]; done) | omega) [resV, -List.getD_eq_getElem?_getD]
  rw [if_neg h4]
  have b4 : (s == [97#8, 112#8, 111#8, 115#8]) = false := beq_eq_false_iff_ne.2 h4
  by_cases h5 : s = [113#8, 117#8, 111#8, 116#8]
  · rw [if_pos h5]
    have g : (s == [113#8, 117#8, 111#8, 116#8]) = true := beq_iff_eq.2 h5
    clear h5 h4 h3 h2 h1
    repeat (first | ((first | (with_reducible first | refine zP fun K_ hK_ => ?_ | refine zQ fun K_ hK_ => ?_ | refine zT ?_ | refine zU ?_ | refine zV ?_ | refine zW ?_ | refine zX ?_ | refine zY ?_) | ((with_reducible first | refine zR ?_ ?_ fun K_ hK_ => ?_ | refine zS ?_ ?_ fun K_ hK_ => ?_); (focus kernel_rfl); (focus kernel_rfl))); first | (simp (maxSteps := 1000000) (disch := refine hold_ ?_; first | (simp [kNil, sLt, sGt, sAmp, sApos, sQuot, vQuot, str_eql, b1, b2, b3, b4, g, -List.getD_eq_getElem?_getD]; done) | omega) [kNil, sLt, sGt, sAmp, sApos, sQuot, vQuot, str_eql, b1, b2, b3, b4, g, -List.getD_eq_getElem?_getD]; try first | (with_reducible refine zZ ?_) | subst hK_) | subst hK_) | (with_reducible first | refine zA ?_ | refine zB ?_ | refine zC ?_ | refine zD ?_ | refine zE ?_ | refine zF ?_ | refine zG ?_ | refine zH ?_ | refine zI ?_ | refine zJ ?_ | refine zK ?_ | refine zL ?_ | refine zM ?_ | refine zN ?_ | refine zO ?_) | ((with_reducible refine yG ?_ ?_); (focus decide)) | ((with_reducible refine yA ?_); refine yB rfl ?_; (with_reducible first | refine yC ?_ | refine yD ?_)))
    all_goals simp (maxSteps := 1000000) (disch := refine hold_ ?_; first | (simp [resV, -List.getD_eq_getElem?_getD]; done) | omega) [resV, -List.getD_eq_getElem?_getD]
  rw [if_neg h5]
  have b5 : (s == [113#8, 117#8, 111#8, 116#8]) = false := beq_eq_false_iff_ne.2 h5
  repeat (first | ((first | (with_reducible first | refine zP fun K_ hK_ => ?_ | refine zQ fun K_ hK_ => ?_ | refine zT ?_ | refine zU ?_ | refine zV ?_ | refine zW ?_ | refine zX ?_ | refine zY ?_) | ((with_reducible first | refine zR ?_ ?_ fun K_ hK_ => ?_ | refine zS ?_ ?_ fun K_ hK_ => ?_); (focus kernel_rfl); (focus kernel_rfl))); first | (simp (maxSteps := 1000000) (disch := refine hold_ ?_; first | (simp [kNil, sLt, sGt, sAmp, sApos, sQuot, str_eql, b1, b2, b3, b4, b5, -List.getD_eq_getElem?_getD]; done) | omega) [kNil, sLt, sGt, sAmp, sApos, sQuot, str_eql, b1, b2, b3, b4, b5, -List.getD_eq_getElem?_getD]; try first | (with_reducible refine zZ ?_) | subst hK_) | subst hK_) | (with_reducible first | refine zA ?_ | refine zB ?_ | refine zC ?_ | refine zD ?_ | refine zE ?_ | refine zF ?_ | refine zG ?_ | refine zH ?_ | refine zI ?_ | refine zJ ?_ | refine zK ?_ | refine zL ?_ | refine zM ?_ | refine zN ?_ | refine zO ?_) | ((with_reducible refine yG ?_ ?_); (focus decide)) | ((with_reducible refine yA ?_); refine yB rfl ?_; (with_reducible first | refine yC ?_ | refine yD ?_)))
  all_goals simp (maxSteps := 1000000) (disch := refine hold_ ?_; first | (simp [resV, -List.getD_eq_getElem?_getD]; done) | omega) [resV, -List.getD_eq_getElem?_getD]
theorem xml_char (n : Int) (h : xmlB n = true) : charB n = true := by
  unfold xmlB at h; unfold charB
  simp only [decide_eq_true_eq] at h ⊢
  omega
theorem ub1_ct (n : Int) (h : charB n = true) : Fn Tryz.prog 41 [.sl (.ints .i32 [n]) false] [.row (bl (encL n)) 0 0 false, .p (.bool true)] 1 := by
  have := ubytes_ct false [n] (by simp) 1 (by simp) (by intro k hk; obtain rfl : k = 0 := by omega
                                                        exact h) (by intro hk; simp at hk)
  rw [if_neg (by simp)] at this
  have e : encAll [n] [n].length = encL n := by simp [encAll]
  rw [e] at this
  exact this
set_option maxHeartbeats 8000000 in
theorem stands_ct (s : List (BitVec 8)) (hs : s.length ≤ 4000000) : Fn Tryz.prog 27 [.str (txt s)] (resV (standsV s)) := by
  have c1 := cp_ct s [35#8]
  rw [preB_one] at c1
  unfold standsV
  by_cases h1 : s.head? = some 35#8
  · rw [if_pos h1]
    rw [if_pos (by simpa using h1)] at c1
    have d1 : decide (s.head? = some 35#8) = true := by simpa using h1
    rw [d1, show ([35#8] : List (BitVec 8)).length = 1 from rfl] at c1
    have hdl : (s.drop 1).length ≤ 4000000 := by simp; omega
    generalize s.drop 1 = d at *
    have c2 := cp_ct d [120#8]
    rw [preB_one] at c2
    by_cases h2 : d.head? = some 120#8
    · rw [if_pos h2]
      rw [if_pos (by simpa using h2)] at c2
      have d2 : decide (d.head? = some 120#8) = true := by simpa using h2
      rw [d2, show ([120#8] : List (BitVec 8)).length = 1 from rfl] at c2
      have hel : (d.drop 1).length ≤ 4000000 := by simp; omega
      generalize d.drop 1 = e at *
      have c3 := number_ct e 16 (Or.inr rfl) hel
      unfold numV
      cases hO : numO 16 e with
      | false =>
        rw [hO] at c3
        refine Fn.of_body Tryz.func27 rfl ?_
        repeat (first | ((with_reducible first | refine callK_at 38 ?_ | refine callK_at 40 ?_); refine callK_p ?_; simp (maxSteps := 1000000) (disch := refine hold_ ?_; first | (simp [kNil, vHash, vX, -List.getD_eq_getElem?_getD]; done) | omega) [kNil, vHash, vX, -List.getD_eq_getElem?_getD]; (first | ((with_reducible refine k1_at 38 ?_); refine callK1_of ((by first | exact Fn.ct c1 Tryz.call38 | exact Fn.ct c2 Tryz.call38)) ?_) | ((with_reducible refine k1_at 40 ?_); refine callK1_of (Fn.ct c3 Tryz.call40) ?_)); (try simp (maxSteps := 1000000) (disch := refine hold_ ?_; first | (simp [kNil, vHash, vX, -List.getD_eq_getElem?_getD]; done) | omega) [kNil, vHash, vX, -List.getD_eq_getElem?_getD]); try first | (with_reducible refine zZ ?_) | subst hK_) | ((first | (with_reducible first | refine zP fun K_ hK_ => ?_ | refine zQ fun K_ hK_ => ?_ | refine zT ?_ | refine zU ?_ | refine zV ?_ | refine zW ?_ | refine zX ?_ | refine zY ?_) | ((with_reducible first | refine zR ?_ ?_ fun K_ hK_ => ?_ | refine zS ?_ ?_ fun K_ hK_ => ?_); (focus kernel_rfl); (focus kernel_rfl))); first | (simp (maxSteps := 1000000) (disch := refine hold_ ?_; first | (simp [kNil, vHash, vX, -List.getD_eq_getElem?_getD]; done) | omega) [kNil, vHash, vX, -List.getD_eq_getElem?_getD]; try first | (with_reducible refine zZ ?_) | subst hK_) | subst hK_) | (with_reducible first | refine zA ?_ | refine zB ?_ | refine zC ?_ | refine zD ?_ | refine zE ?_ | refine zF ?_ | refine zG ?_ | refine zH ?_ | refine zI ?_ | refine zJ ?_ | refine zK ?_ | refine zL ?_ | refine zM ?_ | refine zN ?_ | refine zO ?_) | ((with_reducible refine yG ?_ ?_); (focus decide)) | ((with_reducible refine yA ?_); refine yB rfl ?_; (with_reducible first | refine yC ?_ | refine yD ?_)))
        all_goals simp (maxSteps := 1000000) (disch := refine hold_ ?_; first | (simp [resV, -List.getD_eq_getElem?_getD]; done) | omega) [resV, -List.getD_eq_getElem?_getD]
      | true =>
        rw [hO] at c3
        have c4 := xml_ct (numN 16 e)
        unfold chV
        cases hx : xmlB (numN 16 e) with
        | false =>
          rw [hx] at c4
          generalize numN 16 e = n at *
          refine Fn.of_body Tryz.func27 rfl ?_
          repeat (first | ((with_reducible first | refine callK_at 38 ?_ | refine callK_at 40 ?_ | refine callK_at 35 ?_); refine callK_p ?_; simp (maxSteps := 1000000) (disch := refine hold_ ?_; first | (simp [kNil, vHash, vX, -List.getD_eq_getElem?_getD]; done) | omega) [kNil, vHash, vX, -List.getD_eq_getElem?_getD]; (first | ((with_reducible refine k1_at 38 ?_); refine callK1_of ((by first | exact Fn.ct c1 Tryz.call38 | exact Fn.ct c2 Tryz.call38)) ?_) | ((with_reducible refine k1_at 40 ?_); refine callK1_of (Fn.ct c3 Tryz.call40) ?_) | ((with_reducible refine k1_at 35 ?_); refine callK1_of (Fn.ct c4 Tryz.call35) ?_)); (try simp (maxSteps := 1000000) (disch := refine hold_ ?_; first | (simp [kNil, vHash, vX, -List.getD_eq_getElem?_getD]; done) | omega) [kNil, vHash, vX, -List.getD_eq_getElem?_getD]); try first | (with_reducible refine zZ ?_) | subst hK_) | ((first | (with_reducible first | refine zP fun K_ hK_ => ?_ | refine zQ fun K_ hK_ => ?_ | refine zT ?_ | refine zU ?_ | refine zV ?_ | refine zW ?_ | refine zX ?_ | refine zY ?_) | ((with_reducible first | refine zR ?_ ?_ fun K_ hK_ => ?_ | refine zS ?_ ?_ fun K_ hK_ => ?_); (focus kernel_rfl); (focus kernel_rfl))); first | (simp (maxSteps := 1000000) (disch := refine hold_ ?_; first | (simp [kNil, vHash, vX, -List.getD_eq_getElem?_getD]; done) | omega) [kNil, vHash, vX, -List.getD_eq_getElem?_getD]; try first | (with_reducible refine zZ ?_) | subst hK_) | subst hK_) | (with_reducible first | refine zA ?_ | refine zB ?_ | refine zC ?_ | refine zD ?_ | refine zE ?_ | refine zF ?_ | refine zG ?_ | refine zH ?_ | refine zI ?_ | refine zJ ?_ | refine zK ?_ | refine zL ?_ | refine zM ?_ | refine zN ?_ | refine zO ?_) | ((with_reducible refine yG ?_ ?_); (focus decide)) | ((with_reducible refine yA ?_); refine yB rfl ?_; (with_reducible first | refine yC ?_ | refine yD ?_)))
          all_goals simp (maxSteps := 1000000) (disch := refine hold_ ?_; first | (simp [resV, -List.getD_eq_getElem?_getD]; done) | omega) [resV, -List.getD_eq_getElem?_getD]
        | true =>
          rw [hx] at c4
          have c5 := ub1_ct _ (xml_char _ hx)
          generalize numN 16 e = n at *
          have hlp := encL_pos n
          generalize encL n = L at *
          refine Fn.of_body Tryz.func27 rfl ?_
          repeat (first | ((with_reducible first | refine callK_at 38 ?_ | refine callK_at 40 ?_ | refine callK_at 35 ?_ | refine callK_at 41 ?_); refine callK_p ?_; simp (maxSteps := 1000000) (disch := refine hold_ ?_; first | (simp [kNil, vHash, vX, hlp, -List.getD_eq_getElem?_getD]; done) | omega) [kNil, vHash, vX, hlp, -List.getD_eq_getElem?_getD]; (first | ((with_reducible refine k1_at 38 ?_); refine callK1_of ((by first | exact Fn.ct c1 Tryz.call38 | exact Fn.ct c2 Tryz.call38)) ?_) | ((with_reducible refine k1_at 40 ?_); refine callK1_of (Fn.ct c3 Tryz.call40) ?_) | ((with_reducible refine k1_at 35 ?_); refine callK1_of (Fn.ct c4 Tryz.call35) ?_) | ((with_reducible refine k1_at 41 ?_); refine callK1_of (Fn.ct c5 Tryz.call41) ?_)); (try simp (maxSteps := 1000000) (disch := refine hold_ ?_; first | (simp [kNil, vHash, vX, hlp, -List.getD_eq_getElem?_getD]; done) | omega) [kNil, vHash, vX, hlp, -List.getD_eq_getElem?_getD]); try first | (with_reducible refine zZ ?_) | subst hK_) | ((first | (with_reducible first | refine zP fun K_ hK_ => ?_ | refine zQ fun K_ hK_ => ?_ | refine zT ?_ | refine zU ?_ | refine zV ?_ | refine zW ?_ | refine zX ?_ | refine zY ?_) | ((with_reducible first | refine zR ?_ ?_ fun K_ hK_ => ?_ | refine zS ?_ ?_ fun K_ hK_ => ?_); (focus kernel_rfl); (focus kernel_rfl))); first | (simp (maxSteps := 1000000) (disch := refine hold_ ?_; first | (simp [kNil, vHash, vX, hlp, -List.getD_eq_getElem?_getD]; done) | omega) [kNil, vHash, vX, hlp, -List.getD_eq_getElem?_getD]; try first | (with_reducible refine zZ ?_) | subst hK_) | subst hK_) | (with_reducible first | refine zA ?_ | refine zB ?_ | refine zC ?_ | refine zD ?_ | refine zE ?_ | refine zF ?_ | refine zG ?_ | refine zH ?_ | refine zI ?_ | refine zJ ?_ | refine zK ?_ | refine zL ?_ | refine zM ?_ | refine zN ?_ | refine zO ?_) | ((with_reducible refine yG ?_ ?_); (focus decide)) | ((with_reducible refine yA ?_); refine yB rfl ?_; (with_reducible first | refine yC ?_ | refine yD ?_)))
          all_goals simp (maxSteps := 1000000) (disch := refine hold_ ?_; first | (simp [resV, -List.getD_eq_getElem?_getD]; done) | omega) [resV, -List.getD_eq_getElem?_getD]
          all_goals exact (str_of L).symm
    · rw [if_neg h2]
      rw [if_neg (by simpa using h2)] at c2
      have d2 : decide (d.head? = some 120#8) = false := by simpa using h2
      rw [d2] at c2
      have c3 := number_ct d 10 (Or.inl rfl) hdl
      unfold numV
      cases hO : numO 10 d with
      | false =>
        rw [hO] at c3
        refine Fn.of_body Tryz.func27 rfl ?_
        repeat (first | ((with_reducible first | refine callK_at 38 ?_ | refine callK_at 40 ?_); refine callK_p ?_; simp (maxSteps := 1000000) (disch := refine hold_ ?_; first | (simp [kNil, vHash, vX, -List.getD_eq_getElem?_getD]; done) | omega) [kNil, vHash, vX, -List.getD_eq_getElem?_getD]; (first | ((with_reducible refine k1_at 38 ?_); refine callK1_of ((by first | exact Fn.ct c1 Tryz.call38 | exact Fn.ct c2 Tryz.call38)) ?_) | ((with_reducible refine k1_at 40 ?_); refine callK1_of (Fn.ct c3 Tryz.call40) ?_)); (try simp (maxSteps := 1000000) (disch := refine hold_ ?_; first | (simp [kNil, vHash, vX, -List.getD_eq_getElem?_getD]; done) | omega) [kNil, vHash, vX, -List.getD_eq_getElem?_getD]); try first | (with_reducible refine zZ ?_) | subst hK_) | ((first | (with_reducible first | refine zP fun K_ hK_ => ?_ | refine zQ fun K_ hK_ => ?_ | refine zT ?_ | refine zU ?_ | refine zV ?_ | refine zW ?_ | refine zX ?_ | refine zY ?_) | ((with_reducible first | refine zR ?_ ?_ fun K_ hK_ => ?_ | refine zS ?_ ?_ fun K_ hK_ => ?_); (focus kernel_rfl); (focus kernel_rfl))); first | (simp (maxSteps := 1000000) (disch := refine hold_ ?_; first | (simp [kNil, vHash, vX, -List.getD_eq_getElem?_getD]; done) | omega) [kNil, vHash, vX, -List.getD_eq_getElem?_getD]; try first | (with_reducible refine zZ ?_) | subst hK_) | subst hK_) | (with_reducible first | refine zA ?_ | refine zB ?_ | refine zC ?_ | refine zD ?_ | refine zE ?_ | refine zF ?_ | refine zG ?_ | refine zH ?_ | refine zI ?_ | refine zJ ?_ | refine zK ?_ | refine zL ?_ | refine zM ?_ | refine zN ?_ | refine zO ?_) | ((with_reducible refine yG ?_ ?_); (focus decide)) | ((with_reducible refine yA ?_); refine yB rfl ?_; (with_reducible first | refine yC ?_ | refine yD ?_)))
        all_goals simp (maxSteps := 1000000) (disch := refine hold_ ?_; first | (simp [resV, -List.getD_eq_getElem?_getD]; done) | omega) [resV, -List.getD_eq_getElem?_getD]
      | true =>
        rw [hO] at c3
        have c4 := xml_ct (numN 10 d)
        unfold chV
        cases hx : xmlB (numN 10 d) with
        | false =>
          rw [hx] at c4
          generalize numN 10 d = n at *
          refine Fn.of_body Tryz.func27 rfl ?_
          repeat (first | ((with_reducible first | refine callK_at 38 ?_ | refine callK_at 40 ?_ | refine callK_at 35 ?_); refine callK_p ?_; simp (maxSteps := 1000000) (disch := refine hold_ ?_; first | (simp [kNil, vHash, vX, -List.getD_eq_getElem?_getD]; done) | omega) [kNil, vHash, vX, -List.getD_eq_getElem?_getD]; (first | ((with_reducible refine k1_at 38 ?_); refine callK1_of ((by first | exact Fn.ct c1 Tryz.call38 | exact Fn.ct c2 Tryz.call38)) ?_) | ((with_reducible refine k1_at 40 ?_); refine callK1_of (Fn.ct c3 Tryz.call40) ?_) | ((with_reducible refine k1_at 35 ?_); refine callK1_of (Fn.ct c4 Tryz.call35) ?_)); (try simp (maxSteps := 1000000) (disch := refine hold_ ?_; first | (simp [kNil, vHash, vX, -List.getD_eq_getElem?_getD]; done) | omega) [kNil, vHash, vX, -List.getD_eq_getElem?_getD]); try first | (with_reducible refine zZ ?_) | subst hK_) | ((first | (with_reducible first | refine zP fun K_ hK_ => ?_ | refine zQ fun K_ hK_ => ?_ | refine zT ?_ | refine zU ?_ | refine zV ?_ | refine zW ?_ | refine zX ?_ | refine zY ?_) | ((with_reducible first | refine zR ?_ ?_ fun K_ hK_ => ?_ | refine zS ?_ ?_ fun K_ hK_ => ?_); (focus kernel_rfl); (focus kernel_rfl))); first | (simp (maxSteps := 1000000) (disch := refine hold_ ?_; first | (simp [kNil, vHash, vX, -List.getD_eq_getElem?_getD]; done) | omega) [kNil, vHash, vX, -List.getD_eq_getElem?_getD]; try first | (with_reducible refine zZ ?_) | subst hK_) | subst hK_) | (with_reducible first | refine zA ?_ | refine zB ?_ | refine zC ?_ | refine zD ?_ | refine zE ?_ | refine zF ?_ | refine zG ?_ | refine zH ?_ | refine zI ?_ | refine zJ ?_ | refine zK ?_ | refine zL ?_ | refine zM ?_ | refine zN ?_ | refine zO ?_) | ((with_reducible refine yG ?_ ?_); (focus decide)) | ((with_reducible refine yA ?_); refine yB rfl ?_; (with_reducible first | refine yC ?_ | refine yD ?_)))
          all_goals simp (maxSteps := 1000000) (disch := refine hold_ ?_; first | (simp [resV, -List.getD_eq_getElem?_getD]; done) | omega) [resV, -List.getD_eq_getElem?_getD]
        | true =>
          rw [hx] at c4
          have c5 := ub1_ct _ (xml_char _ hx)
          generalize numN 10 d = n at *
          have hlp := encL_pos n
          generalize encL n = L at *
          refine Fn.of_body Tryz.func27 rfl ?_
          repeat (first | ((with_reducible first | refine callK_at 38 ?_ | refine callK_at 40 ?_ | refine callK_at 35 ?_ | refine callK_at 41 ?_); refine callK_p ?_; simp (maxSteps := 1000000) (disch := refine hold_ ?_; first | (simp [kNil, vHash, vX, hlp, -List.getD_eq_getElem?_getD]; done) | omega) [kNil, vHash, vX, hlp, -List.getD_eq_getElem?_getD]; (first | ((with_reducible refine k1_at 38 ?_); refine callK1_of ((by first | exact Fn.ct c1 Tryz.call38 | exact Fn.ct c2 Tryz.call38)) ?_) | ((with_reducible refine k1_at 40 ?_); refine callK1_of (Fn.ct c3 Tryz.call40) ?_) | ((with_reducible refine k1_at 35 ?_); refine callK1_of (Fn.ct c4 Tryz.call35) ?_) | ((with_reducible refine k1_at 41 ?_); refine callK1_of (Fn.ct c5 Tryz.call41) ?_)); (try simp (maxSteps := 1000000) (disch := refine hold_ ?_; first | (simp [kNil, vHash, vX, hlp, -List.getD_eq_getElem?_getD]; done) | omega) [kNil, vHash, vX, hlp, -List.getD_eq_getElem?_getD]); try first | (with_reducible refine zZ ?_) | subst hK_) | ((first | (with_reducible first | refine zP fun K_ hK_ => ?_ | refine zQ fun K_ hK_ => ?_ | refine zT ?_ | refine zU ?_ | refine zV ?_ | refine zW ?_ | refine zX ?_ | refine zY ?_) | ((with_reducible first | refine zR ?_ ?_ fun K_ hK_ => ?_ | refine zS ?_ ?_ fun K_ hK_ => ?_); (focus kernel_rfl); (focus kernel_rfl))); first | (simp (maxSteps := 1000000) (disch := refine hold_ ?_; first | (simp [kNil, vHash, vX, hlp, -List.getD_eq_getElem?_getD]; done) | omega) [kNil, vHash, vX, hlp, -List.getD_eq_getElem?_getD]; try first | (with_reducible refine zZ ?_) | subst hK_) | subst hK_) | (with_reducible first | refine zA ?_ | refine zB ?_ | refine zC ?_ | refine zD ?_ | refine zE ?_ | refine zF ?_ | refine zG ?_ | refine zH ?_ | refine zI ?_ | refine zJ ?_ | refine zK ?_ | refine zL ?_ | refine zM ?_ | refine zN ?_ | refine zO ?_) | ((with_reducible refine yG ?_ ?_); (focus decide)) | ((with_reducible refine yA ?_); refine yB rfl ?_; (with_reducible first | refine yC ?_ | refine yD ?_)))
          all_goals simp (maxSteps := 1000000) (disch := refine hold_ ?_; first | (simp [resV, -List.getD_eq_getElem?_getD]; done) | omega) [resV, -List.getD_eq_getElem?_getD]
          all_goals exact (str_of L).symm
  · rw [if_neg h1]
    rw [if_neg (by simpa using h1)] at c1
    have d1 : decide (s.head? = some 35#8) = false := by simpa using h1
    rw [d1] at c1
    have c2 := named_ct s
    cases hn : namedV s with
    | none =>
      rw [hn] at c2
      refine Fn.of_body Tryz.func27 rfl ?_
      repeat (first | ((with_reducible first | refine callK_at 38 ?_ | refine callK_at 39 ?_); refine callK_p ?_; simp (maxSteps := 1000000) (disch := refine hold_ ?_; first | (simp [kNil, vHash, vX, resV, -List.getD_eq_getElem?_getD]; done) | omega) [kNil, vHash, vX, resV, -List.getD_eq_getElem?_getD]; (first | ((with_reducible refine k1_at 38 ?_); refine callK1_of (Fn.ct c1 Tryz.call38) ?_) | ((with_reducible refine k1_at 39 ?_); refine callK1_of (Fn.ct c2 Tryz.call39) ?_)); (try simp (maxSteps := 1000000) (disch := refine hold_ ?_; first | (simp [kNil, vHash, vX, resV, -List.getD_eq_getElem?_getD]; done) | omega) [kNil, vHash, vX, resV, -List.getD_eq_getElem?_getD]); try first | (with_reducible refine zZ ?_) | subst hK_) | ((first | (with_reducible first | refine zP fun K_ hK_ => ?_ | refine zQ fun K_ hK_ => ?_ | refine zT ?_ | refine zU ?_ | refine zV ?_ | refine zW ?_ | refine zX ?_ | refine zY ?_) | ((with_reducible first | refine zR ?_ ?_ fun K_ hK_ => ?_ | refine zS ?_ ?_ fun K_ hK_ => ?_); (focus kernel_rfl); (focus kernel_rfl))); first | (simp (maxSteps := 1000000) (disch := refine hold_ ?_; first | (simp [kNil, vHash, vX, resV, -List.getD_eq_getElem?_getD]; done) | omega) [kNil, vHash, vX, resV, -List.getD_eq_getElem?_getD]; try first | (with_reducible refine zZ ?_) | subst hK_) | subst hK_) | (with_reducible first | refine zA ?_ | refine zB ?_ | refine zC ?_ | refine zD ?_ | refine zE ?_ | refine zF ?_ | refine zG ?_ | refine zH ?_ | refine zI ?_ | refine zJ ?_ | refine zK ?_ | refine zL ?_ | refine zM ?_ | refine zN ?_ | refine zO ?_) | ((with_reducible refine yG ?_ ?_); (focus decide)) | ((with_reducible refine yA ?_); refine yB rfl ?_; (with_reducible first | refine yC ?_ | refine yD ?_)))
      all_goals simp (maxSteps := 1000000) (disch := refine hold_ ?_; first | (simp [resV, -List.getD_eq_getElem?_getD]; done) | omega) [resV, -List.getD_eq_getElem?_getD]
    | some x =>
      rw [hn] at c2
      refine Fn.of_body Tryz.func27 rfl ?_
      repeat (first | ((with_reducible first | refine callK_at 38 ?_ | refine callK_at 39 ?_); refine callK_p ?_; simp (maxSteps := 1000000) (disch := refine hold_ ?_; first | (simp [kNil, vHash, vX, resV, -List.getD_eq_getElem?_getD]; done) | omega) [kNil, vHash, vX, resV, -List.getD_eq_getElem?_getD]; (first | ((with_reducible refine k1_at 38 ?_); refine callK1_of (Fn.ct c1 Tryz.call38) ?_) | ((with_reducible refine k1_at 39 ?_); refine callK1_of (Fn.ct c2 Tryz.call39) ?_)); (try simp (maxSteps := 1000000) (disch := refine hold_ ?_; first | (simp [kNil, vHash, vX, resV, -List.getD_eq_getElem?_getD]; done) | omega) [kNil, vHash, vX, resV, -List.getD_eq_getElem?_getD]); try first | (with_reducible refine zZ ?_) | subst hK_) | ((first | (with_reducible first | refine zP fun K_ hK_ => ?_ | refine zQ fun K_ hK_ => ?_ | refine zT ?_ | refine zU ?_ | refine zV ?_ | refine zW ?_ | refine zX ?_ | refine zY ?_) | ((with_reducible first | refine zR ?_ ?_ fun K_ hK_ => ?_ | refine zS ?_ ?_ fun K_ hK_ => ?_); (focus kernel_rfl); (focus kernel_rfl))); first | (simp (maxSteps := 1000000) (disch := refine hold_ ?_; first | (simp [kNil, vHash, vX, resV, -List.getD_eq_getElem?_getD]; done) | omega) [kNil, vHash, vX, resV, -List.getD_eq_getElem?_getD]; try first | (with_reducible refine zZ ?_) | subst hK_) | subst hK_) | (with_reducible first | refine zA ?_ | refine zB ?_ | refine zC ?_ | refine zD ?_ | refine zE ?_ | refine zF ?_ | refine zG ?_ | refine zH ?_ | refine zI ?_ | refine zJ ?_ | refine zK ?_ | refine zL ?_ | refine zM ?_ | refine zN ?_ | refine zO ?_) | ((with_reducible refine yG ?_ ?_); (focus decide)) | ((with_reducible refine yA ?_); refine yB rfl ?_; (with_reducible first | refine yC ?_ | refine yD ?_)))
      all_goals simp (maxSteps := 1000000) (disch := refine hold_ ?_; first | (simp [resV, -List.getD_eq_getElem?_getD]; done) | omega) [resV, -List.getD_eq_getElem?_getD]
end Go.Av.Cha
end
section
set_option linter.unusedSimpArgs false
set_option linter.unusedVariables false
set_option linter.unusedSectionVars false
open Go Go.Av Go.Proofs
namespace Go.Av.Cha
variable [ML]
def exF (g : BitVec 8 → BitVec 8) : Nat → List (BitVec 8) → Option (List (BitVec 8))
  | 0, _ => none
  | n + 1, s => match cutB 38#8 s with
    | none => some (s.map g)
    | some q => match cutB 59#8 q.2 with
      | none => none
      | some p => match standsV p.1 with
        | none => none
        | some x => (exF g n p.2).map fun y => q.1.map g ++ (x ++ y)
def exL (g : BitVec 8 → BitVec 8) (s : List (BitVec 8)) : Option (List (BitVec 8)) := exF g (s.length + 1) s
theorem cutB_len (d : BitVec 8) : ∀ (s : List (BitVec 8)) (q : List (BitVec 8) × List (BitVec 8)), cutB d s = some q → q.1.length + q.2.length + 1 = s.length
  | [], q, h => by simp [cutB] at h
  | c :: l, q, h => by
    simp only [cutB] at h
    split at h
    · simp only [Option.some.injEq] at h; subst h; simp
    · simp only [Option.map_eq_some_iff] at h
      obtain ⟨p, hp, rfl⟩ := h
      have := cutB_len d l p hp
      simp; omega
theorem exF_fuel (g : BitVec 8 → BitVec 8) : ∀ (n m : Nat) (s : List (BitVec 8)), s.length < n → s.length < m → exF g n s = exF g m s
  | 0, _, _, h, _ => absurd h (Nat.not_lt_zero _)
  | _, 0, _, _, h => absurd h (Nat.not_lt_zero _)
  | n + 1, m + 1, s, hn, hm => by
    simp only [exF]
    cases h1 : cutB 38#8 s with
    | none => rfl
    | some q =>
      have l1 := cutB_len _ _ _ h1
      simp only
      cases h2 : cutB 59#8 q.2 with
      | none => rfl
      | some p =>
        have l2 := cutB_len _ _ _ h2
        simp only
        cases standsV p.1 with
        | none => rfl
        | some x => simp only; rw [exF_fuel g n m p.2 (by omega) (by omega)]
theorem exL_none (g : BitVec 8 → BitVec 8) (s : List (BitVec 8)) (h : cutB 38#8 s = none) : exL g s = some (s.map g) := by
  unfold exL; simp only [exF, h]
theorem exL_bad (g : BitVec 8 → BitVec 8) (s a r : List (BitVec 8)) (h : cutB 38#8 s = some (a, r)) (h2 : cutB 59#8 r = none) : exL g s = none := by
  unfold exL; simp only [exF, h, h2]
theorem exL_bad2 (g : BitVec 8 → BitVec 8) (s a r i t : List (BitVec 8)) (h : cutB 38#8 s = some (a, r)) (h2 : cutB 59#8 r = some (i, t)) (h3 : standsV i = none) : exL g s = none := by
  unfold exL; simp only [exF, h, h2, h3]
theorem exL_go (g : BitVec 8 → BitVec 8) (s a r i t x : List (BitVec 8)) (h : cutB 38#8 s = some (a, r)) (h2 : cutB 59#8 r = some (i, t)) (h3 : standsV i = some x) : exL g s = (exL g t).map fun y => a.map g ++ (x ++ y) := by
  have l1 := cutB_len _ _ _ h
  have l2 := cutB_len _ _ _ h2
  simp only at l1 l2
  unfold exL
  conv => lhs; simp only [exF, h, h2, h3]
  rw [exF_fuel g s.length (t.length + 1) t (by omega) (by omega)]
theorem named_len (s x : List (BitVec 8)) (h : namedV s = some x) : x.length ≤ 4 := by
  unfold namedV at h
  (repeat' split at h) <;> first | (simp only [Option.some.injEq] at h; subst h; decide) | simp at h
theorem numV_len (b : Int) (s x : List (BitVec 8)) (h : numV b s = some x) : x.length ≤ 4 := by
  unfold numV chV at h
  (repeat' split at h) <;> first | (simp only [Option.some.injEq] at h; subst h; exact encL_len _) | simp at h
theorem standsV_len (s x : List (BitVec 8)) (h : standsV s = some x) : x.length ≤ 4 := by
  unfold standsV at h
  (repeat' split at h) <;> first | exact numV_len _ _ _ h | exact named_len _ _ h
def okX (s : List (BitVec 8)) : Bool := textB s && !(s.contains 60#8)
def expandV (g : BitVec 8 → BitVec 8) (s : List (BitVec 8)) : Option (List (BitVec 8)) := if okX s = true then exL g s else none
theorem vSemi : (ByteArray.mk #[59]) = txt [59#8] := rfl
def idB (b : BitVec 8) : BitVec 8 := b
theorem idB_map (l : List (BitVec 8)) : l.map idB = l := List.map_id' l
theorem idc_ct (l : List (BitVec 8)) : Fn Tryz.prog 16 [.str (txt l)] [.p (.str (txt (l.map idB)))] := by
  rw [idB_map]
  refine Fn.of_body Tryz.func16 rfl ?_
  repeat (first | ((first | (with_reducible first | refine zP fun K_ hK_ => ?_ | refine zQ fun K_ hK_ => ?_ | refine zT ?_ | refine zU ?_ | refine zV ?_ | refine zW ?_ | refine zX ?_ | refine zY ?_) | ((with_reducible first | refine zR ?_ ?_ fun K_ hK_ => ?_ | refine zS ?_ ?_ fun K_ hK_ => ?_); (focus kernel_rfl); (focus kernel_rfl))); first | (simp (maxSteps := 1000000) (disch := refine hold_ ?_; first | (simp [-List.getD_eq_getElem?_getD]; done) | omega) [-List.getD_eq_getElem?_getD]; try first | (with_reducible refine zZ ?_) | subst hK_) | subst hK_) | (with_reducible first | refine zA ?_ | refine zB ?_ | refine zC ?_ | refine zD ?_ | refine zE ?_ | refine zF ?_ | refine zG ?_ | refine zH ?_ | refine zI ?_ | refine zJ ?_ | refine zK ?_ | refine zL ?_ | refine zM ?_ | refine zN ?_ | refine zO ?_) | ((with_reducible refine yG ?_ ?_); (focus decide)) | ((with_reducible refine yA ?_); refine yB rfl ?_; (with_reducible first | refine yC ?_ | refine yD ?_)))
  all_goals simp (maxSteps := 1000000) (disch := refine hold_ ?_; first | (simp [-List.getD_eq_getElem?_getD]; done) | omega) [-List.getD_eq_getElem?_getD]
def exSt (pl : V) (ob : List (Nat × (Nat × HB))) (s o : List (BitVec 8)) : St := ⟨(.p (.str (txt s)) :: pl :: V.junk :: V.junk :: V.junk :: V.junk :: .ptr 6 0 0 :: V.junk :: V.junk :: V.junk :: V.junk :: V.junk :: V.junk :: V.junk :: V.junk :: V.junk :: V.junk :: V.junk :: V.junk :: V.junk :: V.junk :: V.junk :: V.junk :: V.junk :: V.junk :: V.junk :: V.junk :: V.junk :: V.junk :: V.junk :: V.junk :: V.junk :: V.junk :: V.junk :: V.junk :: V.junk :: V.junk :: V.junk :: V.junk :: V.junk :: V.junk :: V.junk :: V.junk :: V.junk :: V.junk :: V.junk :: V.junk :: V.junk :: V.junk :: V.junk :: V.junk :: V.junk :: V.junk :: V.junk :: V.junk :: V.junk :: []), ⟨ob ++ [(6, (0, .cells [.adr 6 0 0 42 2, .brow 5 (bl o) 0 0 (o.length == 0)]))], [(0, 0)]⟩⟩
theorem app_flag (a b : List (BitVec 8)) : ((a.length == 0) && (b.length == 0)) = ((a ++ b).length == 0) := by
  cases a <;> cases b <;> simp
def rplU : HB := rpl 0 0 .iface0 (.p (.sl (.strs oldB) false))
def rplD : HB := rpl 1 0 (.ifc 100 tabP) nilS
def obV (b : Bool) : List (Nat × (Nat × HB)) := [(10000, (0, if b = true then rplD else rplU))]
def exIC (s : List (BitVec 8)) (m : Nat) (σ : St) : Prop := ∃ (t o : List (BitVec 8)), m = t.length ∧ o.length + 4 * t.length ≤ 4 * s.length ∧ σ = exSt (.p (.fn 16 (.vals 1 []))) [] t o ∧ exL idB s = (exL idB t).map fun y => o ++ y
set_option maxRecDepth 10000 in
set_option maxHeartbeats 20000000 in
theorem expandC_ct (s : List (BitVec 8)) (hs : s.length ≤ 4000000) : Fn Tryz.prog 15 [.str (txt s), .fn 16 (.vals 1 [])] (resV (expandV idB s)) := by
  refine Fn.of_body Tryz.func15 rfl ?_
  have k1 := utext_ct false s hs
  have k2 := contains_ct s 60#8
  have hb := txt_bytes s
  unfold expandV okX
  cases h1 : textB s with
  | false =>
    rw [h1] at k1
    rw [Bool.false_and, if_neg (by simp)]
    repeat (first | ((with_reducible first | refine callK_at 23 ?_); refine callK_p ?_; simp (maxSteps := 1000000) (disch := refine hold_ ?_; first | (simp [kNil, hb, vLt, -List.getD_eq_getElem?_getD]; done) | omega) [kNil, hb, vLt, -List.getD_eq_getElem?_getD]; (first | refine callK1_of (Fn.ct k1 Tryz.call23) ?_); (try simp (maxSteps := 1000000) (disch := refine hold_ ?_; first | (simp [kNil, hb, vLt, -List.getD_eq_getElem?_getD]; done) | omega) [kNil, hb, vLt, -List.getD_eq_getElem?_getD]); try first | (with_reducible refine zZ ?_) | subst hK_) | ((first | (with_reducible first | refine zP fun K_ hK_ => ?_ | refine zQ fun K_ hK_ => ?_ | refine zT ?_ | refine zU ?_ | refine zV ?_ | refine zW ?_ | refine zX ?_ | refine zY ?_) | ((with_reducible first | refine zR ?_ ?_ fun K_ hK_ => ?_ | refine zS ?_ ?_ fun K_ hK_ => ?_); (focus kernel_rfl); (focus kernel_rfl))); first | (simp (maxSteps := 1000000) (disch := refine hold_ ?_; first | (simp [kNil, hb, vLt, -List.getD_eq_getElem?_getD]; done) | omega) [kNil, hb, vLt, -List.getD_eq_getElem?_getD]; try first | (with_reducible refine zZ ?_) | subst hK_) | subst hK_) | (with_reducible first | refine zA ?_ | refine zB ?_ | refine zC ?_ | refine zD ?_ | refine zE ?_ | refine zF ?_ | refine zG ?_ | refine zH ?_ | refine zI ?_ | refine zJ ?_ | refine zK ?_ | refine zL ?_ | refine zM ?_ | refine zN ?_ | refine zO ?_) | ((with_reducible refine yG ?_ ?_); (focus decide)) | ((with_reducible refine yA ?_); refine yB rfl ?_; (with_reducible first | refine yC ?_ | refine yD ?_)))
    all_goals simp (maxSteps := 1000000) (disch := refine hold_ ?_; first | (simp [resV, -List.getD_eq_getElem?_getD]; done) | omega) [resV, -List.getD_eq_getElem?_getD]
  | true =>
  rw [h1] at k1
  cases h2 : s.contains 60#8 with
  | true =>
    rw [h2] at k2
    rw [if_neg (by simp)]
    repeat (first | ((with_reducible first | refine callK_at 23 ?_ | refine callK_at 14 ?_); refine callK_p ?_; simp (maxSteps := 1000000) (disch := refine hold_ ?_; first | (simp [kNil, hb, vLt, -List.getD_eq_getElem?_getD]; done) | omega) [kNil, hb, vLt, -List.getD_eq_getElem?_getD]; (first | ((with_reducible refine k1_at 23 ?_); refine callK1_of (Fn.ct k1 Tryz.call23) ?_) | ((with_reducible refine k1_at 14 ?_); refine callK1_of (Fn.ct k2 Tryz.call14) ?_)); (try simp (maxSteps := 1000000) (disch := refine hold_ ?_; first | (simp [kNil, hb, vLt, -List.getD_eq_getElem?_getD]; done) | omega) [kNil, hb, vLt, -List.getD_eq_getElem?_getD]); try first | (with_reducible refine zZ ?_) | subst hK_) | ((first | (with_reducible first | refine zP fun K_ hK_ => ?_ | refine zQ fun K_ hK_ => ?_ | refine zT ?_ | refine zU ?_ | refine zV ?_ | refine zW ?_ | refine zX ?_ | refine zY ?_) | ((with_reducible first | refine zR ?_ ?_ fun K_ hK_ => ?_ | refine zS ?_ ?_ fun K_ hK_ => ?_); (focus kernel_rfl); (focus kernel_rfl))); first | (simp (maxSteps := 1000000) (disch := refine hold_ ?_; first | (simp [kNil, hb, vLt, -List.getD_eq_getElem?_getD]; done) | omega) [kNil, hb, vLt, -List.getD_eq_getElem?_getD]; try first | (with_reducible refine zZ ?_) | subst hK_) | subst hK_) | (with_reducible first | refine zA ?_ | refine zB ?_ | refine zC ?_ | refine zD ?_ | refine zE ?_ | refine zF ?_ | refine zG ?_ | refine zH ?_ | refine zI ?_ | refine zJ ?_ | refine zK ?_ | refine zL ?_ | refine zM ?_ | refine zN ?_ | refine zO ?_) | ((with_reducible refine yG ?_ ?_); (focus decide)) | ((with_reducible refine yA ?_); refine yB rfl ?_; (with_reducible first | refine yC ?_ | refine yD ?_)))
    all_goals simp (maxSteps := 1000000) (disch := refine hold_ ?_; first | (simp [resV, -List.getD_eq_getElem?_getD]; done) | omega) [resV, -List.getD_eq_getElem?_getD]
  | false =>
  rw [h2] at k2
  rw [if_pos (by simp)]
  repeat (first | ((with_reducible first | refine callK_at 23 ?_ | refine callK_at 14 ?_); refine callK_p ?_; simp (maxSteps := 1000000) (disch := refine hold_ ?_; first | (simp [kNil, hb, vLt, -List.getD_eq_getElem?_getD]; done) | omega) [kNil, hb, vLt, -List.getD_eq_getElem?_getD]; (first | ((with_reducible refine k1_at 23 ?_); refine callK1_of (Fn.ct k1 Tryz.call23) ?_) | ((with_reducible refine k1_at 14 ?_); refine callK1_of (Fn.ct k2 Tryz.call14) ?_)); (try simp (maxSteps := 1000000) (disch := refine hold_ ?_; first | (simp [kNil, hb, vLt, -List.getD_eq_getElem?_getD]; done) | omega) [kNil, hb, vLt, -List.getD_eq_getElem?_getD]); try first | (with_reducible refine zZ ?_) | subst hK_) | ((first | (with_reducible first | refine zP fun K_ hK_ => ?_ | refine zQ fun K_ hK_ => ?_ | refine zT ?_ | refine zU ?_ | refine zV ?_ | refine zW ?_ | refine zX ?_ | refine zY ?_) | ((with_reducible first | refine zR ?_ ?_ fun K_ hK_ => ?_ | refine zS ?_ ?_ fun K_ hK_ => ?_); (focus kernel_rfl); (focus kernel_rfl))); first | (simp (maxSteps := 1000000) (disch := refine hold_ ?_; first | (simp [kNil, hb, vLt, -List.getD_eq_getElem?_getD]; done) | omega) [kNil, hb, vLt, -List.getD_eq_getElem?_getD]; try first | (with_reducible refine zZ ?_) | subst hK_) | subst hK_) | (with_reducible first | refine zA ?_ | refine zB ?_ | refine zC ?_ | refine zD ?_ | refine zE ?_ | refine zF ?_ | refine zG ?_ | refine zH ?_ | refine zI ?_ | refine zJ ?_ | refine zK ?_ | refine zL ?_ | refine zM ?_ | refine zN ?_ | refine zO ?_) | ((with_reducible refine yG ?_ ?_); (focus decide)) | ((with_reducible refine yA ?_); refine yB rfl ?_; (with_reducible first | refine yC ?_ | refine yD ?_)))
  clear k1 k2 hb
  refine AW.nilBuf 6 1 5 (bl []) 6 0 _ _ rfl rfl rfl ?_
  refine AW.iterI (true :: true :: false :: false :: false :: false :: true :: false :: false :: false :: false :: false :: false :: false :: false :: false :: false :: false :: false :: false :: false :: false :: false :: false :: false :: false :: false :: false :: false :: false :: false :: false :: false :: false :: false :: false :: false :: false :: false :: false :: false :: false :: false :: false :: false :: false :: false :: false :: false :: false :: false :: false :: false :: false :: false :: false :: []) s.length (exIC s) (τ := exSt (.p (.fn 16 (.vals 1 []))) [] s []) ?_ ⟨s, [], rfl, by simp, rfl, by simp⟩ ?_
  · unfold exSt
    simp (maxSteps := 1000000) (disch := refine hold_ ?_; first | (simp [-List.getD_eq_getElem?_getD]; done) | omega) [-List.getD_eq_getElem?_getD]
  rintro m σ ⟨t, o, rfl, hlen, rfl, hI⟩
  have hcut := cut_ct t 38#8 (by omega)
  have hws := fun c hc => ws_ct o (o.length == 0) c (by omega) hc
  simp only [app_flag] at hws
  cases h3 : cutB 38#8 t with
  | none =>
    rw [h3] at hcut
    rw [exL_none _ _ h3, Option.map_some] at hI
    rw [hI]
    have hid := idc_ct t
    rw [idB_map] at hid ⊢
    have hw := hws t (by omega)
    have hol : (o ++ t).length ≤ 140737488355328 := by rw [List.length_append]; omega
    generalize o ++ t = O at *
    unfold exSt
    repeat (first | ((with_reducible first | refine callK_at 24 ?_ | refine callK_at 16 ?_); refine callK_p ?_; simp (maxSteps := 1000000) (disch := refine hold_ ?_; first | (simp [kNil, vAmp, cutR, -List.getD_eq_getElem?_getD]; done) | omega) [kNil, vAmp, cutR, -List.getD_eq_getElem?_getD]; (first | ((with_reducible refine k1_at 24 ?_); refine callK1_of (Fn.ct hcut Tryz.call24) ?_) | ((with_reducible refine k1_at 16 ?_); refine callK1_of (Fn.ct hid Tryz.call16) ?_)); (try simp (maxSteps := 1000000) (disch := refine hold_ ?_; first | (simp [kNil, vAmp, cutR, -List.getD_eq_getElem?_getD]; done) | omega) [kNil, vAmp, cutR, -List.getD_eq_getElem?_getD]); try first | (with_reducible refine zZ ?_) | subst hK_) | ((with_reducible first | refine callK_at 25 ?_); refine callK_o (by first | decide | exact Nat.le_of_ble_eq_true rfl) ?_; simp (maxSteps := 1000000) (disch := refine hold_ ?_; first | (simp [kNil, vAmp, cutR, -List.getD_eq_getElem?_getD]; done) | omega) [kNil, vAmp, cutR, -List.getD_eq_getElem?_getD]; (first | refine callK3_of (FnG.ct hw Tryz.call25) ?_); (try simp (maxSteps := 1000000) (disch := refine hold_ ?_; first | (simp [kNil, vAmp, cutR, -List.getD_eq_getElem?_getD]; done) | omega) [kNil, vAmp, cutR, -List.getD_eq_getElem?_getD]); try first | (with_reducible refine zZ ?_) | subst hK_) | ((first | (with_reducible first | refine zP fun K_ hK_ => ?_ | refine zQ fun K_ hK_ => ?_ | refine zT ?_ | refine zU ?_ | refine zV ?_ | refine zW ?_ | refine zX ?_ | refine zY ?_) | ((with_reducible first | refine zR ?_ ?_ fun K_ hK_ => ?_ | refine zS ?_ ?_ fun K_ hK_ => ?_); (focus kernel_rfl); (focus kernel_rfl))); first | (simp (maxSteps := 1000000) (disch := refine hold_ ?_; first | (simp [kNil, vAmp, cutR, -List.getD_eq_getElem?_getD]; done) | omega) [kNil, vAmp, cutR, -List.getD_eq_getElem?_getD]; try first | (with_reducible refine zZ ?_) | subst hK_) | subst hK_) | (with_reducible first | refine zA ?_ | refine zB ?_ | refine zC ?_ | refine zD ?_ | refine zE ?_ | refine zF ?_ | refine zG ?_ | refine zH ?_ | refine zI ?_ | refine zJ ?_ | refine zK ?_ | refine zL ?_ | refine zM ?_ | refine zN ?_ | refine zO ?_) | ((with_reducible refine yG ?_ ?_); (focus decide)) | ((with_reducible refine yA ?_); refine yB rfl ?_; (with_reducible first | refine yC ?_ | refine yD ?_)))
    refine callK_str (Nat.le_of_ble_eq_true rfl) str_ok rfl rfl rfl hol rfl ?_
    repeat (first | ((first | (with_reducible first | refine zP fun K_ hK_ => ?_ | refine zQ fun K_ hK_ => ?_ | refine zT ?_ | refine zU ?_ | refine zV ?_ | refine zW ?_ | refine zX ?_ | refine zY ?_) | ((with_reducible first | refine zR ?_ ?_ fun K_ hK_ => ?_ | refine zS ?_ ?_ fun K_ hK_ => ?_); (focus kernel_rfl); (focus kernel_rfl))); first | (simp (maxSteps := 1000000) (disch := refine hold_ ?_; first | (simp [-List.getD_eq_getElem?_getD]; done) | omega) [-List.getD_eq_getElem?_getD]; try first | (with_reducible refine zZ ?_) | subst hK_) | subst hK_) | (with_reducible first | refine zA ?_ | refine zB ?_ | refine zC ?_ | refine zD ?_ | refine zE ?_ | refine zF ?_ | refine zG ?_ | refine zH ?_ | refine zI ?_ | refine zJ ?_ | refine zK ?_ | refine zL ?_ | refine zM ?_ | refine zN ?_ | refine zO ?_) | ((with_reducible refine yG ?_ ?_); (focus decide)) | ((with_reducible refine yA ?_); refine yB rfl ?_; (with_reducible first | refine yC ?_ | refine yD ?_)))
    all_goals simp (maxSteps := 1000000) (disch := refine hold_ ?_; first | (simp [resV, -List.getD_eq_getElem?_getD]; done) | omega) [resV, -List.getD_eq_getElem?_getD]
  | some q =>
    obtain ⟨a, r⟩ := q
    rw [h3] at hcut
    have l1 := cutB_len _ _ _ h3
    simp only at l1
    have hcut2 := cut_ct r 59#8 (by omega)
    have hid := idc_ct a
    have hma := idB_map a
    rw [hma] at hid
    have hw := hws a (by omega)
    cases h4 : cutB 59#8 r with
    | none =>
      rw [h4] at hcut2
      rw [exL_bad _ _ _ _ h3 h4, Option.map_none] at hI
      rw [hI]
      have hst := stands_ct r (by omega)
      generalize o ++ a = O at *
      cases h5 : standsV r with
      | none =>
        rw [h5] at hst
        unfold exSt
        repeat (first | ((with_reducible first | refine callK_at 24 ?_ | refine callK_at 16 ?_ | refine callK_at 27 ?_); refine callK_p ?_; simp (maxSteps := 1000000) (disch := refine hold_ ?_; first | (simp [kNil, vAmp, vSemi, cutR, resV, -List.getD_eq_getElem?_getD]; done) | omega) [kNil, vAmp, vSemi, cutR, resV, -List.getD_eq_getElem?_getD]; (first | ((with_reducible refine k1_at 24 ?_); refine callK1_of ((by first | exact Fn.ct hcut Tryz.call24 | exact Fn.ct hcut2 Tryz.call24)) ?_) | ((with_reducible refine k1_at 16 ?_); refine callK1_of (Fn.ct hid Tryz.call16) ?_) | ((with_reducible refine k1_at 27 ?_); refine callK1_of (Fn.ct hst Tryz.call27) ?_)); (try simp (maxSteps := 1000000) (disch := refine hold_ ?_; first | (simp [kNil, vAmp, vSemi, cutR, resV, -List.getD_eq_getElem?_getD]; done) | omega) [kNil, vAmp, vSemi, cutR, resV, -List.getD_eq_getElem?_getD]); try first | (with_reducible refine zZ ?_) | subst hK_) | ((with_reducible first | refine callK_at 25 ?_); refine callK_o (by first | decide | exact Nat.le_of_ble_eq_true rfl) ?_; simp (maxSteps := 1000000) (disch := refine hold_ ?_; first | (simp [kNil, vAmp, vSemi, cutR, resV, -List.getD_eq_getElem?_getD]; done) | omega) [kNil, vAmp, vSemi, cutR, resV, -List.getD_eq_getElem?_getD]; (first | refine callK3_of (FnG.ct hw Tryz.call25) ?_); (try simp (maxSteps := 1000000) (disch := refine hold_ ?_; first | (simp [kNil, vAmp, vSemi, cutR, resV, -List.getD_eq_getElem?_getD]; done) | omega) [kNil, vAmp, vSemi, cutR, resV, -List.getD_eq_getElem?_getD]); try first | (with_reducible refine zZ ?_) | subst hK_) | ((first | (with_reducible first | refine zP fun K_ hK_ => ?_ | refine zQ fun K_ hK_ => ?_ | refine zT ?_ | refine zU ?_ | refine zV ?_ | refine zW ?_ | refine zX ?_ | refine zY ?_) | ((with_reducible first | refine zR ?_ ?_ fun K_ hK_ => ?_ | refine zS ?_ ?_ fun K_ hK_ => ?_); (focus kernel_rfl); (focus kernel_rfl))); first | (simp (maxSteps := 1000000) (disch := refine hold_ ?_; first | (simp [kNil, vAmp, vSemi, cutR, resV, -List.getD_eq_getElem?_getD]; done) | omega) [kNil, vAmp, vSemi, cutR, resV, -List.getD_eq_getElem?_getD]; try first | (with_reducible refine zZ ?_) | subst hK_) | subst hK_) | (with_reducible first | refine zA ?_ | refine zB ?_ | refine zC ?_ | refine zD ?_ | refine zE ?_ | refine zF ?_ | refine zG ?_ | refine zH ?_ | refine zI ?_ | refine zJ ?_ | refine zK ?_ | refine zL ?_ | refine zM ?_ | refine zN ?_ | refine zO ?_) | ((with_reducible refine yG ?_ ?_); (focus decide)) | ((with_reducible refine yA ?_); refine yB rfl ?_; (with_reducible first | refine yC ?_ | refine yD ?_)))
        all_goals simp (maxSteps := 1000000) (disch := refine hold_ ?_; first | (simp [resV, -List.getD_eq_getElem?_getD]; done) | omega) [resV, -List.getD_eq_getElem?_getD]
      | some x =>
        rw [h5] at hst
        unfold exSt
        repeat (first | ((with_reducible first | refine callK_at 24 ?_ | refine callK_at 16 ?_ | refine callK_at 27 ?_); refine callK_p ?_; simp (maxSteps := 1000000) (disch := refine hold_ ?_; first | (simp [kNil, vAmp, vSemi, cutR, resV, -List.getD_eq_getElem?_getD]; done) | omega) [kNil, vAmp, vSemi, cutR, resV, -List.getD_eq_getElem?_getD]; (first | ((with_reducible refine k1_at 24 ?_); refine callK1_of ((by first | exact Fn.ct hcut Tryz.call24 | exact Fn.ct hcut2 Tryz.call24)) ?_) | ((with_reducible refine k1_at 16 ?_); refine callK1_of (Fn.ct hid Tryz.call16) ?_) | ((with_reducible refine k1_at 27 ?_); refine callK1_of (Fn.ct hst Tryz.call27) ?_)); (try simp (maxSteps := 1000000) (disch := refine hold_ ?_; first | (simp [kNil, vAmp, vSemi, cutR, resV, -List.getD_eq_getElem?_getD]; done) | omega) [kNil, vAmp, vSemi, cutR, resV, -List.getD_eq_getElem?_getD]); try first | (with_reducible refine zZ ?_) | subst hK_) | ((with_reducible first | refine callK_at 25 ?_); refine callK_o (by first | decide | exact Nat.le_of_ble_eq_true rfl) ?_; simp (maxSteps := 1000000) (disch := refine hold_ ?_; first | (simp [kNil, vAmp, vSemi, cutR, resV, -List.getD_eq_getElem?_getD]; done) | omega) [kNil, vAmp, vSemi, cutR, resV, -List.getD_eq_getElem?_getD]; (first | refine callK3_of (FnG.ct hw Tryz.call25) ?_); (try simp (maxSteps := 1000000) (disch := refine hold_ ?_; first | (simp [kNil, vAmp, vSemi, cutR, resV, -List.getD_eq_getElem?_getD]; done) | omega) [kNil, vAmp, vSemi, cutR, resV, -List.getD_eq_getElem?_getD]); try first | (with_reducible refine zZ ?_) | subst hK_) | ((first | (with_reducible first | refine zP fun K_ hK_ => ?_ | refine zQ fun K_ hK_ => ?_ | refine zT ?_ | refine zU ?_ | refine zV ?_ | refine zW ?_ | refine zX ?_ | refine zY ?_) | ((with_reducible first | refine zR ?_ ?_ fun K_ hK_ => ?_ | refine zS ?_ ?_ fun K_ hK_ => ?_); (focus kernel_rfl); (focus kernel_rfl))); first | (simp (maxSteps := 1000000) (disch := refine hold_ ?_; first | (simp [kNil, vAmp, vSemi, cutR, resV, -List.getD_eq_getElem?_getD]; done) | omega) [kNil, vAmp, vSemi, cutR, resV, -List.getD_eq_getElem?_getD]; try first | (with_reducible refine zZ ?_) | subst hK_) | subst hK_) | (with_reducible first | refine zA ?_ | refine zB ?_ | refine zC ?_ | refine zD ?_ | refine zE ?_ | refine zF ?_ | refine zG ?_ | refine zH ?_ | refine zI ?_ | refine zJ ?_ | refine zK ?_ | refine zL ?_ | refine zM ?_ | refine zN ?_ | refine zO ?_) | ((with_reducible refine yG ?_ ?_); (focus decide)) | ((with_reducible refine yA ?_); refine yB rfl ?_; (with_reducible first | refine yC ?_ | refine yD ?_)))
        all_goals simp (maxSteps := 1000000) (disch := refine hold_ ?_; first | (simp [resV, -List.getD_eq_getElem?_getD]; done) | omega) [resV, -List.getD_eq_getElem?_getD]
    | some q =>
      obtain ⟨i, t'⟩ := q
      rw [h4] at hcut2
      have l2 := cutB_len _ _ _ h4
      simp only at l2
      have hst := stands_ct i (by omega)
      cases h5 : standsV i with
      | none =>
        rw [h5] at hst
        rw [exL_bad2 _ _ _ _ _ _ h3 h4 h5, Option.map_none] at hI
        rw [hI]
        generalize o ++ a = O at *
        unfold exSt
        repeat (first | ((with_reducible first | refine callK_at 24 ?_ | refine callK_at 16 ?_ | refine callK_at 27 ?_); refine callK_p ?_; simp (maxSteps := 1000000) (disch := refine hold_ ?_; first | (simp [kNil, vAmp, vSemi, cutR, resV, -List.getD_eq_getElem?_getD]; done) | omega) [kNil, vAmp, vSemi, cutR, resV, -List.getD_eq_getElem?_getD]; (first | ((with_reducible refine k1_at 24 ?_); refine callK1_of ((by first | exact Fn.ct hcut Tryz.call24 | exact Fn.ct hcut2 Tryz.call24)) ?_) | ((with_reducible refine k1_at 16 ?_); refine callK1_of (Fn.ct hid Tryz.call16) ?_) | ((with_reducible refine k1_at 27 ?_); refine callK1_of (Fn.ct hst Tryz.call27) ?_)); (try simp (maxSteps := 1000000) (disch := refine hold_ ?_; first | (simp [kNil, vAmp, vSemi, cutR, resV, -List.getD_eq_getElem?_getD]; done) | omega) [kNil, vAmp, vSemi, cutR, resV, -List.getD_eq_getElem?_getD]); try first | (with_reducible refine zZ ?_) | subst hK_) | ((with_reducible first | refine callK_at 25 ?_); refine callK_o (by first | decide | exact Nat.le_of_ble_eq_true rfl) ?_; simp (maxSteps := 1000000) (disch := refine hold_ ?_; first | (simp [kNil, vAmp, vSemi, cutR, resV, -List.getD_eq_getElem?_getD]; done) | omega) [kNil, vAmp, vSemi, cutR, resV, -List.getD_eq_getElem?_getD]; (first | refine callK3_of (FnG.ct hw Tryz.call25) ?_); (try simp (maxSteps := 1000000) (disch := refine hold_ ?_; first | (simp [kNil, vAmp, vSemi, cutR, resV, -List.getD_eq_getElem?_getD]; done) | omega) [kNil, vAmp, vSemi, cutR, resV, -List.getD_eq_getElem?_getD]); try first | (with_reducible refine zZ ?_) | subst hK_) | ((first | (with_reducible first | refine zP fun K_ hK_ => ?_ | refine zQ fun K_ hK_ => ?_ | refine zT ?_ | refine zU ?_ | refine zV ?_ | refine zW ?_ | refine zX ?_ | refine zY ?_) | ((with_reducible first | refine zR ?_ ?_ fun K_ hK_ => ?_ | refine zS ?_ ?_ fun K_ hK_ => ?_); (focus kernel_rfl); (focus kernel_rfl))); first | (simp (maxSteps := 1000000) (disch := refine hold_ ?_; first | (simp [kNil, vAmp, vSemi, cutR, resV, -List.getD_eq_getElem?_getD]; done) | omega) [kNil, vAmp, vSemi, cutR, resV, -List.getD_eq_getElem?_getD]; try first | (with_reducible refine zZ ?_) | subst hK_) | subst hK_) | (with_reducible first | refine zA ?_ | refine zB ?_ | refine zC ?_ | refine zD ?_ | refine zE ?_ | refine zF ?_ | refine zG ?_ | refine zH ?_ | refine zI ?_ | refine zJ ?_ | refine zK ?_ | refine zL ?_ | refine zM ?_ | refine zN ?_ | refine zO ?_) | ((with_reducible refine yG ?_ ?_); (focus decide)) | ((with_reducible refine yA ?_); refine yB rfl ?_; (with_reducible first | refine yC ?_ | refine yD ?_)))
        all_goals simp (maxSteps := 1000000) (disch := refine hold_ ?_; first | (simp [resV, -List.getD_eq_getElem?_getD]; done) | omega) [resV, -List.getD_eq_getElem?_getD]
      | some x =>
        rw [h5] at hst
        have hxl := standsV_len _ _ h5
        rw [exL_go _ _ _ _ _ _ _ h3 h4 h5, Option.map_map] at hI
        have hI2 : exL idB s = (exL idB t').map fun y => ((o ++ a) ++ x) ++ y := by
          rw [hI]; congr 1; funext y; simp [hma]
        clear hI
        have hwx := ws_ct (o ++ a) ((o ++ a).length == 0) x (by rw [List.length_append]; omega) (by omega)
        rw [app_flag] at hwx
        have hlen2 : ((o ++ a) ++ x).length + 4 * t'.length ≤ 4 * s.length := by simp only [List.length_append]; omega
        generalize o ++ a = O at *
        generalize O ++ x = O2 at *
        unfold exSt
        repeat (first | ((with_reducible first | refine callK_at 24 ?_ | refine callK_at 16 ?_ | refine callK_at 27 ?_); refine callK_p ?_; simp (maxSteps := 1000000) (disch := refine hold_ ?_; first | (simp [kNil, vAmp, vSemi, cutR, resV, -List.getD_eq_getElem?_getD]; done) | omega) [kNil, vAmp, vSemi, cutR, resV, -List.getD_eq_getElem?_getD]; (first | ((with_reducible refine k1_at 24 ?_); refine callK1_of ((by first | exact Fn.ct hcut Tryz.call24 | exact Fn.ct hcut2 Tryz.call24)) ?_) | ((with_reducible refine k1_at 16 ?_); refine callK1_of (Fn.ct hid Tryz.call16) ?_) | ((with_reducible refine k1_at 27 ?_); refine callK1_of (Fn.ct hst Tryz.call27) ?_)); (try simp (maxSteps := 1000000) (disch := refine hold_ ?_; first | (simp [kNil, vAmp, vSemi, cutR, resV, -List.getD_eq_getElem?_getD]; done) | omega) [kNil, vAmp, vSemi, cutR, resV, -List.getD_eq_getElem?_getD]); try first | (with_reducible refine zZ ?_) | subst hK_) | ((with_reducible first | refine callK_at 25 ?_); refine callK_o (by first | decide | exact Nat.le_of_ble_eq_true rfl) ?_; simp (maxSteps := 1000000) (disch := refine hold_ ?_; first | (simp [kNil, vAmp, vSemi, cutR, resV, -List.getD_eq_getElem?_getD]; done) | omega) [kNil, vAmp, vSemi, cutR, resV, -List.getD_eq_getElem?_getD]; (first | refine callK3_of ((by first | exact FnG.ct hw Tryz.call25 | exact FnG.ct hwx Tryz.call25)) ?_); (try simp (maxSteps := 1000000) (disch := refine hold_ ?_; first | (simp [kNil, vAmp, vSemi, cutR, resV, -List.getD_eq_getElem?_getD]; done) | omega) [kNil, vAmp, vSemi, cutR, resV, -List.getD_eq_getElem?_getD]); try first | (with_reducible refine zZ ?_) | subst hK_) | ((first | (with_reducible first | refine zP fun K_ hK_ => ?_ | refine zQ fun K_ hK_ => ?_ | refine zT ?_ | refine zU ?_ | refine zV ?_ | refine zW ?_ | refine zX ?_ | refine zY ?_) | ((with_reducible first | refine zR ?_ ?_ fun K_ hK_ => ?_ | refine zS ?_ ?_ fun K_ hK_ => ?_); (focus kernel_rfl); (focus kernel_rfl))); first | (simp (maxSteps := 1000000) (disch := refine hold_ ?_; first | (simp [kNil, vAmp, vSemi, cutR, resV, -List.getD_eq_getElem?_getD]; done) | omega) [kNil, vAmp, vSemi, cutR, resV, -List.getD_eq_getElem?_getD]; try first | (with_reducible refine zZ ?_) | subst hK_) | subst hK_) | (with_reducible first | refine zA ?_ | refine zB ?_ | refine zC ?_ | refine zD ?_ | refine zE ?_ | refine zF ?_ | refine zG ?_ | refine zH ?_ | refine zI ?_ | refine zJ ?_ | refine zK ?_ | refine zL ?_ | refine zM ?_ | refine zN ?_ | refine zO ?_) | ((with_reducible refine yG ?_ ?_); (focus decide)) | ((with_reducible refine yA ?_); refine yB rfl ?_; (with_reducible first | refine yC ?_ | refine yD ?_)))
        first | refine ⟨t'.length, by omega, exSt (.p (.fn 16 (.vals 1 []))) [] t' O2, ?_, t', O2, rfl, hlen2, rfl, hI2⟩ | refine ⟨t'.length, exSt (.p (.fn 16 (.vals 1 []))) [] t' O2, by omega, ?_, t', O2, rfl, hlen2, rfl, hI2⟩
        unfold exSt
        simp (maxSteps := 1000000) (disch := refine hold_ ?_; first | (simp [tabP, -List.getD_eq_getElem?_getD]; done) | omega) [tabP, -List.getD_eq_getElem?_getD]
def exIV (s : List (BitVec 8)) (m : Nat) (σ : St) : Prop := ∃ (t o : List (BitVec 8)) (b : Bool), m = t.length ∧ o.length + 4 * t.length ≤ 4 * s.length ∧ σ = exSt (.bnd 18 10000 0 0) (obV b) t o ∧ exL blk s = (exL blk t).map fun y => o ++ y
set_option maxRecDepth 10000 in
set_option maxHeartbeats 20000000 in
theorem expandV_ct (s : List (BitVec 8)) (hs : s.length ≤ 4000000) : FnG Tryz.prog 15 [.p (.str (txt s)), .bnd 18 10000 0 0] [rplU] 0 (resV (expandV blk s)) [if okX s = true then rplD else rplU] 0 := by
  refine FnG.of_body Tryz.func15 rfl ?_
  have k1 := utext_ct false s hs
  have k2 := contains_ct s 60#8
  have hb := txt_bytes s
  unfold expandV okX
  cases h1 : textB s with
  | false =>
    rw [h1] at k1
    rw [Bool.false_and, if_neg (by simp)]
    repeat (first | ((with_reducible first | refine callK_at 23 ?_); refine callK_p ?_; simp (maxSteps := 1000000) (disch := refine hold_ ?_; first | (simp [kNil, hb, vLt, -List.getD_eq_getElem?_getD]; done) | omega) [kNil, hb, vLt, -List.getD_eq_getElem?_getD]; (first | refine callK1_of (Fn.ct k1 Tryz.call23) ?_); (try simp (maxSteps := 1000000) (disch := refine hold_ ?_; first | (simp [kNil, hb, vLt, -List.getD_eq_getElem?_getD]; done) | omega) [kNil, hb, vLt, -List.getD_eq_getElem?_getD]); try first | (with_reducible refine zZ ?_) | subst hK_) | ((first | (with_reducible first | refine zP fun K_ hK_ => ?_ | refine zQ fun K_ hK_ => ?_ | refine zT ?_ | refine zU ?_ | refine zV ?_ | refine zW ?_ | refine zX ?_ | refine zY ?_) | ((with_reducible first | refine zR ?_ ?_ fun K_ hK_ => ?_ | refine zS ?_ ?_ fun K_ hK_ => ?_); (focus kernel_rfl); (focus kernel_rfl))); first | (simp (maxSteps := 1000000) (disch := refine hold_ ?_; first | (simp [kNil, hb, vLt, -List.getD_eq_getElem?_getD]; done) | omega) [kNil, hb, vLt, -List.getD_eq_getElem?_getD]; try first | (with_reducible refine zZ ?_) | subst hK_) | subst hK_) | (with_reducible first | refine zA ?_ | refine zB ?_ | refine zC ?_ | refine zD ?_ | refine zE ?_ | refine zF ?_ | refine zG ?_ | refine zH ?_ | refine zI ?_ | refine zJ ?_ | refine zK ?_ | refine zL ?_ | refine zM ?_ | refine zN ?_ | refine zO ?_) | ((with_reducible refine yG ?_ ?_); (focus decide)) | ((with_reducible refine yA ?_); refine yB rfl ?_; (with_reducible first | refine yC ?_ | refine yD ?_)))
    all_goals simp (maxSteps := 1000000) (disch := refine hold_ ?_; first | (simp [resV, rplU, rplD, rpl, nilS, tabP, -List.getD_eq_getElem?_getD]; done) | omega) [resV, rplU, rplD, rpl, nilS, tabP, -List.getD_eq_getElem?_getD]
  | true =>
  rw [h1] at k1
  cases h2 : s.contains 60#8 with
  | true =>
    rw [h2] at k2
    rw [if_neg (by simp)]
    repeat (first | ((with_reducible first | refine callK_at 23 ?_ | refine callK_at 14 ?_); refine callK_p ?_; simp (maxSteps := 1000000) (disch := refine hold_ ?_; first | (simp [kNil, hb, vLt, -List.getD_eq_getElem?_getD]; done) | omega) [kNil, hb, vLt, -List.getD_eq_getElem?_getD]; (first | ((with_reducible refine k1_at 23 ?_); refine callK1_of (Fn.ct k1 Tryz.call23) ?_) | ((with_reducible refine k1_at 14 ?_); refine callK1_of (Fn.ct k2 Tryz.call14) ?_)); (try simp (maxSteps := 1000000) (disch := refine hold_ ?_; first | (simp [kNil, hb, vLt, -List.getD_eq_getElem?_getD]; done) | omega) [kNil, hb, vLt, -List.getD_eq_getElem?_getD]); try first | (with_reducible refine zZ ?_) | subst hK_) | ((first | (with_reducible first | refine zP fun K_ hK_ => ?_ | refine zQ fun K_ hK_ => ?_ | refine zT ?_ | refine zU ?_ | refine zV ?_ | refine zW ?_ | refine zX ?_ | refine zY ?_) | ((with_reducible first | refine zR ?_ ?_ fun K_ hK_ => ?_ | refine zS ?_ ?_ fun K_ hK_ => ?_); (focus kernel_rfl); (focus kernel_rfl))); first | (simp (maxSteps := 1000000) (disch := refine hold_ ?_; first | (simp [kNil, hb, vLt, -List.getD_eq_getElem?_getD]; done) | omega) [kNil, hb, vLt, -List.getD_eq_getElem?_getD]; try first | (with_reducible refine zZ ?_) | subst hK_) | subst hK_) | (with_reducible first | refine zA ?_ | refine zB ?_ | refine zC ?_ | refine zD ?_ | refine zE ?_ | refine zF ?_ | refine zG ?_ | refine zH ?_ | refine zI ?_ | refine zJ ?_ | refine zK ?_ | refine zL ?_ | refine zM ?_ | refine zN ?_ | refine zO ?_) | ((with_reducible refine yG ?_ ?_); (focus decide)) | ((with_reducible refine yA ?_); refine yB rfl ?_; (with_reducible first | refine yC ?_ | refine yD ?_)))
    all_goals simp (maxSteps := 1000000) (disch := refine hold_ ?_; first | (simp [resV, rplU, rplD, rpl, nilS, tabP, -List.getD_eq_getElem?_getD]; done) | omega) [resV, rplU, rplD, rpl, nilS, tabP, -List.getD_eq_getElem?_getD]
  | false =>
  rw [h2] at k2
  rw [if_pos (by simp)]
  repeat (first | ((with_reducible first | refine callK_at 23 ?_ | refine callK_at 14 ?_); refine callK_p ?_; simp (maxSteps := 1000000) (disch := refine hold_ ?_; first | (simp [kNil, hb, vLt, -List.getD_eq_getElem?_getD]; done) | omega) [kNil, hb, vLt, -List.getD_eq_getElem?_getD]; (first | ((with_reducible refine k1_at 23 ?_); refine callK1_of (Fn.ct k1 Tryz.call23) ?_) | ((with_reducible refine k1_at 14 ?_); refine callK1_of (Fn.ct k2 Tryz.call14) ?_)); (try simp (maxSteps := 1000000) (disch := refine hold_ ?_; first | (simp [kNil, hb, vLt, -List.getD_eq_getElem?_getD]; done) | omega) [kNil, hb, vLt, -List.getD_eq_getElem?_getD]); try first | (with_reducible refine zZ ?_) | subst hK_) | ((first | (with_reducible first | refine zP fun K_ hK_ => ?_ | refine zQ fun K_ hK_ => ?_ | refine zT ?_ | refine zU ?_ | refine zV ?_ | refine zW ?_ | refine zX ?_ | refine zY ?_) | ((with_reducible first | refine zR ?_ ?_ fun K_ hK_ => ?_ | refine zS ?_ ?_ fun K_ hK_ => ?_); (focus kernel_rfl); (focus kernel_rfl))); first | (simp (maxSteps := 1000000) (disch := refine hold_ ?_; first | (simp [kNil, hb, vLt, -List.getD_eq_getElem?_getD]; done) | omega) [kNil, hb, vLt, -List.getD_eq_getElem?_getD]; try first | (with_reducible refine zZ ?_) | subst hK_) | subst hK_) | (with_reducible first | refine zA ?_ | refine zB ?_ | refine zC ?_ | refine zD ?_ | refine zE ?_ | refine zF ?_ | refine zG ?_ | refine zH ?_ | refine zI ?_ | refine zJ ?_ | refine zK ?_ | refine zL ?_ | refine zM ?_ | refine zN ?_ | refine zO ?_) | ((with_reducible refine yG ?_ ?_); (focus decide)) | ((with_reducible refine yA ?_); refine yB rfl ?_; (with_reducible first | refine yC ?_ | refine yD ?_)))
  clear k1 k2 hb
  refine AW.nilBuf 6 1 5 (bl []) 6 0 _ _ rfl rfl rfl ?_
  refine AW.iterI (true :: true :: false :: false :: false :: false :: true :: false :: false :: false :: false :: false :: false :: false :: false :: false :: false :: false :: false :: false :: false :: false :: false :: false :: false :: false :: false :: false :: false :: false :: false :: false :: false :: false :: false :: false :: false :: false :: false :: false :: false :: false :: false :: false :: false :: false :: false :: false :: false :: false :: false :: false :: false :: false :: false :: false :: []) s.length (exIV s) (τ := exSt (.bnd 18 10000 0 0) (obV false) s []) ?_ ⟨s, [], false, rfl, by simp, rfl, by simp⟩ ?_
  · unfold exSt obV
    simp (maxSteps := 1000000) (disch := refine hold_ ?_; first | (simp [rplU, rplD, rpl, nilS, tabP, -List.getD_eq_getElem?_getD]; done) | omega) [rplU, rplD, rpl, nilS, tabP, -List.getD_eq_getElem?_getD]
  rintro m σ ⟨t, o, b, rfl, hlen, rfl, hI⟩
  have hcut := cut_ct t 38#8 (by omega)
  have hws := fun c hc => ws_ct o (o.length == 0) c (by omega) hc
  simp only [app_flag] at hws
  cases h3 : cutB 38#8 t with
  | none =>
    rw [h3] at hcut
    rw [exL_none _ _ h3, Option.map_some] at hI
    rw [hI]
    have hbt : bytesL (txt t) = t := bytesL_txt t
    have htz : (txt t).size ≤ 4000000 := by rw [txt_size]; omega
    have hml : (t.map blk).length = t.length := List.length_map _
    have hw := hws (t.map blk) (by rw [hml]; omega)
    have hol : (o ++ (t.map blk)).length ≤ 140737488355328 := by rw [List.length_append]; rw [hml]; omega
    generalize hmb : t.map blk = tb at *
    generalize o ++ tb = O at *
    cases b with
    | false =>
      unfold exSt
      repeat (first | ((with_reducible refine callK_at 18 ?_); refine callK_b (by first | decide | exact Nat.le_of_ble_eq_true rfl) (repl_ok) ?_; simp (maxSteps := 1000000) (disch := refine hold_ ?_; first | (simp [Go.Av.copyPrim, Go.Av.strPrim, kNil, vAmp, cutR, replPrim, hbt, hmb, htz, rplU, rplD, rpl, nilS, tabP, obV, -List.getD_eq_getElem?_getD]; done) | omega) [Go.Av.copyPrim, Go.Av.strPrim, kNil, vAmp, cutR, replPrim, hbt, hmb, htz, rplU, rplD, rpl, nilS, tabP, obV, -List.getD_eq_getElem?_getD]; first | refine zZ ?_ | subst hK_) | ((with_reducible first | refine callK_at 24 ?_); refine callK_p ?_; simp (maxSteps := 1000000) (disch := refine hold_ ?_; first | (simp [kNil, vAmp, cutR, replPrim, hbt, hmb, htz, rplU, rplD, rpl, nilS, tabP, obV, -List.getD_eq_getElem?_getD]; done) | omega) [kNil, vAmp, cutR, replPrim, hbt, hmb, htz, rplU, rplD, rpl, nilS, tabP, obV, -List.getD_eq_getElem?_getD]; (first | refine callK1_of (Fn.ct hcut Tryz.call24) ?_); (try simp (maxSteps := 1000000) (disch := refine hold_ ?_; first | (simp [kNil, vAmp, cutR, replPrim, hbt, hmb, htz, rplU, rplD, rpl, nilS, tabP, obV, -List.getD_eq_getElem?_getD]; done) | omega) [kNil, vAmp, cutR, replPrim, hbt, hmb, htz, rplU, rplD, rpl, nilS, tabP, obV, -List.getD_eq_getElem?_getD]); try first | (with_reducible refine zZ ?_) | subst hK_) | ((with_reducible first | refine callK_at 25 ?_); refine callK_o (by first | decide | exact Nat.le_of_ble_eq_true rfl) ?_; simp (maxSteps := 1000000) (disch := refine hold_ ?_; first | (simp [kNil, vAmp, cutR, replPrim, hbt, hmb, htz, rplU, rplD, rpl, nilS, tabP, obV, -List.getD_eq_getElem?_getD]; done) | omega) [kNil, vAmp, cutR, replPrim, hbt, hmb, htz, rplU, rplD, rpl, nilS, tabP, obV, -List.getD_eq_getElem?_getD]; (first | refine callK3_of (FnG.ct hw Tryz.call25) ?_); (try simp (maxSteps := 1000000) (disch := refine hold_ ?_; first | (simp [kNil, vAmp, cutR, replPrim, hbt, hmb, htz, rplU, rplD, rpl, nilS, tabP, obV, -List.getD_eq_getElem?_getD]; done) | omega) [kNil, vAmp, cutR, replPrim, hbt, hmb, htz, rplU, rplD, rpl, nilS, tabP, obV, -List.getD_eq_getElem?_getD]); try first | (with_reducible refine zZ ?_) | subst hK_) | ((first | (with_reducible first | refine zP fun K_ hK_ => ?_ | refine zQ fun K_ hK_ => ?_ | refine zT ?_ | refine zU ?_ | refine zV ?_ | refine zW ?_ | refine zX ?_ | refine zY ?_) | ((with_reducible first | refine zR ?_ ?_ fun K_ hK_ => ?_ | refine zS ?_ ?_ fun K_ hK_ => ?_); (focus kernel_rfl); (focus kernel_rfl))); first | (simp (maxSteps := 1000000) (disch := refine hold_ ?_; first | (simp [kNil, vAmp, cutR, replPrim, hbt, hmb, htz, rplU, rplD, rpl, nilS, tabP, obV, -List.getD_eq_getElem?_getD]; done) | omega) [kNil, vAmp, cutR, replPrim, hbt, hmb, htz, rplU, rplD, rpl, nilS, tabP, obV, -List.getD_eq_getElem?_getD]; try first | (with_reducible refine zZ ?_) | subst hK_) | subst hK_) | (with_reducible first | refine zA ?_ | refine zB ?_ | refine zC ?_ | refine zD ?_ | refine zE ?_ | refine zF ?_ | refine zG ?_ | refine zH ?_ | refine zI ?_ | refine zJ ?_ | refine zK ?_ | refine zL ?_ | refine zM ?_ | refine zN ?_ | refine zO ?_) | ((with_reducible refine yG ?_ ?_); (focus decide)) | ((with_reducible refine yA ?_); refine yB rfl ?_; (with_reducible first | refine yC ?_ | refine yD ?_)))
      refine callK_str (Nat.le_of_ble_eq_true rfl) str_ok rfl rfl rfl hol rfl ?_
      repeat (first | ((first | (with_reducible first | refine zP fun K_ hK_ => ?_ | refine zQ fun K_ hK_ => ?_ | refine zT ?_ | refine zU ?_ | refine zV ?_ | refine zW ?_ | refine zX ?_ | refine zY ?_) | ((with_reducible first | refine zR ?_ ?_ fun K_ hK_ => ?_ | refine zS ?_ ?_ fun K_ hK_ => ?_); (focus kernel_rfl); (focus kernel_rfl))); first | (simp (maxSteps := 1000000) (disch := refine hold_ ?_; first | (simp [-List.getD_eq_getElem?_getD]; done) | omega) [-List.getD_eq_getElem?_getD]; try first | (with_reducible refine zZ ?_) | subst hK_) | subst hK_) | (with_reducible first | refine zA ?_ | refine zB ?_ | refine zC ?_ | refine zD ?_ | refine zE ?_ | refine zF ?_ | refine zG ?_ | refine zH ?_ | refine zI ?_ | refine zJ ?_ | refine zK ?_ | refine zL ?_ | refine zM ?_ | refine zN ?_ | refine zO ?_) | ((with_reducible refine yG ?_ ?_); (focus decide)) | ((with_reducible refine yA ?_); refine yB rfl ?_; (with_reducible first | refine yC ?_ | refine yD ?_)))
      all_goals simp (maxSteps := 1000000) (disch := refine hold_ ?_; first | (simp [resV, rplU, rplD, rpl, nilS, tabP, -List.getD_eq_getElem?_getD]; done) | omega) [resV, rplU, rplD, rpl, nilS, tabP, -List.getD_eq_getElem?_getD]
    | true =>
      unfold exSt
      repeat (first | ((with_reducible refine callK_at 18 ?_); refine callK_b (by first | decide | exact Nat.le_of_ble_eq_true rfl) (repl_ok) ?_; simp (maxSteps := 1000000) (disch := refine hold_ ?_; first | (simp [Go.Av.copyPrim, Go.Av.strPrim, kNil, vAmp, cutR, replPrim, hbt, hmb, htz, rplU, rplD, rpl, nilS, tabP, obV, -List.getD_eq_getElem?_getD]; done) | omega) [Go.Av.copyPrim, Go.Av.strPrim, kNil, vAmp, cutR, replPrim, hbt, hmb, htz, rplU, rplD, rpl, nilS, tabP, obV, -List.getD_eq_getElem?_getD]; first | refine zZ ?_ | subst hK_) | ((with_reducible first | refine callK_at 24 ?_); refine callK_p ?_; simp (maxSteps := 1000000) (disch := refine hold_ ?_; first | (simp [kNil, vAmp, cutR, replPrim, hbt, hmb, htz, rplU, rplD, rpl, nilS, tabP, obV, -List.getD_eq_getElem?_getD]; done) | omega) [kNil, vAmp, cutR, replPrim, hbt, hmb, htz, rplU, rplD, rpl, nilS, tabP, obV, -List.getD_eq_getElem?_getD]; (first | refine callK1_of (Fn.ct hcut Tryz.call24) ?_); (try simp (maxSteps := 1000000) (disch := refine hold_ ?_; first | (simp [kNil, vAmp, cutR, replPrim, hbt, hmb, htz, rplU, rplD, rpl, nilS, tabP, obV, -List.getD_eq_getElem?_getD]; done) | omega) [kNil, vAmp, cutR, replPrim, hbt, hmb, htz, rplU, rplD, rpl, nilS, tabP, obV, -List.getD_eq_getElem?_getD]); try first | (with_reducible refine zZ ?_) | subst hK_) | ((with_reducible first | refine callK_at 25 ?_); refine callK_o (by first | decide | exact Nat.le_of_ble_eq_true rfl) ?_; simp (maxSteps := 1000000) (disch := refine hold_ ?_; first | (simp [kNil, vAmp, cutR, replPrim, hbt, hmb, htz, rplU, rplD, rpl, nilS, tabP, obV, -List.getD_eq_getElem?_getD]; done) | omega) [kNil, vAmp, cutR, replPrim, hbt, hmb, htz, rplU, rplD, rpl, nilS, tabP, obV, -List.getD_eq_getElem?_getD]; (first | refine callK3_of (FnG.ct hw Tryz.call25) ?_); (try simp (maxSteps := 1000000) (disch := refine hold_ ?_; first | (simp [kNil, vAmp, cutR, replPrim, hbt, hmb, htz, rplU, rplD, rpl, nilS, tabP, obV, -List.getD_eq_getElem?_getD]; done) | omega) [kNil, vAmp, cutR, replPrim, hbt, hmb, htz, rplU, rplD, rpl, nilS, tabP, obV, -List.getD_eq_getElem?_getD]); try first | (with_reducible refine zZ ?_) | subst hK_) | ((first | (with_reducible first | refine zP fun K_ hK_ => ?_ | refine zQ fun K_ hK_ => ?_ | refine zT ?_ | refine zU ?_ | refine zV ?_ | refine zW ?_ | refine zX ?_ | refine zY ?_) | ((with_reducible first | refine zR ?_ ?_ fun K_ hK_ => ?_ | refine zS ?_ ?_ fun K_ hK_ => ?_); (focus kernel_rfl); (focus kernel_rfl))); first | (simp (maxSteps := 1000000) (disch := refine hold_ ?_; first | (simp [kNil, vAmp, cutR, replPrim, hbt, hmb, htz, rplU, rplD, rpl, nilS, tabP, obV, -List.getD_eq_getElem?_getD]; done) | omega) [kNil, vAmp, cutR, replPrim, hbt, hmb, htz, rplU, rplD, rpl, nilS, tabP, obV, -List.getD_eq_getElem?_getD]; try first | (with_reducible refine zZ ?_) | subst hK_) | subst hK_) | (with_reducible first | refine zA ?_ | refine zB ?_ | refine zC ?_ | refine zD ?_ | refine zE ?_ | refine zF ?_ | refine zG ?_ | refine zH ?_ | refine zI ?_ | refine zJ ?_ | refine zK ?_ | refine zL ?_ | refine zM ?_ | refine zN ?_ | refine zO ?_) | ((with_reducible refine yG ?_ ?_); (focus decide)) | ((with_reducible refine yA ?_); refine yB rfl ?_; (with_reducible first | refine yC ?_ | refine yD ?_)))
      refine callK_str (Nat.le_of_ble_eq_true rfl) str_ok rfl rfl rfl hol rfl ?_
      repeat (first | ((first | (with_reducible first | refine zP fun K_ hK_ => ?_ | refine zQ fun K_ hK_ => ?_ | refine zT ?_ | refine zU ?_ | refine zV ?_ | refine zW ?_ | refine zX ?_ | refine zY ?_) | ((with_reducible first | refine zR ?_ ?_ fun K_ hK_ => ?_ | refine zS ?_ ?_ fun K_ hK_ => ?_); (focus kernel_rfl); (focus kernel_rfl))); first | (simp (maxSteps := 1000000) (disch := refine hold_ ?_; first | (simp [-List.getD_eq_getElem?_getD]; done) | omega) [-List.getD_eq_getElem?_getD]; try first | (with_reducible refine zZ ?_) | subst hK_) | subst hK_) | (with_reducible first | refine zA ?_ | refine zB ?_ | refine zC ?_ | refine zD ?_ | refine zE ?_ | refine zF ?_ | refine zG ?_ | refine zH ?_ | refine zI ?_ | refine zJ ?_ | refine zK ?_ | refine zL ?_ | refine zM ?_ | refine zN ?_ | refine zO ?_) | ((with_reducible refine yG ?_ ?_); (focus decide)) | ((with_reducible refine yA ?_); refine yB rfl ?_; (with_reducible first | refine yC ?_ | refine yD ?_)))
      all_goals simp (maxSteps := 1000000) (disch := refine hold_ ?_; first | (simp [resV, rplU, rplD, rpl, nilS, tabP, -List.getD_eq_getElem?_getD]; done) | omega) [resV, rplU, rplD, rpl, nilS, tabP, -List.getD_eq_getElem?_getD]
  | some q =>
    obtain ⟨a, r⟩ := q
    rw [h3] at hcut
    have l1 := cutB_len _ _ _ h3
    simp only at l1
    have hcut2 := cut_ct r 59#8 (by omega)
    have hba : bytesL (txt a) = a := bytesL_txt a
    have haz : (txt a).size ≤ 4000000 := by rw [txt_size]; omega
    have hml : (a.map blk).length = a.length := List.length_map _
    have hw := hws (a.map blk) (by rw [hml]; omega)
    cases h4 : cutB 59#8 r with
    | none =>
      rw [h4] at hcut2
      rw [exL_bad _ _ _ _ h3 h4, Option.map_none] at hI
      rw [hI]
      have hst := stands_ct r (by omega)
      generalize hmb : a.map blk = ab at *
      generalize o ++ ab = O at *
      cases h5 : standsV r with
      | none =>
        rw [h5] at hst
        cases b with
        | false =>
          unfold exSt
          repeat (first | ((with_reducible refine callK_at 18 ?_); refine callK_b (by first | decide | exact Nat.le_of_ble_eq_true rfl) (repl_ok) ?_; simp (maxSteps := 1000000) (disch := refine hold_ ?_; first | (simp [Go.Av.copyPrim, Go.Av.strPrim, kNil, vAmp, vSemi, cutR, resV, replPrim, hba, hmb, haz, rplU, rplD, rpl, nilS, tabP, obV, -List.getD_eq_getElem?_getD]; done) | omega) [Go.Av.copyPrim, Go.Av.strPrim, kNil, vAmp, vSemi, cutR, resV, replPrim, hba, hmb, haz, rplU, rplD, rpl, nilS, tabP, obV, -List.getD_eq_getElem?_getD]; first | refine zZ ?_ | subst hK_) | ((with_reducible first | refine callK_at 24 ?_ | refine callK_at 27 ?_); refine callK_p ?_; simp (maxSteps := 1000000) (disch := refine hold_ ?_; first | (simp [kNil, vAmp, vSemi, cutR, resV, replPrim, hba, hmb, haz, rplU, rplD, rpl, nilS, tabP, obV, -List.getD_eq_getElem?_getD]; done) | omega) [kNil, vAmp, vSemi, cutR, resV, replPrim, hba, hmb, haz, rplU, rplD, rpl, nilS, tabP, obV, -List.getD_eq_getElem?_getD]; (first | ((with_reducible refine k1_at 24 ?_); refine callK1_of ((by first | exact Fn.ct hcut Tryz.call24 | exact Fn.ct hcut2 Tryz.call24)) ?_) | ((with_reducible refine k1_at 27 ?_); refine callK1_of (Fn.ct hst Tryz.call27) ?_)); (try simp (maxSteps := 1000000) (disch := refine hold_ ?_; first | (simp [kNil, vAmp, vSemi, cutR, resV, replPrim, hba, hmb, haz, rplU, rplD, rpl, nilS, tabP, obV, -List.getD_eq_getElem?_getD]; done) | omega) [kNil, vAmp, vSemi, cutR, resV, replPrim, hba, hmb, haz, rplU, rplD, rpl, nilS, tabP, obV, -List.getD_eq_getElem?_getD]); try first | (with_reducible refine zZ ?_) | subst hK_) | ((with_reducible first | refine callK_at 25 ?_); refine callK_o (by first | decide | exact Nat.le_of_ble_eq_true rfl) ?_; simp (maxSteps := 1000000) (disch := refine hold_ ?_; first | (simp [kNil, vAmp, vSemi, cutR, resV, replPrim, hba, hmb, haz, rplU, rplD, rpl, nilS, tabP, obV, -List.getD_eq_getElem?_getD]; done) | omega) [kNil, vAmp, vSemi, cutR, resV, replPrim, hba, hmb, haz, rplU, rplD, rpl, nilS, tabP, obV, -List.getD_eq_getElem?_getD]; (first | refine callK3_of (FnG.ct hw Tryz.call25) ?_); (try simp (maxSteps := 1000000) (disch := refine hold_ ?_; first | (simp [kNil, vAmp, vSemi, cutR, resV, replPrim, hba, hmb, haz, rplU, rplD, rpl, nilS, tabP, obV, -List.getD_eq_getElem?_getD]; done) | omega) [kNil, vAmp, vSemi, cutR, resV, replPrim, hba, hmb, haz, rplU, rplD, rpl, nilS, tabP, obV, -List.getD_eq_getElem?_getD]); try first | (with_reducible refine zZ ?_) | subst hK_) | ((first | (with_reducible first | refine zP fun K_ hK_ => ?_ | refine zQ fun K_ hK_ => ?_ | refine zT ?_ | refine zU ?_ | refine zV ?_ | refine zW ?_ | refine zX ?_ | refine zY ?_) | ((with_reducible first | refine zR ?_ ?_ fun K_ hK_ => ?_ | refine zS ?_ ?_ fun K_ hK_ => ?_); (focus kernel_rfl); (focus kernel_rfl))); first | (simp (maxSteps := 1000000) (disch := refine hold_ ?_; first | (simp [kNil, vAmp, vSemi, cutR, resV, replPrim, hba, hmb, haz, rplU, rplD, rpl, nilS, tabP, obV, -List.getD_eq_getElem?_getD]; done) | omega) [kNil, vAmp, vSemi, cutR, resV, replPrim, hba, hmb, haz, rplU, rplD, rpl, nilS, tabP, obV, -List.getD_eq_getElem?_getD]; try first | (with_reducible refine zZ ?_) | subst hK_) | subst hK_) | (with_reducible first | refine zA ?_ | refine zB ?_ | refine zC ?_ | refine zD ?_ | refine zE ?_ | refine zF ?_ | refine zG ?_ | refine zH ?_ | refine zI ?_ | refine zJ ?_ | refine zK ?_ | refine zL ?_ | refine zM ?_ | refine zN ?_ | refine zO ?_) | ((with_reducible refine yG ?_ ?_); (focus decide)) | ((with_reducible refine yA ?_); refine yB rfl ?_; (with_reducible first | refine yC ?_ | refine yD ?_)))
          all_goals simp (maxSteps := 1000000) (disch := refine hold_ ?_; first | (simp [resV, rplU, rplD, rpl, nilS, tabP, -List.getD_eq_getElem?_getD]; done) | omega) [resV, rplU, rplD, rpl, nilS, tabP, -List.getD_eq_getElem?_getD]
        | true =>
          unfold exSt
          repeat (first | ((with_reducible refine callK_at 18 ?_); refine callK_b (by first | decide | exact Nat.le_of_ble_eq_true rfl) (repl_ok) ?_; simp (maxSteps := 1000000) (disch := refine hold_ ?_; first | (simp [Go.Av.copyPrim, Go.Av.strPrim, kNil, vAmp, vSemi, cutR, resV, replPrim, hba, hmb, haz, rplU, rplD, rpl, nilS, tabP, obV, -List.getD_eq_getElem?_getD]; done) | omega) [Go.Av.copyPrim, Go.Av.strPrim, kNil, vAmp, vSemi, cutR, resV, replPrim, hba, hmb, haz, rplU, rplD, rpl, nilS, tabP, obV, -List.getD_eq_getElem?_getD]; first | refine zZ ?_ | subst hK_) | ((with_reducible first | refine callK_at 24 ?_ | refine callK_at 27 ?_); refine callK_p ?_; simp (maxSteps := 1000000) (disch := refine hold_ ?_; first | (simp [kNil, vAmp, vSemi, cutR, resV, replPrim, hba, hmb, haz, rplU, rplD, rpl, nilS, tabP, obV, -List.getD_eq_getElem?_getD]; done) | omega) [kNil, vAmp, vSemi, cutR, resV, replPrim, hba, hmb, haz, rplU, rplD, rpl, nilS, tabP, obV, -List.getD_eq_getElem?_getD]; (first | ((with_reducible refine k1_at 24 ?_); refine callK1_of ((by first | exact Fn.ct hcut Tryz.call24 | exact Fn.ct hcut2 Tryz.call24)) ?_) | ((with_reducible refine k1_at 27 ?_); refine callK1_of (Fn.ct hst Tryz.call27) ?_)); (try simp (maxSteps := 1000000) (disch := refine hold_ ?_; first | (simp [kNil, vAmp, vSemi, cutR, resV, replPrim, hba, hmb, haz, rplU, rplD, rpl, nilS, tabP, obV, -List.getD_eq_getElem?_getD]; done) | omega) [kNil, vAmp, vSemi, cutR, resV, replPrim, hba, hmb, haz, rplU, rplD, rpl, nilS, tabP, obV, -List.getD_eq_getElem?_getD]); try first | (with_reducible refine zZ ?_) | subst hK_) | ((with_reducible first | refine callK_at 25 ?_); refine callK_o (by first | decide | exact Nat.le_of_ble_eq_true rfl) ?_; simp (maxSteps := 1000000) (disch := refine hold_ ?_; first | (simp [kNil, vAmp, vSemi, cutR, resV, replPrim, hba, hmb, haz, rplU, rplD, rpl, nilS, tabP, obV, -List.getD_eq_getElem?_getD]; done) | omega) [kNil, vAmp, vSemi, cutR, resV, replPrim, hba, hmb, haz, rplU, rplD, rpl, nilS, tabP, obV, -List.getD_eq_getElem?_getD]; (first | refine callK3_of (FnG.ct hw Tryz.call25) ?_); (try simp (maxSteps := 1000000) (disch := refine hold_ ?_; first | (simp [kNil, vAmp, vSemi, cutR, resV, replPrim, hba, hmb, haz, rplU, rplD, rpl, nilS, tabP, obV, -List.getD_eq_getElem?_getD]; done) | omega) [kNil, vAmp, vSemi, cutR, resV, replPrim, hba, hmb, haz, rplU, rplD, rpl, nilS, tabP, obV, -List.getD_eq_getElem?_getD]); try first | (with_reducible refine zZ ?_) | subst hK_) | ((first | (with_reducible first | refine zP fun K_ hK_ => ?_ | refine zQ fun K_ hK_ => ?_ | refine zT ?_ | refine zU ?_ | refine zV ?_ | refine zW ?_ | refine zX ?_ | refine zY ?_) | ((with_reducible first | refine zR ?_ ?_ fun K_ hK_ => ?_ | refine zS ?_ ?_ fun K_ hK_ => ?_); (focus kernel_rfl); (focus kernel_rfl))); first | (simp (maxSteps := 1000000) (disch := refine hold_ ?_; first | (simp [kNil, vAmp, vSemi, cutR, resV, replPrim, hba, hmb, haz, rplU, rplD, rpl, nilS, tabP, obV, -List.getD_eq_getElem?_getD]; done) | omega) [kNil, vAmp, vSemi, cutR, resV, replPrim, hba, hmb, haz, rplU, rplD, rpl, nilS, tabP, obV, -List.getD_eq_getElem?_getD]; try first | (with_reducible refine zZ ?_) | subst hK_) | subst hK_) | (with_reducible first | refine zA ?_ | refine zB ?_ | refine zC ?_ | refine zD ?_ | refine zE ?_ | refine zF ?_ | refine zG ?_ | refine zH ?_ | refine zI ?_ | refine zJ ?_ | refine zK ?_ | refine zL ?_ | refine zM ?_ | refine zN ?_ | refine zO ?_) | ((with_reducible refine yG ?_ ?_); (focus decide)) | ((with_reducible refine yA ?_); refine yB rfl ?_; (with_reducible first | refine yC ?_ | refine yD ?_)))
          all_goals simp (maxSteps := 1000000) (disch := refine hold_ ?_; first | (simp [resV, rplU, rplD, rpl, nilS, tabP, -List.getD_eq_getElem?_getD]; done) | omega) [resV, rplU, rplD, rpl, nilS, tabP, -List.getD_eq_getElem?_getD]
      | some x =>
        rw [h5] at hst
        cases b with
        | false =>
          unfold exSt
          repeat (first | ((with_reducible refine callK_at 18 ?_); refine callK_b (by first | decide | exact Nat.le_of_ble_eq_true rfl) (repl_ok) ?_; simp (maxSteps := 1000000) (disch := refine hold_ ?_; first | (simp [Go.Av.copyPrim, Go.Av.strPrim, kNil, vAmp, vSemi, cutR, resV, replPrim, hba, hmb, haz, rplU, rplD, rpl, nilS, tabP, obV, -List.getD_eq_getElem?_getD]; done) | omega) [Go.Av.copyPrim, Go.Av.strPrim, kNil, vAmp, vSemi, cutR, resV, replPrim, hba, hmb, haz, rplU, rplD, rpl, nilS, tabP, obV, -List.getD_eq_getElem?_getD]; first | refine zZ ?_ | subst hK_) | ((with_reducible first | refine callK_at 24 ?_ | refine callK_at 27 ?_); refine callK_p ?_; simp (maxSteps := 1000000) (disch := refine hold_ ?_; first | (simp [kNil, vAmp, vSemi, cutR, resV, replPrim, hba, hmb, haz, rplU, rplD, rpl, nilS, tabP, obV, -List.getD_eq_getElem?_getD]; done) | omega) [kNil, vAmp, vSemi, cutR, resV, replPrim, hba, hmb, haz, rplU, rplD, rpl, nilS, tabP, obV, -List.getD_eq_getElem?_getD]; (first | ((with_reducible refine k1_at 24 ?_); refine callK1_of ((by first | exact Fn.ct hcut Tryz.call24 | exact Fn.ct hcut2 Tryz.call24)) ?_) | ((with_reducible refine k1_at 27 ?_); refine callK1_of (Fn.ct hst Tryz.call27) ?_)); (try simp (maxSteps := 1000000) (disch := refine hold_ ?_; first | (simp [kNil, vAmp, vSemi, cutR, resV, replPrim, hba, hmb, haz, rplU, rplD, rpl, nilS, tabP, obV, -List.getD_eq_getElem?_getD]; done) | omega) [kNil, vAmp, vSemi, cutR, resV, replPrim, hba, hmb, haz, rplU, rplD, rpl, nilS, tabP, obV, -List.getD_eq_getElem?_getD]); try first | (with_reducible refine zZ ?_) | subst hK_) | ((with_reducible first | refine callK_at 25 ?_); refine callK_o (by first | decide | exact Nat.le_of_ble_eq_true rfl) ?_; simp (maxSteps := 1000000) (disch := refine hold_ ?_; first | (simp [kNil, vAmp, vSemi, cutR, resV, replPrim, hba, hmb, haz, rplU, rplD, rpl, nilS, tabP, obV, -List.getD_eq_getElem?_getD]; done) | omega) [kNil, vAmp, vSemi, cutR, resV, replPrim, hba, hmb, haz, rplU, rplD, rpl, nilS, tabP, obV, -List.getD_eq_getElem?_getD]; (first | refine callK3_of (FnG.ct hw Tryz.call25) ?_); (try simp (maxSteps := 1000000) (disch := refine hold_ ?_; first | (simp [kNil, vAmp, vSemi, cutR, resV, replPrim, hba, hmb, haz, rplU, rplD, rpl, nilS, tabP, obV, -List.getD_eq_getElem?_getD]; done) | omega) [kNil, vAmp, vSemi, cutR, resV, replPrim, hba, hmb, haz, rplU, rplD, rpl, nilS, tabP, obV, -List.getD_eq_getElem?_getD]); try first | (with_reducible refine zZ ?_) | subst hK_) | ((first | (with_reducible first | refine zP fun K_ hK_ => ?_ | refine zQ fun K_ hK_ => ?_ | refine zT ?_ | refine zU ?_ | refine zV ?_ | refine zW ?_ | refine zX ?_ | refine zY ?_) | ((with_reducible first | refine zR ?_ ?_ fun K_ hK_ => ?_ | refine zS ?_ ?_ fun K_ hK_ => ?_); (focus kernel_rfl); (focus kernel_rfl))); first | (simp (maxSteps := 1000000) (disch := refine hold_ ?_; first | (simp [kNil, vAmp, vSemi, cutR, resV, replPrim, hba, hmb, haz, rplU, rplD, rpl, nilS, tabP, obV, -List.getD_eq_getElem?_getD]; done) | omega) [kNil, vAmp, vSemi, cutR, resV, replPrim, hba, hmb, haz, rplU, rplD, rpl, nilS, tabP, obV, -List.getD_eq_getElem?_getD]; try first | (with_reducible refine zZ ?_) | subst hK_) | subst hK_) | (with_reducible first | refine zA ?_ | refine zB ?_ | refine zC ?_ | refine zD ?_ | refine zE ?_ | refine zF ?_ | refine zG ?_ | refine zH ?_ | refine zI ?_ | refine zJ ?_ | refine zK ?_ | refine zL ?_ | refine zM ?_ | refine zN ?_ | refine zO ?_) | ((with_reducible refine yG ?_ ?_); (focus decide)) | ((with_reducible refine yA ?_); refine yB rfl ?_; (with_reducible first | refine yC ?_ | refine yD ?_)))
          all_goals simp (maxSteps := 1000000) (disch := refine hold_ ?_; first | (simp [resV, rplU, rplD, rpl, nilS, tabP, -List.getD_eq_getElem?_getD]; done) | omega) [resV, rplU, rplD, rpl, nilS, tabP, -List.getD_eq_getElem?_getD]
        | true =>
          unfold exSt
          repeat (first | ((with_reducible refine callK_at 18 ?_); refine callK_b (by first | decide | exact Nat.le_of_ble_eq_true rfl) (repl_ok) ?_; simp (maxSteps := 1000000) (disch := refine hold_ ?_; first | (simp [Go.Av.copyPrim, Go.Av.strPrim, kNil, vAmp, vSemi, cutR, resV, replPrim, hba, hmb, haz, rplU, rplD, rpl, nilS, tabP, obV, -List.getD_eq_getElem?_getD]; done) | omega) [Go.Av.copyPrim, Go.Av.strPrim, kNil, vAmp, vSemi, cutR, resV, replPrim, hba, hmb, haz, rplU, rplD, rpl, nilS, tabP, obV, -List.getD_eq_getElem?_getD]; first | refine zZ ?_ | subst hK_) | ((with_reducible first | refine callK_at 24 ?_ | refine callK_at 27 ?_); refine callK_p ?_; simp (maxSteps := 1000000) (disch := refine hold_ ?_; first | (simp [kNil, vAmp, vSemi, cutR, resV, replPrim, hba, hmb, haz, rplU, rplD, rpl, nilS, tabP, obV, -List.getD_eq_getElem?_getD]; done) | omega) [kNil, vAmp, vSemi, cutR, resV, replPrim, hba, hmb, haz, rplU, rplD, rpl, nilS, tabP, obV, -List.getD_eq_getElem?_getD]; (first | ((with_reducible refine k1_at 24 ?_); refine callK1_of ((by first | exact Fn.ct hcut Tryz.call24 | exact Fn.ct hcut2 Tryz.call24)) ?_) | ((with_reducible refine k1_at 27 ?_); refine callK1_of (Fn.ct hst Tryz.call27) ?_)); (try simp (maxSteps := 1000000) (disch := refine hold_ ?_; first | (simp [kNil, vAmp, vSemi, cutR, resV, replPrim, hba, hmb, haz, rplU, rplD, rpl, nilS, tabP, obV, -List.getD_eq_getElem?_getD]; done) | omega) [kNil, vAmp, vSemi, cutR, resV, replPrim, hba, hmb, haz, rplU, rplD, rpl, nilS, tabP, obV, -List.getD_eq_getElem?_getD]); try first | (with_reducible refine zZ ?_) | subst hK_) | ((with_reducible first | refine callK_at 25 ?_); refine callK_o (by first | decide | exact Nat.le_of_ble_eq_true rfl) ?_; simp (maxSteps := 1000000) (disch := refine hold_ ?_; first | (simp [kNil, vAmp, vSemi, cutR, resV, replPrim, hba, hmb, haz, rplU, rplD, rpl, nilS, tabP, obV, -List.getD_eq_getElem?_getD]; done) | omega) [kNil, vAmp, vSemi, cutR, resV, replPrim, hba, hmb, haz, rplU, rplD, rpl, nilS, tabP, obV, -List.getD_eq_getElem?_getD]; (first | refine callK3_of (FnG.ct hw Tryz.call25) ?_); (try simp (maxSteps := 1000000) (disch := refine hold_ ?_; first | (simp [kNil, vAmp, vSemi, cutR, resV, replPrim, hba, hmb, haz, rplU, rplD, rpl, nilS, tabP, obV, -List.getD_eq_getElem?_getD]; done) | omega) [kNil, vAmp, vSemi, cutR, resV, replPrim, hba, hmb, haz, rplU, rplD, rpl, nilS, tabP, obV, -List.getD_eq_getElem?_getD]); try first | (with_reducible refine zZ ?_) | subst hK_) | ((first | (with_reducible first | refine zP fun K_ hK_ => ?_ | refine zQ fun K_ hK_ => ?_ | refine zT ?_ | refine zU ?_ | refine zV ?_ | refine zW ?_ | refine zX ?_ | refine zY ?_) | ((with_reducible first | refine zR ?_ ?_ fun K_ hK_ => ?_ | refine zS ?_ ?_ fun K_ hK_ => ?_); (focus kernel_rfl); (focus kernel_rfl))); first | (simp (maxSteps := 1000000) (disch := refine hold_ ?_; first | (simp [kNil, vAmp, vSemi, cutR, resV, replPrim, hba, hmb, haz, rplU, rplD, rpl, nilS, tabP, obV, -List.getD_eq_getElem?_getD]; done) | omega) [kNil, vAmp, vSemi, cutR, resV, replPrim, hba, hmb, haz, rplU, rplD, rpl, nilS, tabP, obV, -List.getD_eq_getElem?_getD]; try first | (with_reducible refine zZ ?_) | subst hK_) | subst hK_) | (with_reducible first | refine zA ?_ | refine zB ?_ | refine zC ?_ | refine zD ?_ | refine zE ?_ | refine zF ?_ | refine zG ?_ | refine zH ?_ | refine zI ?_ | refine zJ ?_ | refine zK ?_ | refine zL ?_ | refine zM ?_ | refine zN ?_ | refine zO ?_) | ((with_reducible refine yG ?_ ?_); (focus decide)) | ((with_reducible refine yA ?_); refine yB rfl ?_; (with_reducible first | refine yC ?_ | refine yD ?_)))
          all_goals simp (maxSteps := 1000000) (disch := refine hold_ ?_; first | (simp [resV, rplU, rplD, rpl, nilS, tabP, -List.getD_eq_getElem?_getD]; done) | omega) [resV, rplU, rplD, rpl, nilS, tabP, -List.getD_eq_getElem?_getD]
    | some q =>
      obtain ⟨i, t'⟩ := q
      rw [h4] at hcut2
      have l2 := cutB_len _ _ _ h4
      simp only at l2
      have hst := stands_ct i (by omega)
      cases h5 : standsV i with
      | none =>
        rw [h5] at hst
        rw [exL_bad2 _ _ _ _ _ _ h3 h4 h5, Option.map_none] at hI
        rw [hI]
        generalize hmb : a.map blk = ab at *
        generalize o ++ ab = O at *
        cases b with
        | false =>
          unfold exSt
          repeat (first | ((with_reducible refine callK_at 18 ?_); refine callK_b (by first | decide | exact Nat.le_of_ble_eq_true rfl) (repl_ok) ?_; simp (maxSteps := 1000000) (disch := refine hold_ ?_; first | (simp [Go.Av.copyPrim, Go.Av.strPrim, kNil, vAmp, vSemi, cutR, resV, replPrim, hba, hmb, haz, rplU, rplD, rpl, nilS, tabP, obV, -List.getD_eq_getElem?_getD]; done) | omega) [Go.Av.copyPrim, Go.Av.strPrim, kNil, vAmp, vSemi, cutR, resV, replPrim, hba, hmb, haz, rplU, rplD, rpl, nilS, tabP, obV, -List.getD_eq_getElem?_getD]; first | refine zZ ?_ | subst hK_) | ((with_reducible first | refine callK_at 24 ?_ | refine callK_at 27 ?_); refine callK_p ?_; simp (maxSteps := 1000000) (disch := refine hold_ ?_; first | (simp [kNil, vAmp, vSemi, cutR, resV, replPrim, hba, hmb, haz, rplU, rplD, rpl, nilS, tabP, obV, -List.getD_eq_getElem?_getD]; done) | omega) [kNil, vAmp, vSemi, cutR, resV, replPrim, hba, hmb, haz, rplU, rplD, rpl, nilS, tabP, obV, -List.getD_eq_getElem?_getD]; (first | ((with_reducible refine k1_at 24 ?_); refine callK1_of ((by first | exact Fn.ct hcut Tryz.call24 | exact Fn.ct hcut2 Tryz.call24)) ?_) | ((with_reducible refine k1_at 27 ?_); refine callK1_of (Fn.ct hst Tryz.call27) ?_)); (try simp (maxSteps := 1000000) (disch := refine hold_ ?_; first | (simp [kNil, vAmp, vSemi, cutR, resV, replPrim, hba, hmb, haz, rplU, rplD, rpl, nilS, tabP, obV, -List.getD_eq_getElem?_getD]; done) | omega) [kNil, vAmp, vSemi, cutR, resV, replPrim, hba, hmb, haz, rplU, rplD, rpl, nilS, tabP, obV, -List.getD_eq_getElem?_getD]); try first | (with_reducible refine zZ ?_) | subst hK_) | ((with_reducible first | refine callK_at 25 ?_); refine callK_o (by first | decide | exact Nat.le_of_ble_eq_true rfl) ?_; simp (maxSteps := 1000000) (disch := refine hold_ ?_; first | (simp [kNil, vAmp, vSemi, cutR, resV, replPrim, hba, hmb, haz, rplU, rplD, rpl, nilS, tabP, obV, -List.getD_eq_getElem?_getD]; done) | omega) [kNil, vAmp, vSemi, cutR, resV, replPrim, hba, hmb, haz, rplU, rplD, rpl, nilS, tabP, obV, -List.getD_eq_getElem?_getD]; (first | refine callK3_of (FnG.ct hw Tryz.call25) ?_); (try simp (maxSteps := 1000000) (disch := refine hold_ ?_; first | (simp [kNil, vAmp, vSemi, cutR, resV, replPrim, hba, hmb, haz, rplU, rplD, rpl, nilS, tabP, obV, -List.getD_eq_getElem?_getD]; done) | omega) [kNil, vAmp, vSemi, cutR, resV, replPrim, hba, hmb, haz, rplU, rplD, rpl, nilS, tabP, obV, -List.getD_eq_getElem?_getD]); try first | (with_reducible refine zZ ?_) | subst hK_) | ((first | (with_reducible first | refine zP fun K_ hK_ => ?_ | refine zQ fun K_ hK_ => ?_ | refine zT ?_ | refine zU ?_ | refine zV ?_ | refine zW ?_ | refine zX ?_ | refine zY ?_) | ((with_reducible first | refine zR ?_ ?_ fun K_ hK_ => ?_ | refine zS ?_ ?_ fun K_ hK_ => ?_); (focus kernel_rfl); (focus kernel_rfl))); first | (simp (maxSteps := 1000000) (disch := refine hold_ ?_; first | (simp [kNil, vAmp, vSemi, cutR, resV, replPrim, hba, hmb, haz, rplU, rplD, rpl, nilS, tabP, obV, -List.getD_eq_getElem?_getD]; done) | omega) [kNil, vAmp, vSemi, cutR, resV, replPrim, hba, hmb, haz, rplU, rplD, rpl, nilS, tabP, obV, -List.getD_eq_getElem?_getD]; try first | (with_reducible refine zZ ?_) | subst hK_) | subst hK_) | (with_reducible first | refine zA ?_ | refine zB ?_ | refine zC ?_ | refine zD ?_ | refine zE ?_ | refine zF ?_ | refine zG ?_ | refine zH ?_ | refine zI ?_ | refine zJ ?_ | refine zK ?_ | refine zL ?_ | refine zM ?_ | refine zN ?_ | refine zO ?_) | ((with_reducible refine yG ?_ ?_); (focus decide)) | ((with_reducible refine yA ?_); refine yB rfl ?_; (with_reducible first | refine yC ?_ | refine yD ?_)))
          all_goals simp (maxSteps := 1000000) (disch := refine hold_ ?_; first | (simp [resV, rplU, rplD, rpl, nilS, tabP, -List.getD_eq_getElem?_getD]; done) | omega) [resV, rplU, rplD, rpl, nilS, tabP, -List.getD_eq_getElem?_getD]
        | true =>
          unfold exSt
          repeat (first | ((with_reducible refine callK_at 18 ?_); refine callK_b (by first | decide | exact Nat.le_of_ble_eq_true rfl) (repl_ok) ?_; simp (maxSteps := 1000000) (disch := refine hold_ ?_; first | (simp [Go.Av.copyPrim, Go.Av.strPrim, kNil, vAmp, vSemi, cutR, resV, replPrim, hba, hmb, haz, rplU, rplD, rpl, nilS, tabP, obV, -List.getD_eq_getElem?_getD]; done) | omega) [Go.Av.copyPrim, Go.Av.strPrim, kNil, vAmp, vSemi, cutR, resV, replPrim, hba, hmb, haz, rplU, rplD, rpl, nilS, tabP, obV, -List.getD_eq_getElem?_getD]; first | refine zZ ?_ | subst hK_) | ((with_reducible first | refine callK_at 24 ?_ | refine callK_at 27 ?_); refine callK_p ?_; simp (maxSteps := 1000000) (disch := refine hold_ ?_; first | (simp [kNil, vAmp, vSemi, cutR, resV, replPrim, hba, hmb, haz, rplU, rplD, rpl, nilS, tabP, obV, -List.getD_eq_getElem?_getD]; done) | omega) [kNil, vAmp, vSemi, cutR, resV, replPrim, hba, hmb, haz, rplU, rplD, rpl, nilS, tabP, obV, -List.getD_eq_getElem?_getD]; (first | ((with_reducible refine k1_at 24 ?_); refine callK1_of ((by first | exact Fn.ct hcut Tryz.call24 | exact Fn.ct hcut2 Tryz.call24)) ?_) | ((with_reducible refine k1_at 27 ?_); refine callK1_of (Fn.ct hst Tryz.call27) ?_)); (try simp (maxSteps := 1000000) (disch := refine hold_ ?_; first | (simp [kNil, vAmp, vSemi, cutR, resV, replPrim, hba, hmb, haz, rplU, rplD, rpl, nilS, tabP, obV, -List.getD_eq_getElem?_getD]; done) | omega) [kNil, vAmp, vSemi, cutR, resV, replPrim, hba, hmb, haz, rplU, rplD, rpl, nilS, tabP, obV, -List.getD_eq_getElem?_getD]); try first | (with_reducible refine zZ ?_) | subst hK_) | ((with_reducible first | refine callK_at 25 ?_); refine callK_o (by first | decide | exact Nat.le_of_ble_eq_true rfl) ?_; simp (maxSteps := 1000000) (disch := refine hold_ ?_; first | (simp [kNil, vAmp, vSemi, cutR, resV, replPrim, hba, hmb, haz, rplU, rplD, rpl, nilS, tabP, obV, -List.getD_eq_getElem?_getD]; done) | omega) [kNil, vAmp, vSemi, cutR, resV, replPrim, hba, hmb, haz, rplU, rplD, rpl, nilS, tabP, obV, -List.getD_eq_getElem?_getD]; (first | refine callK3_of (FnG.ct hw Tryz.call25) ?_); (try simp (maxSteps := 1000000) (disch := refine hold_ ?_; first | (simp [kNil, vAmp, vSemi, cutR, resV, replPrim, hba, hmb, haz, rplU, rplD, rpl, nilS, tabP, obV, -List.getD_eq_getElem?_getD]; done) | omega) [kNil, vAmp, vSemi, cutR, resV, replPrim, hba, hmb, haz, rplU, rplD, rpl, nilS, tabP, obV, -List.getD_eq_getElem?_getD]); try first | (with_reducible refine zZ ?_) | subst hK_) | ((first | (with_reducible first | refine zP fun K_ hK_ => ?_ | refine zQ fun K_ hK_ => ?_ | refine zT ?_ | refine zU ?_ | refine zV ?_ | refine zW ?_ | refine zX ?_ | refine zY ?_) | ((with_reducible first | refine zR ?_ ?_ fun K_ hK_ => ?_ | refine zS ?_ ?_ fun K_ hK_ => ?_); (focus kernel_rfl); (focus kernel_rfl))); first | (simp (maxSteps := 1000000) (disch := refine hold_ ?_; first | (simp [kNil, vAmp, vSemi, cutR, resV, replPrim, hba, hmb, haz, rplU, rplD, rpl, nilS, tabP, obV, -List.getD_eq_getElem?_getD]; done) | omega) [kNil, vAmp, vSemi, cutR, resV, replPrim, hba, hmb, haz, rplU, rplD, rpl, nilS, tabP, obV, -List.getD_eq_getElem?_getD]; try first | (with_reducible refine zZ ?_) | subst hK_) | subst hK_) | (with_reducible first | refine zA ?_ | refine zB ?_ | refine zC ?_ | refine zD ?_ | refine zE ?_ | refine zF ?_ | refine zG ?_ | refine zH ?_ | refine zI ?_ | refine zJ ?_ | refine zK ?_ | refine zL ?_ | refine zM ?_ | refine zN ?_ | refine zO ?_) | ((with_reducible refine yG ?_ ?_); (focus decide)) | ((with_reducible refine yA ?_); refine yB rfl ?_; (with_reducible first | refine yC ?_ | refine yD ?_)))
          all_goals simp (maxSteps := 1000000) (disch := refine hold_ ?_; first | (simp [resV, rplU, rplD, rpl, nilS, tabP, -List.getD_eq_getElem?_getD]; done) | omega) [resV, rplU, rplD, rpl, nilS, tabP, -List.getD_eq_getElem?_getD]
      | some x =>
        rw [h5] at hst
        have hxl := standsV_len _ _ h5
        rw [exL_go _ _ _ _ _ _ _ h3 h4 h5, Option.map_map] at hI
        have hI2 : exL blk s = (exL blk t').map fun y => ((o ++ (a.map blk)) ++ x) ++ y := by
          rw [hI]; congr 1; funext y; simp []
        clear hI
        have hwx := ws_ct (o ++ (a.map blk)) ((o ++ (a.map blk)).length == 0) x (by rw [List.length_append]; rw [hml]; omega) (by omega)
        rw [app_flag] at hwx
        have hlen2 : ((o ++ (a.map blk)) ++ x).length + 4 * t'.length ≤ 4 * s.length := by simp only [List.length_append, List.length_map]; omega
        generalize hmb : a.map blk = ab at *
        generalize o ++ ab = O at *
        generalize O ++ x = O2 at *
        cases b with
        | false =>
          unfold exSt
          repeat (first | ((with_reducible refine callK_at 18 ?_); refine callK_b (by first | decide | exact Nat.le_of_ble_eq_true rfl) (repl_ok) ?_; simp (maxSteps := 1000000) (disch := refine hold_ ?_; first | (simp [Go.Av.copyPrim, Go.Av.strPrim, kNil, vAmp, vSemi, cutR, resV, replPrim, hba, hmb, haz, rplU, rplD, rpl, nilS, tabP, obV, -List.getD_eq_getElem?_getD]; done) | omega) [Go.Av.copyPrim, Go.Av.strPrim, kNil, vAmp, vSemi, cutR, resV, replPrim, hba, hmb, haz, rplU, rplD, rpl, nilS, tabP, obV, -List.getD_eq_getElem?_getD]; first | refine zZ ?_ | subst hK_) | ((with_reducible first | refine callK_at 24 ?_ | refine callK_at 27 ?_); refine callK_p ?_; simp (maxSteps := 1000000) (disch := refine hold_ ?_; first | (simp [kNil, vAmp, vSemi, cutR, resV, replPrim, hba, hmb, haz, rplU, rplD, rpl, nilS, tabP, obV, -List.getD_eq_getElem?_getD]; done) | omega) [kNil, vAmp, vSemi, cutR, resV, replPrim, hba, hmb, haz, rplU, rplD, rpl, nilS, tabP, obV, -List.getD_eq_getElem?_getD]; (first | ((with_reducible refine k1_at 24 ?_); refine callK1_of ((by first | exact Fn.ct hcut Tryz.call24 | exact Fn.ct hcut2 Tryz.call24)) ?_) | ((with_reducible refine k1_at 27 ?_); refine callK1_of (Fn.ct hst Tryz.call27) ?_)); (try simp (maxSteps := 1000000) (disch := refine hold_ ?_; first | (simp [kNil, vAmp, vSemi, cutR, resV, replPrim, hba, hmb, haz, rplU, rplD, rpl, nilS, tabP, obV, -List.getD_eq_getElem?_getD]; done) | omega) [kNil, vAmp, vSemi, cutR, resV, replPrim, hba, hmb, haz, rplU, rplD, rpl, nilS, tabP, obV, -List.getD_eq_getElem?_getD]); try first | (with_reducible refine zZ ?_) | subst hK_) | ((with_reducible first | refine callK_at 25 ?_); refine callK_o (by first | decide | exact Nat.le_of_ble_eq_true rfl) ?_; simp (maxSteps := 1000000) (disch := refine hold_ ?_; first | (simp [kNil, vAmp, vSemi, cutR, resV, replPrim, hba, hmb, haz, rplU, rplD, rpl, nilS, tabP, obV, -List.getD_eq_getElem?_getD]; done) | omega) [kNil, vAmp, vSemi, cutR, resV, replPrim, hba, hmb, haz, rplU, rplD, rpl, nilS, tabP, obV, -List.getD_eq_getElem?_getD]; (first | refine callK3_of ((by first | exact FnG.ct hw Tryz.call25 | exact FnG.ct hwx Tryz.call25)) ?_); (try simp (maxSteps := 1000000) (disch := refine hold_ ?_; first | (simp [kNil, vAmp, vSemi, cutR, resV, replPrim, hba, hmb, haz, rplU, rplD, rpl, nilS, tabP, obV, -List.getD_eq_getElem?_getD]; done) | omega) [kNil, vAmp, vSemi, cutR, resV, replPrim, hba, hmb, haz, rplU, rplD, rpl, nilS, tabP, obV, -List.getD_eq_getElem?_getD]); try first | (with_reducible refine zZ ?_) | subst hK_) | ((first | (with_reducible first | refine zP fun K_ hK_ => ?_ | refine zQ fun K_ hK_ => ?_ | refine zT ?_ | refine zU ?_ | refine zV ?_ | refine zW ?_ | refine zX ?_ | refine zY ?_) | ((with_reducible first | refine zR ?_ ?_ fun K_ hK_ => ?_ | refine zS ?_ ?_ fun K_ hK_ => ?_); (focus kernel_rfl); (focus kernel_rfl))); first | (simp (maxSteps := 1000000) (disch := refine hold_ ?_; first | (simp [kNil, vAmp, vSemi, cutR, resV, replPrim, hba, hmb, haz, rplU, rplD, rpl, nilS, tabP, obV, -List.getD_eq_getElem?_getD]; done) | omega) [kNil, vAmp, vSemi, cutR, resV, replPrim, hba, hmb, haz, rplU, rplD, rpl, nilS, tabP, obV, -List.getD_eq_getElem?_getD]; try first | (with_reducible refine zZ ?_) | subst hK_) | subst hK_) | (with_reducible first | refine zA ?_ | refine zB ?_ | refine zC ?_ | refine zD ?_ | refine zE ?_ | refine zF ?_ | refine zG ?_ | refine zH ?_ | refine zI ?_ | refine zJ ?_ | refine zK ?_ | refine zL ?_ | refine zM ?_ | refine zN ?_ | refine zO ?_) | ((with_reducible refine yG ?_ ?_); (focus decide)) | ((with_reducible refine yA ?_); refine yB rfl ?_; (with_reducible first | refine yC ?_ | refine yD ?_)))
          first | refine ⟨t'.length, by omega, exSt (.bnd 18 10000 0 0) (obV true) t' O2, ?_, t', O2, true, rfl, hlen2, rfl, hI2⟩ | refine ⟨t'.length, exSt (.bnd 18 10000 0 0) (obV true) t' O2, by omega, ?_, t', O2, true, rfl, hlen2, rfl, hI2⟩
          unfold exSt obV
          simp (maxSteps := 1000000) (disch := refine hold_ ?_; first | (simp [rplU, rplD, rpl, nilS, tabP, -List.getD_eq_getElem?_getD]; done) | omega) [rplU, rplD, rpl, nilS, tabP, -List.getD_eq_getElem?_getD]
        | true =>
          unfold exSt
          repeat (first | ((with_reducible refine callK_at 18 ?_); refine callK_b (by first | decide | exact Nat.le_of_ble_eq_true rfl) (repl_ok) ?_; simp (maxSteps := 1000000) (disch := refine hold_ ?_; first | (simp [Go.Av.copyPrim, Go.Av.strPrim, kNil, vAmp, vSemi, cutR, resV, replPrim, hba, hmb, haz, rplU, rplD, rpl, nilS, tabP, obV, -List.getD_eq_getElem?_getD]; done) | omega) [Go.Av.copyPrim, Go.Av.strPrim, kNil, vAmp, vSemi, cutR, resV, replPrim, hba, hmb, haz, rplU, rplD, rpl, nilS, tabP, obV, -List.getD_eq_getElem?_getD]; first | refine zZ ?_ | subst hK_) | ((with_reducible first | refine callK_at 24 ?_ | refine callK_at 27 ?_); refine callK_p ?_; simp (maxSteps := 1000000) (disch := refine hold_ ?_; first | (simp [kNil, vAmp, vSemi, cutR, resV, replPrim, hba, hmb, haz, rplU, rplD, rpl, nilS, tabP, obV, -List.getD_eq_getElem?_getD]; done) | omega) [kNil, vAmp, vSemi, cutR, resV, replPrim, hba, hmb, haz, rplU, rplD, rpl, nilS, tabP, obV, -List.getD_eq_getElem?_getD]; (first | ((with_reducible refine k1_at 24 ?_); refine callK1_of ((by first | exact Fn.ct hcut Tryz.call24 | exact Fn.ct hcut2 Tryz.call24)) ?_) | ((with_reducible refine k1_at 27 ?_); refine callK1_of (Fn.ct hst Tryz.call27) ?_)); (try simp (maxSteps := 1000000) (disch := refine hold_ ?_; first | (simp [kNil, vAmp, vSemi, cutR, resV, replPrim, hba, hmb, haz, rplU, rplD, rpl, nilS, tabP, obV, -List.getD_eq_getElem?_getD]; done) | omega) [kNil, vAmp, vSemi, cutR, resV, replPrim, hba, hmb, haz, rplU, rplD, rpl, nilS, tabP, obV, -List.getD_eq_getElem?_getD]); try first | (with_reducible refine zZ ?_) | subst hK_) | ((with_reducible first | refine callK_at 25 ?_); refine callK_o (by first | decide | exact Nat.le_of_ble_eq_true rfl) ?_; simp (maxSteps := 1000000) (disch := refine hold_ ?_; first | (simp [kNil, vAmp, vSemi, cutR, resV, replPrim, hba, hmb, haz, rplU, rplD, rpl, nilS, tabP, obV, -List.getD_eq_getElem?_getD]; done) | omega) [kNil, vAmp, vSemi, cutR, resV, replPrim, hba, hmb, haz, rplU, rplD, rpl, nilS, tabP, obV, -List.getD_eq_getElem?_getD]; (first | refine callK3_of ((by first | exact FnG.ct hw Tryz.call25 | exact FnG.ct hwx Tryz.call25)) ?_); (try simp (maxSteps := 1000000) (disch := refine hold_ ?_; first | (simp [kNil, vAmp, vSemi, cutR, resV, replPrim, hba, hmb, haz, rplU, rplD, rpl, nilS, tabP, obV, -List.getD_eq_getElem?_getD]; done) | omega) [kNil, vAmp, vSemi, cutR, resV, replPrim, hba, hmb, haz, rplU, rplD, rpl, nilS, tabP, obV, -List.getD_eq_getElem?_getD]); try first | (with_reducible refine zZ ?_) | subst hK_) | ((first | (with_reducible first | refine zP fun K_ hK_ => ?_ | refine zQ fun K_ hK_ => ?_ | refine zT ?_ | refine zU ?_ | refine zV ?_ | refine zW ?_ | refine zX ?_ | refine zY ?_) | ((with_reducible first | refine zR ?_ ?_ fun K_ hK_ => ?_ | refine zS ?_ ?_ fun K_ hK_ => ?_); (focus kernel_rfl); (focus kernel_rfl))); first | (simp (maxSteps := 1000000) (disch := refine hold_ ?_; first | (simp [kNil, vAmp, vSemi, cutR, resV, replPrim, hba, hmb, haz, rplU, rplD, rpl, nilS, tabP, obV, -List.getD_eq_getElem?_getD]; done) | omega) [kNil, vAmp, vSemi, cutR, resV, replPrim, hba, hmb, haz, rplU, rplD, rpl, nilS, tabP, obV, -List.getD_eq_getElem?_getD]; try first | (with_reducible refine zZ ?_) | subst hK_) | subst hK_) | (with_reducible first | refine zA ?_ | refine zB ?_ | refine zC ?_ | refine zD ?_ | refine zE ?_ | refine zF ?_ | refine zG ?_ | refine zH ?_ | refine zI ?_ | refine zJ ?_ | refine zK ?_ | refine zL ?_ | refine zM ?_ | refine zN ?_ | refine zO ?_) | ((with_reducible refine yG ?_ ?_); (focus decide)) | ((with_reducible refine yA ?_); refine yB rfl ?_; (with_reducible first | refine yC ?_ | refine yD ?_)))
          first | refine ⟨t'.length, by omega, exSt (.bnd 18 10000 0 0) (obV true) t' O2, ?_, t', O2, true, rfl, hlen2, rfl, hI2⟩ | refine ⟨t'.length, exSt (.bnd 18 10000 0 0) (obV true) t' O2, by omega, ?_, t', O2, true, rfl, hlen2, rfl, hI2⟩
          unfold exSt obV
          simp (maxSteps := 1000000) (disch := refine hold_ ?_; first | (simp [rplU, rplD, rpl, nilS, tabP, -List.getD_eq_getElem?_getD]; done) | omega) [rplU, rplD, rpl, nilS, tabP, -List.getD_eq_getElem?_getD]
end Go.Av.Cha
end
section
set_option linter.unusedSimpArgs false
set_option linter.unusedVariables false
set_option linter.unusedSectionVars false
open Go Go.Av Go.Proofs
namespace Go.Av.Cha
variable [ML]
set_option maxHeartbeats 8000000 in
theorem digit_ct (c base : Int) (hc : 0 ≤ c ∧ c < 256) (hb : base = 10 ∨ base = 16) : Fn Tryz.prog 46 [.int .u8 c, .int .i32 base] [.p (.int .i32 (digI c base))] := by
  refine Fn.of_body Tryz.func46 rfl ?_
  by_cases q1 : 48 ≤ c ∧ c ≤ 57
  · have p1 := q1.1
    have p2 := q1.2
    have w1 : IntKind.u8.wrap (c - 48) = c - 48 := by rw [wrap_u8]; omega
    have w2 : IntKind.i32.wrap (c - 48) = c - 48 := wrap_i32 _ (by omega) (by omega)
    have e : digI c base = c - 48 := by unfold digI digV; rw [if_pos q1, if_neg (by omega)]
    have g : ¬ base ≤ c - 48 := by omega
    rw [e]
    repeat (first | ((first | (with_reducible first | refine zP fun K_ hK_ => ?_ | refine zQ fun K_ hK_ => ?_ | refine zT ?_ | refine zU ?_ | refine zV ?_ | refine zW ?_ | refine zX ?_ | refine zY ?_) | ((with_reducible first | refine zR ?_ ?_ fun K_ hK_ => ?_ | refine zS ?_ ?_ fun K_ hK_ => ?_); (focus kernel_rfl); (focus kernel_rfl))); first | (simp (maxSteps := 1000000) (disch := refine hold_ ?_; first | (simp [p1, p2, w1, w2, g, -List.getD_eq_getElem?_getD]; done) | omega) [p1, p2, w1, w2, g, -List.getD_eq_getElem?_getD]; try first | (with_reducible refine zZ ?_) | subst hK_) | subst hK_) | (with_reducible first | refine zA ?_ | refine zB ?_ | refine zC ?_ | refine zD ?_ | refine zE ?_ | refine zF ?_ | refine zG ?_ | refine zH ?_ | refine zI ?_ | refine zJ ?_ | refine zK ?_ | refine zL ?_ | refine zM ?_ | refine zN ?_ | refine zO ?_) | ((with_reducible refine yG ?_ ?_); (focus decide)) | ((with_reducible refine yA ?_); refine yB rfl ?_; (with_reducible first | refine yC ?_ | refine yD ?_)))
    all_goals simp (maxSteps := 1000000) (disch := refine hold_ ?_; first | (simp [-List.getD_eq_getElem?_getD]; done) | omega) [-List.getD_eq_getElem?_getD]
  · by_cases q2 : 97 ≤ c ∧ c ≤ 102
    · have p1 := q2.1
      have p2 := q2.2
      have w1 : IntKind.u8.wrap (c - 97) = c - 97 := by rw [wrap_u8]; omega
      have w2 : IntKind.i32.wrap (c - 97) = c - 97 := wrap_i32 _ (by omega) (by omega)
      have w3 : IntKind.i32.wrap (c - 97 + 10) = c - 87 := (wrap_i32 _ (by omega) (by omega)).trans (by omega)
      have n1 : 48 ≤ c := by omega
      have n2 : ¬ c ≤ 57 := by omega
      by_cases g : base ≤ c - 87
      · have e : digI c base = -1 := by unfold digI digV; rw [if_neg q1, if_pos q2, if_pos g]
        rw [e]
        repeat (first | ((first | (with_reducible first | refine zP fun K_ hK_ => ?_ | refine zQ fun K_ hK_ => ?_ | refine zT ?_ | refine zU ?_ | refine zV ?_ | refine zW ?_ | refine zX ?_ | refine zY ?_) | ((with_reducible first | refine zR ?_ ?_ fun K_ hK_ => ?_ | refine zS ?_ ?_ fun K_ hK_ => ?_); (focus kernel_rfl); (focus kernel_rfl))); first | (simp (maxSteps := 1000000) (disch := refine hold_ ?_; first | (simp [n1, n2, p1, p2, w1, w2, w3, g, -List.getD_eq_getElem?_getD]; done) | omega) [n1, n2, p1, p2, w1, w2, w3, g, -List.getD_eq_getElem?_getD]; try first | (with_reducible refine zZ ?_) | subst hK_) | subst hK_) | (with_reducible first | refine zA ?_ | refine zB ?_ | refine zC ?_ | refine zD ?_ | refine zE ?_ | refine zF ?_ | refine zG ?_ | refine zH ?_ | refine zI ?_ | refine zJ ?_ | refine zK ?_ | refine zL ?_ | refine zM ?_ | refine zN ?_ | refine zO ?_) | ((with_reducible refine yG ?_ ?_); (focus decide)) | ((with_reducible refine yA ?_); refine yB rfl ?_; (with_reducible first | refine yC ?_ | refine yD ?_)))
        all_goals simp (maxSteps := 1000000) (disch := refine hold_ ?_; first | (simp [-List.getD_eq_getElem?_getD]; done) | omega) [-List.getD_eq_getElem?_getD]
      · have e : digI c base = c - 87 := by unfold digI digV; rw [if_neg q1, if_pos q2, if_neg g]
        rw [e]
        repeat (first | ((first | (with_reducible first | refine zP fun K_ hK_ => ?_ | refine zQ fun K_ hK_ => ?_ | refine zT ?_ | refine zU ?_ | refine zV ?_ | refine zW ?_ | refine zX ?_ | refine zY ?_) | ((with_reducible first | refine zR ?_ ?_ fun K_ hK_ => ?_ | refine zS ?_ ?_ fun K_ hK_ => ?_); (focus kernel_rfl); (focus kernel_rfl))); first | (simp (maxSteps := 1000000) (disch := refine hold_ ?_; first | (simp [n1, n2, p1, p2, w1, w2, w3, g, -List.getD_eq_getElem?_getD]; done) | omega) [n1, n2, p1, p2, w1, w2, w3, g, -List.getD_eq_getElem?_getD]; try first | (with_reducible refine zZ ?_) | subst hK_) | subst hK_) | (with_reducible first | refine zA ?_ | refine zB ?_ | refine zC ?_ | refine zD ?_ | refine zE ?_ | refine zF ?_ | refine zG ?_ | refine zH ?_ | refine zI ?_ | refine zJ ?_ | refine zK ?_ | refine zL ?_ | refine zM ?_ | refine zN ?_ | refine zO ?_) | ((with_reducible refine yG ?_ ?_); (focus decide)) | ((with_reducible refine yA ?_); refine yB rfl ?_; (with_reducible first | refine yC ?_ | refine yD ?_)))
        all_goals simp (maxSteps := 1000000) (disch := refine hold_ ?_; first | (simp [-List.getD_eq_getElem?_getD]; done) | omega) [-List.getD_eq_getElem?_getD]
    · by_cases q3 : 65 ≤ c ∧ c ≤ 70
      · have p1 := q3.1
        have p2 := q3.2
        have w1 : IntKind.u8.wrap (c - 65) = c - 65 := by rw [wrap_u8]; omega
        have w2 : IntKind.i32.wrap (c - 65) = c - 65 := wrap_i32 _ (by omega) (by omega)
        have w3 : IntKind.i32.wrap (c - 65 + 10) = c - 55 := (wrap_i32 _ (by omega) (by omega)).trans (by omega)
        have n1 : 48 ≤ c := by omega
        have n2 : ¬ c ≤ 57 := by omega
        have n3 : ¬ 97 ≤ c := by omega
        by_cases g : base ≤ c - 55
        · have e : digI c base = -1 := by unfold digI digV; rw [if_neg q1, if_neg q2, if_pos q3, if_pos g]
          rw [e]
          repeat (first | ((first | (with_reducible first | refine zP fun K_ hK_ => ?_ | refine zQ fun K_ hK_ => ?_ | refine zT ?_ | refine zU ?_ | refine zV ?_ | refine zW ?_ | refine zX ?_ | refine zY ?_) | ((with_reducible first | refine zR ?_ ?_ fun K_ hK_ => ?_ | refine zS ?_ ?_ fun K_ hK_ => ?_); (focus kernel_rfl); (focus kernel_rfl))); first | (simp (maxSteps := 1000000) (disch := refine hold_ ?_; first | (simp [n1, n2, n3, p1, p2, w1, w2, w3, g, -List.getD_eq_getElem?_getD]; done) | omega) [n1, n2, n3, p1, p2, w1, w2, w3, g, -List.getD_eq_getElem?_getD]; try first | (with_reducible refine zZ ?_) | subst hK_) | subst hK_) | (with_reducible first | refine zA ?_ | refine zB ?_ | refine zC ?_ | refine zD ?_ | refine zE ?_ | refine zF ?_ | refine zG ?_ | refine zH ?_ | refine zI ?_ | refine zJ ?_ | refine zK ?_ | refine zL ?_ | refine zM ?_ | refine zN ?_ | refine zO ?_) | ((with_reducible refine yG ?_ ?_); (focus decide)) | ((with_reducible refine yA ?_); refine yB rfl ?_; (with_reducible first | refine yC ?_ | refine yD ?_)))
          all_goals simp (maxSteps := 1000000) (disch := refine hold_ ?_; first | (simp [-List.getD_eq_getElem?_getD]; done) | omega) [-List.getD_eq_getElem?_getD]
        · have e : digI c base = c - 55 := by unfold digI digV; rw [if_neg q1, if_neg q2, if_pos q3, if_neg g]
          rw [e]
          repeat (first | ((first | (with_reducible first | refine zP fun K_ hK_ => ?_ | refine zQ fun K_ hK_ => ?_ | refine zT ?_ | refine zU ?_ | refine zV ?_ | refine zW ?_ | refine zX ?_ | refine zY ?_) | ((with_reducible first | refine zR ?_ ?_ fun K_ hK_ => ?_ | refine zS ?_ ?_ fun K_ hK_ => ?_); (focus kernel_rfl); (focus kernel_rfl))); first | (simp (maxSteps := 1000000) (disch := refine hold_ ?_; first | (simp [n1, n2, n3, p1, p2, w1, w2, w3, g, -List.getD_eq_getElem?_getD]; done) | omega) [n1, n2, n3, p1, p2, w1, w2, w3, g, -List.getD_eq_getElem?_getD]; try first | (with_reducible refine zZ ?_) | subst hK_) | subst hK_) | (with_reducible first | refine zA ?_ | refine zB ?_ | refine zC ?_ | refine zD ?_ | refine zE ?_ | refine zF ?_ | refine zG ?_ | refine zH ?_ | refine zI ?_ | refine zJ ?_ | refine zK ?_ | refine zL ?_ | refine zM ?_ | refine zN ?_ | refine zO ?_) | ((with_reducible refine yG ?_ ?_); (focus decide)) | ((with_reducible refine yA ?_); refine yB rfl ?_; (with_reducible first | refine yC ?_ | refine yD ?_)))
          all_goals simp (maxSteps := 1000000) (disch := refine hold_ ?_; first | (simp [-List.getD_eq_getElem?_getD]; done) | omega) [-List.getD_eq_getElem?_getD]
      · have g : ¬ base ≤ -1 := by omega
        have e : digI c base = -1 := by unfold digI digV; rw [if_neg q1, if_neg q2, if_neg q3, if_neg g]
        rw [e]
        rcases (by omega : c < 48 ∨ (57 < c ∧ c < 65) ∨ (70 < c ∧ c < 97) ∨ 102 < c) with r | r | r | r
        · have m0 : ¬ 48 ≤ c := by omega
          have m1 : ¬ 97 ≤ c := by omega
          have m2 : ¬ 65 ≤ c := by omega
          repeat (first | ((first | (with_reducible first | refine zP fun K_ hK_ => ?_ | refine zQ fun K_ hK_ => ?_ | refine zT ?_ | refine zU ?_ | refine zV ?_ | refine zW ?_ | refine zX ?_ | refine zY ?_) | ((with_reducible first | refine zR ?_ ?_ fun K_ hK_ => ?_ | refine zS ?_ ?_ fun K_ hK_ => ?_); (focus kernel_rfl); (focus kernel_rfl))); first | (simp (maxSteps := 1000000) (disch := refine hold_ ?_; first | (simp [m0, m1, m2, g, -List.getD_eq_getElem?_getD]; done) | omega) [m0, m1, m2, g, -List.getD_eq_getElem?_getD]; try first | (with_reducible refine zZ ?_) | subst hK_) | subst hK_) | (with_reducible first | refine zA ?_ | refine zB ?_ | refine zC ?_ | refine zD ?_ | refine zE ?_ | refine zF ?_ | refine zG ?_ | refine zH ?_ | refine zI ?_ | refine zJ ?_ | refine zK ?_ | refine zL ?_ | refine zM ?_ | refine zN ?_ | refine zO ?_) | ((with_reducible refine yG ?_ ?_); (focus decide)) | ((with_reducible refine yA ?_); refine yB rfl ?_; (with_reducible first | refine yC ?_ | refine yD ?_)))
          all_goals simp (maxSteps := 1000000) (disch := refine hold_ ?_; first | (simp [-List.getD_eq_getElem?_getD]; done) | omega) [-List.getD_eq_getElem?_getD]
        · have m0 : 48 ≤ c := by omega
          have m1 : ¬ c ≤ 57 := by omega
          have m2 : ¬ 97 ≤ c := by omega
          have m3 : ¬ 65 ≤ c := by omega
          repeat (first | ((first | (with_reducible first | refine zP fun K_ hK_ => ?_ | refine zQ fun K_ hK_ => ?_ | refine zT ?_ | refine zU ?_ | refine zV ?_ | refine zW ?_ | refine zX ?_ | refine zY ?_) | ((with_reducible first | refine zR ?_ ?_ fun K_ hK_ => ?_ | refine zS ?_ ?_ fun K_ hK_ => ?_); (focus kernel_rfl); (focus kernel_rfl))); first | (simp (maxSteps := 1000000) (disch := refine hold_ ?_; first | (simp [m0, m1, m2, m3, g, -List.getD_eq_getElem?_getD]; done) | omega) [m0, m1, m2, m3, g, -List.getD_eq_getElem?_getD]; try first | (with_reducible refine zZ ?_) | subst hK_) | subst hK_) | (with_reducible first | refine zA ?_ | refine zB ?_ | refine zC ?_ | refine zD ?_ | refine zE ?_ | refine zF ?_ | refine zG ?_ | refine zH ?_ | refine zI ?_ | refine zJ ?_ | refine zK ?_ | refine zL ?_ | refine zM ?_ | refine zN ?_ | refine zO ?_) | ((with_reducible refine yG ?_ ?_); (focus decide)) | ((with_reducible refine yA ?_); refine yB rfl ?_; (with_reducible first | refine yC ?_ | refine yD ?_)))
          all_goals simp (maxSteps := 1000000) (disch := refine hold_ ?_; first | (simp [-List.getD_eq_getElem?_getD]; done) | omega) [-List.getD_eq_getElem?_getD]
        · have m0 : 48 ≤ c := by omega
          have m1 : ¬ c ≤ 57 := by omega
          have m2 : ¬ 97 ≤ c := by omega
          have m3 : 65 ≤ c := by omega
          have m4 : ¬ c ≤ 70 := by omega
          repeat (first | ((first | (with_reducible first | refine zP fun K_ hK_ => ?_ | refine zQ fun K_ hK_ => ?_ | refine zT ?_ | refine zU ?_ | refine zV ?_ | refine zW ?_ | refine zX ?_ | refine zY ?_) | ((with_reducible first | refine zR ?_ ?_ fun K_ hK_ => ?_ | refine zS ?_ ?_ fun K_ hK_ => ?_); (focus kernel_rfl); (focus kernel_rfl))); first | (simp (maxSteps := 1000000) (disch := refine hold_ ?_; first | (simp [m0, m1, m2, m3, m4, g, -List.getD_eq_getElem?_getD]; done) | omega) [m0, m1, m2, m3, m4, g, -List.getD_eq_getElem?_getD]; try first | (with_reducible refine zZ ?_) | subst hK_) | subst hK_) | (with_reducible first | refine zA ?_ | refine zB ?_ | refine zC ?_ | refine zD ?_ | refine zE ?_ | refine zF ?_ | refine zG ?_ | refine zH ?_ | refine zI ?_ | refine zJ ?_ | refine zK ?_ | refine zL ?_ | refine zM ?_ | refine zN ?_ | refine zO ?_) | ((with_reducible refine yG ?_ ?_); (focus decide)) | ((with_reducible refine yA ?_); refine yB rfl ?_; (with_reducible first | refine yC ?_ | refine yD ?_)))
          all_goals simp (maxSteps := 1000000) (disch := refine hold_ ?_; first | (simp [-List.getD_eq_getElem?_getD]; done) | omega) [-List.getD_eq_getElem?_getD]
        · have m0 : 48 ≤ c := by omega
          have m1 : ¬ c ≤ 57 := by omega
          have m2 : 97 ≤ c := by omega
          have m3 : ¬ c ≤ 102 := by omega
          have m4 : 65 ≤ c := by omega
          have m5 : ¬ c ≤ 70 := by omega
          repeat (first | ((first | (with_reducible first | refine zP fun K_ hK_ => ?_ | refine zQ fun K_ hK_ => ?_ | refine zT ?_ | refine zU ?_ | refine zV ?_ | refine zW ?_ | refine zX ?_ | refine zY ?_) | ((with_reducible first | refine zR ?_ ?_ fun K_ hK_ => ?_ | refine zS ?_ ?_ fun K_ hK_ => ?_); (focus kernel_rfl); (focus kernel_rfl))); first | (simp (maxSteps := 1000000) (disch := refine hold_ ?_; first | (simp [m0, m1, m2, m3, m4, m5, g, -List.getD_eq_getElem?_getD]; done) | omega) [m0, m1, m2, m3, m4, m5, g, -List.getD_eq_getElem?_getD]; try first | (with_reducible refine zZ ?_) | subst hK_) | subst hK_) | (with_reducible first | refine zA ?_ | refine zB ?_ | refine zC ?_ | refine zD ?_ | refine zE ?_ | refine zF ?_ | refine zG ?_ | refine zH ?_ | refine zI ?_ | refine zJ ?_ | refine zK ?_ | refine zL ?_ | refine zM ?_ | refine zN ?_ | refine zO ?_) | ((with_reducible refine yG ?_ ?_); (focus decide)) | ((with_reducible refine yA ?_); refine yB rfl ?_; (with_reducible first | refine yC ?_ | refine yD ?_)))
          all_goals simp (maxSteps := 1000000) (disch := refine hold_ ?_; first | (simp [-List.getD_eq_getElem?_getD]; done) | omega) [-List.getD_eq_getElem?_getD]
def numR (n m : Int) : Prop := (n = m ∧ 0 ≤ n ∧ n ≤ 1114111) ∨ (n = 1114112 ∧ 1114112 ≤ m)
theorem num_ref (base : Int) (hb : base = 10 ∨ base = 16) : ∀ (d : List (BitVec 8)) (n m : Int), numR n m → (numF base n d = none ∧ refF base m d = none) ∨ ∃ a b, numF base n d = some a ∧ refF base m d = some b ∧ numR a b
  | [], n, m, h => .inr ⟨n, m, rfl, rfl, h⟩
  | c :: d, n, m, h => by
    simp only [numF, refF]
    by_cases hd : digI (ub c) base < 0
    · rw [if_pos hd, if_pos hd]; exact .inl ⟨rfl, rfl⟩
    · rw [if_neg hd, if_neg hd]
      have h15 := digV_lt (ub c)
      have hi : digI (ub c) base ≤ 15 := by unfold digI; split <;> omega
      refine num_ref base hb d _ _ ?_
      generalize digI (ub c) base = e at *
      unfold mn
      rcases h with ⟨rfl, h0, h1⟩ | ⟨rfl, h1⟩
      · have q : n < 2097152 := by omega
        simp only [if_pos q]
        split
        · exact .inr ⟨rfl, by omega⟩
        · have h0' : 0 ≤ n * base + e := by rcases hb with rfl | rfl <;> omega
          by_cases h2 : n * base + e ≤ 1114111
          · exact .inl ⟨rfl, h0', h2⟩
          · exact .inr ⟨by omega, by omega⟩
      · have q : 1114112 < 1114112 * base + e := by rcases hb with rfl | rfl <;> omega
        simp only [if_pos q]
        refine .inr ⟨rfl, ?_⟩
        split
        · rcases hb with rfl | rfl <;> omega
        · exact h1
theorem numR_ch (n m : Int) (h : numR n m) : chV n = chV m := by
  rcases h with ⟨rfl, _, _⟩ | ⟨rfl, h⟩
  · rfl
  · have h1 : xmlB m = false := by unfold xmlB; rw [decide_eq_false_iff_not]; omega
    have h2 : xmlB 1114112 = false := by decide
    unfold chV; rw [h1, h2, if_neg (by simp), if_neg (by simp)]
def refV (base : Int) (d : List (BitVec 8)) : Option (List (BitVec 8)) := match refF base 0 d with
  | none => none
  | some m => chV m
theorem numV_ref (base : Int) (hb : base = 10 ∨ base = 16) (d : List (BitVec 8)) (hd : d ≠ []) : numV base d = refV base d := by
  unfold numV refV numO numN
  rcases num_ref base hb d 0 0 (.inl ⟨rfl, by omega, by omega⟩) with ⟨h1, h2⟩ | ⟨a, b, h1, h2, h3⟩
  · rw [h1, h2]; rfl
  · rw [h1, h2]
    have : (d == []) = false := beq_eq_false_iff_ne.2 hd
    rw [this]
    exact numR_ch a b h3
theorem numV_nil (base : Int) : numV base [] = none := rfl
def rsS (s : List (BitVec 8)) (base m : Int) (k : Nat) : St := ⟨(.p (.str (txt s)) :: V.junk :: V.junk :: V.junk :: .p (.int .i64 k) :: .p (.int .i32 base) :: .p (.int .i32 m) :: V.junk :: V.junk :: V.junk :: V.junk :: V.junk :: V.junk :: V.junk :: V.junk :: V.junk :: V.junk :: V.junk :: V.junk :: V.junk :: V.junk :: V.junk :: V.junk :: V.junk :: V.junk :: V.junk :: V.junk :: V.junk :: V.junk :: V.junk :: V.junk :: V.junk :: V.junk :: V.junk :: V.junk :: V.junk :: V.junk :: V.junk :: V.junk :: V.junk :: V.junk :: V.junk :: V.junk :: V.junk :: V.junk :: V.junk :: V.junk :: V.junk :: V.junk :: V.junk :: V.junk :: V.junk :: V.junk :: V.junk :: V.junk :: V.junk :: V.junk :: V.junk :: V.junk :: V.junk :: []), ⟨[], []⟩⟩
def rsI (s : List (BitVec 8)) (base : Int) (p : Nat) (x : Nat) (σ : St) : Prop := ∃ (k : Nat) (m : Int), x = s.length - k ∧ k ≤ s.length ∧ 0 ≤ m ∧ m ≤ 33554431 ∧ σ = rsS s base m k ∧ refF base 0 (s.drop p) = refF base m (s.drop k)
theorem xml_lo (m : Int) (h : xmlB m = true) : 0 ≤ m ∧ m ≤ 1114111 := by
  unfold xmlB at h; simp only [decide_eq_true_eq] at h; omega
end Go.Av.Cha
end
section
set_option linter.unusedSimpArgs false
set_option linter.unusedVariables false
set_option linter.unusedSectionVars false
open Go Go.Av Go.Proofs
namespace Go.Av.Cha
variable [ML]
set_option maxRecDepth 10000 in
set_option maxHeartbeats 20000000 in
theorem rstandsN_ct (s : List (BitVec 8)) (hs : s.length ≤ 4000000) (h : ¬ s.head? = some 35#8) : Fn Tryz.prog 31 [.str (txt s)] (resV (standsV s)) := by
  have hsz := txt_size s
  unfold standsV
  rw [if_neg h]
  refine Fn.of_body Tryz.func31 rfl ?_
  unfold namedV
  by_cases h0 : s = [108#8, 116#8]
  · rw [if_pos h0]
    have g : (s == [108#8, 116#8]) = true := beq_iff_eq.2 h0
    clear h h0
    repeat (first | ((first | (with_reducible first | refine zP fun K_ hK_ => ?_ | refine zQ fun K_ hK_ => ?_ | refine zT ?_ | refine zU ?_ | refine zV ?_ | refine zW ?_ | refine zX ?_ | refine zY ?_) | ((with_reducible first | refine zR ?_ ?_ fun K_ hK_ => ?_ | refine zS ?_ ?_ fun K_ hK_ => ?_); (focus kernel_rfl); (focus kernel_rfl))); first | (simp (maxSteps := 1000000) (disch := refine hold_ ?_; first | (simp [kNil, sLt, sGt, sAmp, sApos, sQuot, str_eql, vLt, g, -List.getD_eq_getElem?_getD]; done) | omega) [kNil, sLt, sGt, sAmp, sApos, sQuot, str_eql, vLt, g, -List.getD_eq_getElem?_getD]; try first | (with_reducible refine zZ ?_) | subst hK_) | subst hK_) | (with_reducible first | refine zA ?_ | refine zB ?_ | refine zC ?_ | refine zD ?_ | refine zE ?_ | refine zF ?_ | refine zG ?_ | refine zH ?_ | refine zI ?_ | refine zJ ?_ | refine zK ?_ | refine zL ?_ | refine zM ?_ | refine zN ?_ | refine zO ?_) | ((with_reducible refine yG ?_ ?_); (focus decide)) | ((with_reducible refine yA ?_); refine yB rfl ?_; (with_reducible first | refine yC ?_ | refine yD ?_)))
    all_goals simp (maxSteps := 1000000) (disch := refine hold_ ?_; first | (simp [resV, -List.getD_eq_getElem?_getD]; done) | omega) [resV, -List.getD_eq_getElem?_getD]
  rw [if_neg h0]
  have b0 : (s == [108#8, 116#8]) = false := beq_eq_false_iff_ne.2 h0
  by_cases h1 : s = [103#8, 116#8]
  · rw [if_pos h1]
    have g : (s == [103#8, 116#8]) = true := beq_iff_eq.2 h1
    clear h h1 h0
    repeat (first | ((first | (with_reducible first | refine zP fun K_ hK_ => ?_ | refine zQ fun K_ hK_ => ?_ | refine zT ?_ | refine zU ?_ | refine zV ?_ | refine zW ?_ | refine zX ?_ | refine zY ?_) | ((with_reducible first | refine zR ?_ ?_ fun K_ hK_ => ?_ | refine zS ?_ ?_ fun K_ hK_ => ?_); (focus kernel_rfl); (focus kernel_rfl))); first | (simp (maxSteps := 1000000) (disch := refine hold_ ?_; first | (simp [kNil, sLt, sGt, sAmp, sApos, sQuot, str_eql, vGt, b0, g, -List.getD_eq_getElem?_getD]; done) | omega) [kNil, sLt, sGt, sAmp, sApos, sQuot, str_eql, vGt, b0, g, -List.getD_eq_getElem?_getD]; try first | (with_reducible refine zZ ?_) | subst hK_) | subst hK_) | (with_reducible first | refine zA ?_ | refine zB ?_ | refine zC ?_ | refine zD ?_ | refine zE ?_ | refine zF ?_ | refine zG ?_ | refine zH ?_ | refine zI ?_ | refine zJ ?_ | refine zK ?_ | refine zL ?_ | refine zM ?_ | refine zN ?_ | refine zO ?_) | ((with_reducible refine yG ?_ ?_); (focus decide)) | ((with_reducible refine yA ?_); refine yB rfl ?_; (with_reducible first | refine yC ?_ | refine yD ?_)))
    all_goals simp (maxSteps := 1000000) (disch := refine hold_ ?_; first | (simp [resV, -List.getD_eq_getElem?_getD]; done) | omega) [resV, -List.getD_eq_getElem?_getD]
  rw [if_neg h1]
  have b1 : (s == [103#8, 116#8]) = false := beq_eq_false_iff_ne.2 h1
  by_cases h2 : s = [97#8, 109#8, 112#8]
  · rw [if_pos h2]
    have g : (s == [97#8, 109#8, 112#8]) = true := beq_iff_eq.2 h2
    clear h h2 h1 h0
    repeat (first | ((first | (with_reducible first | refine zP fun K_ hK_ => ?_ | refine zQ fun K_ hK_ => ?_ | refine zT ?_ | refine zU ?_ | refine zV ?_ | refine zW ?_ | refine zX ?_ | refine zY ?_) | ((with_reducible first | refine zR ?_ ?_ fun K_ hK_ => ?_ | refine zS ?_ ?_ fun K_ hK_ => ?_); (focus kernel_rfl); (focus kernel_rfl))); first | (simp (maxSteps := 1000000) (disch := refine hold_ ?_; first | (simp [kNil, sLt, sGt, sAmp, sApos, sQuot, str_eql, vAmp, b0, b1, g, -List.getD_eq_getElem?_getD]; done) | omega) [kNil, sLt, sGt, sAmp, sApos, sQuot, str_eql, vAmp, b0, b1, g, -List.getD_eq_getElem?_getD]; try first | (with_reducible refine zZ ?_) | subst hK_) | subst hK_) | (with_reducible first | refine zA ?_ | refine zB ?_ | refine zC ?_ | refine zD ?_ | refine zE ?_ | refine zF ?_ | refine zG ?_ | refine zH ?_ | refine zI ?_ | refine zJ ?_ | refine zK ?_ | refine zL ?_ | refine zM ?_ | refine zN ?_ | refine zO ?_) | ((with_reducible refine yG ?_ ?_); (focus decide)) | ((with_reducible refine yA ?_); refine yB rfl ?_; (with_reducible first | refine yC ?_ | refine yD ?_)))
    all_goals simp (maxSteps := 1000000) (disch := refine hold_ ?_; first | (simp [resV, -List.getD_eq_getElem?_getD]; done) | omega) [resV, -List.getD_eq_getElem?_getD]
  rw [if_neg h2]
  have b2 : (s == [97#8, 109#8, 112#8]) = false := beq_eq_false_iff_ne.2 h2
  by_cases h3 : s = [97#8, 112#8, 111#8, 115#8]
  · rw [if_pos h3]
    have g : (s == [97#8, 112#8, 111#8, 115#8]) = true := beq_iff_eq.2 h3
    clear h h3 h2 h1 h0
    repeat (first | ((first | (with_reducible first | refine zP fun K_ hK_ => ?_ | refine zQ fun K_ hK_ => ?_ | refine zT ?_ | refine zU ?_ | refine zV ?_ | refine zW ?_ | refine zX ?_ | refine zY ?_) | ((with_reducible first | refine zR ?_ ?_ fun K_ hK_ => ?_ | refine zS ?_ ?_ fun K_ hK_ => ?_); (focus kernel_rfl); (focus kernel_rfl))); first | (simp (maxSteps := 1000000) (disch := refine hold_ ?_; first | (simp [kNil, sLt, sGt, sAmp, sApos, sQuot, str_eql, vApos, b0, b1, b2, g, -List.getD_eq_getElem?_getD]; done) | omega) [kNil, sLt, sGt, sAmp, sApos, sQuot, str_eql, vApos, b0, b1, b2, g, -List.getD_eq_getElem?_getD]; try first | (with_reducible refine zZ ?_) | subst hK_) | subst hK_) | (with_reducible first | refine zA ?_ | refine zB ?_ | refine zC ?_ | refine zD ?_ | refine zE ?_ | refine zF ?_ | refine zG ?_ | refine zH ?_ | refine zI ?_ | refine zJ ?_ | refine zK ?_ | refine zL ?_ | refine zM ?_ | refine zN ?_ | refine zO ?_) | ((with_reducible refine yG ?_ ?_); (focus decide)) | ((with_reducible refine yA ?_); refine yB rfl ?_; (with_reducible first | refine yC ?_ | refine yD ?_)))
    all_goals simp (maxSteps := 1000000) (disch := refine hold_ ?_; first | (simp [resV, -List.getD_eq_getElem?_getD]; done) | omega) [resV, -List.getD_eq_getElem?_getD]
  rw [if_neg h3]
  have b3 : (s == [97#8, 112#8, 111#8, 115#8]) = false := beq_eq_false_iff_ne.2 h3
  by_cases h4 : s = [113#8, 117#8, 111#8, 116#8]
  · rw [if_pos h4]
    have g : (s == [113#8, 117#8, 111#8, 116#8]) = true := beq_iff_eq.2 h4
    clear h h4 h3 h2 h1 h0
    repeat (first | ((first | (with_reducible first | refine zP fun K_ hK_ => ?_ | refine zQ fun K_ hK_ => ?_ | refine zT ?_ | refine zU ?_ | refine zV ?_ | refine zW ?_ | refine zX ?_ | refine zY ?_) | ((with_reducible first | refine zR ?_ ?_ fun K_ hK_ => ?_ | refine zS ?_ ?_ fun K_ hK_ => ?_); (focus kernel_rfl); (focus kernel_rfl))); first | (simp (maxSteps := 1000000) (disch := refine hold_ ?_; first | (simp [kNil, sLt, sGt, sAmp, sApos, sQuot, str_eql, vQuot, b0, b1, b2, b3, g, -List.getD_eq_getElem?_getD]; done) | omega) [kNil, sLt, sGt, sAmp, sApos, sQuot, str_eql, vQuot, b0, b1, b2, b3, g, -List.getD_eq_getElem?_getD]; try first | (with_reducible refine zZ ?_) | subst hK_) | subst hK_) | (with_reducible first | refine zA ?_ | refine zB ?_ | refine zC ?_ | refine zD ?_ | refine zE ?_ | refine zF ?_ | refine zG ?_ | refine zH ?_ | refine zI ?_ | refine zJ ?_ | refine zK ?_ | refine zL ?_ | refine zM ?_ | refine zN ?_ | refine zO ?_) | ((with_reducible refine yG ?_ ?_); (focus decide)) | ((with_reducible refine yA ?_); refine yB rfl ?_; (with_reducible first | refine yC ?_ | refine yD ?_)))
    all_goals simp (maxSteps := 1000000) (disch := refine hold_ ?_; first | (simp [resV, -List.getD_eq_getElem?_getD]; done) | omega) [resV, -List.getD_eq_getElem?_getD]
  rw [if_neg h4]
  have b4 : (s == [113#8, 117#8, 111#8, 116#8]) = false := beq_eq_false_iff_ne.2 h4
  clear h0 h1 h2 h3 h4
  by_cases hl : (s.length : Int) < 2
  · repeat (first | ((first | (with_reducible first | refine zP fun K_ hK_ => ?_ | refine zQ fun K_ hK_ => ?_ | refine zT ?_ | refine zU ?_ | refine zV ?_ | refine zW ?_ | refine zX ?_ | refine zY ?_) | ((with_reducible first | refine zR ?_ ?_ fun K_ hK_ => ?_ | refine zS ?_ ?_ fun K_ hK_ => ?_); (focus kernel_rfl); (focus kernel_rfl))); first | (simp (maxSteps := 1000000) (disch := refine hold_ ?_; first | (simp [kNil, sLt, sGt, sAmp, sApos, sQuot, str_eql, b0, b1, b2, b3, b4, hsz, hl, -List.getD_eq_getElem?_getD]; done) | omega) [kNil, sLt, sGt, sAmp, sApos, sQuot, str_eql, b0, b1, b2, b3, b4, hsz, hl, -List.getD_eq_getElem?_getD]; try first | (with_reducible refine zZ ?_) | subst hK_) | subst hK_) | (with_reducible first | refine zA ?_ | refine zB ?_ | refine zC ?_ | refine zD ?_ | refine zE ?_ | refine zF ?_ | refine zG ?_ | refine zH ?_ | refine zI ?_ | refine zJ ?_ | refine zK ?_ | refine zL ?_ | refine zM ?_ | refine zN ?_ | refine zO ?_) | ((with_reducible refine yG ?_ ?_); (focus decide)) | ((with_reducible refine yA ?_); refine yB rfl ?_; (with_reducible first | refine yC ?_ | refine yD ?_)))
    all_goals simp (maxSteps := 1000000) (disch := refine hold_ ?_; first | (simp [resV, -List.getD_eq_getElem?_getD]; done) | omega) [resV, -List.getD_eq_getElem?_getD]
  · have hg : (((txt s).data.toList.getD 0 0).toNat : Int) = ub (s.getD 0 0#8) := txt_get s 0
    have h35 : ¬ s.getD 0 0#8 = 35#8 := by
      intro e; apply h
      cases s with
      | nil => simp at hl
      | cons b l => simp at e; simp [e]
    have hne : (ub (s.getD 0 0#8) != 35) = true := bne_iff_ne.2 (ub_ne h35)
    generalize s.getD 0 0#8 = b at *
    have hl0 : (0 : Int) < s.length := by omega
    have hl1 : 0 < s.length := by omega
    repeat (first | ((first | (with_reducible first | refine zP fun K_ hK_ => ?_ | refine zQ fun K_ hK_ => ?_ | refine zT ?_ | refine zU ?_ | refine zV ?_ | refine zW ?_ | refine zX ?_ | refine zY ?_) | ((with_reducible first | refine zR ?_ ?_ fun K_ hK_ => ?_ | refine zS ?_ ?_ fun K_ hK_ => ?_); (focus kernel_rfl); (focus kernel_rfl))); first | (simp (maxSteps := 1000000) (disch := refine hold_ ?_; first | (simp [kNil, sLt, sGt, sAmp, sApos, sQuot, str_eql, b0, b1, b2, b3, b4, hsz, hl, hg, hne, hl0, hl1, -List.getD_eq_getElem?_getD]; done) | omega) [kNil, sLt, sGt, sAmp, sApos, sQuot, str_eql, b0, b1, b2, b3, b4, hsz, hl, hg, hne, hl0, hl1, -List.getD_eq_getElem?_getD]; try first | (with_reducible refine zZ ?_) | subst hK_) | subst hK_) | (with_reducible first | refine zA ?_ | refine zB ?_ | refine zC ?_ | refine zD ?_ | refine zE ?_ | refine zF ?_ | refine zG ?_ | refine zH ?_ | refine zI ?_ | refine zJ ?_ | refine zK ?_ | refine zL ?_ | refine zM ?_ | refine zN ?_ | refine zO ?_) | ((with_reducible refine yG ?_ ?_); (focus decide)) | ((with_reducible refine yA ?_); refine yB rfl ?_; (with_reducible first | refine yC ?_ | refine yD ?_)))
    all_goals simp (maxSteps := 1000000) (disch := refine hold_ ?_; first | (simp [resV, -List.getD_eq_getElem?_getD]; done) | omega) [resV, -List.getD_eq_getElem?_getD]
theorem hash_one : standsV [35#8] = none := rfl
set_option maxRecDepth 10000 in
set_option maxHeartbeats 20000000 in
theorem rstandsH_ct (r : List (BitVec 8)) (hs : (35#8 :: r).length ≤ 4000000) : Fn Tryz.prog 31 [.str (txt (35#8 :: r))] (resV (standsV (35#8 :: r))) := by
  have b0 : ((35#8 :: r) == [108#8, 116#8]) = false := beq_eq_false_iff_ne.2 (by simp)
  have b1 : ((35#8 :: r) == [103#8, 116#8]) = false := beq_eq_false_iff_ne.2 (by simp)
  have b2 : ((35#8 :: r) == [97#8, 109#8, 112#8]) = false := beq_eq_false_iff_ne.2 (by simp)
  have b3 : ((35#8 :: r) == [97#8, 112#8, 111#8, 115#8]) = false := beq_eq_false_iff_ne.2 (by simp)
  have b4 : ((35#8 :: r) == [113#8, 117#8, 111#8, 116#8]) = false := beq_eq_false_iff_ne.2 (by simp)
  have hsz := txt_size (35#8 :: r)
  cases r with
  | nil =>
    rw [hash_one]
    have hl : (35#8 :: ([] : List (BitVec 8))).length = 1 := rfl
    rw [hl] at hsz
    generalize 35#8 :: ([] : List (BitVec 8)) = S at *
    refine Fn.of_body Tryz.func31 rfl ?_
    repeat (first | ((first | (with_reducible first | refine zP fun K_ hK_ => ?_ | refine zQ fun K_ hK_ => ?_ | refine zT ?_ | refine zU ?_ | refine zV ?_ | refine zW ?_ | refine zX ?_ | refine zY ?_) | ((with_reducible first | refine zR ?_ ?_ fun K_ hK_ => ?_ | refine zS ?_ ?_ fun K_ hK_ => ?_); (focus kernel_rfl); (focus kernel_rfl))); first | (simp (maxSteps := 1000000) (disch := refine hold_ ?_; first | (simp [kNil, sLt, sGt, sAmp, sApos, sQuot, str_eql, b0, b1, b2, b3, b4, hsz, -List.getD_eq_getElem?_getD]; done) | omega) [kNil, sLt, sGt, sAmp, sApos, sQuot, str_eql, b0, b1, b2, b3, b4, hsz, -List.getD_eq_getElem?_getD]; try first | (with_reducible refine zZ ?_) | subst hK_) | subst hK_) | (with_reducible first | refine zA ?_ | refine zB ?_ | refine zC ?_ | refine zD ?_ | refine zE ?_ | refine zF ?_ | refine zG ?_ | refine zH ?_ | refine zI ?_ | refine zJ ?_ | refine zK ?_ | refine zL ?_ | refine zM ?_ | refine zN ?_ | refine zO ?_) | ((with_reducible refine yG ?_ ?_); (focus decide)) | ((with_reducible refine yA ?_); refine yB rfl ?_; (with_reducible first | refine yC ?_ | refine yD ?_)))
    all_goals simp (maxSteps := 1000000) (disch := refine hold_ ?_; first | (simp [resV, -List.getD_eq_getElem?_getD]; done) | omega) [resV, -List.getD_eq_getElem?_getD]
  | cons c r =>
  have hg0 : (((txt (35#8 :: c :: r)).data.toList.getD 0 0).toNat : Int) = 35 := txt_get (35#8 :: c :: r) 0
  have hg1 : (((txt (35#8 :: c :: r)).data.toList.getD 1 0).toNat : Int) = ub c := txt_get (35#8 :: c :: r) 1
  have hget : ∀ k, (((txt (35#8 :: c :: r)).data.toList.getD k 0).toNat : Int) = ub ((35#8 :: c :: r).getD k 0#8) := fun k => txt_get (35#8 :: c :: r) k
  have hd1 : (35#8 :: c :: r).drop 1 = c :: r := rfl
  have hd2 : (35#8 :: c :: r).drop 2 = r := rfl
  have hln : (35#8 :: c :: r).length = r.length + 2 := rfl
  have hst : standsV (35#8 :: c :: r) = if c = 120#8 then numV 16 r else numV 10 (c :: r) := by
    unfold standsV
    simp
  rw [hst]
  have hcons := fun base n k h => refF_cons base n (35#8 :: c :: r) k h
  generalize hS : 35#8 :: c :: r = S at *
  rw [hln] at hsz
  have hl0 : ¬ ((r.length : Int) + 2 < 2) := by omega
  have hlz : (0 : Int) < (r.length : Int) + 2 := by omega
  have hlz1 : (1 : Int) < (r.length : Int) + 2 := by omega
  refine Fn.of_body Tryz.func31 rfl ?_
  by_cases hc : c = 120#8
  · have hx : (ub c == 120) = true := by rw [hc]; rfl
    rw [if_pos hc]
    clear hst hc
    cases hr : (r == []) with
    | true =>
      have hr2 : r = [] := by simpa using hr
      have hz : (r.length : Int) = 0 := by rw [hr2]; rfl
      rw [hr2, numV_nil]
      repeat (first | ((first | (with_reducible first | refine zP fun K_ hK_ => ?_ | refine zQ fun K_ hK_ => ?_ | refine zT ?_ | refine zU ?_ | refine zV ?_ | refine zW ?_ | refine zX ?_ | refine zY ?_) | ((with_reducible first | refine zR ?_ ?_ fun K_ hK_ => ?_ | refine zS ?_ ?_ fun K_ hK_ => ?_); (focus kernel_rfl); (focus kernel_rfl))); first | (simp (maxSteps := 1000000) (disch := refine hold_ ?_; first | (simp [kNil, sLt, sGt, sAmp, sApos, sQuot, str_eql, b0, b1, b2, b3, b4, hsz, hl0, hlz, hlz1, hg0, hg1, hx, hz, -List.getD_eq_getElem?_getD]; done) | omega) [kNil, sLt, sGt, sAmp, sApos, sQuot, str_eql, b0, b1, b2, b3, b4, hsz, hl0, hlz, hlz1, hg0, hg1, hx, hz, -List.getD_eq_getElem?_getD]; try first | (with_reducible refine zZ ?_) | subst hK_) | subst hK_) | (with_reducible first | refine zA ?_ | refine zB ?_ | refine zC ?_ | refine zD ?_ | refine zE ?_ | refine zF ?_ | refine zG ?_ | refine zH ?_ | refine zI ?_ | refine zJ ?_ | refine zK ?_ | refine zL ?_ | refine zM ?_ | refine zN ?_ | refine zO ?_) | ((with_reducible refine yG ?_ ?_); (focus decide)) | ((with_reducible refine yA ?_); refine yB rfl ?_; (with_reducible first | refine yC ?_ | refine yD ?_)))
      all_goals simp (maxSteps := 1000000) (disch := refine hold_ ?_; first | (simp [resV, -List.getD_eq_getElem?_getD]; done) | omega) [resV, -List.getD_eq_getElem?_getD]
    | false =>
      have hr2 : r ≠ [] := by simpa using hr
      have hpos : 0 < r.length := List.length_pos_iff.2 hr2
      have hz : ((2 : Int) == (r.length : Int) + 2) = false := beq_eq_false_iff_ne.2 (by omega)
      repeat (first | ((first | (with_reducible first | refine zP fun K_ hK_ => ?_ | refine zQ fun K_ hK_ => ?_ | refine zT ?_ | refine zU ?_ | refine zV ?_ | refine zW ?_ | refine zX ?_ | refine zY ?_) | ((with_reducible first | refine zR ?_ ?_ fun K_ hK_ => ?_ | refine zS ?_ ?_ fun K_ hK_ => ?_); (focus kernel_rfl); (focus kernel_rfl))); first | (simp (maxSteps := 1000000) (disch := refine hold_ ?_; first | (simp [kNil, sLt, sGt, sAmp, sApos, sQuot, str_eql, b0, b1, b2, b3, b4, hsz, hl0, hlz, hlz1, hg0, hg1, hx, hz, -List.getD_eq_getElem?_getD]; done) | omega) [kNil, sLt, sGt, sAmp, sApos, sQuot, str_eql, b0, b1, b2, b3, b4, hsz, hl0, hlz, hlz1, hg0, hg1, hx, hz, -List.getD_eq_getElem?_getD]; try first | (with_reducible refine zZ ?_) | subst hK_) | subst hK_) | (with_reducible first | refine zA ?_ | refine zB ?_ | refine zC ?_ | refine zD ?_ | refine zE ?_ | refine zF ?_ | refine zG ?_ | refine zH ?_ | refine zI ?_ | refine zJ ?_ | refine zK ?_ | refine zL ?_ | refine zM ?_ | refine zN ?_ | refine zO ?_) | ((with_reducible refine yG ?_ ?_); (focus decide)) | ((with_reducible refine yA ?_); refine yB rfl ?_; (with_reducible first | refine yC ?_ | refine yD ?_)))
      rw [numV_ref 16 (Or.inr rfl) r hr2, ← hd2]
      refine AW.iterI (true :: false :: false :: false :: true :: true :: true :: false :: false :: false :: false :: false :: false :: false :: false :: false :: false :: false :: false :: false :: false :: false :: false :: false :: false :: false :: false :: false :: false :: false :: false :: false :: false :: false :: false :: false :: false :: false :: false :: false :: false :: false :: false :: false :: false :: false :: false :: false :: false :: false :: false :: false :: false :: false :: false :: false :: false :: false :: false :: false :: []) (S.length - 2) (rsI S 16 2) (τ := rsS S 16 0 2) ?_ ⟨2, 0, rfl, by omega, by omega, by omega, rfl, rfl⟩ ?_
      · unfold rsS
        simp (maxSteps := 1000000) (disch := refine hold_ ?_; first | (simp [-List.getD_eq_getElem?_getD]; done) | omega) [-List.getD_eq_getElem?_getD]
      rintro x σ ⟨k, m, rfl, hk, hm0, hm1, rfl, hI⟩
      have e1 : IntKind.i64.wrap ((k : Int) + 1) = k + 1 := wrap_i64 _ (by omega) (by omega)
      by_cases hkc : k < S.length
      · have hkz : (k : Int) < (r.length : Int) + 2 := by omega
        have hkn : k < r.length + 2 := by omega
        have hg := hget k
        rw [hcons 16 m k hkc] at hI
        have kd := digit_ct (ub (S.getD k 0#8)) 16 (ub_lt _) (Or.inr rfl)
        have h15 := digV_lt (ub (S.getD k 0#8))
        have hi15 : digI (ub (S.getD k 0#8)) 16 ≤ 15 := by unfold digI; split <;> omega
        generalize S.getD k 0#8 = b at *
        generalize digI (ub b) 16 = e at *
        by_cases he : e < 0
        · rw [if_pos he] at hI
          unfold refV; rw [hI]
          unfold rsS
          repeat (first | ((with_reducible first | refine callK_at 46 ?_); refine callK_p ?_; simp (maxSteps := 1000000) (disch := refine hold_ ?_; first | (simp [kNil, hsz, hkz, hkn, hg, he, e1, -List.getD_eq_getElem?_getD]; done) | omega) [kNil, hsz, hkz, hkn, hg, he, e1, -List.getD_eq_getElem?_getD]; (first | refine callK1_of (Fn.ct kd Tryz.call46) ?_); (try simp (maxSteps := 1000000) (disch := refine hold_ ?_; first | (simp [kNil, hsz, hkz, hkn, hg, he, e1, -List.getD_eq_getElem?_getD]; done) | omega) [kNil, hsz, hkz, hkn, hg, he, e1, -List.getD_eq_getElem?_getD]); try first | (with_reducible refine zZ ?_) | subst hK_) | ((first | (with_reducible first | refine zP fun K_ hK_ => ?_ | refine zQ fun K_ hK_ => ?_ | refine zT ?_ | refine zU ?_ | refine zV ?_ | refine zW ?_ | refine zX ?_ | refine zY ?_) | ((with_reducible first | refine zR ?_ ?_ fun K_ hK_ => ?_ | refine zS ?_ ?_ fun K_ hK_ => ?_); (focus kernel_rfl); (focus kernel_rfl))); first | (simp (maxSteps := 1000000) (disch := refine hold_ ?_; first | (simp [kNil, hsz, hkz, hkn, hg, he, e1, -List.getD_eq_getElem?_getD]; done) | omega) [kNil, hsz, hkz, hkn, hg, he, e1, -List.getD_eq_getElem?_getD]; try first | (with_reducible refine zZ ?_) | subst hK_) | subst hK_) | (with_reducible first | refine zA ?_ | refine zB ?_ | refine zC ?_ | refine zD ?_ | refine zE ?_ | refine zF ?_ | refine zG ?_ | refine zH ?_ | refine zI ?_ | refine zJ ?_ | refine zK ?_ | refine zL ?_ | refine zM ?_ | refine zN ?_ | refine zO ?_) | ((with_reducible refine yG ?_ ?_); (focus decide)) | ((with_reducible refine yA ?_); refine yB rfl ?_; (with_reducible first | refine yC ?_ | refine yD ?_)))
          all_goals simp (maxSteps := 1000000) (disch := refine hold_ ?_; first | (simp [resV, -List.getD_eq_getElem?_getD]; done) | omega) [resV, -List.getD_eq_getElem?_getD]
        · rw [if_neg he] at hI
          by_cases hm : m < 2097152
          · rw [if_pos hm] at hI
            have v1 : IntKind.i32.wrap (m * 16) = m * 16 := wrap_i32 _ (by omega) (by omega)
            have v2 : IntKind.i32.wrap (m * 16 + e) = m * 16 + e := wrap_i32 _ (by omega) (by omega)
            unfold rsS
            repeat (first | ((with_reducible first | refine callK_at 46 ?_); refine callK_p ?_; simp (maxSteps := 1000000) (disch := refine hold_ ?_; first | (simp [kNil, hsz, hkz, hkn, hg, he, e1, hm, v1, v2, -List.getD_eq_getElem?_getD]; done) | omega) [kNil, hsz, hkz, hkn, hg, he, e1, hm, v1, v2, -List.getD_eq_getElem?_getD]; (first | refine callK1_of (Fn.ct kd Tryz.call46) ?_); (try simp (maxSteps := 1000000) (disch := refine hold_ ?_; first | (simp [kNil, hsz, hkz, hkn, hg, he, e1, hm, v1, v2, -List.getD_eq_getElem?_getD]; done) | omega) [kNil, hsz, hkz, hkn, hg, he, e1, hm, v1, v2, -List.getD_eq_getElem?_getD]); try first | (with_reducible refine zZ ?_) | subst hK_) | ((first | (with_reducible first | refine zP fun K_ hK_ => ?_ | refine zQ fun K_ hK_ => ?_ | refine zT ?_ | refine zU ?_ | refine zV ?_ | refine zW ?_ | refine zX ?_ | refine zY ?_) | ((with_reducible first | refine zR ?_ ?_ fun K_ hK_ => ?_ | refine zS ?_ ?_ fun K_ hK_ => ?_); (focus kernel_rfl); (focus kernel_rfl))); first | (simp (maxSteps := 1000000) (disch := refine hold_ ?_; first | (simp [kNil, hsz, hkz, hkn, hg, he, e1, hm, v1, v2, -List.getD_eq_getElem?_getD]; done) | omega) [kNil, hsz, hkz, hkn, hg, he, e1, hm, v1, v2, -List.getD_eq_getElem?_getD]; try first | (with_reducible refine zZ ?_) | subst hK_) | subst hK_) | (with_reducible first | refine zA ?_ | refine zB ?_ | refine zC ?_ | refine zD ?_ | refine zE ?_ | refine zF ?_ | refine zG ?_ | refine zH ?_ | refine zI ?_ | refine zJ ?_ | refine zK ?_ | refine zL ?_ | refine zM ?_ | refine zN ?_ | refine zO ?_) | ((with_reducible refine yG ?_ ?_); (focus decide)) | ((with_reducible refine yA ?_); refine yB rfl ?_; (with_reducible first | refine yC ?_ | refine yD ?_)))
            refine ⟨S.length - (k + 1), rsS S 16 (m * 16 + e) (k + 1), by omega, ?_, k + 1, m * 16 + e, rfl, hkc, by omega, by omega, rfl, hI⟩
            unfold rsS
            simp (maxSteps := 1000000) (disch := refine hold_ ?_; first | (simp [-List.getD_eq_getElem?_getD]; done) | omega) [-List.getD_eq_getElem?_getD]
          · rw [if_neg hm] at hI
            unfold rsS
            repeat (first | ((with_reducible first | refine callK_at 46 ?_); refine callK_p ?_; simp (maxSteps := 1000000) (disch := refine hold_ ?_; first | (simp [kNil, hsz, hkz, hkn, hg, he, e1, hm, -List.getD_eq_getElem?_getD]; done) | omega) [kNil, hsz, hkz, hkn, hg, he, e1, hm, -List.getD_eq_getElem?_getD]; (first | refine callK1_of (Fn.ct kd Tryz.call46) ?_); (try simp (maxSteps := 1000000) (disch := refine hold_ ?_; first | (simp [kNil, hsz, hkz, hkn, hg, he, e1, hm, -List.getD_eq_getElem?_getD]; done) | omega) [kNil, hsz, hkz, hkn, hg, he, e1, hm, -List.getD_eq_getElem?_getD]); try first | (with_reducible refine zZ ?_) | subst hK_) | ((first | (with_reducible first | refine zP fun K_ hK_ => ?_ | refine zQ fun K_ hK_ => ?_ | refine zT ?_ | refine zU ?_ | refine zV ?_ | refine zW ?_ | refine zX ?_ | refine zY ?_) | ((with_reducible first | refine zR ?_ ?_ fun K_ hK_ => ?_ | refine zS ?_ ?_ fun K_ hK_ => ?_); (focus kernel_rfl); (focus kernel_rfl))); first | (simp (maxSteps := 1000000) (disch := refine hold_ ?_; first | (simp [kNil, hsz, hkz, hkn, hg, he, e1, hm, -List.getD_eq_getElem?_getD]; done) | omega) [kNil, hsz, hkz, hkn, hg, he, e1, hm, -List.getD_eq_getElem?_getD]; try first | (with_reducible refine zZ ?_) | subst hK_) | subst hK_) | (with_reducible first | refine zA ?_ | refine zB ?_ | refine zC ?_ | refine zD ?_ | refine zE ?_ | refine zF ?_ | refine zG ?_ | refine zH ?_ | refine zI ?_ | refine zJ ?_ | refine zK ?_ | refine zL ?_ | refine zM ?_ | refine zN ?_ | refine zO ?_) | ((with_reducible refine yG ?_ ?_); (focus decide)) | ((with_reducible refine yA ?_); refine yB rfl ?_; (with_reducible first | refine yC ?_ | refine yD ?_)))
            refine ⟨S.length - (k + 1), rsS S 16 m (k + 1), by omega, ?_, k + 1, m, rfl, hkc, hm0, hm1, rfl, hI⟩
            unfold rsS
            simp (maxSteps := 1000000) (disch := refine hold_ ?_; first | (simp [-List.getD_eq_getElem?_getD]; done) | omega) [-List.getD_eq_getElem?_getD]
      · have hk2 : k = r.length + 2 := by omega
        subst hk2
        have hdr : S.drop (r.length + 2) = [] := by rw [← hln, List.drop_length]
        rw [hdr] at hI
        have hR : refF 16 0 (S.drop 2) = some m := hI
        have hv : refV 16 (S.drop 2) = chV m := by unfold refV; rw [hR]
        rw [hv]
        have kx := rxml_ct m
        have hne : ¬ (r.length : Int) + 2 < (r.length : Int) + 2 := by omega
        cases hx : xmlB m with
        | false =>
          rw [hx] at kx
          have hch : chV m = none := by unfold chV; rw [hx]; rfl
          rw [hch]
          unfold rsS
          repeat (first | ((with_reducible first | refine callK_at 11 ?_); refine callK_p ?_; simp (maxSteps := 1000000) (disch := refine hold_ ?_; first | (simp [kNil, hsz, hne, -List.getD_eq_getElem?_getD]; done) | omega) [kNil, hsz, hne, -List.getD_eq_getElem?_getD]; (first | refine callK1_of (Fn.ct kx Tryz.call11) ?_); (try simp (maxSteps := 1000000) (disch := refine hold_ ?_; first | (simp [kNil, hsz, hne, -List.getD_eq_getElem?_getD]; done) | omega) [kNil, hsz, hne, -List.getD_eq_getElem?_getD]); try first | (with_reducible refine zZ ?_) | subst hK_) | ((first | (with_reducible first | refine zP fun K_ hK_ => ?_ | refine zQ fun K_ hK_ => ?_ | refine zT ?_ | refine zU ?_ | refine zV ?_ | refine zW ?_ | refine zX ?_ | refine zY ?_) | ((with_reducible first | refine zR ?_ ?_ fun K_ hK_ => ?_ | refine zS ?_ ?_ fun K_ hK_ => ?_); (focus kernel_rfl); (focus kernel_rfl))); first | (simp (maxSteps := 1000000) (disch := refine hold_ ?_; first | (simp [kNil, hsz, hne, -List.getD_eq_getElem?_getD]; done) | omega) [kNil, hsz, hne, -List.getD_eq_getElem?_getD]; try first | (with_reducible refine zZ ?_) | subst hK_) | subst hK_) | (with_reducible first | refine zA ?_ | refine zB ?_ | refine zC ?_ | refine zD ?_ | refine zE ?_ | refine zF ?_ | refine zG ?_ | refine zH ?_ | refine zI ?_ | refine zJ ?_ | refine zK ?_ | refine zL ?_ | refine zM ?_ | refine zN ?_ | refine zO ?_) | ((with_reducible refine yG ?_ ?_); (focus decide)) | ((with_reducible refine yA ?_); refine yB rfl ?_; (with_reducible first | refine yC ?_ | refine yD ?_)))
          all_goals simp (maxSteps := 1000000) (disch := refine hold_ ?_; first | (simp [resV, -List.getD_eq_getElem?_getD]; done) | omega) [resV, -List.getD_eq_getElem?_getD]
        | true =>
          rw [hx] at kx
          have hch : chV m = some (encL m) := by unfold chV; rw [hx]; rfl
          rw [hch]
          have kone := one_ct m (xml_lo m hx).1 (xml_lo m hx).2
          have hlp := encL_pos m
          generalize encL m = L at *
          unfold rsS
          repeat (first | ((with_reducible first | refine callK_at 11 ?_ | refine callK_at 12 ?_); refine callK_p ?_; simp (maxSteps := 1000000) (disch := refine hold_ ?_; first | (simp [kNil, hsz, hne, hlp, -List.getD_eq_getElem?_getD]; done) | omega) [kNil, hsz, hne, hlp, -List.getD_eq_getElem?_getD]; (first | ((with_reducible refine k1_at 11 ?_); refine callK1_of (Fn.ct kx Tryz.call11) ?_) | ((with_reducible refine k1_at 12 ?_); refine callK1_of (Fn.ct kone Tryz.call12) ?_)); (try simp (maxSteps := 1000000) (disch := refine hold_ ?_; first | (simp [kNil, hsz, hne, hlp, -List.getD_eq_getElem?_getD]; done) | omega) [kNil, hsz, hne, hlp, -List.getD_eq_getElem?_getD]); try first | (with_reducible refine zZ ?_) | subst hK_) | ((first | (with_reducible first | refine zP fun K_ hK_ => ?_ | refine zQ fun K_ hK_ => ?_ | refine zT ?_ | refine zU ?_ | refine zV ?_ | refine zW ?_ | refine zX ?_ | refine zY ?_) | ((with_reducible first | refine zR ?_ ?_ fun K_ hK_ => ?_ | refine zS ?_ ?_ fun K_ hK_ => ?_); (focus kernel_rfl); (focus kernel_rfl))); first | (simp (maxSteps := 1000000) (disch := refine hold_ ?_; first | (simp [kNil, hsz, hne, hlp, -List.getD_eq_getElem?_getD]; done) | omega) [kNil, hsz, hne, hlp, -List.getD_eq_getElem?_getD]; try first | (with_reducible refine zZ ?_) | subst hK_) | subst hK_) | (with_reducible first | refine zA ?_ | refine zB ?_ | refine zC ?_ | refine zD ?_ | refine zE ?_ | refine zF ?_ | refine zG ?_ | refine zH ?_ | refine zI ?_ | refine zJ ?_ | refine zK ?_ | refine zL ?_ | refine zM ?_ | refine zN ?_ | refine zO ?_) | ((with_reducible refine yG ?_ ?_); (focus decide)) | ((with_reducible refine yA ?_); refine yB rfl ?_; (with_reducible first | refine yC ?_ | refine yD ?_)))
          all_goals simp (maxSteps := 1000000) (disch := refine hold_ ?_; first | (simp [resV, -List.getD_eq_getElem?_getD]; done) | omega) [resV, -List.getD_eq_getElem?_getD]
          all_goals exact (str_of L).symm
  · have hx : (ub c == 120) = false := beq_eq_false_iff_ne.2 (ub_ne hc)
    rw [if_neg hc]
    clear hst hc
    have hz : ((1 : Int) == (r.length : Int) + 2) = false := beq_eq_false_iff_ne.2 (by omega)
    repeat (first | ((first | (with_reducible first | refine zP fun K_ hK_ => ?_ | refine zQ fun K_ hK_ => ?_ | refine zT ?_ | refine zU ?_ | refine zV ?_ | refine zW ?_ | refine zX ?_ | refine zY ?_) | ((with_reducible first | refine zR ?_ ?_ fun K_ hK_ => ?_ | refine zS ?_ ?_ fun K_ hK_ => ?_); (focus kernel_rfl); (focus kernel_rfl))); first | (simp (maxSteps := 1000000) (disch := refine hold_ ?_; first | (simp [kNil, sLt, sGt, sAmp, sApos, sQuot, str_eql, b0, b1, b2, b3, b4, hsz, hl0, hlz, hlz1, hg0, hg1, hx, hz, -List.getD_eq_getElem?_getD]; done) | omega) [kNil, sLt, sGt, sAmp, sApos, sQuot, str_eql, b0, b1, b2, b3, b4, hsz, hl0, hlz, hlz1, hg0, hg1, hx, hz, -List.getD_eq_getElem?_getD]; try first | (with_reducible refine zZ ?_) | subst hK_) | subst hK_) | (with_reducible first | refine zA ?_ | refine zB ?_ | refine zC ?_ | refine zD ?_ | refine zE ?_ | refine zF ?_ | refine zG ?_ | refine zH ?_ | refine zI ?_ | refine zJ ?_ | refine zK ?_ | refine zL ?_ | refine zM ?_ | refine zN ?_ | refine zO ?_) | ((with_reducible refine yG ?_ ?_); (focus decide)) | ((with_reducible refine yA ?_); refine yB rfl ?_; (with_reducible first | refine yC ?_ | refine yD ?_)))
    rw [numV_ref 10 (Or.inl rfl) (c :: r) (by simp), ← hd1]
    refine AW.iterI (true :: false :: false :: false :: true :: true :: true :: false :: false :: false :: false :: false :: false :: false :: false :: false :: false :: false :: false :: false :: false :: false :: false :: false :: false :: false :: false :: false :: false :: false :: false :: false :: false :: false :: false :: false :: false :: false :: false :: false :: false :: false :: false :: false :: false :: false :: false :: false :: false :: false :: false :: false :: false :: false :: false :: false :: false :: false :: false :: false :: []) (S.length - 1) (rsI S 10 1) (τ := rsS S 10 0 1) ?_ ⟨1, 0, rfl, by omega, by omega, by omega, rfl, rfl⟩ ?_
    · unfold rsS
      simp (maxSteps := 1000000) (disch := refine hold_ ?_; first | (simp [-List.getD_eq_getElem?_getD]; done) | omega) [-List.getD_eq_getElem?_getD]
    rintro x σ ⟨k, m, rfl, hk, hm0, hm1, rfl, hI⟩
    have e1 : IntKind.i64.wrap ((k : Int) + 1) = k + 1 := wrap_i64 _ (by omega) (by omega)
    by_cases hkc : k < S.length
    · have hkz : (k : Int) < (r.length : Int) + 2 := by omega
      have hkn : k < r.length + 2 := by omega
      have hg := hget k
      rw [hcons 10 m k hkc] at hI
      have kd := digit_ct (ub (S.getD k 0#8)) 10 (ub_lt _) (Or.inl rfl)
      have h15 := digV_lt (ub (S.getD k 0#8))
      have hi15 : digI (ub (S.getD k 0#8)) 10 ≤ 15 := by unfold digI; split <;> omega
      generalize S.getD k 0#8 = b at *
      generalize digI (ub b) 10 = e at *
      by_cases he : e < 0
      · rw [if_pos he] at hI
        unfold refV; rw [hI]
        unfold rsS
        repeat (first | ((with_reducible first | refine callK_at 46 ?_); refine callK_p ?_; simp (maxSteps := 1000000) (disch := refine hold_ ?_; first | (simp [kNil, hsz, hkz, hkn, hg, he, e1, -List.getD_eq_getElem?_getD]; done) | omega) [kNil, hsz, hkz, hkn, hg, he, e1, -List.getD_eq_getElem?_getD]; (first | refine callK1_of (Fn.ct kd Tryz.call46) ?_); (try simp (maxSteps := 1000000) (disch := refine hold_ ?_; first | (simp [kNil, hsz, hkz, hkn, hg, he, e1, -List.getD_eq_getElem?_getD]; done) | omega) [kNil, hsz, hkz, hkn, hg, he, e1, -List.getD_eq_getElem?_getD]); try first | (with_reducible refine zZ ?_) | subst hK_) | ((first | (with_reducible first | refine zP fun K_ hK_ => ?_ | refine zQ fun K_ hK_ => ?_ | refine zT ?_ | refine zU ?_ | refine zV ?_ | refine zW ?_ | refine zX ?_ | refine zY ?_) | ((with_reducible first | refine zR ?_ ?_ fun K_ hK_ => ?_ | refine zS ?_ ?_ fun K_ hK_ => ?_); (focus kernel_rfl); (focus kernel_rfl))); first | (simp (maxSteps := 1000000) (disch := refine hold_ ?_; first | (simp [kNil, hsz, hkz, hkn, hg, he, e1, -List.getD_eq_getElem?_getD]; done) | omega) [kNil, hsz, hkz, hkn, hg, he, e1, -List.getD_eq_getElem?_getD]; try first | (with_reducible refine zZ ?_) | subst hK_) | subst hK_) | (with_reducible first | refine zA ?_ | refine zB ?_ | refine zC ?_ | refine zD ?_ | refine zE ?_ | refine zF ?_ | refine zG ?_ | refine zH ?_ | refine zI ?_ | refine zJ ?_ | refine zK ?_ | refine zL ?_ | refine zM ?_ | refine zN ?_ | refine zO ?_) | ((with_reducible refine yG ?_ ?_); (focus decide)) | ((with_reducible refine yA ?_); refine yB rfl ?_; (with_reducible first | refine yC ?_ | refine yD ?_)))
        all_goals simp (maxSteps := 1000000) (disch := refine hold_ ?_; first | (simp [resV, -List.getD_eq_getElem?_getD]; done) | omega) [resV, -List.getD_eq_getElem?_getD]
      · rw [if_neg he] at hI
        by_cases hm : m < 2097152
        · rw [if_pos hm] at hI
          have v1 : IntKind.i32.wrap (m * 10) = m * 10 := wrap_i32 _ (by omega) (by omega)
          have v2 : IntKind.i32.wrap (m * 10 + e) = m * 10 + e := wrap_i32 _ (by omega) (by omega)
          unfold rsS
          repeat (first | ((with_reducible first | refine callK_at 46 ?_); refine callK_p ?_; simp (maxSteps := 1000000) (disch := refine hold_ ?_; first | (simp [kNil, hsz, hkz, hkn, hg, he, e1, hm, v1, v2, -List.getD_eq_getElem?_getD]; done) | omega) [kNil, hsz, hkz, hkn, hg, he, e1, hm, v1, v2, -List.getD_eq_getElem?_getD]; (first | refine callK1_of (Fn.ct kd Tryz.call46) ?_); (try simp (maxSteps := 1000000) (disch := refine hold_ ?_; first | (simp [kNil, hsz, hkz, hkn, hg, he, e1, hm, v1, v2, -List.getD_eq_getElem?_getD]; done) | omega) [kNil, hsz, hkz, hkn, hg, he, e1, hm, v1, v2, -List.getD_eq_getElem?_getD]); try first | (with_reducible refine zZ ?_) | subst hK_) | ((first | (with_reducible first | refine zP fun K_ hK_ => ?_ | refine zQ fun K_ hK_ => ?_ | refine zT ?_ | refine zU ?_ | refine zV ?_ | refine zW ?_ | refine zX ?_ | refine zY ?_) | ((with_reducible first | refine zR ?_ ?_ fun K_ hK_ => ?_ | refine zS ?_ ?_ fun K_ hK_ => ?_); (focus kernel_rfl); (focus kernel_rfl))); first | (simp (maxSteps := 1000000) (disch := refine hold_ ?_; first | (simp [kNil, hsz, hkz, hkn, hg, he, e1, hm, v1, v2, -List.getD_eq_getElem?_getD]; done) | omega) [kNil, hsz, hkz, hkn, hg, he, e1, hm, v1, v2, -List.getD_eq_getElem?_getD]; try first | (with_reducible refine zZ ?_) | subst hK_) | subst hK_) | (with_reducible first | refine zA ?_ | refine zB ?_ | refine zC ?_ | refine zD ?_ | refine zE ?_ | refine zF ?_ | refine zG ?_ | refine zH ?_ | refine zI ?_ | refine zJ ?_ | refine zK ?_ | refine zL ?_ | refine zM ?_ | refine zN ?_ | refine zO ?_) | ((with_reducible refine yG ?_ ?_); (focus decide)) | ((with_reducible refine yA ?_); refine yB rfl ?_; (with_reducible first | refine yC ?_ | refine yD ?_)))
          refine ⟨S.length - (k + 1), rsS S 10 (m * 10 + e) (k + 1), by omega, ?_, k + 1, m * 10 + e, rfl, hkc, by omega, by omega, rfl, hI⟩
          unfold rsS
          simp (maxSteps := 1000000) (disch := refine hold_ ?_; first | (simp [-List.getD_eq_getElem?_getD]; done) | omega) [-List.getD_eq_getElem?_getD]
        · rw [if_neg hm] at hI
          unfold rsS
          repeat (first | ((with_reducible first | refine callK_at 46 ?_); refine callK_p ?_; simp (maxSteps := 1000000) (disch := refine hold_ ?_; first | (simp [kNil, hsz, hkz, hkn, hg, he, e1, hm, -List.getD_eq_getElem?_getD]; done) | omega) [kNil, hsz, hkz, hkn, hg, he, e1, hm, -List.getD_eq_getElem?_getD]; (first | refine callK1_of (Fn.ct kd Tryz.call46) ?_); (try simp (maxSteps := 1000000) (disch := refine hold_ ?_; first | (simp [kNil, hsz, hkz, hkn, hg, he, e1, hm, -List.getD_eq_getElem?_getD]; done) | omega) [kNil, hsz, hkz, hkn, hg, he, e1, hm, -List.getD_eq_getElem?_getD]); try first | (with_reducible refine zZ ?_) | subst hK_) | ((first | (with_reducible first | refine zP fun K_ hK_ => ?_ | refine zQ fun K_ hK_ => ?_ | refine zT ?_ | refine zU ?_ | refine zV ?_ | refine zW ?_ | refine zX ?_ | refine zY ?_) | ((with_reducible first | refine zR ?_ ?_ fun K_ hK_ => ?_ | refine zS ?_ ?_ fun K_ hK_ => ?_); (focus kernel_rfl); (focus kernel_rfl))); first | (simp (maxSteps := 1000000) (disch := refine hold_ ?_; first | (simp [kNil, hsz, hkz, hkn, hg, he, e1, hm, -List.getD_eq_getElem?_getD]; done) | omega) [kNil, hsz, hkz, hkn, hg, he, e1, hm, -List.getD_eq_getElem?_getD]; try first | (with_reducible refine zZ ?_) | subst hK_) | subst hK_) | (with_reducible first | refine zA ?_ | refine zB ?_ | refine zC ?_ | refine zD ?_ | refine zE ?_ | refine zF ?_ | refine zG ?_ | refine zH ?_ | refine zI ?_ | refine zJ ?_ | refine zK ?_ | refine zL ?_ | refine zM ?_ | refine zN ?_ | refine zO ?_) | ((with_reducible refine yG ?_ ?_); (focus decide)) | ((with_reducible refine yA ?_); refine yB rfl ?_; (with_reducible first | refine yC ?_ | refine yD ?_)))
          refine ⟨S.length - (k + 1), rsS S 10 m (k + 1), by omega, ?_, k + 1, m, rfl, hkc, hm0, hm1, rfl, hI⟩
          unfold rsS
          simp (maxSteps := 1000000) (disch := refine hold_ ?_; first | (simp [-List.getD_eq_getElem?_getD]; done) | omega) [-List.getD_eq_getElem?_getD]
    · have hk2 : k = r.length + 2 := by omega
      subst hk2
      have hdr : S.drop (r.length + 2) = [] := by rw [← hln, List.drop_length]
      rw [hdr] at hI
      have hR : refF 10 0 (S.drop 1) = some m := hI
      have hv : refV 10 (S.drop 1) = chV m := by unfold refV; rw [hR]
      rw [hv]
      have kx := rxml_ct m
      have hne : ¬ (r.length : Int) + 2 < (r.length : Int) + 2 := by omega
      cases hx : xmlB m with
      | false =>
        rw [hx] at kx
        have hch : chV m = none := by unfold chV; rw [hx]; rfl
        rw [hch]
        unfold rsS
        repeat (first | ((with_reducible first | refine callK_at 11 ?_); refine callK_p ?_; simp (maxSteps := 1000000) (disch := refine hold_ ?_; first | (simp [kNil, hsz, hne, -List.getD_eq_getElem?_getD]; done) | omega) [kNil, hsz, hne, -List.getD_eq_getElem?_getD]; (first | refine callK1_of (Fn.ct kx Tryz.call11) ?_); (try simp (maxSteps := 1000000) (disch := refine hold_ ?_; first | (simp [kNil, hsz, hne, -List.getD_eq_getElem?_getD]; done) | omega) [kNil, hsz, hne, -List.getD_eq_getElem?_getD]); try first | (with_reducible refine zZ ?_) | subst hK_) | ((first | (with_reducible first | refine zP fun K_ hK_ => ?_ | refine zQ fun K_ hK_ => ?_ | refine zT ?_ | refine zU ?_ | refine zV ?_ | refine zW ?_ | refine zX ?_ | refine zY ?_) | ((with_reducible first | refine zR ?_ ?_ fun K_ hK_ => ?_ | refine zS ?_ ?_ fun K_ hK_ => ?_); (focus kernel_rfl); (focus kernel_rfl))); first | (simp (maxSteps := 1000000) (disch := refine hold_ ?_; first | (simp [kNil, hsz, hne, -List.getD_eq_getElem?_getD]; done) | omega) [kNil, hsz, hne, -List.getD_eq_getElem?_getD]; try first | (with_reducible refine zZ ?_) | subst hK_) | subst hK_) | (with_reducible first | refine zA ?_ | refine zB ?_ | refine zC ?_ | refine zD ?_ | refine zE ?_ | refine zF ?_ | refine zG ?_ | refine zH ?_ | refine zI ?_ | refine zJ ?_ | refine zK ?_ | refine zL ?_ | refine zM ?_ | refine zN ?_ | refine zO ?_) | ((with_reducible refine yG ?_ ?_); (focus decide)) | ((with_reducible refine yA ?_); refine yB rfl ?_; (with_reducible first | refine yC ?_ | refine yD ?_)))
        all_goals simp (maxSteps := 1000000) (disch := refine hold_ ?_; first | (simp [resV, -List.getD_eq_getElem?_getD]; done) | omega) [resV, -List.getD_eq_getElem?_getD]
      | true =>
        rw [hx] at kx
        have hch : chV m = some (encL m) := by unfold chV; rw [hx]; rfl
        rw [hch]
        have kone := one_ct m (xml_lo m hx).1 (xml_lo m hx).2
        have hlp := encL_pos m
        generalize encL m = L at *
        unfold rsS
        repeat (first | ((with_reducible first | refine callK_at 11 ?_ | refine callK_at 12 ?_); refine callK_p ?_; simp (maxSteps := 1000000) (disch := refine hold_ ?_; first | (simp [kNil, hsz, hne, hlp, -List.getD_eq_getElem?_getD]; done) | omega) [kNil, hsz, hne, hlp, -List.getD_eq_getElem?_getD]; (first | ((with_reducible refine k1_at 11 ?_); refine callK1_of (Fn.ct kx Tryz.call11) ?_) | ((with_reducible refine k1_at 12 ?_); refine callK1_of (Fn.ct kone Tryz.call12) ?_)); (try simp (maxSteps := 1000000) (disch := refine hold_ ?_; first | (simp [kNil, hsz, hne, hlp, -List.getD_eq_getElem?_getD]; done) | omega) [kNil, hsz, hne, hlp, -List.getD_eq_getElem?_getD]); try first | (with_reducible refine zZ ?_) | subst hK_) | ((first | (with_reducible first | refine zP fun K_ hK_ => ?_ | refine zQ fun K_ hK_ => ?_ | refine zT ?_ | refine zU ?_ | refine zV ?_ | refine zW ?_ | refine zX ?_ | refine zY ?_) | ((with_reducible first | refine zR ?_ ?_ fun K_ hK_ => ?_ | refine zS ?_ ?_ fun K_ hK_ => ?_); (focus kernel_rfl); (focus kernel_rfl))); first | (simp (maxSteps := 1000000) (disch := refine hold_ ?_; first | (simp [kNil, hsz, hne, hlp, -List.getD_eq_getElem?_getD]; done) | omega) [kNil, hsz, hne, hlp, -List.getD_eq_getElem?_getD]; try first | (with_reducible refine zZ ?_) | subst hK_) | subst hK_) | (with_reducible first | refine zA ?_ | refine zB ?_ | refine zC ?_ | refine zD ?_ | refine zE ?_ | refine zF ?_ | refine zG ?_ | refine zH ?_ | refine zI ?_ | refine zJ ?_ | refine zK ?_ | refine zL ?_ | refine zM ?_ | refine zN ?_ | refine zO ?_) | ((with_reducible refine yG ?_ ?_); (focus decide)) | ((with_reducible refine yA ?_); refine yB rfl ?_; (with_reducible first | refine yC ?_ | refine yD ?_)))
        all_goals simp (maxSteps := 1000000) (disch := refine hold_ ?_; first | (simp [resV, -List.getD_eq_getElem?_getD]; done) | omega) [resV, -List.getD_eq_getElem?_getD]
        all_goals exact (str_of L).symm
theorem rstands_ct (s : List (BitVec 8)) (hs : s.length ≤ 4000000) : Fn Tryz.prog 31 [.str (txt s)] (resV (standsV s)) := by
  by_cases h : s.head? = some 35#8
  · cases s with
    | nil => simp at h
    | cons b r =>
      simp only [List.head?_cons, Option.some.injEq] at h
      subst h
      exact rstandsH_ct r hs
  · exact rstandsN_ct s hs h
end Go.Av.Cha
end
section
set_option linter.unusedSimpArgs false
set_option linter.unusedVariables false
set_option linter.unusedSectionVars false
open Go Go.Av Go.Proofs
namespace Go.Av.Cha
variable [ML]
def rxF (g : BitVec 8 → BitVec 8) : Nat → List (BitVec 8) → Option (List (BitVec 8))
  | 0, _ => none
  | _ + 1, [] => some []
  | n + 1, b :: l => if b = 60#8 then none else if b = 38#8 then
      (match cutB 59#8 l with
      | none => none
      | some p => match standsV p.1 with
        | none => none
        | some x => (rxF g n p.2).map fun y => x ++ y)
    else (rxF g n l).map fun y => g b :: y
def rxL (g : BitVec 8 → BitVec 8) (s : List (BitVec 8)) : Option (List (BitVec 8)) := rxF g (s.length + 1) s
theorem rxF_fuel (g : BitVec 8 → BitVec 8) : ∀ (n m : Nat) (s : List (BitVec 8)), s.length < n → s.length < m → rxF g n s = rxF g m s
  | 0, _, _, h, _ => absurd h (Nat.not_lt_zero _)
  | _, 0, _, _, h => absurd h (Nat.not_lt_zero _)
  | n + 1, m + 1, [], hn, hm => rfl
  | n + 1, m + 1, b :: l, hn, hm => by
    simp only [List.length_cons] at hn hm
    simp only [rxF]
    rw [rxF_fuel g n m l (by omega) (by omega)]
    cases h2 : cutB 59#8 l with
    | none => rfl
    | some p =>
      have l2 := cutB_len _ _ _ h2
      simp only
      rw [rxF_fuel g n m p.2 (by omega) (by omega)]
theorem rxL_nil (g : BitVec 8 → BitVec 8) : rxL g [] = some [] := rfl
theorem rxL_lt (g : BitVec 8 → BitVec 8) (l : List (BitVec 8)) : rxL g (60#8 :: l) = none := by
  unfold rxL; simp only [rxF, if_true]
theorem rxL_cons (g : BitVec 8 → BitVec 8) (b : BitVec 8) (l : List (BitVec 8)) (h1 : ¬ b = 60#8) (h2 : ¬ b = 38#8) : rxL g (b :: l) = (rxL g l).map fun y => g b :: y := by
  unfold rxL; rw [List.length_cons, rxF, if_neg h1, if_neg h2]
theorem rxL_bad (g : BitVec 8 → BitVec 8) (l : List (BitVec 8)) (h : cutB 59#8 l = none) : rxL g (38#8 :: l) = none := by
  unfold rxL; rw [List.length_cons, rxF, if_neg (by decide), if_pos rfl, h]
theorem rxL_bad2 (g : BitVec 8 → BitVec 8) (l i t : List (BitVec 8)) (h : cutB 59#8 l = some (i, t)) (h2 : standsV i = none) : rxL g (38#8 :: l) = none := by
  unfold rxL; rw [List.length_cons, rxF, if_neg (by decide), if_pos rfl, h]; simp only [h2]
theorem rxL_go (g : BitVec 8 → BitVec 8) (l i t x : List (BitVec 8)) (h : cutB 59#8 l = some (i, t)) (h2 : standsV i = some x) : rxL g (38#8 :: l) = (rxL g t).map fun y => x ++ y := by
  have l2 := cutB_len _ _ _ h
  simp only at l2
  unfold rxL; rw [List.length_cons, rxF, if_neg (by decide), if_pos rfl, h]; simp only [h2]
  rw [rxF_fuel g (l.length + 1) (t.length + 1) t (by omega) (by omega)]
theorem cutB_spec (d : BitVec 8) : ∀ (l : List (BitVec 8)), (cutB d l = none ∧ d ∉ l) ∨ ∃ i t, cutB d l = some (i, t) ∧ l = i ++ d :: t ∧ d ∉ i
  | [] => .inl ⟨rfl, by simp⟩
  | c :: l => by
    by_cases h : c = d
    · subst h
      exact .inr ⟨[], l, by simp [cutB], rfl, by simp⟩
    · rcases cutB_spec d l with ⟨h1, h2⟩ | ⟨i, t, h1, h2, h3⟩
      · exact .inl ⟨by simp [cutB, h, h1], by simp [h2, Ne.symm h]⟩
      · exact .inr ⟨c :: i, t, by simp [cutB, h, h1], by rw [h2]; rfl, by simp [h3, Ne.symm h]⟩
theorem numF_lt (base : Int) (hb : 0 < base) : ∀ (d : List (BitVec 8)) (n : Int), 60#8 ∈ d → numF base n d = none
  | [], n, h => by simp at h
  | c :: d, n, h => by
    simp only [numF]
    by_cases hd : digI (ub c) base < 0
    · rw [if_pos hd]
    · rw [if_neg hd]
      rcases List.mem_cons.1 h with h1 | h1
      · exfalso; apply hd
        rw [← h1]
        have e : digV (ub 60#8) = -1 := by decide
        unfold digI; rw [e, if_neg (by omega)]; omega
      · exact numF_lt base hb d _ h1
theorem numV_lt (base : Int) (hb : 0 < base) (d : List (BitVec 8)) (h : 60#8 ∈ d) : numV base d = none := by
  unfold numV numO; rw [numF_lt base hb d 0 h]; rfl
theorem stands_lt (i : List (BitVec 8)) (h : 60#8 ∈ i) : standsV i = none := by
  unfold standsV
  by_cases h1 : i.head? = some 35#8
  · rw [if_pos h1]
    cases i with
    | nil => simp at h
    | cons b r =>
      simp only [List.head?_cons, Option.some.injEq] at h1
      subst h1
      have h2 : 60#8 ∈ r := by
        rcases List.mem_cons.1 h with e | e
        · exact absurd e (by decide)
        · exact e
      simp only [List.drop_succ_cons, List.drop_zero]
      by_cases h3 : r.head? = some 120#8
      · rw [if_pos h3]
        cases r with
        | nil => simp at h2
        | cons c q =>
          simp only [List.head?_cons, Option.some.injEq] at h3
          subst h3
          have h4 : 60#8 ∈ q := by
            rcases List.mem_cons.1 h2 with e | e
            · exact absurd e (by decide)
            · exact e
          exact numV_lt 16 (by omega) q h4
      · rw [if_neg h3]; exact numV_lt 10 (by omega) r h2
  · rw [if_neg h1]
    unfold namedV
    repeat' split
    all_goals first | rfl | (subst_vars; exact absurd h (by decide))
theorem rx_lt (g : BitVec 8 → BitVec 8) : ∀ (n : Nat) (s : List (BitVec 8)), s.length ≤ n → 60#8 ∈ s → rxL g s = none
  | _, [], _, h => by simp at h
  | 0, _ :: _, hn, _ => by simp at hn
  | n + 1, b :: l, hn, h => by
    have hl : l.length ≤ n := by simpa using hn
    by_cases h1 : b = 60#8
    · subst h1; exact rxL_lt g l
    · have h2 : 60#8 ∈ l := by
        rcases List.mem_cons.1 h with e | e
        · exact absurd e.symm h1
        · exact e
      by_cases h3 : b = 38#8
      · subst h3
        rcases cutB_spec 59#8 l with ⟨c1, _⟩ | ⟨i, t, c1, c2, c3⟩
        · exact rxL_bad g l c1
        · rw [c2] at h2
          have hm : 60#8 ∈ i ∨ 60#8 ∈ t := by simpa using h2
          have hlen : t.length ≤ n := by rw [c2] at hl; simp at hl; omega
          cases hs : standsV i with
          | none => exact rxL_bad2 g l i t c1 hs
          | some x =>
            rw [rxL_go g l i t x c1 hs]
            rcases hm with hm | hm
            · rw [stands_lt i hm] at hs; simp at hs
            · rw [rx_lt g n t hlen hm]; rfl
      · rw [rxL_cons g b l h1 h3, rx_lt g n l hl h2]; rfl
theorem rx_app (g : BitVec 8 → BitVec 8) : ∀ (a t : List (BitVec 8)), 38#8 ∉ a → 60#8 ∉ a → rxL g (a ++ t) = (rxL g t).map fun y => a.map g ++ y
  | [], t, _, _ => by simp
  | b :: a, t, h1, h2 => by
    simp only [List.mem_cons, not_or] at h1 h2
    rw [List.cons_append, rxL_cons g b _ (fun e => h2.1 e.symm) (fun e => h1.1 e.symm), rx_app g a t h1.2 h2.2, Option.map_map]
    rfl
theorem rx_ex (g : BitVec 8 → BitVec 8) : ∀ (n : Nat) (s : List (BitVec 8)), s.length ≤ n → 60#8 ∉ s → rxL g s = exL g s := by
  intro n
  induction n with
  | zero =>
    intro s hn _
    obtain rfl := List.eq_nil_of_length_eq_zero (Nat.le_zero.1 hn)
    rw [exL_none g [] rfl]; rfl
  | succ n ih =>
    intro s hn h
    rcases cutB_spec 38#8 s with ⟨c1, c2⟩ | ⟨a, r, c1, c2, c3⟩
    · rw [exL_none g s c1]
      have := rx_app g s [] c2 h
      rw [List.append_nil, rxL_nil] at this
      rw [this]; simp
    · have ha : 60#8 ∉ a := fun e => h (by rw [c2]; simp [e])
      have hr : 60#8 ∉ r := fun e => h (by rw [c2]; simp [e])
      have hlen : r.length ≤ n := by rw [c2] at hn; simp at hn; omega
      rw [c2, rx_app g a _ c3 ha, ← c2]
      rcases cutB_spec 59#8 r with ⟨d1, _⟩ | ⟨i, t, d1, d2, d3⟩
      · rw [rxL_bad g r d1, exL_bad g s a r c1 d1]; rfl
      · cases hs : standsV i with
        | none => rw [rxL_bad2 g r i t d1 hs, exL_bad2 g s a r i t c1 d1 hs]; rfl
        | some x =>
          have ht : 60#8 ∉ t := fun e => hr (by rw [d2]; simp [e])
          rw [rxL_go g r i t x d1 hs, exL_go g s a r i t x c1 d1 hs, ih t (by rw [d2] at hlen; simp at hlen; omega) ht, Option.map_map]
          rfl
theorem rx_expand (g : BitVec 8 → BitVec 8) (s : List (BitVec 8)) : (if textB s = true then rxL g s else none) = expandV g s := by
  unfold expandV okX
  cases textB s with
  | false => simp
  | true =>
    rw [if_pos rfl, Bool.true_and]
    cases h : s.contains 60#8 with
    | true =>
      rw [if_neg (by simp)]
      exact rx_lt g _ s (Nat.le_refl _) (by simpa using h)
    | false =>
      rw [if_pos (by simp)]
      exact rx_ex g _ s (Nat.le_refl _) (by simpa using h)
end Go.Av.Cha
end
section
set_option linter.unusedSimpArgs false
set_option linter.unusedVariables false
set_option linter.unusedSectionVars false
open Go Go.Av Go.Proofs
namespace Go.Av.Cha
variable [ML]
def gB (fl : Bool) : BitVec 8 → BitVec 8 := if fl = true then blk else idB
def rxS (s : List (BitVec 8)) (fl : Bool) (k : Nat) (o : List (BitVec 8)) : St := ⟨(.p (.str (txt s)) :: .p (.bool fl) :: V.junk :: V.junk :: V.junk :: V.junk :: .row (bl o) 0 0 (o.length == 0) :: .p (.int .i64 k) :: V.junk :: V.junk :: V.junk :: V.junk :: V.junk :: V.junk :: V.junk :: V.junk :: V.junk :: V.junk :: V.junk :: V.junk :: V.junk :: V.junk :: V.junk :: V.junk :: V.junk :: V.junk :: V.junk :: V.junk :: V.junk :: V.junk :: V.junk :: V.junk :: V.junk :: V.junk :: V.junk :: V.junk :: V.junk :: V.junk :: V.junk :: V.junk :: V.junk :: V.junk :: V.junk :: V.junk :: V.junk :: V.junk :: V.junk :: V.junk :: V.junk :: V.junk :: V.junk :: V.junk :: V.junk :: V.junk :: V.junk :: V.junk :: V.junk :: V.junk :: V.junk :: V.junk :: V.junk :: V.junk :: V.junk :: V.junk :: V.junk :: V.junk :: V.junk :: V.junk :: V.junk :: V.junk :: V.junk :: V.junk :: V.junk :: V.junk :: V.junk :: V.junk :: V.junk :: V.junk :: V.junk :: V.junk :: V.junk :: V.junk :: V.junk :: V.junk :: V.junk :: V.junk :: V.junk :: []), ⟨[], [(0, 0)]⟩⟩
def rxI (s : List (BitVec 8)) (fl : Bool) (x : Nat) (σ : St) : Prop := ∃ (k : Nat) (o : List (BitVec 8)), x = s.length - k ∧ k ≤ s.length ∧ o.length + 4 * (s.length - k) ≤ 4 * s.length ∧ σ = rxS s fl k o ∧ rxL (gB fl) s = (rxL (gB fl) (s.drop k)).map fun y => o ++ y
theorem getD_drop (s : List (BitVec 8)) (k j : Nat) : s.getD (k + j) 0#8 = (s.drop k).getD j 0#8 := by
  simp [List.getD_eq_getElem?_getD]
theorem getD_mem (s : List (BitVec 8)) (j : Nat) (h : j < s.length) : s.getD j 0#8 ∈ s := by
  rw [List.getD_eq_getElem?_getD, List.getElem?_eq_getElem h]; exact List.getElem_mem h
set_option maxRecDepth 10000 in
set_option maxHeartbeats 20000000 in
theorem rexpand_ct (s : List (BitVec 8)) (fl : Bool) (hs : s.length ≤ 4000000) : Fn Tryz.prog 19 [.str (txt s), .bool fl] (resV (expandV (gB fl) s)) := by
  rw [← rx_expand]
  have k1 := rtext_ct false s hs
  have hb := txt_bytes s
  have hsz := txt_size s
  refine Fn.of_body Tryz.func19 rfl ?_
  cases h1 : textB s with
  | false =>
    rw [h1] at k1
    rw [if_neg (by simp)]
    repeat (first | ((with_reducible first | refine callK_at 30 ?_); refine callK_p ?_; simp (maxSteps := 1000000) (disch := refine hold_ ?_; first | (simp [kNil, hb, -List.getD_eq_getElem?_getD]; done) | omega) [kNil, hb, -List.getD_eq_getElem?_getD]; (first | refine callK1_of (Fn.ct k1 Tryz.call30) ?_); (try simp (maxSteps := 1000000) (disch := refine hold_ ?_; first | (simp [kNil, hb, -List.getD_eq_getElem?_getD]; done) | omega) [kNil, hb, -List.getD_eq_getElem?_getD]); try first | (with_reducible refine zZ ?_) | subst hK_) | ((first | (with_reducible first | refine zP fun K_ hK_ => ?_ | refine zQ fun K_ hK_ => ?_ | refine zT ?_ | refine zU ?_ | refine zV ?_ | refine zW ?_ | refine zX ?_ | refine zY ?_) | ((with_reducible first | refine zR ?_ ?_ fun K_ hK_ => ?_ | refine zS ?_ ?_ fun K_ hK_ => ?_); (focus kernel_rfl); (focus kernel_rfl))); first | (simp (maxSteps := 1000000) (disch := refine hold_ ?_; first | (simp [kNil, hb, -List.getD_eq_getElem?_getD]; done) | omega) [kNil, hb, -List.getD_eq_getElem?_getD]; try first | (with_reducible refine zZ ?_) | subst hK_) | subst hK_) | (with_reducible first | refine zA ?_ | refine zB ?_ | refine zC ?_ | refine zD ?_ | refine zE ?_ | refine zF ?_ | refine zG ?_ | refine zH ?_ | refine zI ?_ | refine zJ ?_ | refine zK ?_ | refine zL ?_ | refine zM ?_ | refine zN ?_ | refine zO ?_) | ((with_reducible refine yG ?_ ?_); (focus decide)) | ((with_reducible refine yA ?_); refine yB rfl ?_; (with_reducible first | refine yC ?_ | refine yD ?_)))
    all_goals simp (maxSteps := 1000000) (disch := refine hold_ ?_; first | (simp [resV, -List.getD_eq_getElem?_getD]; done) | omega) [resV, -List.getD_eq_getElem?_getD]
  | true =>
  rw [h1] at k1
  rw [if_pos rfl]
  repeat (first | ((with_reducible first | refine callK_at 30 ?_); refine callK_p ?_; simp (maxSteps := 1000000) (disch := refine hold_ ?_; first | (simp [kNil, hb, -List.getD_eq_getElem?_getD]; done) | omega) [kNil, hb, -List.getD_eq_getElem?_getD]; (first | refine callK1_of (Fn.ct k1 Tryz.call30) ?_); (try simp (maxSteps := 1000000) (disch := refine hold_ ?_; first | (simp [kNil, hb, -List.getD_eq_getElem?_getD]; done) | omega) [kNil, hb, -List.getD_eq_getElem?_getD]); try first | (with_reducible refine zZ ?_) | subst hK_) | ((first | (with_reducible first | refine zP fun K_ hK_ => ?_ | refine zQ fun K_ hK_ => ?_ | refine zT ?_ | refine zU ?_ | refine zV ?_ | refine zW ?_ | refine zX ?_ | refine zY ?_) | ((with_reducible first | refine zR ?_ ?_ fun K_ hK_ => ?_ | refine zS ?_ ?_ fun K_ hK_ => ?_); (focus kernel_rfl); (focus kernel_rfl))); first | (simp (maxSteps := 1000000) (disch := refine hold_ ?_; first | (simp [kNil, hb, -List.getD_eq_getElem?_getD]; done) | omega) [kNil, hb, -List.getD_eq_getElem?_getD]; try first | (with_reducible refine zZ ?_) | subst hK_) | subst hK_) | (with_reducible first | refine zA ?_ | refine zB ?_ | refine zC ?_ | refine zD ?_ | refine zE ?_ | refine zF ?_ | refine zG ?_ | refine zH ?_ | refine zI ?_ | refine zJ ?_ | refine zK ?_ | refine zL ?_ | refine zM ?_ | refine zN ?_ | refine zO ?_) | ((with_reducible refine yG ?_ ?_); (focus decide)) | ((with_reducible refine yA ?_); refine yB rfl ?_; (with_reducible first | refine yC ?_ | refine yD ?_)))
  clear k1 hb
  refine AW.nilRow 6 (bl []) 0 _ rfl rfl ?_
  repeat (first | ((first | (with_reducible first | refine zP fun K_ hK_ => ?_ | refine zQ fun K_ hK_ => ?_ | refine zT ?_ | refine zU ?_ | refine zV ?_ | refine zW ?_ | refine zX ?_ | refine zY ?_) | ((with_reducible first | refine zR ?_ ?_ fun K_ hK_ => ?_ | refine zS ?_ ?_ fun K_ hK_ => ?_); (focus kernel_rfl); (focus kernel_rfl))); first | (simp (maxSteps := 1000000) (disch := refine hold_ ?_; first | (simp [kNil, hsz, -List.getD_eq_getElem?_getD]; done) | omega) [kNil, hsz, -List.getD_eq_getElem?_getD]; try first | (with_reducible refine zZ ?_) | subst hK_) | subst hK_) | (with_reducible first | refine zA ?_ | refine zB ?_ | refine zC ?_ | refine zD ?_ | refine zE ?_ | refine zF ?_ | refine zG ?_ | refine zH ?_ | refine zI ?_ | refine zJ ?_ | refine zK ?_ | refine zL ?_ | refine zM ?_ | refine zN ?_ | refine zO ?_) | ((with_reducible refine yG ?_ ?_); (focus decide)) | ((with_reducible refine yA ?_); refine yB rfl ?_; (with_reducible first | refine yC ?_ | refine yD ?_)))
  refine AW.iterI (true :: true :: false :: false :: false :: false :: true :: true :: false :: false :: false :: false :: false :: false :: false :: false :: false :: false :: false :: false :: false :: false :: false :: false :: false :: false :: false :: false :: false :: false :: false :: false :: false :: false :: false :: false :: false :: false :: false :: false :: false :: false :: false :: false :: false :: false :: false :: false :: false :: false :: false :: false :: false :: false :: false :: false :: false :: false :: false :: false :: false :: false :: false :: false :: false :: false :: false :: false :: false :: false :: false :: false :: false :: false :: false :: false :: false :: false :: false :: false :: false :: false :: false :: false :: false :: false :: false :: []) s.length (rxI s fl) (τ := rxS s fl 0 []) ?_ ⟨0, [], by simp, Nat.zero_le _, by simp, rfl, by simp⟩ ?_
  · unfold rxS
    simp (maxSteps := 1000000) (disch := refine hold_ ?_; first | (simp [-List.getD_eq_getElem?_getD]; done) | omega) [-List.getD_eq_getElem?_getD]
  rintro x σ ⟨k, o, rfl, hk, hlen, rfl, hI⟩
  by_cases hkc : k < s.length
  · have hkz : (k : Int) < s.length := by omega
    have hg : (((txt s).data.toList.getD k 0).toNat : Int) = ub (s.getD k 0#8) := txt_get s k
    have hdr : s.drop k = s.getD k 0#8 :: s.drop (k + 1) := by
      rw [List.drop_eq_getElem_cons hkc]; simp [List.getD_eq_getElem?_getD, hkc]
    have hll : (s.drop (k + 1)).length = s.length - (k + 1) := List.length_drop
    rw [hdr] at hI
    have hgl : ∀ j, (((txt s).data.toList.getD (k + 1 + j) 0).toNat : Int) = ub ((s.drop (k + 1)).getD j 0#8) := by
      intro j; rw [← getD_drop]; exact txt_get s (k + 1 + j)
    have hdd : ∀ m, s.drop (k + 1 + m) = (s.drop (k + 1)).drop m := fun m => by rw [List.drop_drop]
    have hxx : ∀ m, (txt s).extract (k + 1) (k + 1 + m) = txt ((s.drop (k + 1)).take m) := by
      intro m; rw [txt_extract, List.drop_take, Nat.add_sub_cancel_left]
    generalize hLL : s.drop (k + 1) = l at *
    generalize hBB : s.getD k 0#8 = b at *
    have e1 : IntKind.i64.wrap ((k : Int) + 1) = k + 1 := wrap_i64 _ (by omega) (by omega)
    have hz := ub_lt b
    by_cases q60 : b = 60#8
    · have u : (ub b == 60) = true := by rw [q60]; rfl
      rw [q60, rxL_lt, Option.map_none] at hI
      rw [hI]
      unfold rxS
      repeat (first | ((first | (with_reducible first | refine zP fun K_ hK_ => ?_ | refine zQ fun K_ hK_ => ?_ | refine zT ?_ | refine zU ?_ | refine zV ?_ | refine zW ?_ | refine zX ?_ | refine zY ?_) | ((with_reducible first | refine zR ?_ ?_ fun K_ hK_ => ?_ | refine zS ?_ ?_ fun K_ hK_ => ?_); (focus kernel_rfl); (focus kernel_rfl))); first | (simp (maxSteps := 1000000) (disch := refine hold_ ?_; first | (simp [kNil, hsz, hkz, hg, u, -List.getD_eq_getElem?_getD]; done) | omega) [kNil, hsz, hkz, hg, u, -List.getD_eq_getElem?_getD]; try first | (with_reducible refine zZ ?_) | subst hK_) | subst hK_) | (with_reducible first | refine zA ?_ | refine zB ?_ | refine zC ?_ | refine zD ?_ | refine zE ?_ | refine zF ?_ | refine zG ?_ | refine zH ?_ | refine zI ?_ | refine zJ ?_ | refine zK ?_ | refine zL ?_ | refine zM ?_ | refine zN ?_ | refine zO ?_) | ((with_reducible refine yG ?_ ?_); (focus decide)) | ((with_reducible refine yA ?_); refine yB rfl ?_; (with_reducible first | refine yC ?_ | refine yD ?_)))
      all_goals simp (maxSteps := 1000000) (disch := refine hold_ ?_; first | (simp [resV, -List.getD_eq_getElem?_getD]; done) | omega) [resV, -List.getD_eq_getElem?_getD]
    have n60 : (ub b == 60) = false := beq_eq_false_iff_ne.2 (ub_ne q60)
    by_cases q38 : b = 38#8
    · have u : (ub b == 38) = true := by rw [q38]; rfl
      rw [q38] at hI
      unfold rxS
      repeat (first | ((first | (with_reducible first | refine zP fun K_ hK_ => ?_ | refine zQ fun K_ hK_ => ?_ | refine zT ?_ | refine zU ?_ | refine zV ?_ | refine zW ?_ | refine zX ?_ | refine zY ?_) | ((with_reducible first | refine zR ?_ ?_ fun K_ hK_ => ?_ | refine zS ?_ ?_ fun K_ hK_ => ?_); (focus kernel_rfl); (focus kernel_rfl))); first | (simp (maxSteps := 1000000) (disch := refine hold_ ?_; first | (simp [kNil, hsz, hkz, hg, n60, u, e1, -List.getD_eq_getElem?_getD]; done) | omega) [kNil, hsz, hkz, hg, n60, u, e1, -List.getD_eq_getElem?_getD]; try first | (with_reducible refine zZ ?_) | subst hK_) | subst hK_) | (with_reducible first | refine zA ?_ | refine zB ?_ | refine zC ?_ | refine zD ?_ | refine zE ?_ | refine zF ?_ | refine zG ?_ | refine zH ?_ | refine zI ?_ | refine zJ ?_ | refine zK ?_ | refine zL ?_ | refine zM ?_ | refine zN ?_ | refine zO ?_) | ((with_reducible refine yG ?_ ?_); (focus decide)) | ((with_reducible refine yA ?_); refine yB rfl ?_; (with_reducible first | refine yC ?_ | refine yD ?_)))
      rcases cutB_spec 59#8 l with ⟨c1, c2⟩ | ⟨i, t, c1, c2, c3⟩
      · rw [rxL_bad _ _ c1, Option.map_none] at hI
        rw [hI]
        refine AW.iter (true :: true :: false :: false :: false :: false :: true :: true :: false :: true :: false :: false :: false :: false :: false :: false :: false :: false :: false :: false :: false :: false :: false :: false :: false :: false :: false :: false :: false :: false :: false :: false :: false :: false :: false :: false :: false :: false :: false :: false :: false :: false :: false :: false :: false :: false :: false :: false :: false :: false :: false :: false :: false :: false :: false :: false :: false :: false :: false :: false :: false :: false :: false :: false :: false :: false :: false :: false :: false :: false :: false :: false :: false :: false :: false :: false :: false :: false :: false :: false :: false :: false :: false :: false :: false :: false :: false :: []) l.length (fun j => ⟨(.p (.str (txt s)) :: .p (.bool fl) :: V.junk :: V.junk :: V.junk :: V.junk :: .row (bl o) 0 0 (o.length == 0) :: .p (.int .i64 k) :: V.junk :: .p (.int .i64 (k + 1 + (j : Int))) :: V.junk :: V.junk :: V.junk :: V.junk :: V.junk :: V.junk :: V.junk :: V.junk :: V.junk :: V.junk :: V.junk :: V.junk :: V.junk :: V.junk :: V.junk :: V.junk :: V.junk :: V.junk :: V.junk :: V.junk :: V.junk :: V.junk :: V.junk :: V.junk :: V.junk :: V.junk :: V.junk :: V.junk :: V.junk :: V.junk :: V.junk :: V.junk :: V.junk :: V.junk :: V.junk :: V.junk :: V.junk :: V.junk :: V.junk :: V.junk :: V.junk :: V.junk :: V.junk :: V.junk :: V.junk :: V.junk :: V.junk :: V.junk :: V.junk :: V.junk :: V.junk :: V.junk :: V.junk :: V.junk :: V.junk :: V.junk :: V.junk :: V.junk :: V.junk :: V.junk :: V.junk :: V.junk :: V.junk :: V.junk :: V.junk :: V.junk :: V.junk :: V.junk :: V.junk :: V.junk :: V.junk :: V.junk :: V.junk :: V.junk :: V.junk :: V.junk :: V.junk :: []), ⟨[], [(0, 0)]⟩⟩) ?_ ?_
        · simp (maxSteps := 1000000) (disch := refine hold_ ?_; first | (simp [-List.getD_eq_getElem?_getD]; done) | omega) [-List.getD_eq_getElem?_getD]
        intro j hj
        have e2 : IntKind.i64.wrap ((k : Int) + 1 + j + 1) = k + 1 + j + 1 := wrap_i64 _ (by omega) (by omega)
        have tn : ((k : Int) + 1 + j).toNat = k + 1 + j := by omega
        have hgj := hgl j
        by_cases hje : j < l.length
        · have hb : ub (l.getD j 0#8) ≠ ub 59#8 := ub_ne fun e => c2 (by rw [← e]; exact getD_mem l j hje)
          have hn : (ub (l.getD j 0#8) != 59) = true := bne_iff_ne.2 hb
          generalize l.getD j 0#8 = c at *
          have hjz : (k : Int) + 1 + j < s.length := by omega
          repeat (first | ((first | (with_reducible first | refine zP fun K_ hK_ => ?_ | refine zQ fun K_ hK_ => ?_ | refine zT ?_ | refine zU ?_ | refine zV ?_ | refine zW ?_ | refine zX ?_ | refine zY ?_) | ((with_reducible first | refine zR ?_ ?_ fun K_ hK_ => ?_ | refine zS ?_ ?_ fun K_ hK_ => ?_); (focus kernel_rfl); (focus kernel_rfl))); first | (simp (maxSteps := 1000000) (disch := refine hold_ ?_; first | (simp [hsz, hjz, hn, hgj, e2, tn, -List.getD_eq_getElem?_getD]; done) | omega) [hsz, hjz, hn, hgj, e2, tn, -List.getD_eq_getElem?_getD]; try first | (with_reducible refine zZ ?_) | subst hK_) | subst hK_) | (with_reducible first | refine zA ?_ | refine zB ?_ | refine zC ?_ | refine zD ?_ | refine zE ?_ | refine zF ?_ | refine zG ?_ | refine zH ?_ | refine zI ?_ | refine zJ ?_ | refine zK ?_ | refine zL ?_ | refine zM ?_ | refine zN ?_ | refine zO ?_) | ((with_reducible refine yG ?_ ?_); (focus decide)) | ((with_reducible refine yA ?_); refine yB rfl ?_; (with_reducible first | refine yC ?_ | refine yD ?_)))
          refine ⟨hje, ?_⟩
          simp (maxSteps := 1000000) (disch := refine hold_ ?_; first | (simp [-List.getD_eq_getElem?_getD]; done) | omega) [-List.getD_eq_getElem?_getD]
          omega
        · have hjz : ¬ (k : Int) + 1 + j < s.length := by omega
          have hje2 : ((k : Int) + 1 + j == (s.length : Int)) = true := beq_iff_eq.2 (by omega)
          repeat (first | ((first | (with_reducible first | refine zP fun K_ hK_ => ?_ | refine zQ fun K_ hK_ => ?_ | refine zT ?_ | refine zU ?_ | refine zV ?_ | refine zW ?_ | refine zX ?_ | refine zY ?_) | ((with_reducible first | refine zR ?_ ?_ fun K_ hK_ => ?_ | refine zS ?_ ?_ fun K_ hK_ => ?_); (focus kernel_rfl); (focus kernel_rfl))); first | (simp (maxSteps := 1000000) (disch := refine hold_ ?_; first | (simp [kNil, hsz, hjz, hje2, tn, -List.getD_eq_getElem?_getD]; done) | omega) [kNil, hsz, hjz, hje2, tn, -List.getD_eq_getElem?_getD]; try first | (with_reducible refine zZ ?_) | subst hK_) | subst hK_) | (with_reducible first | refine zA ?_ | refine zB ?_ | refine zC ?_ | refine zD ?_ | refine zE ?_ | refine zF ?_ | refine zG ?_ | refine zH ?_ | refine zI ?_ | refine zJ ?_ | refine zK ?_ | refine zL ?_ | refine zM ?_ | refine zN ?_ | refine zO ?_) | ((with_reducible refine yG ?_ ?_); (focus decide)) | ((with_reducible refine yA ?_); refine yB rfl ?_; (with_reducible first | refine yC ?_ | refine yD ?_)))
          all_goals simp (maxSteps := 1000000) (disch := refine hold_ ?_; first | (simp [resV, -List.getD_eq_getElem?_getD]; done) | omega) [resV, -List.getD_eq_getElem?_getD]
      · have hil : i.length < l.length := by rw [c2]; simp
        have htl : l.length = i.length + (t.length + 1) := by rw [c2]; simp
        have hti : l.take i.length = i := by rw [c2]; simp
        have htd : l.drop (i.length + 1) = t := by rw [c2, ← List.drop_drop, List.drop_left]; rfl
        have hgi : ∀ j, j < i.length → l.getD j 0#8 = i.getD j 0#8 := by
          intro j hj; rw [c2]; simp [List.getD_eq_getElem?_getD, List.getElem?_append_left hj]
        have hge : l.getD i.length 0#8 = 59#8 := by rw [c2]; simp [List.getD_eq_getElem?_getD]
        have hst := rstands_ct i (by omega)
        have hx := hxx i.length
        rw [hti] at hx
        have hd2 := hdd (i.length + 1)
        rw [htd] at hd2
        clear hxx hdd
        refine AW.iter (true :: true :: false :: false :: false :: false :: true :: true :: false :: true :: false :: false :: false :: false :: false :: false :: false :: false :: false :: false :: false :: false :: false :: false :: false :: false :: false :: false :: false :: false :: false :: false :: false :: false :: false :: false :: false :: false :: false :: false :: false :: false :: false :: false :: false :: false :: false :: false :: false :: false :: false :: false :: false :: false :: false :: false :: false :: false :: false :: false :: false :: false :: false :: false :: false :: false :: false :: false :: false :: false :: false :: false :: false :: false :: false :: false :: false :: false :: false :: false :: false :: false :: false :: false :: false :: false :: false :: []) i.length (fun j => ⟨(.p (.str (txt s)) :: .p (.bool fl) :: V.junk :: V.junk :: V.junk :: V.junk :: .row (bl o) 0 0 (o.length == 0) :: .p (.int .i64 k) :: V.junk :: .p (.int .i64 (k + 1 + (j : Int))) :: V.junk :: V.junk :: V.junk :: V.junk :: V.junk :: V.junk :: V.junk :: V.junk :: V.junk :: V.junk :: V.junk :: V.junk :: V.junk :: V.junk :: V.junk :: V.junk :: V.junk :: V.junk :: V.junk :: V.junk :: V.junk :: V.junk :: V.junk :: V.junk :: V.junk :: V.junk :: V.junk :: V.junk :: V.junk :: V.junk :: V.junk :: V.junk :: V.junk :: V.junk :: V.junk :: V.junk :: V.junk :: V.junk :: V.junk :: V.junk :: V.junk :: V.junk :: V.junk :: V.junk :: V.junk :: V.junk :: V.junk :: V.junk :: V.junk :: V.junk :: V.junk :: V.junk :: V.junk :: V.junk :: V.junk :: V.junk :: V.junk :: V.junk :: V.junk :: V.junk :: V.junk :: V.junk :: V.junk :: V.junk :: V.junk :: V.junk :: V.junk :: V.junk :: V.junk :: V.junk :: V.junk :: V.junk :: V.junk :: V.junk :: V.junk :: V.junk :: V.junk :: []), ⟨[], [(0, 0)]⟩⟩) ?_ ?_
        · simp (maxSteps := 1000000) (disch := refine hold_ ?_; first | (simp [-List.getD_eq_getElem?_getD]; done) | omega) [-List.getD_eq_getElem?_getD]
        intro j hj
        have e2 : IntKind.i64.wrap ((k : Int) + 1 + j + 1) = k + 1 + j + 1 := wrap_i64 _ (by omega) (by omega)
        have tn : ((k : Int) + 1 + j).toNat = k + 1 + j := by omega
        have hgj := hgl j
        by_cases hje : j < i.length
        · have hb : ub (l.getD j 0#8) ≠ ub 59#8 := by rw [hgi j hje]; exact ub_ne fun e => c3 (by rw [← e]; exact getD_mem i j hje)
          have hn : (ub (l.getD j 0#8) != 59) = true := bne_iff_ne.2 hb
          generalize l.getD j 0#8 = c at *
          have hjz : (k : Int) + 1 + j < s.length := by omega
          repeat (first | ((first | (with_reducible first | refine zP fun K_ hK_ => ?_ | refine zQ fun K_ hK_ => ?_ | refine zT ?_ | refine zU ?_ | refine zV ?_ | refine zW ?_ | refine zX ?_ | refine zY ?_) | ((with_reducible first | refine zR ?_ ?_ fun K_ hK_ => ?_ | refine zS ?_ ?_ fun K_ hK_ => ?_); (focus kernel_rfl); (focus kernel_rfl))); first | (simp (maxSteps := 1000000) (disch := refine hold_ ?_; first | (simp [hsz, hjz, hn, hgj, e2, tn, -List.getD_eq_getElem?_getD]; done) | omega) [hsz, hjz, hn, hgj, e2, tn, -List.getD_eq_getElem?_getD]; try first | (with_reducible refine zZ ?_) | subst hK_) | subst hK_) | (with_reducible first | refine zA ?_ | refine zB ?_ | refine zC ?_ | refine zD ?_ | refine zE ?_ | refine zF ?_ | refine zG ?_ | refine zH ?_ | refine zI ?_ | refine zJ ?_ | refine zK ?_ | refine zL ?_ | refine zM ?_ | refine zN ?_ | refine zO ?_) | ((with_reducible refine yG ?_ ?_); (focus decide)) | ((with_reducible refine yA ?_); refine yB rfl ?_; (with_reducible first | refine yC ?_ | refine yD ?_)))
          refine ⟨hje, ?_⟩
          simp (maxSteps := 1000000) (disch := refine hold_ ?_; first | (simp [-List.getD_eq_getElem?_getD]; done) | omega) [-List.getD_eq_getElem?_getD]
          omega
        · have hj2 : j = i.length := by omega
          subst hj2
          rw [hge] at hgj
          have hgj2 : (((txt s).data.toList.getD (k + 1 + i.length) 0).toNat : Int) = 59 := hgj
          clear hgj
          have hjz : (k : Int) + 1 + i.length < s.length := by omega
          have hjz2 : ((k : Int) + 1 + i.length == (s.length : Int)) = false := beq_eq_false_iff_ne.2 (by omega)
          have tn1 : ((k : Int) + 1).toNat = k + 1 := by omega
          cases h5 : standsV i with
          | none =>
            rw [h5] at hst
            rw [rxL_bad2 _ _ _ _ c1 h5, Option.map_none] at hI
            rw [hI]
            repeat (first | ((with_reducible first | refine callK_at 31 ?_); refine callK_p ?_; simp (maxSteps := 1000000) (disch := refine hold_ ?_; first | (simp [kNil, hsz, hjz, hjz2, hgj2, e2, hx, tn, tn1, e1, resV, -List.getD_eq_getElem?_getD]; done) | omega) [kNil, hsz, hjz, hjz2, hgj2, e2, hx, tn, tn1, e1, resV, -List.getD_eq_getElem?_getD]; (first | refine callK1_of (Fn.ct hst Tryz.call31) ?_); (try simp (maxSteps := 1000000) (disch := refine hold_ ?_; first | (simp [kNil, hsz, hjz, hjz2, hgj2, e2, hx, tn, tn1, e1, resV, -List.getD_eq_getElem?_getD]; done) | omega) [kNil, hsz, hjz, hjz2, hgj2, e2, hx, tn, tn1, e1, resV, -List.getD_eq_getElem?_getD]); try first | (with_reducible refine zZ ?_) | subst hK_) | ((first | (with_reducible first | refine zP fun K_ hK_ => ?_ | refine zQ fun K_ hK_ => ?_ | refine zT ?_ | refine zU ?_ | refine zV ?_ | refine zW ?_ | refine zX ?_ | refine zY ?_) | ((with_reducible first | refine zR ?_ ?_ fun K_ hK_ => ?_ | refine zS ?_ ?_ fun K_ hK_ => ?_); (focus kernel_rfl); (focus kernel_rfl))); first | (simp (maxSteps := 1000000) (disch := refine hold_ ?_; first | (simp [kNil, hsz, hjz, hjz2, hgj2, e2, hx, tn, tn1, e1, resV, -List.getD_eq_getElem?_getD]; done) | omega) [kNil, hsz, hjz, hjz2, hgj2, e2, hx, tn, tn1, e1, resV, -List.getD_eq_getElem?_getD]; try first | (with_reducible refine zZ ?_) | subst hK_) | subst hK_) | (with_reducible first | refine zA ?_ | refine zB ?_ | refine zC ?_ | refine zD ?_ | refine zE ?_ | refine zF ?_ | refine zG ?_ | refine zH ?_ | refine zI ?_ | refine zJ ?_ | refine zK ?_ | refine zL ?_ | refine zM ?_ | refine zN ?_ | refine zO ?_) | ((with_reducible refine yG ?_ ?_); (focus decide)) | ((with_reducible refine yA ?_); refine yB rfl ?_; (with_reducible first | refine yC ?_ | refine yD ?_)))
            all_goals simp (maxSteps := 1000000) (disch := refine hold_ ?_; first | (simp [resV, -List.getD_eq_getElem?_getD]; done) | omega) [resV, -List.getD_eq_getElem?_getD]
          | some x =>
            rw [h5] at hst
            have hxl := standsV_len _ _ h5
            have tb := txt_bytes x
            rw [rxL_go _ _ _ _ _ c1 h5, Option.map_map] at hI
            have hI2 : rxL (gB fl) s = (rxL (gB fl) (s.drop (k + 1 + (i.length + 1)))).map fun y => (o ++ x) ++ y := by
              rw [hI, hd2]; congr 1; funext y; simp
            have hol : (o.length + x.length) ≤ 140737488355328 := by omega
            have hlen2 : (o ++ x).length + 4 * (s.length - (k + 1 + (i.length + 1))) ≤ 4 * s.length := by rw [List.length_append]; omega
            have hfl := app_flag o x
            clear hI
            repeat (first | ((with_reducible first | refine callK_at 31 ?_); refine callK_p ?_; simp (maxSteps := 1000000) (disch := refine hold_ ?_; first | (simp [kNil, hsz, hjz, hjz2, hgj2, e2, hx, tn, tn1, e1, resV, tb, hol, -List.getD_eq_getElem?_getD]; done) | omega) [kNil, hsz, hjz, hjz2, hgj2, e2, hx, tn, tn1, e1, resV, tb, hol, -List.getD_eq_getElem?_getD]; (first | refine callK1_of (Fn.ct hst Tryz.call31) ?_); (try simp (maxSteps := 1000000) (disch := refine hold_ ?_; first | (simp [kNil, hsz, hjz, hjz2, hgj2, e2, hx, tn, tn1, e1, resV, tb, hol, -List.getD_eq_getElem?_getD]; done) | omega) [kNil, hsz, hjz, hjz2, hgj2, e2, hx, tn, tn1, e1, resV, tb, hol, -List.getD_eq_getElem?_getD]); try first | (with_reducible refine zZ ?_) | subst hK_) | ((first | (with_reducible first | refine zP fun K_ hK_ => ?_ | refine zQ fun K_ hK_ => ?_ | refine zT ?_ | refine zU ?_ | refine zV ?_ | refine zW ?_ | refine zX ?_ | refine zY ?_) | ((with_reducible first | refine zR ?_ ?_ fun K_ hK_ => ?_ | refine zS ?_ ?_ fun K_ hK_ => ?_); (focus kernel_rfl); (focus kernel_rfl))); first | (simp (maxSteps := 1000000) (disch := refine hold_ ?_; first | (simp [kNil, hsz, hjz, hjz2, hgj2, e2, hx, tn, tn1, e1, resV, tb, hol, -List.getD_eq_getElem?_getD]; done) | omega) [kNil, hsz, hjz, hjz2, hgj2, e2, hx, tn, tn1, e1, resV, tb, hol, -List.getD_eq_getElem?_getD]; try first | (with_reducible refine zZ ?_) | subst hK_) | subst hK_) | (with_reducible first | refine zA ?_ | refine zB ?_ | refine zC ?_ | refine zD ?_ | refine zE ?_ | refine zF ?_ | refine zG ?_ | refine zH ?_ | refine zI ?_ | refine zJ ?_ | refine zK ?_ | refine zL ?_ | refine zM ?_ | refine zN ?_ | refine zO ?_) | ((with_reducible refine yG ?_ ?_); (focus decide)) | ((with_reducible refine yA ?_); refine yB rfl ?_; (with_reducible first | refine yC ?_ | refine yD ?_)))
            refine ⟨s.length - (k + 1 + (i.length + 1)), rxS s fl (k + 1 + (i.length + 1)) (o ++ x), by omega, ?_, k + 1 + (i.length + 1), o ++ x, rfl, by omega, hlen2, rfl, hI2⟩
            unfold rxS
            simp (maxSteps := 1000000) (disch := refine hold_ ?_; first | (simp [hfl, -List.getD_eq_getElem?_getD]; done) | omega) [hfl, -List.getD_eq_getElem?_getD]
            omega
    have n38 : (ub b == 38) = false := beq_eq_false_iff_ne.2 (ub_ne q38)
    rw [rxL_cons _ _ _ q60 q38, Option.map_map] at hI
    have hI2 : rxL (gB fl) s = (rxL (gB fl) (s.drop (k + 1))).map fun y => (o ++ [gB fl b]) ++ y := by
      rw [hI, hLL]; congr 1; funext y; simp
    clear hI
    have hol : o.length + 1 ≤ 140737488355328 := by omega
    have hlen2 : (o ++ [gB fl b]).length + 4 * (s.length - (k + 1)) ≤ 4 * s.length := by rw [List.length_append]; simp; omega
    cases fl with
    | false =>
      have hgb : gB false b = b := rfl
      rw [hgb] at hI2 hlen2
      unfold rxS
      repeat (first | ((first | (with_reducible first | refine zP fun K_ hK_ => ?_ | refine zQ fun K_ hK_ => ?_ | refine zT ?_ | refine zU ?_ | refine zV ?_ | refine zW ?_ | refine zX ?_ | refine zY ?_) | ((with_reducible first | refine zR ?_ ?_ fun K_ hK_ => ?_ | refine zS ?_ ?_ fun K_ hK_ => ?_); (focus kernel_rfl); (focus kernel_rfl))); first | (simp (maxSteps := 1000000) (disch := refine hold_ ?_; first | (simp [kNil, hsz, hkz, hg, n60, n38, e1, hol, hgb, -List.getD_eq_getElem?_getD]; done) | omega) [kNil, hsz, hkz, hg, n60, n38, e1, hol, hgb, -List.getD_eq_getElem?_getD]; try first | (with_reducible refine zZ ?_) | subst hK_) | subst hK_) | (with_reducible first | refine zA ?_ | refine zB ?_ | refine zC ?_ | refine zD ?_ | refine zE ?_ | refine zF ?_ | refine zG ?_ | refine zH ?_ | refine zI ?_ | refine zJ ?_ | refine zK ?_ | refine zL ?_ | refine zM ?_ | refine zN ?_ | refine zO ?_) | ((with_reducible refine yG ?_ ?_); (focus decide)) | ((with_reducible refine yA ?_); refine yB rfl ?_; (with_reducible first | refine yC ?_ | refine yD ?_)))
      refine ⟨s.length - (k + 1), rxS s false (k + 1) (o ++ [b]), by omega, ?_, k + 1, o ++ [b], rfl, hkc, hlen2, rfl, hI2⟩
      unfold rxS
      simp (maxSteps := 1000000) (disch := refine hold_ ?_; first | (simp [-List.getD_eq_getElem?_getD]; done) | omega) [-List.getD_eq_getElem?_getD]
    | true =>
      by_cases q9 : b = 9#8
      · have u : (ub b == 9) = true := by rw [q9]; rfl
        have hgb : gB true b = 32#8 := by rw [q9]; rfl
        rw [hgb] at hI2 hlen2
        have ha : appRow (bl o) (.ints .u8 [32]) = some (bl (o ++ [32#8])) := app_lit o 32 (by omega) (by omega)
        unfold rxS
        repeat (first | ((first | (with_reducible first | refine zP fun K_ hK_ => ?_ | refine zQ fun K_ hK_ => ?_ | refine zT ?_ | refine zU ?_ | refine zV ?_ | refine zW ?_ | refine zX ?_ | refine zY ?_) | ((with_reducible first | refine zR ?_ ?_ fun K_ hK_ => ?_ | refine zS ?_ ?_ fun K_ hK_ => ?_); (focus kernel_rfl); (focus kernel_rfl))); first | (simp (maxSteps := 1000000) (disch := refine hold_ ?_; first | (simp [kNil, hsz, hkz, hg, n60, n38, e1, hol, ha, u, -List.getD_eq_getElem?_getD]; done) | omega) [kNil, hsz, hkz, hg, n60, n38, e1, hol, ha, u, -List.getD_eq_getElem?_getD]; try first | (with_reducible refine zZ ?_) | subst hK_) | subst hK_) | (with_reducible first | refine zA ?_ | refine zB ?_ | refine zC ?_ | refine zD ?_ | refine zE ?_ | refine zF ?_ | refine zG ?_ | refine zH ?_ | refine zI ?_ | refine zJ ?_ | refine zK ?_ | refine zL ?_ | refine zM ?_ | refine zN ?_ | refine zO ?_) | ((with_reducible refine yG ?_ ?_); (focus decide)) | ((with_reducible refine yA ?_); refine yB rfl ?_; (with_reducible first | refine yC ?_ | refine yD ?_)))
        refine ⟨s.length - (k + 1), rxS s true (k + 1) (o ++ [32#8]), by omega, ?_, k + 1, o ++ [32#8], rfl, hkc, hlen2, rfl, hI2⟩
        unfold rxS
        simp (maxSteps := 1000000) (disch := refine hold_ ?_; first | (simp [-List.getD_eq_getElem?_getD]; done) | omega) [-List.getD_eq_getElem?_getD]
      have n9 : (ub b == 9) = false := beq_eq_false_iff_ne.2 (ub_ne q9)
      by_cases q10 : b = 10#8
      · have u : (ub b == 10) = true := by rw [q10]; rfl
        have hgb : gB true b = 32#8 := by rw [q10]; rfl
        rw [hgb] at hI2 hlen2
        have ha : appRow (bl o) (.ints .u8 [32]) = some (bl (o ++ [32#8])) := app_lit o 32 (by omega) (by omega)
        unfold rxS
        repeat (first | ((first | (with_reducible first | refine zP fun K_ hK_ => ?_ | refine zQ fun K_ hK_ => ?_ | refine zT ?_ | refine zU ?_ | refine zV ?_ | refine zW ?_ | refine zX ?_ | refine zY ?_) | ((with_reducible first | refine zR ?_ ?_ fun K_ hK_ => ?_ | refine zS ?_ ?_ fun K_ hK_ => ?_); (focus kernel_rfl); (focus kernel_rfl))); first | (simp (maxSteps := 1000000) (disch := refine hold_ ?_; first | (simp [kNil, hsz, hkz, hg, n60, n38, e1, hol, ha, u, n9, -List.getD_eq_getElem?_getD]; done) | omega) [kNil, hsz, hkz, hg, n60, n38, e1, hol, ha, u, n9, -List.getD_eq_getElem?_getD]; try first | (with_reducible refine zZ ?_) | subst hK_) | subst hK_) | (with_reducible first | refine zA ?_ | refine zB ?_ | refine zC ?_ | refine zD ?_ | refine zE ?_ | refine zF ?_ | refine zG ?_ | refine zH ?_ | refine zI ?_ | refine zJ ?_ | refine zK ?_ | refine zL ?_ | refine zM ?_ | refine zN ?_ | refine zO ?_) | ((with_reducible refine yG ?_ ?_); (focus decide)) | ((with_reducible refine yA ?_); refine yB rfl ?_; (with_reducible first | refine yC ?_ | refine yD ?_)))
        refine ⟨s.length - (k + 1), rxS s true (k + 1) (o ++ [32#8]), by omega, ?_, k + 1, o ++ [32#8], rfl, hkc, hlen2, rfl, hI2⟩
        unfold rxS
        simp (maxSteps := 1000000) (disch := refine hold_ ?_; first | (simp [-List.getD_eq_getElem?_getD]; done) | omega) [-List.getD_eq_getElem?_getD]
      have n10 : (ub b == 10) = false := beq_eq_false_iff_ne.2 (ub_ne q10)
      by_cases q13 : b = 13#8
      · have u : (ub b == 13) = true := by rw [q13]; rfl
        have hgb : gB true b = 32#8 := by rw [q13]; rfl
        rw [hgb] at hI2 hlen2
        have ha : appRow (bl o) (.ints .u8 [32]) = some (bl (o ++ [32#8])) := app_lit o 32 (by omega) (by omega)
        unfold rxS
        repeat (first | ((first | (with_reducible first | refine zP fun K_ hK_ => ?_ | refine zQ fun K_ hK_ => ?_ | refine zT ?_ | refine zU ?_ | refine zV ?_ | refine zW ?_ | refine zX ?_ | refine zY ?_) | ((with_reducible first | refine zR ?_ ?_ fun K_ hK_ => ?_ | refine zS ?_ ?_ fun K_ hK_ => ?_); (focus kernel_rfl); (focus kernel_rfl))); first | (simp (maxSteps := 1000000) (disch := refine hold_ ?_; first | (simp [kNil, hsz, hkz, hg, n60, n38, e1, hol, ha, u, n9, n10, -List.getD_eq_getElem?_getD]; done) | omega) [kNil, hsz, hkz, hg, n60, n38, e1, hol, ha, u, n9, n10, -List.getD_eq_getElem?_getD]; try first | (with_reducible refine zZ ?_) | subst hK_) | subst hK_) | (with_reducible first | refine zA ?_ | refine zB ?_ | refine zC ?_ | refine zD ?_ | refine zE ?_ | refine zF ?_ | refine zG ?_ | refine zH ?_ | refine zI ?_ | refine zJ ?_ | refine zK ?_ | refine zL ?_ | refine zM ?_ | refine zN ?_ | refine zO ?_) | ((with_reducible refine yG ?_ ?_); (focus decide)) | ((with_reducible refine yA ?_); refine yB rfl ?_; (with_reducible first | refine yC ?_ | refine yD ?_)))
        refine ⟨s.length - (k + 1), rxS s true (k + 1) (o ++ [32#8]), by omega, ?_, k + 1, o ++ [32#8], rfl, hkc, hlen2, rfl, hI2⟩
        unfold rxS
        simp (maxSteps := 1000000) (disch := refine hold_ ?_; first | (simp [-List.getD_eq_getElem?_getD]; done) | omega) [-List.getD_eq_getElem?_getD]
      have n13 : (ub b == 13) = false := beq_eq_false_iff_ne.2 (ub_ne q13)
      have hgb : gB true b = b := by
        have : blk b = b := by unfold blk; rw [if_neg (by simp [q9, q10, q13])]
        exact this
      rw [hgb] at hI2 hlen2
      unfold rxS
      repeat (first | ((first | (with_reducible first | refine zP fun K_ hK_ => ?_ | refine zQ fun K_ hK_ => ?_ | refine zT ?_ | refine zU ?_ | refine zV ?_ | refine zW ?_ | refine zX ?_ | refine zY ?_) | ((with_reducible first | refine zR ?_ ?_ fun K_ hK_ => ?_ | refine zS ?_ ?_ fun K_ hK_ => ?_); (focus kernel_rfl); (focus kernel_rfl))); first | (simp (maxSteps := 1000000) (disch := refine hold_ ?_; first | (simp [kNil, hsz, hkz, hg, n60, n38, e1, hol, n9, n10, n13, -List.getD_eq_getElem?_getD]; done) | omega) [kNil, hsz, hkz, hg, n60, n38, e1, hol, n9, n10, n13, -List.getD_eq_getElem?_getD]; try first | (with_reducible refine zZ ?_) | subst hK_) | subst hK_) | (with_reducible first | refine zA ?_ | refine zB ?_ | refine zC ?_ | refine zD ?_ | refine zE ?_ | refine zF ?_ | refine zG ?_ | refine zH ?_ | refine zI ?_ | refine zJ ?_ | refine zK ?_ | refine zL ?_ | refine zM ?_ | refine zN ?_ | refine zO ?_) | ((with_reducible refine yG ?_ ?_); (focus decide)) | ((with_reducible refine yA ?_); refine yB rfl ?_; (with_reducible first | refine yC ?_ | refine yD ?_)))
      refine ⟨s.length - (k + 1), rxS s true (k + 1) (o ++ [b]), by omega, ?_, k + 1, o ++ [b], rfl, hkc, hlen2, rfl, hI2⟩
      unfold rxS
      simp (maxSteps := 1000000) (disch := refine hold_ ?_; first | (simp [-List.getD_eq_getElem?_getD]; done) | omega) [-List.getD_eq_getElem?_getD]
  · have hk2 : k = s.length := by omega
    subst hk2
    have hne : ¬ (s.length : Int) < s.length := by omega
    rw [List.drop_length, rxL_nil, Option.map_some, List.append_nil] at hI
    rw [hI]
    unfold rxS
    repeat (first | ((first | (with_reducible first | refine zP fun K_ hK_ => ?_ | refine zQ fun K_ hK_ => ?_ | refine zT ?_ | refine zU ?_ | refine zV ?_ | refine zW ?_ | refine zX ?_ | refine zY ?_) | ((with_reducible first | refine zR ?_ ?_ fun K_ hK_ => ?_ | refine zS ?_ ?_ fun K_ hK_ => ?_); (focus kernel_rfl); (focus kernel_rfl))); first | (simp (maxSteps := 1000000) (disch := refine hold_ ?_; first | (simp [kNil, hsz, hne, -List.getD_eq_getElem?_getD]; done) | omega) [kNil, hsz, hne, -List.getD_eq_getElem?_getD]; try first | (with_reducible refine zZ ?_) | subst hK_) | subst hK_) | (with_reducible first | refine zA ?_ | refine zB ?_ | refine zC ?_ | refine zD ?_ | refine zE ?_ | refine zF ?_ | refine zG ?_ | refine zH ?_ | refine zI ?_ | refine zJ ?_ | refine zK ?_ | refine zL ?_ | refine zM ?_ | refine zN ?_ | refine zO ?_) | ((with_reducible refine yG ?_ ?_); (focus decide)) | ((with_reducible refine yA ?_); refine yB rfl ?_; (with_reducible first | refine yC ?_ | refine yD ?_)))
    all_goals simp (maxSteps := 1000000) (disch := refine hold_ ?_; first | (simp [resV, -List.getD_eq_getElem?_getD]; done) | omega) [resV, -List.getD_eq_getElem?_getD]
    all_goals exact (str_of o).symm
end Go.Av.Cha
end
