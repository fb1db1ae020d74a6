/- The walks of this seat's functions, and what is known of what they reckon (Chl6). Conditions: those that each theorem names. -/
import Derived.Test.YtdbojjoffmbjcaaDoorChl4
import Derived.Test.YtdbojjoffmbjcaaDoorChl5
import Derived.Lib.Replace
import Derived.Below
import Derived.Shelf.LaysM
import Derived.Shelf.Strings.Search3
import Derived.Shelf.Strings.Replace
import Derived.Shelf.Strings.Shaped
import Derived.Shelf.Strings.SplitShaped
import Derived.Lib.LaidU8
section
set_option linter.unusedSimpArgs false
set_option linter.unusedVariables false
set_option linter.unusedSectionVars false
open Go Go.Av Go.Proofs
namespace Go.Av.Chl
variable [ML]
theorem kNil : (ByteArray.mk #[]) = txt [] := rfl
def digV (c : Int) : Int := if 48 ≤ c ∧ c ≤ 57 then c - 48 else if 97 ≤ c ∧ c ≤ 102 then c - 87 else if 65 ≤ c ∧ c ≤ 70 then c - 55 else -1
def digI (c base : Int) : Int := if base ≤ digV c then -1 else digV c
def mn (x : Int) : Int := if 1114112 < x then 1114112 else x
def numF (base : Int) : Int → List (BitVec 8) → Option Int
  | n, [] => some n
  | n, c :: l => if digI (ub c) base < 0 then none else numF base (mn (n * base + digI (ub c) base)) l
def numN (base : Int) (l : List (BitVec 8)) : Int := (numF base 0 l).getD 0
def numO (base : Int) (l : List (BitVec 8)) : Bool := (numF base 0 l).isSome && !(l == [])
theorem numF_cons (base n : Int) (l : List (BitVec 8)) (k : Nat) (h : k < l.length) : numF base n (l.drop k) = if digI (ub (l.getD k 0#8)) base < 0 then none else numF base (mn (n * base + digI (ub (l.getD k 0#8)) base)) (l.drop (k + 1)) := by
  have g : l.getD k 0#8 = l[k] := by simp [List.getD_eq_getElem?_getD, h]
  rw [List.drop_eq_getElem_cons h, numF, g]
def numS (l : List (BitVec 8)) (base n : Int) (k : Nat) : St := ⟨(.p (.str (txt l)) :: .p (.int .i32 base) :: V.junk :: V.junk :: V.junk :: V.junk :: .p (.int .i32 n) :: V.junk :: V.junk :: V.junk :: V.junk :: .p (.int .i64 l.length) :: .p (.int .i64 k) :: V.junk :: V.junk :: V.junk :: V.junk :: V.junk :: V.junk :: V.junk :: V.junk :: V.junk :: V.junk :: V.junk :: V.junk :: V.junk :: V.junk :: V.junk :: V.junk :: V.junk :: V.junk :: V.junk :: V.junk :: V.junk :: V.junk :: V.junk :: V.junk :: V.junk :: V.junk :: V.junk :: V.junk :: V.junk :: V.junk :: V.junk :: V.junk :: V.junk :: V.junk :: V.junk :: V.junk :: V.junk :: V.junk :: V.junk :: V.junk :: V.junk :: V.junk :: V.junk :: V.junk :: V.junk :: V.junk :: V.junk :: V.junk :: V.junk :: []), ⟨[], []⟩⟩
def numI (l : List (BitVec 8)) (base : Int) (m : Nat) (σ : St) : Prop := ∃ (k : Nat) (n : Int), m = l.length - k ∧ k ≤ l.length ∧ 0 ≤ n ∧ n ≤ 1114112 ∧ σ = numS l base n k ∧ numF base 0 l = numF base n (l.drop k)
set_option maxHeartbeats 10000000 in
theorem number_ct (l : List (BitVec 8)) (base : Int) (hb : base = 10 ∨ base = 16) (hl : l.length ≤ 4000000) : Fn Tryd.prog 29 [.str (txt l), .int .i32 base] [.p (.int .i32 (numN base l)), .p (.bool (numO base l))] := by
  have hsz := txt_size l
  refine Fn.of_body Tryd.func29 rfl ?_
  repeat (first | ((first | (with_reducible first | refine zP fun K_ hK_ => ?_ | refine zQ fun K_ hK_ => ?_ | refine zT ?_ | refine zU ?_ | refine zV ?_ | refine zW ?_ | refine zX ?_ | refine zY ?_) | ((with_reducible first | refine zR ?_ ?_ fun K_ hK_ => ?_ | refine zS ?_ ?_ fun K_ hK_ => ?_); (focus kernel_rfl); (focus kernel_rfl))); first | (simp (maxSteps := 1000000) (disch := refine hold_ ?_; first | (simp [hsz, -List.getD_eq_getElem?_getD]; done) | omega) [hsz, -List.getD_eq_getElem?_getD]; try first | (with_reducible refine zZ ?_) | subst hK_) | subst hK_) | (with_reducible first | refine zA ?_ | refine zB ?_ | refine zC ?_ | refine zD ?_ | refine zE ?_ | refine zF ?_ | refine zG ?_ | refine zH ?_ | refine zI ?_ | refine zJ ?_ | refine zK ?_ | refine zL ?_ | refine zM ?_ | refine zN ?_ | refine zO ?_) | ((with_reducible refine yG ?_ ?_); (focus decide)) | ((with_reducible refine yA ?_); refine yB rfl ?_; (with_reducible first | refine yC ?_ | refine yD ?_)))
  refine AW.iterI (true :: true :: false :: false :: false :: false :: true :: false :: false :: false :: false :: true :: true :: false :: false :: false :: false :: false :: false :: false :: false :: false :: false :: false :: false :: false :: false :: false :: false :: false :: false :: false :: false :: false :: false :: false :: false :: false :: false :: false :: false :: false :: false :: false :: false :: false :: false :: false :: false :: false :: false :: false :: false :: false :: false :: false :: false :: false :: false :: false :: false :: false :: []) l.length (numI l base) (τ := numS l base 0 0) ?_ ⟨0, 0, by simp, Nat.zero_le _, by omega, by omega, rfl, rfl⟩ ?_
  · unfold numS
    simp (maxSteps := 1000000) (disch := refine hold_ ?_; first | (simp [-List.getD_eq_getElem?_getD]; done) | omega) [-List.getD_eq_getElem?_getD]
  rintro m σ ⟨k, n, rfl, hk, hn0, hn1, rfl, hI⟩
  have e1 : IntKind.i64.wrap ((k : Int) + 1) = k + 1 := wrap_i64 _ (by omega) (by omega)
  by_cases hkc : k < l.length
  · have hkz : (k : Int) < l.length := by omega
    have hg : (((txt l).data.toList.getD k 0).toNat : Int) = ub (l.getD k 0#8) := txt_get l k
    rw [numF_cons base n l k hkc] at hI
    have hc0 := (ub_lt (l.getD k 0#8)).1
    have hc1 := (ub_lt (l.getD k 0#8)).2
    generalize ub (l.getD k 0#8) = c at *
    have e2 : IntKind.i32.wrap c = c := wrap_i32 _ (by omega) (by omega)
    by_cases q0 : 48 ≤ c ∧ c ≤ 57
    · have p1 := q0.1
      have p2 := q0.2
      have hd : digV c = c - 48 := by unfold digV; rw [if_pos q0]
      have w1 : IntKind.i32.wrap (c - 48) = c - 48 := wrap_i32 _ (by omega) (by omega)
      have w2 := w1
      by_cases g : base ≤ c - 48
      · have hi : digI c base = -1 := by unfold digI; rw [hd, if_pos g]
        rw [hi, if_pos (by omega)] at hI
        unfold numS numN numO
        rw [hI]
        repeat (first | ((first | (with_reducible first | refine zP fun K_ hK_ => ?_ | refine zQ fun K_ hK_ => ?_ | refine zT ?_ | refine zU ?_ | refine zV ?_ | refine zW ?_ | refine zX ?_ | refine zY ?_) | ((with_reducible first | refine zR ?_ ?_ fun K_ hK_ => ?_ | refine zS ?_ ?_ fun K_ hK_ => ?_); (focus kernel_rfl); (focus kernel_rfl))); first | (simp (maxSteps := 1000000) (disch := refine hold_ ?_; first | (simp [hsz, hkz, hkc, hg, e1, e2, p1, p2, w1, w2, g, -List.getD_eq_getElem?_getD]; done) | omega) [hsz, hkz, hkc, hg, e1, e2, p1, p2, w1, w2, g, -List.getD_eq_getElem?_getD]; try first | (with_reducible refine zZ ?_) | subst hK_) | subst hK_) | (with_reducible first | refine zA ?_ | refine zB ?_ | refine zC ?_ | refine zD ?_ | refine zE ?_ | refine zF ?_ | refine zG ?_ | refine zH ?_ | refine zI ?_ | refine zJ ?_ | refine zK ?_ | refine zL ?_ | refine zM ?_ | refine zN ?_ | refine zO ?_) | ((with_reducible refine yG ?_ ?_); (focus decide)) | ((with_reducible refine yA ?_); refine yB rfl ?_; (with_reducible first | refine yC ?_ | refine yD ?_)))
        all_goals simp (maxSteps := 1000000) (disch := refine hold_ ?_; first | (simp [-List.getD_eq_getElem?_getD]; done) | omega) [-List.getD_eq_getElem?_getD]
      · have hi : digI c base = c - 48 := by unfold digI; rw [hd, if_neg g]
        rw [hi, if_neg (by omega)] at hI
        have v1 : IntKind.i32.wrap (n * base) = n * base := by rcases hb with rfl | rfl <;> exact wrap_i32 _ (by omega) (by omega)
        have v2 : IntKind.i32.wrap (n * base + (c - 48)) = n * base + (c - 48) := by rcases hb with rfl | rfl <;> exact wrap_i32 _ (by omega) (by omega)
        have v3 : (if 1114112 < n * base + (c - 48) then (1114112 : Int) else n * base + (c - 48)) = mn (n * base + (c - 48)) := rfl
        have v4 : 0 ≤ mn (n * base + (c - 48)) ∧ mn (n * base + (c - 48)) ≤ 1114112 := by unfold mn; rcases hb with rfl | rfl <;> split <;> omega
        generalize mn (n * base + (c - 48)) = n2 at *
        unfold numS
        repeat (first | ((first | (with_reducible first | refine zP fun K_ hK_ => ?_ | refine zQ fun K_ hK_ => ?_ | refine zT ?_ | refine zU ?_ | refine zV ?_ | refine zW ?_ | refine zX ?_ | refine zY ?_) | ((with_reducible first | refine zR ?_ ?_ fun K_ hK_ => ?_ | refine zS ?_ ?_ fun K_ hK_ => ?_); (focus kernel_rfl); (focus kernel_rfl))); first | (simp (maxSteps := 1000000) (disch := refine hold_ ?_; first | (simp [hsz, hkz, hkc, hg, e1, e2, p1, p2, w1, w2, g, v1, v2, v3, -List.getD_eq_getElem?_getD]; done) | omega) [hsz, hkz, hkc, hg, e1, e2, p1, p2, w1, w2, g, v1, v2, v3, -List.getD_eq_getElem?_getD]; try first | (with_reducible refine zZ ?_) | subst hK_) | subst hK_) | (with_reducible first | refine zA ?_ | refine zB ?_ | refine zC ?_ | refine zD ?_ | refine zE ?_ | refine zF ?_ | refine zG ?_ | refine zH ?_ | refine zI ?_ | refine zJ ?_ | refine zK ?_ | refine zL ?_ | refine zM ?_ | refine zN ?_ | refine zO ?_) | ((with_reducible refine yG ?_ ?_); (focus decide)) | ((with_reducible refine yA ?_); refine yB rfl ?_; (with_reducible first | refine yC ?_ | refine yD ?_)))
        refine ⟨l.length - (k + 1), numS l base n2 (k + 1), by omega, ?_, k + 1, n2, rfl, hkc, v4.1, v4.2, rfl, hI⟩
        unfold numS
        simp (maxSteps := 1000000) (disch := refine hold_ ?_; first | (simp [-List.getD_eq_getElem?_getD]; done) | omega) [-List.getD_eq_getElem?_getD]
    by_cases q1 : 97 ≤ c ∧ c ≤ 102
    · have p1 := q1.1
      have p2 := q1.2
      have m0 : ¬ (48 ≤ c ∧ c ≤ 57) := q0
      have hd : digV c = c - 87 := by unfold digV; rw [if_neg q0]; rw [if_pos q1]
      have w1 : IntKind.i32.wrap (c - 97) = c - 97 := wrap_i32 _ (by omega) (by omega)
      have w2 : IntKind.i32.wrap (c - 97 + 10) = c - 87 := (wrap_i32 _ (by omega) (by omega)).trans (by omega)
      have x0 : ¬ c ≤ 57 := by omega
      have x1 : 48 ≤ c := by omega
      by_cases g : base ≤ c - 87
      · have hi : digI c base = -1 := by unfold digI; rw [hd, if_pos g]
        rw [hi, if_pos (by omega)] at hI
        unfold numS numN numO
        rw [hI]
        repeat (first | ((first | (with_reducible first | refine zP fun K_ hK_ => ?_ | refine zQ fun K_ hK_ => ?_ | refine zT ?_ | refine zU ?_ | refine zV ?_ | refine zW ?_ | refine zX ?_ | refine zY ?_) | ((with_reducible first | refine zR ?_ ?_ fun K_ hK_ => ?_ | refine zS ?_ ?_ fun K_ hK_ => ?_); (focus kernel_rfl); (focus kernel_rfl))); first | (simp (maxSteps := 1000000) (disch := refine hold_ ?_; first | (simp [hsz, hkz, hkc, hg, e1, e2, p1, p2, w1, w2, x0, x1, g, -List.getD_eq_getElem?_getD]; done) | omega) [hsz, hkz, hkc, hg, e1, e2, p1, p2, w1, w2, x0, x1, g, -List.getD_eq_getElem?_getD]; try first | (with_reducible refine zZ ?_) | subst hK_) | subst hK_) | (with_reducible first | refine zA ?_ | refine zB ?_ | refine zC ?_ | refine zD ?_ | refine zE ?_ | refine zF ?_ | refine zG ?_ | refine zH ?_ | refine zI ?_ | refine zJ ?_ | refine zK ?_ | refine zL ?_ | refine zM ?_ | refine zN ?_ | refine zO ?_) | ((with_reducible refine yG ?_ ?_); (focus decide)) | ((with_reducible refine yA ?_); refine yB rfl ?_; (with_reducible first | refine yC ?_ | refine yD ?_)))
        all_goals simp (maxSteps := 1000000) (disch := refine hold_ ?_; first | (simp [-List.getD_eq_getElem?_getD]; done) | omega) [-List.getD_eq_getElem?_getD]
      · have hi : digI c base = c - 87 := by unfold digI; rw [hd, if_neg g]
        rw [hi, if_neg (by omega)] at hI
        have v1 : IntKind.i32.wrap (n * base) = n * base := by rcases hb with rfl | rfl <;> exact wrap_i32 _ (by omega) (by omega)
        have v2 : IntKind.i32.wrap (n * base + (c - 87)) = n * base + (c - 87) := by rcases hb with rfl | rfl <;> exact wrap_i32 _ (by omega) (by omega)
        have v3 : (if 1114112 < n * base + (c - 87) then (1114112 : Int) else n * base + (c - 87)) = mn (n * base + (c - 87)) := rfl
        have v4 : 0 ≤ mn (n * base + (c - 87)) ∧ mn (n * base + (c - 87)) ≤ 1114112 := by unfold mn; rcases hb with rfl | rfl <;> split <;> omega
        generalize mn (n * base + (c - 87)) = n2 at *
        unfold numS
        repeat (first | ((first | (with_reducible first | refine zP fun K_ hK_ => ?_ | refine zQ fun K_ hK_ => ?_ | refine zT ?_ | refine zU ?_ | refine zV ?_ | refine zW ?_ | refine zX ?_ | refine zY ?_) | ((with_reducible first | refine zR ?_ ?_ fun K_ hK_ => ?_ | refine zS ?_ ?_ fun K_ hK_ => ?_); (focus kernel_rfl); (focus kernel_rfl))); first | (simp (maxSteps := 1000000) (disch := refine hold_ ?_; first | (simp [hsz, hkz, hkc, hg, e1, e2, p1, p2, w1, w2, x0, x1, g, v1, v2, v3, -List.getD_eq_getElem?_getD]; done) | omega) [hsz, hkz, hkc, hg, e1, e2, p1, p2, w1, w2, x0, x1, g, v1, v2, v3, -List.getD_eq_getElem?_getD]; try first | (with_reducible refine zZ ?_) | subst hK_) | subst hK_) | (with_reducible first | refine zA ?_ | refine zB ?_ | refine zC ?_ | refine zD ?_ | refine zE ?_ | refine zF ?_ | refine zG ?_ | refine zH ?_ | refine zI ?_ | refine zJ ?_ | refine zK ?_ | refine zL ?_ | refine zM ?_ | refine zN ?_ | refine zO ?_) | ((with_reducible refine yG ?_ ?_); (focus decide)) | ((with_reducible refine yA ?_); refine yB rfl ?_; (with_reducible first | refine yC ?_ | refine yD ?_)))
        refine ⟨l.length - (k + 1), numS l base n2 (k + 1), by omega, ?_, k + 1, n2, rfl, hkc, v4.1, v4.2, rfl, hI⟩
        unfold numS
        simp (maxSteps := 1000000) (disch := refine hold_ ?_; first | (simp [-List.getD_eq_getElem?_getD]; done) | omega) [-List.getD_eq_getElem?_getD]
    by_cases q2 : 65 ≤ c ∧ c ≤ 70
    · have p1 := q2.1
      have p2 := q2.2
      have m0 : ¬ (48 ≤ c ∧ c ≤ 57) := q0
      have m1 : ¬ (97 ≤ c ∧ c ≤ 102) := q1
      have hd : digV c = c - 55 := by unfold digV; rw [if_neg q0]; rw [if_neg q1]; rw [if_pos q2]
      have w1 : IntKind.i32.wrap (c - 65) = c - 65 := wrap_i32 _ (by omega) (by omega)
      have w2 : IntKind.i32.wrap (c - 65 + 10) = c - 55 := (wrap_i32 _ (by omega) (by omega)).trans (by omega)
      have x0 : ¬ c ≤ 57 := by omega
      have x1 : 48 ≤ c := by omega
      have x2 : ¬ 97 ≤ c := by omega
      by_cases g : base ≤ c - 55
      · have hi : digI c base = -1 := by unfold digI; rw [hd, if_pos g]
        rw [hi, if_pos (by omega)] at hI
        unfold numS numN numO
        rw [hI]
        repeat (first | ((first | (with_reducible first | refine zP fun K_ hK_ => ?_ | refine zQ fun K_ hK_ => ?_ | refine zT ?_ | refine zU ?_ | refine zV ?_ | refine zW ?_ | refine zX ?_ | refine zY ?_) | ((with_reducible first | refine zR ?_ ?_ fun K_ hK_ => ?_ | refine zS ?_ ?_ fun K_ hK_ => ?_); (focus kernel_rfl); (focus kernel_rfl))); first | (simp (maxSteps := 1000000) (disch := refine hold_ ?_; first | (simp [hsz, hkz, hkc, hg, e1, e2, p1, p2, w1, w2, x0, x1, x2, g, -List.getD_eq_getElem?_getD]; done) | omega) [hsz, hkz, hkc, hg, e1, e2, p1, p2, w1, w2, x0, x1, x2, g, -List.getD_eq_getElem?_getD]; try first | (with_reducible refine zZ ?_) | subst hK_) | subst hK_) | (with_reducible first | refine zA ?_ | refine zB ?_ | refine zC ?_ | refine zD ?_ | refine zE ?_ | refine zF ?_ | refine zG ?_ | refine zH ?_ | refine zI ?_ | refine zJ ?_ | refine zK ?_ | refine zL ?_ | refine zM ?_ | refine zN ?_ | refine zO ?_) | ((with_reducible refine yG ?_ ?_); (focus decide)) | ((with_reducible refine yA ?_); refine yB rfl ?_; (with_reducible first | refine yC ?_ | refine yD ?_)))
        all_goals simp (maxSteps := 1000000) (disch := refine hold_ ?_; first | (simp [-List.getD_eq_getElem?_getD]; done) | omega) [-List.getD_eq_getElem?_getD]
      · have hi : digI c base = c - 55 := by unfold digI; rw [hd, if_neg g]
        rw [hi, if_neg (by omega)] at hI
        have v1 : IntKind.i32.wrap (n * base) = n * base := by rcases hb with rfl | rfl <;> exact wrap_i32 _ (by omega) (by omega)
        have v2 : IntKind.i32.wrap (n * base + (c - 55)) = n * base + (c - 55) := by rcases hb with rfl | rfl <;> exact wrap_i32 _ (by omega) (by omega)
        have v3 : (if 1114112 < n * base + (c - 55) then (1114112 : Int) else n * base + (c - 55)) = mn (n * base + (c - 55)) := rfl
        have v4 : 0 ≤ mn (n * base + (c - 55)) ∧ mn (n * base + (c - 55)) ≤ 1114112 := by unfold mn; rcases hb with rfl | rfl <;> split <;> omega
        generalize mn (n * base + (c - 55)) = n2 at *
        unfold numS
        repeat (first | ((first | (with_reducible first | refine zP fun K_ hK_ => ?_ | refine zQ fun K_ hK_ => ?_ | refine zT ?_ | refine zU ?_ | refine zV ?_ | refine zW ?_ | refine zX ?_ | refine zY ?_) | ((with_reducible first | refine zR ?_ ?_ fun K_ hK_ => ?_ | refine zS ?_ ?_ fun K_ hK_ => ?_); (focus kernel_rfl); (focus kernel_rfl))); first | (simp (maxSteps := 1000000) (disch := refine hold_ ?_; first | (simp [hsz, hkz, hkc, hg, e1, e2, p1, p2, w1, w2, x0, x1, x2, g, v1, v2, v3, -List.getD_eq_getElem?_getD]; done) | omega) [hsz, hkz, hkc, hg, e1, e2, p1, p2, w1, w2, x0, x1, x2, g, v1, v2, v3, -List.getD_eq_getElem?_getD]; try first | (with_reducible refine zZ ?_) | subst hK_) | subst hK_) | (with_reducible first | refine zA ?_ | refine zB ?_ | refine zC ?_ | refine zD ?_ | refine zE ?_ | refine zF ?_ | refine zG ?_ | refine zH ?_ | refine zI ?_ | refine zJ ?_ | refine zK ?_ | refine zL ?_ | refine zM ?_ | refine zN ?_ | refine zO ?_) | ((with_reducible refine yG ?_ ?_); (focus decide)) | ((with_reducible refine yA ?_); refine yB rfl ?_; (with_reducible first | refine yC ?_ | refine yD ?_)))
        refine ⟨l.length - (k + 1), numS l base n2 (k + 1), by omega, ?_, k + 1, n2, rfl, hkc, v4.1, v4.2, rfl, hI⟩
        unfold numS
        simp (maxSteps := 1000000) (disch := refine hold_ ?_; first | (simp [-List.getD_eq_getElem?_getD]; done) | omega) [-List.getD_eq_getElem?_getD]
    have hd : digV c = -1 := by unfold digV; rw [if_neg q0, if_neg q1, if_neg q2]
    have hbb : 0 < base := by omega
    have hi : digI c base = -1 := by unfold digI; rw [hd, if_neg (by omega)]
    rw [hi, if_pos (by omega)] at hI
    unfold numS numN numO
    rw [hI]
    rcases (by omega : c < 48 ∨ (57 < c ∧ c < 65) ∨ (70 < c ∧ c < 97) ∨ 102 < c) with r | r | r | r
    · have y0 : ¬ 48 ≤ c := by omega
      have y1 : ¬ 97 ≤ c := by omega
      have y2 : ¬ 65 ≤ c := by omega
      repeat (first | ((first | (with_reducible first | refine zP fun K_ hK_ => ?_ | refine zQ fun K_ hK_ => ?_ | refine zT ?_ | refine zU ?_ | refine zV ?_ | refine zW ?_ | refine zX ?_ | refine zY ?_) | ((with_reducible first | refine zR ?_ ?_ fun K_ hK_ => ?_ | refine zS ?_ ?_ fun K_ hK_ => ?_); (focus kernel_rfl); (focus kernel_rfl))); first | (simp (maxSteps := 1000000) (disch := refine hold_ ?_; first | (simp [hsz, hkz, hkc, hg, e1, e2, y0, y1, y2, -List.getD_eq_getElem?_getD]; done) | omega) [hsz, hkz, hkc, hg, e1, e2, y0, y1, y2, -List.getD_eq_getElem?_getD]; try first | (with_reducible refine zZ ?_) | subst hK_) | subst hK_) | (with_reducible first | refine zA ?_ | refine zB ?_ | refine zC ?_ | refine zD ?_ | refine zE ?_ | refine zF ?_ | refine zG ?_ | refine zH ?_ | refine zI ?_ | refine zJ ?_ | refine zK ?_ | refine zL ?_ | refine zM ?_ | refine zN ?_ | refine zO ?_) | ((with_reducible refine yG ?_ ?_); (focus decide)) | ((with_reducible refine yA ?_); refine yB rfl ?_; (with_reducible first | refine yC ?_ | refine yD ?_)))
      all_goals simp (maxSteps := 1000000) (disch := refine hold_ ?_; first | (simp [-List.getD_eq_getElem?_getD]; done) | omega) [-List.getD_eq_getElem?_getD]
    · have y0 : 48 ≤ c := by omega
      have y1 : ¬ c ≤ 57 := by omega
      have y2 : ¬ 97 ≤ c := by omega
      have y3 : ¬ 65 ≤ c := by omega
      repeat (first | ((first | (with_reducible first | refine zP fun K_ hK_ => ?_ | refine zQ fun K_ hK_ => ?_ | refine zT ?_ | refine zU ?_ | refine zV ?_ | refine zW ?_ | refine zX ?_ | refine zY ?_) | ((with_reducible first | refine zR ?_ ?_ fun K_ hK_ => ?_ | refine zS ?_ ?_ fun K_ hK_ => ?_); (focus kernel_rfl); (focus kernel_rfl))); first | (simp (maxSteps := 1000000) (disch := refine hold_ ?_; first | (simp [hsz, hkz, hkc, hg, e1, e2, y0, y1, y2, y3, -List.getD_eq_getElem?_getD]; done) | omega) [hsz, hkz, hkc, hg, e1, e2, y0, y1, y2, y3, -List.getD_eq_getElem?_getD]; try first | (with_reducible refine zZ ?_) | subst hK_) | subst hK_) | (with_reducible first | refine zA ?_ | refine zB ?_ | refine zC ?_ | refine zD ?_ | refine zE ?_ | refine zF ?_ | refine zG ?_ | refine zH ?_ | refine zI ?_ | refine zJ ?_ | refine zK ?_ | refine zL ?_ | refine zM ?_ | refine zN ?_ | refine zO ?_) | ((with_reducible refine yG ?_ ?_); (focus decide)) | ((with_reducible refine yA ?_); refine yB rfl ?_; (with_reducible first | refine yC ?_ | refine yD ?_)))
      all_goals simp (maxSteps := 1000000) (disch := refine hold_ ?_; first | (simp [-List.getD_eq_getElem?_getD]; done) | omega) [-List.getD_eq_getElem?_getD]
    · have y0 : 48 ≤ c := by omega
      have y1 : ¬ c ≤ 57 := by omega
      have y2 : ¬ 97 ≤ c := by omega
      have y3 : 65 ≤ c := by omega
      have y4 : ¬ c ≤ 70 := by omega
      repeat (first | ((first | (with_reducible first | refine zP fun K_ hK_ => ?_ | refine zQ fun K_ hK_ => ?_ | refine zT ?_ | refine zU ?_ | refine zV ?_ | refine zW ?_ | refine zX ?_ | refine zY ?_) | ((with_reducible first | refine zR ?_ ?_ fun K_ hK_ => ?_ | refine zS ?_ ?_ fun K_ hK_ => ?_); (focus kernel_rfl); (focus kernel_rfl))); first | (simp (maxSteps := 1000000) (disch := refine hold_ ?_; first | (simp [hsz, hkz, hkc, hg, e1, e2, y0, y1, y2, y3, y4, -List.getD_eq_getElem?_getD]; done) | omega) [hsz, hkz, hkc, hg, e1, e2, y0, y1, y2, y3, y4, -List.getD_eq_getElem?_getD]; try first | (with_reducible refine zZ ?_) | subst hK_) | subst hK_) | (with_reducible first | refine zA ?_ | refine zB ?_ | refine zC ?_ | refine zD ?_ | refine zE ?_ | refine zF ?_ | refine zG ?_ | refine zH ?_ | refine zI ?_ | refine zJ ?_ | refine zK ?_ | refine zL ?_ | refine zM ?_ | refine zN ?_ | refine zO ?_) | ((with_reducible refine yG ?_ ?_); (focus decide)) | ((with_reducible refine yA ?_); refine yB rfl ?_; (with_reducible first | refine yC ?_ | refine yD ?_)))
      all_goals simp (maxSteps := 1000000) (disch := refine hold_ ?_; first | (simp [-List.getD_eq_getElem?_getD]; done) | omega) [-List.getD_eq_getElem?_getD]
    · have y0 : 48 ≤ c := by omega
      have y1 : ¬ c ≤ 57 := by omega
      have y2 : 97 ≤ c := by omega
      have y3 : ¬ c ≤ 102 := by omega
      have y4 : 65 ≤ c := by omega
      have y5 : ¬ c ≤ 70 := by omega
      repeat (first | ((first | (with_reducible first | refine zP fun K_ hK_ => ?_ | refine zQ fun K_ hK_ => ?_ | refine zT ?_ | refine zU ?_ | refine zV ?_ | refine zW ?_ | refine zX ?_ | refine zY ?_) | ((with_reducible first | refine zR ?_ ?_ fun K_ hK_ => ?_ | refine zS ?_ ?_ fun K_ hK_ => ?_); (focus kernel_rfl); (focus kernel_rfl))); first | (simp (maxSteps := 1000000) (disch := refine hold_ ?_; first | (simp [hsz, hkz, hkc, hg, e1, e2, y0, y1, y2, y3, y4, y5, -List.getD_eq_getElem?_getD]; done) | omega) [hsz, hkz, hkc, hg, e1, e2, y0, y1, y2, y3, y4, y5, -List.getD_eq_getElem?_getD]; try first | (with_reducible refine zZ ?_) | subst hK_) | subst hK_) | (with_reducible first | refine zA ?_ | refine zB ?_ | refine zC ?_ | refine zD ?_ | refine zE ?_ | refine zF ?_ | refine zG ?_ | refine zH ?_ | refine zI ?_ | refine zJ ?_ | refine zK ?_ | refine zL ?_ | refine zM ?_ | refine zN ?_ | refine zO ?_) | ((with_reducible refine yG ?_ ?_); (focus decide)) | ((with_reducible refine yA ?_); refine yB rfl ?_; (with_reducible first | refine yC ?_ | refine yD ?_)))
      all_goals simp (maxSteps := 1000000) (disch := refine hold_ ?_; first | (simp [-List.getD_eq_getElem?_getD]; done) | omega) [-List.getD_eq_getElem?_getD]
  · have hk2 : k = l.length := by omega
    subst hk2
    have hne : ¬ (l.length : Int) < l.length := by omega
    rw [List.drop_length] at hI
    have hF : numF base 0 l = some n := hI
    have hq := str_neq_txt l []
    unfold numS numN numO
    rw [hF]
    repeat (first | ((first | (with_reducible first | refine zP fun K_ hK_ => ?_ | refine zQ fun K_ hK_ => ?_ | refine zT ?_ | refine zU ?_ | refine zV ?_ | refine zW ?_ | refine zX ?_ | refine zY ?_) | ((with_reducible first | refine zR ?_ ?_ fun K_ hK_ => ?_ | refine zS ?_ ?_ fun K_ hK_ => ?_); (focus kernel_rfl); (focus kernel_rfl))); first | (simp (maxSteps := 1000000) (disch := refine hold_ ?_; first | (simp [hsz, hne, kNil, hq, -List.getD_eq_getElem?_getD]; done) | omega) [hsz, hne, kNil, hq, -List.getD_eq_getElem?_getD]; try first | (with_reducible refine zZ ?_) | subst hK_) | subst hK_) | (with_reducible first | refine zA ?_ | refine zB ?_ | refine zC ?_ | refine zD ?_ | refine zE ?_ | refine zF ?_ | refine zG ?_ | refine zH ?_ | refine zI ?_ | refine zJ ?_ | refine zK ?_ | refine zL ?_ | refine zM ?_ | refine zN ?_ | refine zO ?_) | ((with_reducible refine yG ?_ ?_); (focus decide)) | ((with_reducible refine yA ?_); refine yB rfl ?_; (with_reducible first | refine yC ?_ | refine yD ?_)))
    all_goals simp (maxSteps := 1000000) (disch := refine hold_ ?_; first | (simp [-List.getD_eq_getElem?_getD]; done) | omega) [-List.getD_eq_getElem?_getD]
end Go.Av.Chl
end
section
set_option linter.unusedSimpArgs false
set_option linter.unusedVariables false
set_option linter.unusedSectionVars false
open Go Go.Av Go.Proofs
namespace Go.Av.Chl
variable [ML]
theorem sLt : (ByteArray.mk #[108, 116]) = txt [108#8, 116#8] := rfl
theorem sGt : (ByteArray.mk #[103, 116]) = txt [103#8, 116#8] := rfl
theorem sAmp : (ByteArray.mk #[97, 109, 112]) = txt [97#8, 109#8, 112#8] := rfl
theorem sApos : (ByteArray.mk #[97, 112, 111, 115]) = txt [97#8, 112#8, 111#8, 115#8] := rfl
theorem sQuot : (ByteArray.mk #[113, 117, 111, 116]) = txt [113#8, 117#8, 111#8, 116#8] := rfl
theorem vLt : (ByteArray.mk #[60]) = txt [60#8] := rfl
theorem vGt : (ByteArray.mk #[62]) = txt [62#8] := rfl
theorem vAmp : (ByteArray.mk #[38]) = txt [38#8] := rfl
theorem vApos : (ByteArray.mk #[39]) = txt [39#8] := rfl
theorem vQuot : (ByteArray.mk #[34]) = txt [34#8] := rfl
theorem vHash : (ByteArray.mk #[35]) = txt [35#8] := rfl
theorem vX : (ByteArray.mk #[120]) = txt [120#8] := rfl
theorem str_eql (a b : List (BitVec 8)) : strBin .eql (txt a) (txt b) = some (.bool (a == b)) := str_eq_txt a b
def namedV (s : List (BitVec 8)) : Option (List (BitVec 8)) :=
  if s = [108#8, 116#8] then some [60#8] else if s = [103#8, 116#8] then some [62#8] else if s = [97#8, 109#8, 112#8] then some [38#8] else if s = [97#8, 112#8, 111#8, 115#8] then some [39#8] else if s = [113#8, 117#8, 111#8, 116#8] then some [34#8] else none
def resV : Option (List (BitVec 8)) → List V
  | none => [.p (.str (txt [])), .p (.bool false)]
  | some x => [.p (.str (txt x)), .p (.bool true)]
def chV (n : Int) : Option (List (BitVec 8)) := if xmlB n = true then some (encL n) else none
def numV (base : Int) (d : List (BitVec 8)) : Option (List (BitVec 8)) := if numO base d = true then chV (numN base d) else none
def standsV (s : List (BitVec 8)) : Option (List (BitVec 8)) :=
  if s.head? = some 35#8 then (if (s.drop 1).head? = some 120#8 then numV 16 ((s.drop 1).drop 1) else numV 10 (s.drop 1)) else namedV s
theorem preB_one (s : List (BitVec 8)) (c : BitVec 8) : preB s [c] = decide (s.head? = some c) := by
  unfold preB
  cases s with
  | nil => simp
  | cons b l =>
    simp [List.take_succ_cons]
    rfl
set_option maxHeartbeats 8000000 in
theorem named_ct (s : List (BitVec 8)) : Fn Tryd.prog 28 [.str (txt s)] (resV (namedV s)) := by
  refine Fn.of_body Tryd.func28 rfl ?_
  unfold namedV
  by_cases h1 : s = [108#8, 116#8]
  · rw [if_pos h1, h1]
    repeat (first | ((first | (with_reducible first | refine zP fun K_ hK_ => ?_ | refine zQ fun K_ hK_ => ?_ | refine zT ?_ | refine zU ?_ | refine zV ?_ | refine zW ?_ | refine zX ?_ | refine zY ?_) | ((with_reducible first | refine zR ?_ ?_ fun K_ hK_ => ?_ | refine zS ?_ ?_ fun K_ hK_ => ?_); (focus kernel_rfl); (focus kernel_rfl))); first | (simp (maxSteps := 1000000) (disch := refine hold_ ?_; first | (simp [kNil, sLt, vLt, str_eql, -List.getD_eq_getElem?_getD]; done) | omega) [kNil, sLt, vLt, str_eql, -List.getD_eq_getElem?_getD]; try first | (with_reducible refine zZ ?_) | subst hK_) | subst hK_) | (with_reducible first | refine zA ?_ | refine zB ?_ | refine zC ?_ | refine zD ?_ | refine zE ?_ | refine zF ?_ | refine zG ?_ | refine zH ?_ | refine zI ?_ | refine zJ ?_ | refine zK ?_ | refine zL ?_ | refine zM ?_ | refine zN ?_ | refine zO ?_) | ((with_reducible refine yG ?_ ?_); (focus decide)) | ((with_reducible refine yA ?_); refine yB rfl ?_; (with_reducible first | refine yC ?_ | refine yD ?_)))
    all_goals simp (maxSteps := 1000000) (disch := refine hold_ ?_; first | (simp [resV, -List.getD_eq_getElem?_getD]; done) | omega) [resV, -List.getD_eq_getElem?_getD]
  rw [if_neg h1]
  have b1 : (s == [108#8, 116#8]) = false := beq_eq_false_iff_ne.2 h1
  by_cases h2 : s = [103#8, 116#8]
  · rw [if_pos h2]
    have g : (s == [103#8, 116#8]) = true := beq_iff_eq.2 h2
    clear h2 h1
    repeat (first | ((first | (with_reducible first | refine zP fun K_ hK_ => ?_ | refine zQ fun K_ hK_ => ?_ | refine zT ?_ | refine zU ?_ | refine zV ?_ | refine zW ?_ | refine zX ?_ | refine zY ?_) | ((with_reducible first | refine zR ?_ ?_ fun K_ hK_ => ?_ | refine zS ?_ ?_ fun K_ hK_ => ?_); (focus kernel_rfl); (focus kernel_rfl))); first | (simp (maxSteps := 1000000) (disch := refine hold_ ?_; first | (simp [kNil, sLt, sGt, vGt, str_eql, b1, g, -List.getD_eq_getElem?_getD]; done) | omega) [kNil, sLt, sGt, vGt, str_eql, b1, g, -List.getD_eq_getElem?_getD]; try first | (with_reducible refine zZ ?_) | subst hK_) | subst hK_) | (with_reducible first | refine zA ?_ | refine zB ?_ | refine zC ?_ | refine zD ?_ | refine zE ?_ | refine zF ?_ | refine zG ?_ | refine zH ?_ | refine zI ?_ | refine zJ ?_ | refine zK ?_ | refine zL ?_ | refine zM ?_ | refine zN ?_ | refine zO ?_) | ((with_reducible refine yG ?_ ?_); (focus decide)) | ((with_reducible refine yA ?_); refine yB rfl ?_; (with_reducible first | refine yC ?_ | refine yD ?_)))
    all_goals simp (maxSteps := 1000000) (disch := refine hold_ ?_; first | (simp [resV, -List.getD_eq_getElem?_getD]; done) | omega) [resV, -List.getD_eq_getElem?_getD]
  rw [if_neg h2]
  have b2 : (s == [103#8, 116#8]) = false := beq_eq_false_iff_ne.2 h2
  by_cases h3 : s = [97#8, 109#8, 112#8]
  · rw [if_pos h3]
    have g : (s == [97#8, 109#8, 112#8]) = true := beq_iff_eq.2 h3
    clear h3 h2 h1
    repeat (first | ((first | (with_reducible first | refine zP fun K_ hK_ => ?_ | refine zQ fun K_ hK_ => ?_ | refine zT ?_ | refine zU ?_ | refine zV ?_ | refine zW ?_ | refine zX ?_ | refine zY ?_) | ((with_reducible first | refine zR ?_ ?_ fun K_ hK_ => ?_ | refine zS ?_ ?_ fun K_ hK_ => ?_); (focus kernel_rfl); (focus kernel_rfl))); first | (simp (maxSteps := 1000000) (disch := refine hold_ ?_; first | (simp [kNil, sLt, sGt, sAmp, vAmp, str_eql, b1, b2, g, -List.getD_eq_getElem?_getD]; done) | omega) [kNil, sLt, sGt, sAmp, vAmp, str_eql, b1, b2, g, -List.getD_eq_getElem?_getD]; try first | (with_reducible refine zZ ?_) | subst hK_) | subst hK_) | (with_reducible first | refine zA ?_ | refine zB ?_ | refine zC ?_ | refine zD ?_ | refine zE ?_ | refine zF ?_ | refine zG ?_ | refine zH ?_ | refine zI ?_ | refine zJ ?_ | refine zK ?_ | refine zL ?_ | refine zM ?_ | refine zN ?_ | refine zO ?_) | ((with_reducible refine yG ?_ ?_); (focus decide)) | ((with_reducible refine yA ?_); refine yB rfl ?_; (with_reducible first | refine yC ?_ | refine yD ?_)))
    all_goals simp (maxSteps := 1000000) (disch := refine hold_ ?_; first | (simp [resV, -List.getD_eq_getElem?_getD]; done) | omega) [resV, -List.getD_eq_getElem?_getD]
  rw [if_neg h3]
  have b3 : (s == [97#8, 109#8, 112#8]) = false := beq_eq_false_iff_ne.2 h3
  by_cases h4 : s = [97#8, 112#8, 111#8, 115#8]
  · rw [if_pos h4]
    have g : (s == [97#8, 112#8, 111#8, 115#8]) = true := beq_iff_eq.2 h4
    clear h4 h3 h2 h1
    repeat (first | ((first | (with_reducible first | refine zP fun K_ hK_ => ?_ | refine zQ fun K_ hK_ => ?_ | refine zT ?_ | refine zU ?_ | refine zV ?_ | refine zW ?_ | refine zX ?_ | refine zY ?_) | ((with_reducible first | refine zR ?_ ?_ fun K_ hK_ => ?_ | refine zS ?_ ?_ fun K_ hK_ => ?_); (focus kernel_rfl); (focus kernel_rfl))); first | (simp (maxSteps := 1000000) (disch := refine hold_ ?_; first | (simp [kNil, sLt, sGt, sAmp, sApos, vApos, str_eql, b1, b2, b3, g, -List.getD_eq_getElem?_getD]; done) | omega) [kNil, sLt, sGt, sAmp, sApos, vApos, str_eql, b1, b2, b3, g, -List.getD_eq_getElem?_getD]; try first | (with_reducible refine zZ ?_) | subst hK_) | subst hK_) | (with_reducible first | refine zA ?_ | refine zB ?_ | refine zC ?_ | refine zD ?_ | refine zE ?_ | refine zF ?_ | refine zG ?_ | refine zH ?_ | refine zI ?_ | refine zJ ?_ | refine zK ?_ | refine zL ?_ | refine zM ?_ | refine zN ?_ | refine zO ?_) | ((with_reducible refine yG ?_ ?_); (focus decide)) | ((with_reducible refine yA ?_); refine yB rfl ?_; (with_reducible first | refine yC ?_ | refine yD ?_)))
    all_goals simp (maxSteps := 1000000) (disch := refine hold_ ?_; first | (simp [resV, -List.getD_eq_getElem?_getD]; done) | omega) [resV, -List.getD_eq_getElem?_getD]
  rw [if_neg h4]
  have b4 : (s == [97#8, 112#8, 111#8, 115#8]) = false := beq_eq_false_iff_ne.2 h4
  by_cases h5 : s = [113#8, 117#8, 111#8, 116#8]
  · rw [if_pos h5]
    have g : (s == [113#8, 117#8, 111#8, 116#8]) = true := beq_iff_eq.2 h5
    clear h5 h4 h3 h2 h1
    repeat (first | ((first | (with_reducible first | refine zP fun K_ hK_ => ?_ | refine zQ fun K_ hK_ => ?_ | refine zT ?_ | refine zU ?_ | refine zV ?_ | refine zW ?_ | refine zX ?_ | refine zY ?_) | ((with_reducible first | refine zR ?_ ?_ fun K_ hK_ => ?_ | refine zS ?_ ?_ fun K_ hK_ => ?_); (focus kernel_rfl); (focus kernel_rfl))); first | (simp (maxSteps := 1000000) (disch := refine hold_ ?_; first | (simp [kNil, sLt, sGt, sAmp, sApos, sQuot, vQuot, str_eql, b1, b2, b3, b4, g, -List.getD_eq_getElem?_getD]; done) | omega) [kNil, sLt, sGt, sAmp, sApos, sQuot, vQuot, str_eql, b1, b2, b3, b4, g, -List.getD_eq_getElem?_getD]; try first | (with_reducible refine zZ ?_) | subst hK_) | subst hK_) | (with_reducible first | refine zA ?_ | refine zB ?_ | refine zC ?_ | refine zD ?_ | refine zE ?_ | refine zF ?_ | refine zG ?_ | refine zH ?_ | refine zI ?_ | refine zJ ?_ | refine zK ?_ | refine zL ?_ | refine zM ?_ | refine zN ?_ | refine zO ?_) | ((with_reducible refine yG ?_ ?_); (focus decide)) | ((with_reducible refine yA ?_); refine yB rfl ?_; (with_reducible first | refine yC ?_ | refine yD ?_)))
    all_goals simp (maxSteps := 1000000) (disch := refine hold_ ?_; first | (simp [resV, -List.getD_eq_getElem?_getD]; done) | omega) [resV, -List.getD_eq_getElem?_getD]
  rw [if_neg h5]
  have b5 : (s == [113#8, 117#8, 111#8, 116#8]) = false := beq_eq_false_iff_ne.2 h5
  repeat (first | ((first | (with_reducible first | refine zP fun K_ hK_ => ?_ | refine zQ fun K_ hK_ => ?_ | refine zT ?_ | refine zU ?_ | refine zV ?_ | refine zW ?_ | refine zX ?_ | refine zY ?_) | ((with_reducible first | refine zR ?_ ?_ fun K_ hK_ => ?_ | refine zS ?_ ?_ fun K_ hK_ => ?_); (focus kernel_rfl); (focus kernel_rfl))); first | (simp (maxSteps := 1000000) (disch := refine hold_ ?_; first | (simp [kNil, sLt, sGt, sAmp, sApos, sQuot, str_eql, b1, b2, b3, b4, b5, -List.getD_eq_getElem?_getD]; done) | omega) [kNil, sLt, sGt, sAmp, sApos, sQuot, str_eql, b1, b2, b3, b4, b5, -List.getD_eq_getElem?_getD]; try first | (with_reducible refine zZ ?_) | subst hK_) | subst hK_) | (with_reducible first | refine zA ?_ | refine zB ?_ | refine zC ?_ | refine zD ?_ | refine zE ?_ | refine zF ?_ | refine zG ?_ | refine zH ?_ | refine zI ?_ | refine zJ ?_ | refine zK ?_ | refine zL ?_ | refine zM ?_ | refine zN ?_ | refine zO ?_) | ((with_reducible refine yG ?_ ?_); (focus decide)) | ((with_reducible refine yA ?_); refine yB rfl ?_; (with_reducible first | refine yC ?_ | refine yD ?_)))
  all_goals simp (maxSteps := 1000000) (disch := refine hold_ ?_; first | (simp [resV, -List.getD_eq_getElem?_getD]; done) | omega) [resV, -List.getD_eq_getElem?_getD]
theorem xml_char (n : Int) (h : xmlB n = true) : charB n = true := by
  unfold xmlB at h; unfold charB
  simp only [decide_eq_true_eq] at h ⊢
  omega
theorem ub1_ct (n : Int) (h : charB n = true) : Fn Tryd.prog 30 [.sl (.ints .i32 [n]) false] [.row (bl (encL n)) 0 0 false, .p (.bool true)] 1 := by
  have := ubytes_ct false [n] (by simp) 1 (by simp) (by intro k hk; obtain rfl : k = 0 := by omega
                                                        exact h) (by intro hk; simp at hk)
  rw [if_neg (by simp)] at this
  have e : encAll [n] [n].length = encL n := by simp [encAll]
  rw [e] at this
  exact this
set_option maxHeartbeats 8000000 in
theorem stands_ct (s : List (BitVec 8)) (hs : s.length ≤ 4000000) : Fn Tryd.prog 18 [.str (txt s)] (resV (standsV s)) := by
  have c1 := cp_ct s [35#8]
  rw [preB_one] at c1
  unfold standsV
  by_cases h1 : s.head? = some 35#8
  · rw [if_pos h1]
    rw [if_pos (by simpa using h1)] at c1
    have d1 : decide (s.head? = some 35#8) = true := by simpa using h1
    rw [d1, show ([35#8] : List (BitVec 8)).length = 1 from rfl] at c1
    have hdl : (s.drop 1).length ≤ 4000000 := by simp; omega
    generalize s.drop 1 = d at *
    have c2 := cp_ct d [120#8]
    rw [preB_one] at c2
    by_cases h2 : d.head? = some 120#8
    · rw [if_pos h2]
      rw [if_pos (by simpa using h2)] at c2
      have d2 : decide (d.head? = some 120#8) = true := by simpa using h2
      rw [d2, show ([120#8] : List (BitVec 8)).length = 1 from rfl] at c2
      have hel : (d.drop 1).length ≤ 4000000 := by simp; omega
      generalize d.drop 1 = e at *
      have c3 := number_ct e 16 (Or.inr rfl) hel
      unfold numV
      cases hO : numO 16 e with
      | false =>
        rw [hO] at c3
        refine Fn.of_body Tryd.func18 rfl ?_
        repeat (first | ((with_reducible first | refine callK_at 27 ?_ | refine callK_at 29 ?_); refine callK_p ?_; simp (maxSteps := 1000000) (disch := refine hold_ ?_; first | (simp [kNil, vHash, vX, -List.getD_eq_getElem?_getD]; done) | omega) [kNil, vHash, vX, -List.getD_eq_getElem?_getD]; (first | ((with_reducible refine k1_at 27 ?_); refine callK1_of ((by first | exact Fn.ct c1 Tryd.call27 | exact Fn.ct c2 Tryd.call27)) ?_) | ((with_reducible refine k1_at 29 ?_); refine callK1_of (Fn.ct c3 Tryd.call29) ?_)); (try simp (maxSteps := 1000000) (disch := refine hold_ ?_; first | (simp [kNil, vHash, vX, -List.getD_eq_getElem?_getD]; done) | omega) [kNil, vHash, vX, -List.getD_eq_getElem?_getD]); try first | (with_reducible refine zZ ?_) | subst hK_) | ((first | (with_reducible first | refine zP fun K_ hK_ => ?_ | refine zQ fun K_ hK_ => ?_ | refine zT ?_ | refine zU ?_ | refine zV ?_ | refine zW ?_ | refine zX ?_ | refine zY ?_) | ((with_reducible first | refine zR ?_ ?_ fun K_ hK_ => ?_ | refine zS ?_ ?_ fun K_ hK_ => ?_); (focus kernel_rfl); (focus kernel_rfl))); first | (simp (maxSteps := 1000000) (disch := refine hold_ ?_; first | (simp [kNil, vHash, vX, -List.getD_eq_getElem?_getD]; done) | omega) [kNil, vHash, vX, -List.getD_eq_getElem?_getD]; try first | (with_reducible refine zZ ?_) | subst hK_) | subst hK_) | (with_reducible first | refine zA ?_ | refine zB ?_ | refine zC ?_ | refine zD ?_ | refine zE ?_ | refine zF ?_ | refine zG ?_ | refine zH ?_ | refine zI ?_ | refine zJ ?_ | refine zK ?_ | refine zL ?_ | refine zM ?_ | refine zN ?_ | refine zO ?_) | ((with_reducible refine yG ?_ ?_); (focus decide)) | ((with_reducible refine yA ?_); refine yB rfl ?_; (with_reducible first | refine yC ?_ | refine yD ?_)))
        all_goals simp (maxSteps := 1000000) (disch := refine hold_ ?_; first | (simp [resV, -List.getD_eq_getElem?_getD]; done) | omega) [resV, -List.getD_eq_getElem?_getD]
      | true =>
        rw [hO] at c3
        have c4 := xml_ct (numN 16 e)
        unfold chV
        cases hx : xmlB (numN 16 e) with
        | false =>
          rw [hx] at c4
          generalize numN 16 e = n at *
          refine Fn.of_body Tryd.func18 rfl ?_
          repeat (first | ((with_reducible first | refine callK_at 27 ?_ | refine callK_at 29 ?_ | refine callK_at 24 ?_); refine callK_p ?_; simp (maxSteps := 1000000) (disch := refine hold_ ?_; first | (simp [kNil, vHash, vX, -List.getD_eq_getElem?_getD]; done) | omega) [kNil, vHash, vX, -List.getD_eq_getElem?_getD]; (first | ((with_reducible refine k1_at 27 ?_); refine callK1_of ((by first | exact Fn.ct c1 Tryd.call27 | exact Fn.ct c2 Tryd.call27)) ?_) | ((with_reducible refine k1_at 29 ?_); refine callK1_of (Fn.ct c3 Tryd.call29) ?_) | ((with_reducible refine k1_at 24 ?_); refine callK1_of (Fn.ct c4 Tryd.call24) ?_)); (try simp (maxSteps := 1000000) (disch := refine hold_ ?_; first | (simp [kNil, vHash, vX, -List.getD_eq_getElem?_getD]; done) | omega) [kNil, vHash, vX, -List.getD_eq_getElem?_getD]); try first | (with_reducible refine zZ ?_) | subst hK_) | ((first | (with_reducible first | refine zP fun K_ hK_ => ?_ | refine zQ fun K_ hK_ => ?_ | refine zT ?_ | refine zU ?_ | refine zV ?_ | refine zW ?_ | refine zX ?_ | refine zY ?_) | ((with_reducible first | refine zR ?_ ?_ fun K_ hK_ => ?_ | refine zS ?_ ?_ fun K_ hK_ => ?_); (focus kernel_rfl); (focus kernel_rfl))); first | (simp (maxSteps := 1000000) (disch := refine hold_ ?_; first | (simp [kNil, vHash, vX, -List.getD_eq_getElem?_getD]; done) | omega) [kNil, vHash, vX, -List.getD_eq_getElem?_getD]; try first | (with_reducible refine zZ ?_) | subst hK_) | subst hK_) | (with_reducible first | refine zA ?_ | refine zB ?_ | refine zC ?_ | refine zD ?_ | refine zE ?_ | refine zF ?_ | refine zG ?_ | refine zH ?_ | refine zI ?_ | refine zJ ?_ | refine zK ?_ | refine zL ?_ | refine zM ?_ | refine zN ?_ | refine zO ?_) | ((with_reducible refine yG ?_ ?_); (focus decide)) | ((with_reducible refine yA ?_); refine yB rfl ?_; (with_reducible first | refine yC ?_ | refine yD ?_)))
          all_goals simp (maxSteps := 1000000) (disch := refine hold_ ?_; first | (simp [resV, -List.getD_eq_getElem?_getD]; done) | omega) [resV, -List.getD_eq_getElem?_getD]
        | true =>
          rw [hx] at c4
          have c5 := ub1_ct _ (xml_char _ hx)
          generalize numN 16 e = n at *
          have hlp := encL_pos n
          generalize encL n = L at *
          refine Fn.of_body Tryd.func18 rfl ?_
          repeat (first | ((with_reducible first | refine callK_at 27 ?_ | refine callK_at 29 ?_ | refine callK_at 24 ?_ | refine callK_at 30 ?_); refine callK_p ?_; simp (maxSteps := 1000000) (disch := refine hold_ ?_; first | (simp [kNil, vHash, vX, hlp, -List.getD_eq_getElem?_getD]; done) | omega) [kNil, vHash, vX, hlp, -List.getD_eq_getElem?_getD]; (first | ((with_reducible refine k1_at 27 ?_); refine callK1_of ((by first | exact Fn.ct c1 Tryd.call27 | exact Fn.ct c2 Tryd.call27)) ?_) | ((with_reducible refine k1_at 29 ?_); refine callK1_of (Fn.ct c3 Tryd.call29) ?_) | ((with_reducible refine k1_at 24 ?_); refine callK1_of (Fn.ct c4 Tryd.call24) ?_) | ((with_reducible refine k1_at 30 ?_); refine callK1_of (Fn.ct c5 Tryd.call30) ?_)); (try simp (maxSteps := 1000000) (disch := refine hold_ ?_; first | (simp [kNil, vHash, vX, hlp, -List.getD_eq_getElem?_getD]; done) | omega) [kNil, vHash, vX, hlp, -List.getD_eq_getElem?_getD]); try first | (with_reducible refine zZ ?_) | subst hK_) | ((first | (with_reducible first | refine zP fun K_ hK_ => ?_ | refine zQ fun K_ hK_ => ?_ | refine zT ?_ | refine zU ?_ | refine zV ?_ | refine zW ?_ | refine zX ?_ | refine zY ?_) | ((with_reducible first | refine zR ?_ ?_ fun K_ hK_ => ?_ | refine zS ?_ ?_ fun K_ hK_ => ?_); (focus kernel_rfl); (focus kernel_rfl))); first | (simp (maxSteps := 1000000) (disch := refine hold_ ?_; first | (simp [kNil, vHash, vX, hlp, -List.getD_eq_getElem?_getD]; done) | omega) [kNil, vHash, vX, hlp, -List.getD_eq_getElem?_getD]; try first | (with_reducible refine zZ ?_) | subst hK_) | subst hK_) | (with_reducible first | refine zA ?_ | refine zB ?_ | refine zC ?_ | refine zD ?_ | refine zE ?_ | refine zF ?_ | refine zG ?_ | refine zH ?_ | refine zI ?_ | refine zJ ?_ | refine zK ?_ | refine zL ?_ | refine zM ?_ | refine zN ?_ | refine zO ?_) | ((with_reducible refine yG ?_ ?_); (focus decide)) | ((with_reducible refine yA ?_); refine yB rfl ?_; (with_reducible first | refine yC ?_ | refine yD ?_)))
          all_goals simp (maxSteps := 1000000) (disch := refine hold_ ?_; first | (simp [resV, -List.getD_eq_getElem?_getD]; done) | omega) [resV, -List.getD_eq_getElem?_getD]
          all_goals exact (str_of L).symm
    · rw [if_neg h2]
      rw [if_neg (by simpa using h2)] at c2
      have d2 : decide (d.head? = some 120#8) = false := by simpa using h2
      rw [d2] at c2
      have c3 := number_ct d 10 (Or.inl rfl) hdl
      unfold numV
      cases hO : numO 10 d with
      | false =>
        rw [hO] at c3
        refine Fn.of_body Tryd.func18 rfl ?_
        repeat (first | ((with_reducible first | refine callK_at 27 ?_ | refine callK_at 29 ?_); refine callK_p ?_; simp (maxSteps := 1000000) (disch := refine hold_ ?_; first | (simp [kNil, vHash, vX, -List.getD_eq_getElem?_getD]; done) | omega) [kNil, vHash, vX, -List.getD_eq_getElem?_getD]; (first | ((with_reducible refine k1_at 27 ?_); refine callK1_of ((by first | exact Fn.ct c1 Tryd.call27 | exact Fn.ct c2 Tryd.call27)) ?_) | ((with_reducible refine k1_at 29 ?_); refine callK1_of (Fn.ct c3 Tryd.call29) ?_)); (try simp (maxSteps := 1000000) (disch := refine hold_ ?_; first | (simp [kNil, vHash, vX, -List.getD_eq_getElem?_getD]; done) | omega) [kNil, vHash, vX, -List.getD_eq_getElem?_getD]); try first | (with_reducible refine zZ ?_) | subst hK_) | ((first | (with_reducible first | refine zP fun K_ hK_ => ?_ | refine zQ fun K_ hK_ => ?_ | refine zT ?_ | refine zU ?_ | refine zV ?_ | refine zW ?_ | refine zX ?_ | refine zY ?_) | ((with_reducible first | refine zR ?_ ?_ fun K_ hK_ => ?_ | refine zS ?_ ?_ fun K_ hK_ => ?_); (focus kernel_rfl); (focus kernel_rfl))); first | (simp (maxSteps := 1000000) (disch := refine hold_ ?_; first | (simp [kNil, vHash, vX, -List.getD_eq_getElem?_getD]; done) | omega) [kNil, vHash, vX, -List.getD_eq_getElem?_getD]; try first | (with_reducible refine zZ ?_) | subst hK_) | subst hK_) | (with_reducible first | refine zA ?_ | refine zB ?_ | refine zC ?_ | refine zD ?_ | refine zE ?_ | refine zF ?_ | refine zG ?_ | refine zH ?_ | refine zI ?_ | refine zJ ?_ | refine zK ?_ | refine zL ?_ | refine zM ?_ | refine zN ?_ | refine zO ?_) | ((with_reducible refine yG ?_ ?_); (focus decide)) | ((with_reducible refine yA ?_); refine yB rfl ?_; (with_reducible first | refine yC ?_ | refine yD ?_)))
        all_goals simp (maxSteps := 1000000) (disch := refine hold_ ?_; first | (simp [resV, -List.getD_eq_getElem?_getD]; done) | omega) [resV, -List.getD_eq_getElem?_getD]
      | true =>
        rw [hO] at c3
        have c4 := xml_ct (numN 10 d)
        unfold chV
        cases hx : xmlB (numN 10 d) with
        | false =>
          rw [hx] at c4
          generalize numN 10 d = n at *
          refine Fn.of_body Tryd.func18 rfl ?_
          repeat (first | ((with_reducible first | refine callK_at 27 ?_ | refine callK_at 29 ?_ | refine callK_at 24 ?_); refine callK_p ?_; simp (maxSteps := 1000000) (disch := refine hold_ ?_; first | (simp [kNil, vHash, vX, -List.getD_eq_getElem?_getD]; done) | omega) [kNil, vHash, vX, -List.getD_eq_getElem?_getD]; (first | ((with_reducible refine k1_at 27 ?_); refine callK1_of ((by first | exact Fn.ct c1 Tryd.call27 | exact Fn.ct c2 Tryd.call27)) ?_) | ((with_reducible refine k1_at 29 ?_); refine callK1_of (Fn.ct c3 Tryd.call29) ?_) | ((with_reducible refine k1_at 24 ?_); refine callK1_of (Fn.ct c4 Tryd.call24) ?_)); (try simp (maxSteps := 1000000) (disch := refine hold_ ?_; first | (simp [kNil, vHash, vX, -List.getD_eq_getElem?_getD]; done) | omega) [kNil, vHash, vX, -List.getD_eq_getElem?_getD]); try first | (with_reducible refine zZ ?_) | subst hK_) | ((first | (with_reducible first | refine zP fun K_ hK_ => ?_ | refine zQ fun K_ hK_ => ?_ | refine zT ?_ | refine zU ?_ | refine zV ?_ | refine zW ?_ | refine zX ?_ | refine zY ?_) | ((with_reducible first | refine zR ?_ ?_ fun K_ hK_ => ?_ | refine zS ?_ ?_ fun K_ hK_ => ?_); (focus kernel_rfl); (focus kernel_rfl))); first | (simp (maxSteps := 1000000) (disch := refine hold_ ?_; first | (simp [kNil, vHash, vX, -List.getD_eq_getElem?_getD]; done) | omega) [kNil, vHash, vX, -List.getD_eq_getElem?_getD]; try first | (with_reducible refine zZ ?_) | subst hK_) | subst hK_) | (with_reducible first | refine zA ?_ | refine zB ?_ | refine zC ?_ | refine zD ?_ | refine zE ?_ | refine zF ?_ | refine zG ?_ | refine zH ?_ | refine zI ?_ | refine zJ ?_ | refine zK ?_ | refine zL ?_ | refine zM ?_ | refine zN ?_ | refine zO ?_) | ((with_reducible refine yG ?_ ?_); (focus decide)) | ((with_reducible refine yA ?_); refine yB rfl ?_; (with_reducible first | refine yC ?_ | refine yD ?_)))
          all_goals simp (maxSteps := 1000000) (disch := refine hold_ ?_; first | (simp [resV, -List.getD_eq_getElem?_getD]; done) | omega) [resV, -List.getD_eq_getElem?_getD]
        | true =>
          rw [hx] at c4
          have c5 := ub1_ct _ (xml_char _ hx)
          generalize numN 10 d = n at *
          have hlp := encL_pos n
          generalize encL n = L at *
          refine Fn.of_body Tryd.func18 rfl ?_
          repeat (first | ((with_reducible first | refine callK_at 27 ?_ | refine callK_at 29 ?_ | refine callK_at 24 ?_ | refine callK_at 30 ?_); refine callK_p ?_; simp (maxSteps := 1000000) (disch := refine hold_ ?_; first | (simp [kNil, vHash, vX, hlp, -List.getD_eq_getElem?_getD]; done) | omega) [kNil, vHash, vX, hlp, -List.getD_eq_getElem?_getD]; (first | ((with_reducible refine k1_at 27 ?_); refine callK1_of ((by first | exact Fn.ct c1 Tryd.call27 | exact Fn.ct c2 Tryd.call27)) ?_) | ((with_reducible refine k1_at 29 ?_); refine callK1_of (Fn.ct c3 Tryd.call29) ?_) | ((with_reducible refine k1_at 24 ?_); refine callK1_of (Fn.ct c4 Tryd.call24) ?_) | ((with_reducible refine k1_at 30 ?_); refine callK1_of (Fn.ct c5 Tryd.call30) ?_)); (try simp (maxSteps := 1000000) (disch := refine hold_ ?_; first | (simp [kNil, vHash, vX, hlp, -List.getD_eq_getElem?_getD]; done) | omega) [kNil, vHash, vX, hlp, -List.getD_eq_getElem?_getD]); try first | (with_reducible refine zZ ?_) | subst hK_) | ((first | (with_reducible first | refine zP fun K_ hK_ => ?_ | refine zQ fun K_ hK_ => ?_ | refine zT ?_ | refine zU ?_ | refine zV ?_ | refine zW ?_ | refine zX ?_ | refine zY ?_) | ((with_reducible first | refine zR ?_ ?_ fun K_ hK_ => ?_ | refine zS ?_ ?_ fun K_ hK_ => ?_); (focus kernel_rfl); (focus kernel_rfl))); first | (simp (maxSteps := 1000000) (disch := refine hold_ ?_; first | (simp [kNil, vHash, vX, hlp, -List.getD_eq_getElem?_getD]; done) | omega) [kNil, vHash, vX, hlp, -List.getD_eq_getElem?_getD]; try first | (with_reducible refine zZ ?_) | subst hK_) | subst hK_) | (with_reducible first | refine zA ?_ | refine zB ?_ | refine zC ?_ | refine zD ?_ | refine zE ?_ | refine zF ?_ | refine zG ?_ | refine zH ?_ | refine zI ?_ | refine zJ ?_ | refine zK ?_ | refine zL ?_ | refine zM ?_ | refine zN ?_ | refine zO ?_) | ((with_reducible refine yG ?_ ?_); (focus decide)) | ((with_reducible refine yA ?_); refine yB rfl ?_; (with_reducible first | refine yC ?_ | refine yD ?_)))
          all_goals simp (maxSteps := 1000000) (disch := refine hold_ ?_; first | (simp [resV, -List.getD_eq_getElem?_getD]; done) | omega) [resV, -List.getD_eq_getElem?_getD]
          all_goals exact (str_of L).symm
  · rw [if_neg h1]
    rw [if_neg (by simpa using h1)] at c1
    have d1 : decide (s.head? = some 35#8) = false := by simpa using h1
    rw [d1] at c1
    have c2 := named_ct s
    cases hn : namedV s with
    | none =>
      rw [hn] at c2
      refine Fn.of_body Tryd.func18 rfl ?_
      repeat (first | ((with_reducible first | refine callK_at 27 ?_ | refine callK_at 28 ?_); refine callK_p ?_; simp (maxSteps := 1000000) (disch := refine hold_ ?_; first | (simp [kNil, vHash, vX, resV, -List.getD_eq_getElem?_getD]; done) | omega) [kNil, vHash, vX, resV, -List.getD_eq_getElem?_getD]; (first | ((with_reducible refine k1_at 27 ?_); refine callK1_of (Fn.ct c1 Tryd.call27) ?_) | ((with_reducible refine k1_at 28 ?_); refine callK1_of (Fn.ct c2 Tryd.call28) ?_)); (try simp (maxSteps := 1000000) (disch := refine hold_ ?_; first | (simp [kNil, vHash, vX, resV, -List.getD_eq_getElem?_getD]; done) | omega) [kNil, vHash, vX, resV, -List.getD_eq_getElem?_getD]); try first | (with_reducible refine zZ ?_) | subst hK_) | ((first | (with_reducible first | refine zP fun K_ hK_ => ?_ | refine zQ fun K_ hK_ => ?_ | refine zT ?_ | refine zU ?_ | refine zV ?_ | refine zW ?_ | refine zX ?_ | refine zY ?_) | ((with_reducible first | refine zR ?_ ?_ fun K_ hK_ => ?_ | refine zS ?_ ?_ fun K_ hK_ => ?_); (focus kernel_rfl); (focus kernel_rfl))); first | (simp (maxSteps := 1000000) (disch := refine hold_ ?_; first | (simp [kNil, vHash, vX, resV, -List.getD_eq_getElem?_getD]; done) | omega) [kNil, vHash, vX, resV, -List.getD_eq_getElem?_getD]; try first | (with_reducible refine zZ ?_) | subst hK_) | subst hK_) | (with_reducible first | refine zA ?_ | refine zB ?_ | refine zC ?_ | refine zD ?_ | refine zE ?_ | refine zF ?_ | refine zG ?_ | refine zH ?_ | refine zI ?_ | refine zJ ?_ | refine zK ?_ | refine zL ?_ | refine zM ?_ | refine zN ?_ | refine zO ?_) | ((with_reducible refine yG ?_ ?_); (focus decide)) | ((with_reducible refine yA ?_); refine yB rfl ?_; (with_reducible first | refine yC ?_ | refine yD ?_)))
      all_goals simp (maxSteps := 1000000) (disch := refine hold_ ?_; first | (simp [resV, -List.getD_eq_getElem?_getD]; done) | omega) [resV, -List.getD_eq_getElem?_getD]
    | some x =>
      rw [hn] at c2
      refine Fn.of_body Tryd.func18 rfl ?_
      repeat (first | ((with_reducible first | refine callK_at 27 ?_ | refine callK_at 28 ?_); refine callK_p ?_; simp (maxSteps := 1000000) (disch := refine hold_ ?_; first | (simp [kNil, vHash, vX, resV, -List.getD_eq_getElem?_getD]; done) | omega) [kNil, vHash, vX, resV, -List.getD_eq_getElem?_getD]; (first | ((with_reducible refine k1_at 27 ?_); refine callK1_of (Fn.ct c1 Tryd.call27) ?_) | ((with_reducible refine k1_at 28 ?_); refine callK1_of (Fn.ct c2 Tryd.call28) ?_)); (try simp (maxSteps := 1000000) (disch := refine hold_ ?_; first | (simp [kNil, vHash, vX, resV, -List.getD_eq_getElem?_getD]; done) | omega) [kNil, vHash, vX, resV, -List.getD_eq_getElem?_getD]); try first | (with_reducible refine zZ ?_) | subst hK_) | ((first | (with_reducible first | refine zP fun K_ hK_ => ?_ | refine zQ fun K_ hK_ => ?_ | refine zT ?_ | refine zU ?_ | refine zV ?_ | refine zW ?_ | refine zX ?_ | refine zY ?_) | ((with_reducible first | refine zR ?_ ?_ fun K_ hK_ => ?_ | refine zS ?_ ?_ fun K_ hK_ => ?_); (focus kernel_rfl); (focus kernel_rfl))); first | (simp (maxSteps := 1000000) (disch := refine hold_ ?_; first | (simp [kNil, vHash, vX, resV, -List.getD_eq_getElem?_getD]; done) | omega) [kNil, vHash, vX, resV, -List.getD_eq_getElem?_getD]; try first | (with_reducible refine zZ ?_) | subst hK_) | subst hK_) | (with_reducible first | refine zA ?_ | refine zB ?_ | refine zC ?_ | refine zD ?_ | refine zE ?_ | refine zF ?_ | refine zG ?_ | refine zH ?_ | refine zI ?_ | refine zJ ?_ | refine zK ?_ | refine zL ?_ | refine zM ?_ | refine zN ?_ | refine zO ?_) | ((with_reducible refine yG ?_ ?_); (focus decide)) | ((with_reducible refine yA ?_); refine yB rfl ?_; (with_reducible first | refine yC ?_ | refine yD ?_)))
      all_goals simp (maxSteps := 1000000) (disch := refine hold_ ?_; first | (simp [resV, -List.getD_eq_getElem?_getD]; done) | omega) [resV, -List.getD_eq_getElem?_getD]
end Go.Av.Chl
end
section
set_option linter.unusedSimpArgs false
set_option linter.unusedVariables false
set_option linter.unusedSectionVars false
open Go Go.Av Go.Proofs
namespace Go.Av.Chl
variable [ML]
def exF (g : BitVec 8 → BitVec 8) : Nat → List (BitVec 8) → Option (List (BitVec 8))
  | 0, _ => none
  | n + 1, s => match cutB 38#8 s with
    | none => some (s.map g)
    | some q => match cutB 59#8 q.2 with
      | none => none
      | some p => match standsV p.1 with
        | none => none
        | some x => (exF g n p.2).map fun y => q.1.map g ++ (x ++ y)
def exL (g : BitVec 8 → BitVec 8) (s : List (BitVec 8)) : Option (List (BitVec 8)) := exF g (s.length + 1) s
theorem cutB_len (d : BitVec 8) : ∀ (s : List (BitVec 8)) (q : List (BitVec 8) × List (BitVec 8)), cutB d s = some q → q.1.length + q.2.length + 1 = s.length
  | [], q, h => by simp [cutB] at h
  | c :: l, q, h => by
    simp only [cutB] at h
    split at h
    · simp only [Option.some.injEq] at h; subst h; simp
    · simp only [Option.map_eq_some_iff] at h
      obtain ⟨p, hp, rfl⟩ := h
      have := cutB_len d l p hp
      simp; omega
theorem exF_fuel (g : BitVec 8 → BitVec 8) : ∀ (n m : Nat) (s : List (BitVec 8)), s.length < n → s.length < m → exF g n s = exF g m s
  | 0, _, _, h, _ => absurd h (Nat.not_lt_zero _)
  | _, 0, _, _, h => absurd h (Nat.not_lt_zero _)
  | n + 1, m + 1, s, hn, hm => by
    simp only [exF]
    cases h1 : cutB 38#8 s with
    | none => rfl
    | some q =>
      have l1 := cutB_len _ _ _ h1
      simp only
      cases h2 : cutB 59#8 q.2 with
      | none => rfl
      | some p =>
        have l2 := cutB_len _ _ _ h2
        simp only
        cases standsV p.1 with
        | none => rfl
        | some x => simp only; rw [exF_fuel g n m p.2 (by omega) (by omega)]
theorem exL_none (g : BitVec 8 → BitVec 8) (s : List (BitVec 8)) (h : cutB 38#8 s = none) : exL g s = some (s.map g) := by
  unfold exL; simp only [exF, h]
theorem exL_bad (g : BitVec 8 → BitVec 8) (s a r : List (BitVec 8)) (h : cutB 38#8 s = some (a, r)) (h2 : cutB 59#8 r = none) : exL g s = none := by
  unfold exL; simp only [exF, h, h2]
theorem exL_bad2 (g : BitVec 8 → BitVec 8) (s a r i t : List (BitVec 8)) (h : cutB 38#8 s = some (a, r)) (h2 : cutB 59#8 r = some (i, t)) (h3 : standsV i = none) : exL g s = none := by
  unfold exL; simp only [exF, h, h2, h3]
theorem exL_go (g : BitVec 8 → BitVec 8) (s a r i t x : List (BitVec 8)) (h : cutB 38#8 s = some (a, r)) (h2 : cutB 59#8 r = some (i, t)) (h3 : standsV i = some x) : exL g s = (exL g t).map fun y => a.map g ++ (x ++ y) := by
  have l1 := cutB_len _ _ _ h
  have l2 := cutB_len _ _ _ h2
  simp only at l1 l2
  unfold exL
  conv => lhs; simp only [exF, h, h2, h3]
  rw [exF_fuel g s.length (t.length + 1) t (by omega) (by omega)]
theorem named_len (s x : List (BitVec 8)) (h : namedV s = some x) : x.length ≤ 4 := by
  unfold namedV at h
  (repeat' split at h) <;> first | (simp only [Option.some.injEq] at h; subst h; decide) | simp at h
theorem numV_len (b : Int) (s x : List (BitVec 8)) (h : numV b s = some x) : x.length ≤ 4 := by
  unfold numV chV at h
  (repeat' split at h) <;> first | (simp only [Option.some.injEq] at h; subst h; exact encL_len _) | simp at h
theorem standsV_len (s x : List (BitVec 8)) (h : standsV s = some x) : x.length ≤ 4 := by
  unfold standsV at h
  (repeat' split at h) <;> first | exact numV_len _ _ _ h | exact named_len _ _ h
def okX (s : List (BitVec 8)) : Bool := textB s && !(s.contains 60#8)
def expandV (g : BitVec 8 → BitVec 8) (s : List (BitVec 8)) : Option (List (BitVec 8)) := if okX s = true then exL g s else none
theorem vSemi : (ByteArray.mk #[59]) = txt [59#8] := rfl
def idB (b : BitVec 8) : BitVec 8 := b
theorem idB_map (l : List (BitVec 8)) : l.map idB = l := List.map_id' l
theorem idc_ct (l : List (BitVec 8)) : Fn Tryd.prog 11 [.str (txt l)] [.p (.str (txt (l.map idB)))] := by
  rw [idB_map]
  refine Fn.of_body Tryd.func11 rfl ?_
  repeat (first | ((first | (with_reducible first | refine zP fun K_ hK_ => ?_ | refine zQ fun K_ hK_ => ?_ | refine zT ?_ | refine zU ?_ | refine zV ?_ | refine zW ?_ | refine zX ?_ | refine zY ?_) | ((with_reducible first | refine zR ?_ ?_ fun K_ hK_ => ?_ | refine zS ?_ ?_ fun K_ hK_ => ?_); (focus kernel_rfl); (focus kernel_rfl))); first | (simp (maxSteps := 1000000) (disch := refine hold_ ?_; first | (simp [-List.getD_eq_getElem?_getD]; done) | omega) [-List.getD_eq_getElem?_getD]; try first | (with_reducible refine zZ ?_) | subst hK_) | subst hK_) | (with_reducible first | refine zA ?_ | refine zB ?_ | refine zC ?_ | refine zD ?_ | refine zE ?_ | refine zF ?_ | refine zG ?_ | refine zH ?_ | refine zI ?_ | refine zJ ?_ | refine zK ?_ | refine zL ?_ | refine zM ?_ | refine zN ?_ | refine zO ?_) | ((with_reducible refine yG ?_ ?_); (focus decide)) | ((with_reducible refine yA ?_); refine yB rfl ?_; (with_reducible first | refine yC ?_ | refine yD ?_)))
  all_goals simp (maxSteps := 1000000) (disch := refine hold_ ?_; first | (simp [-List.getD_eq_getElem?_getD]; done) | omega) [-List.getD_eq_getElem?_getD]
def exSt (pl : V) (ob : List (Nat × (Nat × HB))) (s o : List (BitVec 8)) : St := ⟨(.p (.str (txt s)) :: pl :: V.junk :: V.junk :: V.junk :: V.junk :: .ptr 6 0 0 :: V.junk :: V.junk :: V.junk :: V.junk :: V.junk :: V.junk :: V.junk :: V.junk :: V.junk :: V.junk :: V.junk :: V.junk :: V.junk :: V.junk :: V.junk :: V.junk :: V.junk :: V.junk :: V.junk :: V.junk :: V.junk :: V.junk :: V.junk :: V.junk :: V.junk :: V.junk :: V.junk :: V.junk :: V.junk :: V.junk :: V.junk :: V.junk :: V.junk :: V.junk :: V.junk :: V.junk :: V.junk :: V.junk :: V.junk :: V.junk :: V.junk :: V.junk :: V.junk :: V.junk :: V.junk :: V.junk :: V.junk :: V.junk :: V.junk :: []), ⟨ob ++ [(6, (0, .cells [.adr 6 0 0 36 2, .brow 5 (bl o) 0 0 (o.length == 0)]))], [(0, 0)]⟩⟩
theorem app_flag (a b : List (BitVec 8)) : ((a.length == 0) && (b.length == 0)) = ((a ++ b).length == 0) := by
  cases a <;> cases b <;> simp
def exIC (s : List (BitVec 8)) (m : Nat) (σ : St) : Prop := ∃ (t o : List (BitVec 8)), m = t.length ∧ o.length + 4 * t.length ≤ 4 * s.length ∧ σ = exSt (.p (.fn 11 (.vals 1 []))) [] t o ∧ exL idB s = (exL idB t).map fun y => o ++ y
set_option maxRecDepth 10000 in
set_option maxHeartbeats 20000000 in
theorem expandC_ct (s : List (BitVec 8)) (hs : s.length ≤ 4000000) : Fn Tryd.prog 10 [.str (txt s), .fn 11 (.vals 1 [])] (resV (expandV idB s)) := by
  refine Fn.of_body Tryd.func10 rfl ?_
  have k1 := utext_ct false s hs
  have k2 := contains_ct s 60#8
  have hb := txt_bytes s
  unfold expandV okX
  cases h1 : textB s with
  | false =>
    rw [h1] at k1
    rw [Bool.false_and, if_neg (by simp)]
    repeat (first | ((with_reducible first | refine callK_at 14 ?_); refine callK_p ?_; simp (maxSteps := 1000000) (disch := refine hold_ ?_; first | (simp [kNil, hb, vLt, -List.getD_eq_getElem?_getD]; done) | omega) [kNil, hb, vLt, -List.getD_eq_getElem?_getD]; (first | refine callK1_of (Fn.ct k1 Tryd.call14) ?_); (try simp (maxSteps := 1000000) (disch := refine hold_ ?_; first | (simp [kNil, hb, vLt, -List.getD_eq_getElem?_getD]; done) | omega) [kNil, hb, vLt, -List.getD_eq_getElem?_getD]); try first | (with_reducible refine zZ ?_) | subst hK_) | ((first | (with_reducible first | refine zP fun K_ hK_ => ?_ | refine zQ fun K_ hK_ => ?_ | refine zT ?_ | refine zU ?_ | refine zV ?_ | refine zW ?_ | refine zX ?_ | refine zY ?_) | ((with_reducible first | refine zR ?_ ?_ fun K_ hK_ => ?_ | refine zS ?_ ?_ fun K_ hK_ => ?_); (focus kernel_rfl); (focus kernel_rfl))); first | (simp (maxSteps := 1000000) (disch := refine hold_ ?_; first | (simp [kNil, hb, vLt, -List.getD_eq_getElem?_getD]; done) | omega) [kNil, hb, vLt, -List.getD_eq_getElem?_getD]; try first | (with_reducible refine zZ ?_) | subst hK_) | subst hK_) | (with_reducible first | refine zA ?_ | refine zB ?_ | refine zC ?_ | refine zD ?_ | refine zE ?_ | refine zF ?_ | refine zG ?_ | refine zH ?_ | refine zI ?_ | refine zJ ?_ | refine zK ?_ | refine zL ?_ | refine zM ?_ | refine zN ?_ | refine zO ?_) | ((with_reducible refine yG ?_ ?_); (focus decide)) | ((with_reducible refine yA ?_); refine yB rfl ?_; (with_reducible first | refine yC ?_ | refine yD ?_)))
    all_goals simp (maxSteps := 1000000) (disch := refine hold_ ?_; first | (simp [resV, -List.getD_eq_getElem?_getD]; done) | omega) [resV, -List.getD_eq_getElem?_getD]
  | true =>
  rw [h1] at k1
  cases h2 : s.contains 60#8 with
  | true =>
    rw [h2] at k2
    rw [if_neg (by simp)]
    repeat (first | ((with_reducible first | refine callK_at 14 ?_ | refine callK_at 9 ?_); refine callK_p ?_; simp (maxSteps := 1000000) (disch := refine hold_ ?_; first | (simp [kNil, hb, vLt, -List.getD_eq_getElem?_getD]; done) | omega) [kNil, hb, vLt, -List.getD_eq_getElem?_getD]; (first | ((with_reducible refine k1_at 14 ?_); refine callK1_of (Fn.ct k1 Tryd.call14) ?_) | ((with_reducible refine k1_at 9 ?_); refine callK1_of (Fn.ct k2 Tryd.call9) ?_)); (try simp (maxSteps := 1000000) (disch := refine hold_ ?_; first | (simp [kNil, hb, vLt, -List.getD_eq_getElem?_getD]; done) | omega) [kNil, hb, vLt, -List.getD_eq_getElem?_getD]); try first | (with_reducible refine zZ ?_) | subst hK_) | ((first | (with_reducible first | refine zP fun K_ hK_ => ?_ | refine zQ fun K_ hK_ => ?_ | refine zT ?_ | refine zU ?_ | refine zV ?_ | refine zW ?_ | refine zX ?_ | refine zY ?_) | ((with_reducible first | refine zR ?_ ?_ fun K_ hK_ => ?_ | refine zS ?_ ?_ fun K_ hK_ => ?_); (focus kernel_rfl); (focus kernel_rfl))); first | (simp (maxSteps := 1000000) (disch := refine hold_ ?_; first | (simp [kNil, hb, vLt, -List.getD_eq_getElem?_getD]; done) | omega) [kNil, hb, vLt, -List.getD_eq_getElem?_getD]; try first | (with_reducible refine zZ ?_) | subst hK_) | subst hK_) | (with_reducible first | refine zA ?_ | refine zB ?_ | refine zC ?_ | refine zD ?_ | refine zE ?_ | refine zF ?_ | refine zG ?_ | refine zH ?_ | refine zI ?_ | refine zJ ?_ | refine zK ?_ | refine zL ?_ | refine zM ?_ | refine zN ?_ | refine zO ?_) | ((with_reducible refine yG ?_ ?_); (focus decide)) | ((with_reducible refine yA ?_); refine yB rfl ?_; (with_reducible first | refine yC ?_ | refine yD ?_)))
    all_goals simp (maxSteps := 1000000) (disch := refine hold_ ?_; first | (simp [resV, -List.getD_eq_getElem?_getD]; done) | omega) [resV, -List.getD_eq_getElem?_getD]
  | false =>
  rw [h2] at k2
  rw [if_pos (by simp)]
  repeat (first | ((with_reducible first | refine callK_at 14 ?_ | refine callK_at 9 ?_); refine callK_p ?_; simp (maxSteps := 1000000) (disch := refine hold_ ?_; first | (simp [kNil, hb, vLt, -List.getD_eq_getElem?_getD]; done) | omega) [kNil, hb, vLt, -List.getD_eq_getElem?_getD]; (first | ((with_reducible refine k1_at 14 ?_); refine callK1_of (Fn.ct k1 Tryd.call14) ?_) | ((with_reducible refine k1_at 9 ?_); refine callK1_of (Fn.ct k2 Tryd.call9) ?_)); (try simp (maxSteps := 1000000) (disch := refine hold_ ?_; first | (simp [kNil, hb, vLt, -List.getD_eq_getElem?_getD]; done) | omega) [kNil, hb, vLt, -List.getD_eq_getElem?_getD]); try first | (with_reducible refine zZ ?_) | subst hK_) | ((first | (with_reducible first | refine zP fun K_ hK_ => ?_ | refine zQ fun K_ hK_ => ?_ | refine zT ?_ | refine zU ?_ | refine zV ?_ | refine zW ?_ | refine zX ?_ | refine zY ?_) | ((with_reducible first | refine zR ?_ ?_ fun K_ hK_ => ?_ | refine zS ?_ ?_ fun K_ hK_ => ?_); (focus kernel_rfl); (focus kernel_rfl))); first | (simp (maxSteps := 1000000) (disch := refine hold_ ?_; first | (simp [kNil, hb, vLt, -List.getD_eq_getElem?_getD]; done) | omega) [kNil, hb, vLt, -List.getD_eq_getElem?_getD]; try first | (with_reducible refine zZ ?_) | subst hK_) | subst hK_) | (with_reducible first | refine zA ?_ | refine zB ?_ | refine zC ?_ | refine zD ?_ | refine zE ?_ | refine zF ?_ | refine zG ?_ | refine zH ?_ | refine zI ?_ | refine zJ ?_ | refine zK ?_ | refine zL ?_ | refine zM ?_ | refine zN ?_ | refine zO ?_) | ((with_reducible refine yG ?_ ?_); (focus decide)) | ((with_reducible refine yA ?_); refine yB rfl ?_; (with_reducible first | refine yC ?_ | refine yD ?_)))
  clear k1 k2 hb
  refine AW.nilBuf 6 1 5 (bl []) 6 0 _ _ rfl rfl rfl ?_
  refine AW.iterI (true :: true :: false :: false :: false :: false :: true :: false :: false :: false :: false :: false :: false :: false :: false :: false :: false :: false :: false :: false :: false :: false :: false :: false :: false :: false :: false :: false :: false :: false :: false :: false :: false :: false :: false :: false :: false :: false :: false :: false :: false :: false :: false :: false :: false :: false :: false :: false :: false :: false :: false :: false :: false :: false :: false :: false :: []) s.length (exIC s) (τ := exSt (.p (.fn 11 (.vals 1 []))) [] s []) ?_ ⟨s, [], rfl, by simp, rfl, by simp⟩ ?_
  · unfold exSt
    simp (maxSteps := 1000000) (disch := refine hold_ ?_; first | (simp [-List.getD_eq_getElem?_getD]; done) | omega) [-List.getD_eq_getElem?_getD]
  rintro m σ ⟨t, o, rfl, hlen, rfl, hI⟩
  have hcut := cut_ct t 38#8 (by omega)
  have hws := fun c hc => ws_ct o (o.length == 0) c (by omega) hc
  simp only [app_flag] at hws
  cases h3 : cutB 38#8 t with
  | none =>
    rw [h3] at hcut
    rw [exL_none _ _ h3, Option.map_some] at hI
    rw [hI]
    have hid := idc_ct t
    rw [idB_map] at hid ⊢
    have hw := hws t (by omega)
    have hol : (o ++ t).length ≤ 140737488355328 := by rw [List.length_append]; omega
    generalize o ++ t = O at *
    unfold exSt
    repeat (first | ((with_reducible first | refine callK_at 15 ?_ | refine callK_at 11 ?_); refine callK_p ?_; simp (maxSteps := 1000000) (disch := refine hold_ ?_; first | (simp [kNil, vAmp, cutR, -List.getD_eq_getElem?_getD]; done) | omega) [kNil, vAmp, cutR, -List.getD_eq_getElem?_getD]; (first | ((with_reducible refine k1_at 15 ?_); refine callK1_of (Fn.ct hcut Tryd.call15) ?_) | ((with_reducible refine k1_at 11 ?_); refine callK1_of (Fn.ct hid Tryd.call11) ?_)); (try simp (maxSteps := 1000000) (disch := refine hold_ ?_; first | (simp [kNil, vAmp, cutR, -List.getD_eq_getElem?_getD]; done) | omega) [kNil, vAmp, cutR, -List.getD_eq_getElem?_getD]); try first | (with_reducible refine zZ ?_) | subst hK_) | ((with_reducible first | refine callK_at 16 ?_); refine callK_o (by first | decide | exact Nat.le_of_ble_eq_true rfl) ?_; simp (maxSteps := 1000000) (disch := refine hold_ ?_; first | (simp [kNil, vAmp, cutR, -List.getD_eq_getElem?_getD]; done) | omega) [kNil, vAmp, cutR, -List.getD_eq_getElem?_getD]; (first | refine callK3_of (FnG.ct hw Tryd.call16) ?_); (try simp (maxSteps := 1000000) (disch := refine hold_ ?_; first | (simp [kNil, vAmp, cutR, -List.getD_eq_getElem?_getD]; done) | omega) [kNil, vAmp, cutR, -List.getD_eq_getElem?_getD]); try first | (with_reducible refine zZ ?_) | subst hK_) | ((first | (with_reducible first | refine zP fun K_ hK_ => ?_ | refine zQ fun K_ hK_ => ?_ | refine zT ?_ | refine zU ?_ | refine zV ?_ | refine zW ?_ | refine zX ?_ | refine zY ?_) | ((with_reducible first | refine zR ?_ ?_ fun K_ hK_ => ?_ | refine zS ?_ ?_ fun K_ hK_ => ?_); (focus kernel_rfl); (focus kernel_rfl))); first | (simp (maxSteps := 1000000) (disch := refine hold_ ?_; first | (simp [kNil, vAmp, cutR, -List.getD_eq_getElem?_getD]; done) | omega) [kNil, vAmp, cutR, -List.getD_eq_getElem?_getD]; try first | (with_reducible refine zZ ?_) | subst hK_) | subst hK_) | (with_reducible first | refine zA ?_ | refine zB ?_ | refine zC ?_ | refine zD ?_ | refine zE ?_ | refine zF ?_ | refine zG ?_ | refine zH ?_ | refine zI ?_ | refine zJ ?_ | refine zK ?_ | refine zL ?_ | refine zM ?_ | refine zN ?_ | refine zO ?_) | ((with_reducible refine yG ?_ ?_); (focus decide)) | ((with_reducible refine yA ?_); refine yB rfl ?_; (with_reducible first | refine yC ?_ | refine yD ?_)))
    refine callK_str (Nat.le_of_ble_eq_true rfl) str_ok rfl rfl rfl hol rfl ?_
    repeat (first | ((first | (with_reducible first | refine zP fun K_ hK_ => ?_ | refine zQ fun K_ hK_ => ?_ | refine zT ?_ | refine zU ?_ | refine zV ?_ | refine zW ?_ | refine zX ?_ | refine zY ?_) | ((with_reducible first | refine zR ?_ ?_ fun K_ hK_ => ?_ | refine zS ?_ ?_ fun K_ hK_ => ?_); (focus kernel_rfl); (focus kernel_rfl))); first | (simp (maxSteps := 1000000) (disch := refine hold_ ?_; first | (simp [-List.getD_eq_getElem?_getD]; done) | omega) [-List.getD_eq_getElem?_getD]; try first | (with_reducible refine zZ ?_) | subst hK_) | subst hK_) | (with_reducible first | refine zA ?_ | refine zB ?_ | refine zC ?_ | refine zD ?_ | refine zE ?_ | refine zF ?_ | refine zG ?_ | refine zH ?_ | refine zI ?_ | refine zJ ?_ | refine zK ?_ | refine zL ?_ | refine zM ?_ | refine zN ?_ | refine zO ?_) | ((with_reducible refine yG ?_ ?_); (focus decide)) | ((with_reducible refine yA ?_); refine yB rfl ?_; (with_reducible first | refine yC ?_ | refine yD ?_)))
    all_goals simp (maxSteps := 1000000) (disch := refine hold_ ?_; first | (simp [resV, -List.getD_eq_getElem?_getD]; done) | omega) [resV, -List.getD_eq_getElem?_getD]
  | some q =>
    obtain ⟨a, r⟩ := q
    rw [h3] at hcut
    have l1 := cutB_len _ _ _ h3
    simp only at l1
    have hcut2 := cut_ct r 59#8 (by omega)
    have hid := idc_ct a
    have hma := idB_map a
    rw [hma] at hid
    have hw := hws a (by omega)
    cases h4 : cutB 59#8 r with
    | none =>
      rw [h4] at hcut2
      rw [exL_bad _ _ _ _ h3 h4, Option.map_none] at hI
      rw [hI]
      have hst := stands_ct r (by omega)
      generalize o ++ a = O at *
      cases h5 : standsV r with
      | none =>
        rw [h5] at hst
        unfold exSt
        repeat (first | ((with_reducible first | refine callK_at 15 ?_ | refine callK_at 11 ?_ | refine callK_at 18 ?_); refine callK_p ?_; simp (maxSteps := 1000000) (disch := refine hold_ ?_; first | (simp [kNil, vAmp, vSemi, cutR, resV, -List.getD_eq_getElem?_getD]; done) | omega) [kNil, vAmp, vSemi, cutR, resV, -List.getD_eq_getElem?_getD]; (first | ((with_reducible refine k1_at 15 ?_); refine callK1_of ((by first | exact Fn.ct hcut Tryd.call15 | exact Fn.ct hcut2 Tryd.call15)) ?_) | ((with_reducible refine k1_at 11 ?_); refine callK1_of (Fn.ct hid Tryd.call11) ?_) | ((with_reducible refine k1_at 18 ?_); refine callK1_of (Fn.ct hst Tryd.call18) ?_)); (try simp (maxSteps := 1000000) (disch := refine hold_ ?_; first | (simp [kNil, vAmp, vSemi, cutR, resV, -List.getD_eq_getElem?_getD]; done) | omega) [kNil, vAmp, vSemi, cutR, resV, -List.getD_eq_getElem?_getD]); try first | (with_reducible refine zZ ?_) | subst hK_) | ((with_reducible first | refine callK_at 16 ?_); refine callK_o (by first | decide | exact Nat.le_of_ble_eq_true rfl) ?_; simp (maxSteps := 1000000) (disch := refine hold_ ?_; first | (simp [kNil, vAmp, vSemi, cutR, resV, -List.getD_eq_getElem?_getD]; done) | omega) [kNil, vAmp, vSemi, cutR, resV, -List.getD_eq_getElem?_getD]; (first | refine callK3_of (FnG.ct hw Tryd.call16) ?_); (try simp (maxSteps := 1000000) (disch := refine hold_ ?_; first | (simp [kNil, vAmp, vSemi, cutR, resV, -List.getD_eq_getElem?_getD]; done) | omega) [kNil, vAmp, vSemi, cutR, resV, -List.getD_eq_getElem?_getD]); try first | (with_reducible refine zZ ?_) | subst hK_) | ((first | (with_reducible first | refine zP fun K_ hK_ => ?_ | refine zQ fun K_ hK_ => ?_ | refine zT ?_ | refine zU ?_ | refine zV ?_ | refine zW ?_ | refine zX ?_ | refine zY ?_) | ((with_reducible first | refine zR ?_ ?_ fun K_ hK_ => ?_ | refine zS ?_ ?_ fun K_ hK_ => ?_); (focus kernel_rfl); (focus kernel_rfl))); first | (simp (maxSteps := 1000000) (disch := refine hold_ ?_; first | (simp [kNil, vAmp, vSemi, cutR, resV, -List.getD_eq_getElem?_getD]; done) | omega) [kNil, vAmp, vSemi, cutR, resV, -List.getD_eq_getElem?_getD]; try first | (with_reducible refine zZ ?_) | subst hK_) | subst hK_) | (with_reducible first | refine zA ?_ | refine zB ?_ | refine zC ?_ | refine zD ?_ | refine zE ?_ | refine zF ?_ | refine zG ?_ | refine zH ?_ | refine zI ?_ | refine zJ ?_ | refine zK ?_ | refine zL ?_ | refine zM ?_ | refine zN ?_ | refine zO ?_) | ((with_reducible refine yG ?_ ?_); (focus decide)) | ((with_reducible refine yA ?_); refine yB rfl ?_; (with_reducible first | refine yC ?_ | refine yD ?_)))
        all_goals simp (maxSteps := 1000000) (disch := refine hold_ ?_; first | (simp [resV, -List.getD_eq_getElem?_getD]; done) | omega) [resV, -List.getD_eq_getElem?_getD]
      | some x =>
        rw [h5] at hst
        unfold exSt
        repeat (first | ((with_reducible first | refine callK_at 15 ?_ | refine callK_at 11 ?_ | refine callK_at 18 ?_); refine callK_p ?_; simp (maxSteps := 1000000) (disch := refine hold_ ?_; first | (simp [kNil, vAmp, vSemi, cutR, resV, -List.getD_eq_getElem?_getD]; done) | omega) [kNil, vAmp, vSemi, cutR, resV, -List.getD_eq_getElem?_getD]; (first | ((with_reducible refine k1_at 15 ?_); refine callK1_of ((by first | exact Fn.ct hcut Tryd.call15 | exact Fn.ct hcut2 Tryd.call15)) ?_) | ((with_reducible refine k1_at 11 ?_); refine callK1_of (Fn.ct hid Tryd.call11) ?_) | ((with_reducible refine k1_at 18 ?_); refine callK1_of (Fn.ct hst Tryd.call18) ?_)); (try simp (maxSteps := 1000000) (disch := refine hold_ ?_; first | (simp [kNil, vAmp, vSemi, cutR, resV, -List.getD_eq_getElem?_getD]; done) | omega) [kNil, vAmp, vSemi, cutR, resV, -List.getD_eq_getElem?_getD]); try first | (with_reducible refine zZ ?_) | subst hK_) | ((with_reducible first | refine callK_at 16 ?_); refine callK_o (by first | decide | exact Nat.le_of_ble_eq_true rfl) ?_; simp (maxSteps := 1000000) (disch := refine hold_ ?_; first | (simp [kNil, vAmp, vSemi, cutR, resV, -List.getD_eq_getElem?_getD]; done) | omega) [kNil, vAmp, vSemi, cutR, resV, -List.getD_eq_getElem?_getD]; (first | refine callK3_of (FnG.ct hw Tryd.call16) ?_); (try simp (maxSteps := 1000000) (disch := refine hold_ ?_; first | (simp [kNil, vAmp, vSemi, cutR, resV, -List.getD_eq_getElem?_getD]; done) | omega) [kNil, vAmp, vSemi, cutR, resV, -List.getD_eq_getElem?_getD]); try first | (with_reducible refine zZ ?_) | subst hK_) | ((first | (with_reducible first | refine zP fun K_ hK_ => ?_ | refine zQ fun K_ hK_ => ?_ | refine zT ?_ | refine zU ?_ | refine zV ?_ | refine zW ?_ | refine zX ?_ | refine zY ?_) | ((with_reducible first | refine zR ?_ ?_ fun K_ hK_ => ?_ | refine zS ?_ ?_ fun K_ hK_ => ?_); (focus kernel_rfl); (focus kernel_rfl))); first | (simp (maxSteps := 1000000) (disch := refine hold_ ?_; first | (simp [kNil, vAmp, vSemi, cutR, resV, -List.getD_eq_getElem?_getD]; done) | omega) [kNil, vAmp, vSemi, cutR, resV, -List.getD_eq_getElem?_getD]; try first | (with_reducible refine zZ ?_) | subst hK_) | subst hK_) | (with_reducible first | refine zA ?_ | refine zB ?_ | refine zC ?_ | refine zD ?_ | refine zE ?_ | refine zF ?_ | refine zG ?_ | refine zH ?_ | refine zI ?_ | refine zJ ?_ | refine zK ?_ | refine zL ?_ | refine zM ?_ | refine zN ?_ | refine zO ?_) | ((with_reducible refine yG ?_ ?_); (focus decide)) | ((with_reducible refine yA ?_); refine yB rfl ?_; (with_reducible first | refine yC ?_ | refine yD ?_)))
        all_goals simp (maxSteps := 1000000) (disch := refine hold_ ?_; first | (simp [resV, -List.getD_eq_getElem?_getD]; done) | omega) [resV, -List.getD_eq_getElem?_getD]
    | some q =>
      obtain ⟨i, t'⟩ := q
      rw [h4] at hcut2
      have l2 := cutB_len _ _ _ h4
      simp only at l2
      have hst := stands_ct i (by omega)
      cases h5 : standsV i with
      | none =>
        rw [h5] at hst
        rw [exL_bad2 _ _ _ _ _ _ h3 h4 h5, Option.map_none] at hI
        rw [hI]
        generalize o ++ a = O at *
        unfold exSt
        repeat (first | ((with_reducible first | refine callK_at 15 ?_ | refine callK_at 11 ?_ | refine callK_at 18 ?_); refine callK_p ?_; simp (maxSteps := 1000000) (disch := refine hold_ ?_; first | (simp [kNil, vAmp, vSemi, cutR, resV, -List.getD_eq_getElem?_getD]; done) | omega) [kNil, vAmp, vSemi, cutR, resV, -List.getD_eq_getElem?_getD]; (first | ((with_reducible refine k1_at 15 ?_); refine callK1_of ((by first | exact Fn.ct hcut Tryd.call15 | exact Fn.ct hcut2 Tryd.call15)) ?_) | ((with_reducible refine k1_at 11 ?_); refine callK1_of (Fn.ct hid Tryd.call11) ?_) | ((with_reducible refine k1_at 18 ?_); refine callK1_of (Fn.ct hst Tryd.call18) ?_)); (try simp (maxSteps := 1000000) (disch := refine hold_ ?_; first | (simp [kNil, vAmp, vSemi, cutR, resV, -List.getD_eq_getElem?_getD]; done) | omega) [kNil, vAmp, vSemi, cutR, resV, -List.getD_eq_getElem?_getD]); try first | (with_reducible refine zZ ?_) | subst hK_) | ((with_reducible first | refine callK_at 16 ?_); refine callK_o (by first | decide | exact Nat.le_of_ble_eq_true rfl) ?_; simp (maxSteps := 1000000) (disch := refine hold_ ?_; first | (simp [kNil, vAmp, vSemi, cutR, resV, -List.getD_eq_getElem?_getD]; done) | omega) [kNil, vAmp, vSemi, cutR, resV, -List.getD_eq_getElem?_getD]; (first | refine callK3_of (FnG.ct hw Tryd.call16) ?_); (try simp (maxSteps := 1000000) (disch := refine hold_ ?_; first | (simp [kNil, vAmp, vSemi, cutR, resV, -List.getD_eq_getElem?_getD]; done) | omega) [kNil, vAmp, vSemi, cutR, resV, -List.getD_eq_getElem?_getD]); try first | (with_reducible refine zZ ?_) | subst hK_) | ((first | (with_reducible first | refine zP fun K_ hK_ => ?_ | refine zQ fun K_ hK_ => ?_ | refine zT ?_ | refine zU ?_ | refine zV ?_ | refine zW ?_ | refine zX ?_ | refine zY ?_) | ((with_reducible first | refine zR ?_ ?_ fun K_ hK_ => ?_ | refine zS ?_ ?_ fun K_ hK_ => ?_); (focus kernel_rfl); (focus kernel_rfl))); first | (simp (maxSteps := 1000000) (disch := refine hold_ ?_; first | (simp [kNil, vAmp, vSemi, cutR, resV, -List.getD_eq_getElem?_getD]; done) | omega) [kNil, vAmp, vSemi, cutR, resV, -List.getD_eq_getElem?_getD]; try first | (with_reducible refine zZ ?_) | subst hK_) | subst hK_) | (with_reducible first | refine zA ?_ | refine zB ?_ | refine zC ?_ | refine zD ?_ | refine zE ?_ | refine zF ?_ | refine zG ?_ | refine zH ?_ | refine zI ?_ | refine zJ ?_ | refine zK ?_ | refine zL ?_ | refine zM ?_ | refine zN ?_ | refine zO ?_) | ((with_reducible refine yG ?_ ?_); (focus decide)) | ((with_reducible refine yA ?_); refine yB rfl ?_; (with_reducible first | refine yC ?_ | refine yD ?_)))
        all_goals simp (maxSteps := 1000000) (disch := refine hold_ ?_; first | (simp [resV, -List.getD_eq_getElem?_getD]; done) | omega) [resV, -List.getD_eq_getElem?_getD]
      | some x =>
        rw [h5] at hst
        have hxl := standsV_len _ _ h5
        rw [exL_go _ _ _ _ _ _ _ h3 h4 h5, Option.map_map] at hI
        have hI2 : exL idB s = (exL idB t').map fun y => ((o ++ a) ++ x) ++ y := by
          rw [hI]; congr 1; funext y; simp [hma]
        clear hI
        have hwx := ws_ct (o ++ a) ((o ++ a).length == 0) x (by rw [List.length_append]; omega) (by omega)
        rw [app_flag] at hwx
        have hlen2 : ((o ++ a) ++ x).length + 4 * t'.length ≤ 4 * s.length := by simp only [List.length_append]; omega
        generalize o ++ a = O at *
        generalize O ++ x = O2 at *
        unfold exSt
        repeat (first | ((with_reducible first | refine callK_at 15 ?_ | refine callK_at 11 ?_ | refine callK_at 18 ?_); refine callK_p ?_; simp (maxSteps := 1000000) (disch := refine hold_ ?_; first | (simp [kNil, vAmp, vSemi, cutR, resV, -List.getD_eq_getElem?_getD]; done) | omega) [kNil, vAmp, vSemi, cutR, resV, -List.getD_eq_getElem?_getD]; (first | ((with_reducible refine k1_at 15 ?_); refine callK1_of ((by first | exact Fn.ct hcut Tryd.call15 | exact Fn.ct hcut2 Tryd.call15)) ?_) | ((with_reducible refine k1_at 11 ?_); refine callK1_of (Fn.ct hid Tryd.call11) ?_) | ((with_reducible refine k1_at 18 ?_); refine callK1_of (Fn.ct hst Tryd.call18) ?_)); (try simp (maxSteps := 1000000) (disch := refine hold_ ?_; first | (simp [kNil, vAmp, vSemi, cutR, resV, -List.getD_eq_getElem?_getD]; done) | omega) [kNil, vAmp, vSemi, cutR, resV, -List.getD_eq_getElem?_getD]); try first | (with_reducible refine zZ ?_) | subst hK_) | ((with_reducible first | refine callK_at 16 ?_); refine callK_o (by first | decide | exact Nat.le_of_ble_eq_true rfl) ?_; simp (maxSteps := 1000000) (disch := refine hold_ ?_; first | (simp [kNil, vAmp, vSemi, cutR, resV, -List.getD_eq_getElem?_getD]; done) | omega) [kNil, vAmp, vSemi, cutR, resV, -List.getD_eq_getElem?_getD]; (first | refine callK3_of ((by first | exact FnG.ct hw Tryd.call16 | exact FnG.ct hwx Tryd.call16)) ?_); (try simp (maxSteps := 1000000) (disch := refine hold_ ?_; first | (simp [kNil, vAmp, vSemi, cutR, resV, -List.getD_eq_getElem?_getD]; done) | omega) [kNil, vAmp, vSemi, cutR, resV, -List.getD_eq_getElem?_getD]); try first | (with_reducible refine zZ ?_) | subst hK_) | ((first | (with_reducible first | refine zP fun K_ hK_ => ?_ | refine zQ fun K_ hK_ => ?_ | refine zT ?_ | refine zU ?_ | refine zV ?_ | refine zW ?_ | refine zX ?_ | refine zY ?_) | ((with_reducible first | refine zR ?_ ?_ fun K_ hK_ => ?_ | refine zS ?_ ?_ fun K_ hK_ => ?_); (focus kernel_rfl); (focus kernel_rfl))); first | (simp (maxSteps := 1000000) (disch := refine hold_ ?_; first | (simp [kNil, vAmp, vSemi, cutR, resV, -List.getD_eq_getElem?_getD]; done) | omega) [kNil, vAmp, vSemi, cutR, resV, -List.getD_eq_getElem?_getD]; try first | (with_reducible refine zZ ?_) | subst hK_) | subst hK_) | (with_reducible first | refine zA ?_ | refine zB ?_ | refine zC ?_ | refine zD ?_ | refine zE ?_ | refine zF ?_ | refine zG ?_ | refine zH ?_ | refine zI ?_ | refine zJ ?_ | refine zK ?_ | refine zL ?_ | refine zM ?_ | refine zN ?_ | refine zO ?_) | ((with_reducible refine yG ?_ ?_); (focus decide)) | ((with_reducible refine yA ?_); refine yB rfl ?_; (with_reducible first | refine yC ?_ | refine yD ?_)))
        first | refine ⟨t'.length, by omega, exSt (.p (.fn 11 (.vals 1 []))) [] t' O2, ?_, t', O2, rfl, hlen2, rfl, hI2⟩ | refine ⟨t'.length, exSt (.p (.fn 11 (.vals 1 []))) [] t' O2, by omega, ?_, t', O2, rfl, hlen2, rfl, hI2⟩
        unfold exSt
        simp (maxSteps := 1000000) (disch := refine hold_ ?_; first | (simp [-List.getD_eq_getElem?_getD]; done) | omega) [-List.getD_eq_getElem?_getD]
end Go.Av.Chl
end
section
set_option linter.unusedSimpArgs false
set_option linter.unusedVariables false
open Go
namespace Go.Av.Chl
def repA (old new s : List UInt8) : List UInt8 := Lib.replaceK old new (Lib.count s old) s
theorem repA_nil {old : List UInt8} (new : List UInt8) (h : old ≠ []) : repA old new [] = [] := by
  have h1 : Lib.index [] old = -1 := by cases old with
    | nil => exact absurd rfl h
    | cons b l => rfl
  unfold repA; rw [Lib.count_miss h1]; rfl
theorem repA_hit {old : List UInt8} (new t : List UInt8) (h : old ≠ []) : repA old new (old ++ t) = new ++ repA old new t := by
  have h1 : Lib.index (old ++ t) old = ((0 : Nat) : Int) := by
    cases old with
    | nil => exact absurd rfl h
    | cons b l =>
      rw [List.cons_append, Lib.index, if_pos]; rfl
      rw [List.isPrefixOf_iff_prefix]
      exact ⟨t, by simp⟩
  unfold repA
  rw [Lib.count_hit h h1, Nat.add_comm 1, Lib.replaceK_hit _ _ _ _ _ h1]
  simp
theorem repA_cons {old : List UInt8} (new : List UInt8) (b : UInt8) (l : List UInt8) (h : old ≠ []) (hp : old.isPrefixOf (b :: l) = false) : repA old new (b :: l) = b :: repA old new l := by
  have e : Lib.index (b :: l) old = if Lib.index l old == -1 then -1 else Lib.index l old + 1 := by
    rw [Lib.index, hp]; rfl
  have hg := Lib.index_ge l old
  by_cases hm : Lib.index l old = -1
  · rw [hm] at e
    have e' : Lib.index (b :: l) old = -1 := e
    unfold repA; rw [Lib.count_miss hm, Lib.count_miss e']; rfl
  · obtain ⟨i, hi⟩ : ∃ i : Nat, Lib.index l old = i := ⟨(Lib.index l old).toNat, by omega⟩
    have e' : Lib.index (b :: l) old = ((i + 1 : Nat) : Int) := by
      rw [e, if_neg (by simpa using hm), hi]; rfl
    unfold repA
    rw [Lib.count_hit h hi, Lib.count_hit h e', Nat.add_comm 1, Nat.add_comm 1, Lib.replaceK_hit _ _ _ _ _ hi, Lib.replaceK_hit _ _ _ _ _ e']
    have ed : (b :: l).drop (i + 1 + old.length) = l.drop (i + old.length) := by
      rw [show i + 1 + old.length = (i + old.length) + 1 by omega]; rfl
    rw [ed]; simp
theorem replaceAll_eq {old new : List UInt8} (s : List UInt8) (hn : old ≠ new) : Lib.replaceAll s old new = repA old new s := by
  unfold Lib.replaceAll Lib.replace
  rw [if_neg (by simpa using hn)]
  unfold repA Lib.replaceNum
  rw [if_pos (Or.inl (by omega))]
def u8 (x : BitVec 8) : UInt8 := UInt8.ofBitVec x
theorem u8_inj {x y : BitVec 8} : u8 x = u8 y ↔ x = y := ⟨fun h => congrArg UInt8.toBitVec h, fun h => h ▸ rfl⟩
def crlf : List (BitVec 8) → List (BitVec 8)
  | [] => []
  | b :: l => if b = 13#8 ∧ l.head? = some 10#8 then crlf l else b :: crlf l
theorem repA_crlf : ∀ (n : Nat) (l : List (BitVec 8)), l.length ≤ n → repA [13, 10] [10] (l.map u8) = (crlf l).map u8
  | _, [], _ => by rw [List.map_nil, repA_nil _ (by simp)]; rfl
  | 0, _ :: _, h => by simp at h
  | n + 1, b :: l, h => by
    have hl : l.length ≤ n := by simpa using h
    by_cases hc : b = 13#8 ∧ l.head? = some 10#8
    · obtain ⟨rfl, h2⟩ := hc
      cases l with
      | nil => simp at h2
      | cons c m =>
        simp only [List.head?_cons, Option.some.injEq] at h2
        subst h2
        have e1 : crlf (13#8 :: 10#8 :: m) = 10#8 :: crlf m := by
          rw [crlf, if_pos ⟨rfl, rfl⟩, crlf, if_neg (by simp)]
        have e2 : (13#8 :: 10#8 :: m).map u8 = [13, 10] ++ m.map u8 := rfl
        rw [e1, e2, repA_hit _ _ (by simp), repA_crlf n m (by simp at hl; omega)]
        rfl
    · have e1 : crlf (b :: l) = b :: crlf l := by rw [crlf, if_neg hc]
      rw [e1, List.map_cons, List.map_cons, repA_cons _ _ _ (by simp), repA_crlf n l hl]
      cases hp : List.isPrefixOf [13, 10] (u8 b :: l.map u8) with
      | false => rfl
      | true =>
        exfalso
        rw [List.isPrefixOf_iff_prefix] at hp
        obtain ⟨t, ht⟩ := hp
        simp only [List.cons_append, List.nil_append, List.cons.injEq] at ht
        refine hc ⟨u8_inj.1 ht.1.symm, ?_⟩
        cases l with
        | nil => simp at ht
        | cons c m =>
          simp only [List.map_cons, List.cons.injEq] at ht
          rw [List.head?_cons, Option.some.injEq]
          exact u8_inj.1 ht.2.1.symm
def lf (b : BitVec 8) : BitVec 8 := if b = 13#8 then 10#8 else b
theorem repA_lf : ∀ l : List (BitVec 8), repA [13] [10] (l.map u8) = (l.map lf).map u8
  | [] => by rw [List.map_nil, repA_nil _ (by simp)]; rfl
  | b :: l => by
    by_cases hb : b = 13#8
    · subst hb
      have e2 : (13#8 :: l).map u8 = [13] ++ l.map u8 := rfl
      rw [e2, repA_hit _ _ (by simp), repA_lf l]; rfl
    · have e1 : lf b = b := by unfold lf; rw [if_neg hb]
      rw [List.map_cons, repA_cons _ _ _ (by simp), repA_lf l, List.map_cons, List.map_cons, e1]
      cases hp : List.isPrefixOf [13] (u8 b :: l.map u8) with
      | false => rfl
      | true =>
        exfalso
        rw [List.isPrefixOf_iff_prefix] at hp
        obtain ⟨t, ht⟩ := hp
        simp only [List.cons_append, List.nil_append, List.cons.injEq] at ht
        exact hb (u8_inj.1 ht.1.symm)
def lineP (l : List (BitVec 8)) (k : Nat) : List (BitVec 8) :=
  if l.getD k 0#8 = 13#8 then (if k + 1 < l.length ∧ l.getD (k + 1) 0#8 = 10#8 then [] else [10#8]) else [l.getD k 0#8]
def linesL (l : List (BitVec 8)) (n : Nat) : List (BitVec 8) := (List.range n).flatMap (lineP l)
theorem linesL_succ (l : List (BitVec 8)) (n : Nat) : linesL l (n + 1) = linesL l n ++ lineP l n := by
  unfold linesL; rw [List.range_succ, List.flatMap_append]; simp
theorem lineP_cons (b : BitVec 8) (l : List (BitVec 8)) (k : Nat) : lineP (b :: l) (k + 1) = lineP l k := by
  unfold lineP; simp
theorem linesL_cons (b : BitVec 8) (l : List (BitVec 8)) (n : Nat) : linesL (b :: l) (n + 1) = lineP (b :: l) 0 ++ linesL l n := by
  unfold linesL
  rw [List.range_succ_eq_map, List.flatMap_cons, List.flatMap_map]
  simp only [Nat.succ_eq_add_one, lineP_cons]
theorem lines_eq : ∀ l : List (BitVec 8), (crlf l).map lf = linesL l l.length
  | [] => rfl
  | b :: l => by
    rw [List.length_cons, linesL_cons, ← lines_eq l, crlf]
    cases l with
    | nil =>
      by_cases hb : b = 13#8
      · subst hb; rfl
      · simp [crlf, lineP, hb, lf]
    | cons c m =>
      by_cases hb : b = 13#8
      · by_cases hc : c = 10#8
        · simp [lineP, hb, hc]
        · simp [lineP, hb, hc, lf]
      · simp [lineP, hb, lf]
theorem crlf_no (l : List (BitVec 8)) (h : 13#8 ∉ l) : crlf l = l := by
  induction l with
  | nil => rfl
  | cons b l ih =>
    simp only [List.mem_cons, not_or] at h
    rw [crlf, if_neg (fun e => h.1 e.1.symm), ih h.2]
theorem lf_no (l : List (BitVec 8)) : 13#8 ∉ l.map lf := by
  intro h
  obtain ⟨b, _, hb⟩ := List.mem_map.1 h
  unfold lf at hb
  split at hb
  · exact absurd hb (by decide)
  · rename_i hn; exact hn hb
theorem lines_again (l : List (BitVec 8)) : (crlf ((crlf l).map lf)).map lf = (crlf l).map lf := by
  have h := lf_no (crlf l)
  rw [crlf_no _ h]
  generalize (crlf l).map lf = m at *
  induction m with
  | nil => rfl
  | cons b m ih =>
    simp only [List.mem_cons, not_or] at h
    rw [List.map_cons, ih h.2]
    unfold lf; rw [if_neg (fun e => h.1 e.symm)]
end Go.Av.Chl
end
section
set_option linter.unusedSimpArgs false
set_option linter.unusedVariables false
set_option linter.unusedSectionVars false
namespace Go.Proofs
open Go.Shelf
def Tryd.laysM144_ren : Go.Shelf.Ren := ⟨fun | 144 => 9 | 143 => 13 | 219 => 22 | 217 => 35 | 225 => 36 | 224 => 37 | 267 => 38 | 266 => 46 | 314 => 47 | n => n, fun | 9 => 9 | 4 => 4 | 3 => 3 | 5 => 5 | 46 => 60 | 146 => 71 | 51 => 70 | n => n, fun | 1 => 0 | n => n⟩
theorem Tryd.laysM144 : Go.Proofs.LaysM.n144 Tryd.prog Tryd.laysM144_ren := {
  mixed := by kernel_rfl
  f143 := Tryd.func13.trans (congrArg some (by kernel_rfl))
  f144 := Tryd.func9.trans (congrArg some (by kernel_rfl))
  f217 := Tryd.func35.trans (congrArg some (by kernel_rfl))
  f219 := Tryd.func22.trans (congrArg some (by kernel_rfl))
  f224 := Tryd.func37.trans (congrArg some (by kernel_rfl))
  f225 := Tryd.func36.trans (congrArg some (by kernel_rfl))
  f266 := Tryd.func46.trans (congrArg some (by kernel_rfl))
  f267 := Tryd.func38.trans (congrArg some (by kernel_rfl))
  f314 := Tryd.func47.trans (congrArg some (by kernel_rfl))
  t3 := Tryd.underlying3
  a3 := Tryd.isAgg3
  z3 := Tryd.sizeOf3
  v3 := Tryd.zeroValue3
  t4 := Tryd.underlying4
  a4 := Tryd.isAgg4
  z4 := Tryd.sizeOf4
  v4 := Tryd.zeroValue4
  t5 := Tryd.underlying5
  a5 := Tryd.isAgg5
  z5 := Tryd.sizeOf5
  v5 := Tryd.zeroValue5
  t9 := Tryd.underlying9
  a9 := Tryd.isAgg9
  z9 := Tryd.sizeOf9
  v9 := Tryd.zeroValue9
  t46 := Tryd.underlying60
  a46 := Tryd.isAgg60
  z46 := Tryd.sizeOf60
  v46 := Tryd.zeroValue60
  t51 := Tryd.underlying70
  a51 := Tryd.isAgg70
  z51 := Tryd.sizeOf70
  v51 := Tryd.zeroValue70
  t146 := Tryd.underlying71
  a146 := Tryd.isAgg71
  z146 := Tryd.sizeOf71
  v146 := Tryd.zeroValue71
  g1 := by kernel_rfl
  i3 := by kernel_rfl
  i4 := by kernel_rfl
  i5 := by kernel_rfl
  i9 := by kernel_rfl
  i46 := by kernel_rfl
  i51 := by kernel_rfl
  i146 := by kernel_rfl
  m1 := by kernel_rfl
  s1_3 := fun w h => Go.Proofs.cell_of_shapedOpen_int (zero := #[.int .i64 0]) (t := 3) h (of_decide_eq_true (by kernel_rfl)) (by kernel_rfl) rfl (by kernel_rfl) (by kernel_rfl) Tryd.underlying3 }
def Tryd.laysM155_ren : Go.Shelf.Ren := ⟨fun | 155 => 8 | 154 => 12 | 138 => 19 | 165 => 20 | 143 => 13 | 166 => 16 | 197 => 21 | 169 => 17 | 195 => 31 | 218 => 32 | 240 => 26 | 241 => 33 | 219 => 22 | 260 => 34 | 276 => 41 | 277 => 45 | 217 => 35 | 225 => 36 | 224 => 37 | 267 => 38 | 266 => 46 | 314 => 47 | n => n, fun | 9 => 9 | 3 => 3 | 4 => 4 | 72 => 36 | 0 => 0 | 76 => 41 | 105 => 45 | 21 => 21 | 5 => 5 | 70 => 34 | 20 => 20 | 37 => 28 | 75 => 40 | 127 => 51 | 164 => 62 | 46 => 60 | 119 => 66 | 139 => 69 | 138 => 68 | 146 => 71 | 51 => 70 | 80 => 43 | n => n, fun | 1 => 0 | 3 => 1 | 4 => 2 | n => n⟩
theorem Tryd.laysM155 : Go.Proofs.LaysM.n155 Tryd.prog Tryd.laysM155_ren := {
  mixed := by kernel_rfl
  f138 := Tryd.func19.trans (congrArg some (by kernel_rfl))
  f143 := Tryd.func13.trans (congrArg some (by kernel_rfl))
  f154 := Tryd.func12.trans (congrArg some (by kernel_rfl))
  f155 := Tryd.func8.trans (congrArg some (by kernel_rfl))
  f165 := Tryd.func20.trans (congrArg some (by kernel_rfl))
  f166 := Tryd.func16.trans (congrArg some (by kernel_rfl))
  f169 := Tryd.func17.trans (congrArg some (by kernel_rfl))
  f195 := Tryd.func31.trans (congrArg some (by kernel_rfl))
  f197 := Tryd.func21.trans (congrArg some (by kernel_rfl))
  f217 := Tryd.func35.trans (congrArg some (by kernel_rfl))
  f218 := Tryd.func32.trans (congrArg some (by kernel_rfl))
  f219 := Tryd.func22.trans (congrArg some (by kernel_rfl))
  f224 := Tryd.func37.trans (congrArg some (by kernel_rfl))
  f225 := Tryd.func36.trans (congrArg some (by kernel_rfl))
  f240 := Tryd.func26.trans (congrArg some (by kernel_rfl))
  f241 := Tryd.func33.trans (congrArg some (by kernel_rfl))
  f260 := Tryd.func34.trans (congrArg some (by kernel_rfl))
  f266 := Tryd.func46.trans (congrArg some (by kernel_rfl))
  f267 := Tryd.func38.trans (congrArg some (by kernel_rfl))
  f276 := Tryd.func41.trans (congrArg some (by kernel_rfl))
  f277 := Tryd.func45.trans (congrArg some (by kernel_rfl))
  f314 := Tryd.func47.trans (congrArg some (by kernel_rfl))
  t0 := Tryd.underlying0
  a0 := Tryd.isAgg0
  z0 := Tryd.sizeOf0
  v0 := Tryd.zeroValue0
  t3 := Tryd.underlying3
  a3 := Tryd.isAgg3
  z3 := Tryd.sizeOf3
  v3 := Tryd.zeroValue3
  t4 := Tryd.underlying4
  a4 := Tryd.isAgg4
  z4 := Tryd.sizeOf4
  v4 := Tryd.zeroValue4
  t5 := Tryd.underlying5
  a5 := Tryd.isAgg5
  z5 := Tryd.sizeOf5
  v5 := Tryd.zeroValue5
  t9 := Tryd.underlying9
  a9 := Tryd.isAgg9
  z9 := Tryd.sizeOf9
  v9 := Tryd.zeroValue9
  t20 := Tryd.underlying20
  a20 := Tryd.isAgg20
  z20 := Tryd.sizeOf20
  v20 := Tryd.zeroValue20
  t21 := Tryd.underlying21
  a21 := Tryd.isAgg21
  z21 := Tryd.sizeOf21
  v21 := Tryd.zeroValue21
  t37 := Tryd.underlying28
  a37 := Tryd.isAgg28
  z37 := Tryd.sizeOf28
  v37 := Tryd.zeroValue28
  t46 := Tryd.underlying60
  a46 := Tryd.isAgg60
  z46 := Tryd.sizeOf60
  v46 := Tryd.zeroValue60
  t51 := Tryd.underlying70
  a51 := Tryd.isAgg70
  z51 := Tryd.sizeOf70
  v51 := Tryd.zeroValue70
  t70 := Tryd.underlying34
  a70 := Tryd.isAgg34
  z70 := Tryd.sizeOf34
  v70 := Tryd.zeroValue34
  t72 := Tryd.underlying36
  a72 := Tryd.isAgg36
  z72 := Tryd.sizeOf36
  v72 := Tryd.zeroValue36
  t75 := Tryd.underlying40
  a75 := Tryd.isAgg40
  z75 := Tryd.sizeOf40
  v75 := Tryd.zeroValue40
  t76 := Tryd.underlying41
  a76 := Tryd.isAgg41
  z76 := Tryd.sizeOf41
  v76 := Tryd.zeroValue41
  t105 := Tryd.underlying45
  a105 := Tryd.isAgg45
  z105 := Tryd.sizeOf45
  v105 := Tryd.zeroValue45
  t119 := Tryd.underlying66
  a119 := Tryd.isAgg66
  z119 := Tryd.sizeOf66
  t127 := Tryd.underlying51
  a127 := Tryd.isAgg51
  z127 := Tryd.sizeOf51
  v127 := Tryd.zeroValue51
  t138 := Tryd.underlying68
  a138 := Tryd.isAgg68
  z138 := Tryd.sizeOf68
  v138 := Tryd.zeroValue68
  t139 := Tryd.underlying69
  a139 := Tryd.isAgg69
  z139 := Tryd.sizeOf69
  v139 := Tryd.zeroValue69
  t146 := Tryd.underlying71
  a146 := Tryd.isAgg71
  z146 := Tryd.sizeOf71
  v146 := Tryd.zeroValue71
  t164 := Tryd.underlying62
  a164 := Tryd.isAgg62
  z164 := Tryd.sizeOf62
  v164 := Tryd.zeroValue62
  g1 := by kernel_rfl
  g3 := by kernel_rfl
  g4 := by kernel_rfl
  t80 := Tryd.underlying43
  a80 := Tryd.isAgg43
  z80 := Tryd.sizeOf43
  v80 := Tryd.zeroValue43
  i0 := by kernel_rfl
  i3 := by kernel_rfl
  i4 := by kernel_rfl
  i5 := by kernel_rfl
  i9 := by kernel_rfl
  i20 := by kernel_rfl
  i21 := by kernel_rfl
  i37 := by kernel_rfl
  i46 := by kernel_rfl
  i51 := by kernel_rfl
  i70 := by kernel_rfl
  i72 := by kernel_rfl
  i75 := by kernel_rfl
  i76 := by kernel_rfl
  i80 := by kernel_rfl
  i105 := by kernel_rfl
  i127 := by kernel_rfl
  i138 := by kernel_rfl
  i139 := by kernel_rfl
  i146 := by kernel_rfl
  i164 := by kernel_rfl
  m1 := by kernel_rfl
  s1_3 := fun w h => Go.Proofs.cell_of_shapedOpen_int (zero := #[.int .i64 0]) (t := 3) h (of_decide_eq_true (by kernel_rfl)) (by kernel_rfl) rfl (by kernel_rfl) (by kernel_rfl) Tryd.underlying3
  m3 := by kernel_rfl
  m4 := by kernel_rfl }
theorem Tryd.Builder_Extra_M155 : Builder.Extra Tryd.prog Tryd.laysM155_ren := {
  sizeBuilder := by kernel_rfl
  liesBuilder := by kernel_rfl
  t5 := Tryd.underlying5
  a5 := Tryd.isAgg5
  z5 := Tryd.sizeOf5
  v5 := Tryd.zeroValue5
  infoByte := by kernel_rfl
  cellsByte := by kernel_rfl
  sizeByte := by kernel_rfl
  neB5 := by decide }
end Go.Proofs
namespace Go.Av.Chl
open Go Go.Av Go.Proofs
theorem below_keeps {G : Gh} {h : HT} {w w' : World} (wf : WF G h w) (hb : Go.RowKit.Below w.heap.size w w') : Keeps G h w G h w' ∧ Ext G w G w' ∧ WF G h w' := by
  have hpm : ∀ b o v, pm G w b o = some v → pm G w' b o = some v := by
    intro b o v hv
    have hlt := pm_lt hv
    have e : w'.cell? ⟨b, o, none⟩ = w.cell? ⟨b, o, none⟩ := by simp only [World.cell?, hb.block b hlt]
    unfold pm at hv ⊢
    rw [e]; exact hv
  have hshp : ∀ b x, w.shape? b = some x → w'.shape? b = some x := by
    intro b x hx
    rcases Nat.lt_or_ge b w.heap.size with h1 | h1
    · simp only [World.shape?, hb.block b h1] at hx ⊢; exact hx
    · simp [World.shape?, Array.getElem?_eq_none h1] at hx
  have hk : Keeps G h w G h w' := by
    refine ⟨hpm, ?_, fun id cur hb0 hl => ⟨cur, hb0, hl, Nat.le_refl _, fun _ => rfl⟩, hshp⟩
    intro t cur ht
    refine ⟨cur, ht, Nat.le_refl _, fun _ => ⟨rfl, rfl, fun ho => ⟨ho, fun vs ty fz h0 => ?_⟩⟩⟩
    rw [hb.block _ (lt_of_get h0)]; exact h0
  refine ⟨hk, ⟨hb.os, hb.tape, hb.output, hb.size, fun b hlt _ => ⟨rfl, hb.block b hlt⟩, fun b o v _ hv => hpm b o v hv, hshp⟩, ?_, wf.rows, ?_⟩
  · intro b h1; exact wf.fresh b (Nat.le_trans hb.size h1)
  · intro id ver hb0 hl
    obtain ⟨o1, o2, o3⟩ := wf.objs id ver hb0 hl
    exact ⟨o1, Nat.lt_of_lt_of_le o2 hb.size, o3.mono hk (hb.block _ o2)⟩
variable [ML]
theorem maxLen_cell {G : Gh} {w : World} (hg0 : ∀ g r, Tables.gl g = some r → RepP (pm G w) (.eptr r 0 0) (.pointer (some ⟨g, 0, none⟩))) : w.cell? ⟨0, 0, none⟩ = some (.int .i64 ML.m) := by
  have hg := hg0 0 (.vals 1 [.int .i64 ML.m]) rfl
  generalize hq : PV.eptr (.vals 1 [.int .i64 ML.m]) 0 0 = q at hg
  generalize hv : Value.pointer (some ⟨0, 0, none⟩) = v at hg
  cases hg with
  | eptr r i j b off f hi hw hf h1 hr =>
    cases hq
    simp only [Value.pointer.injEq, Option.some.injEq, Addr.mk.injEq] at hv
    obtain ⟨rfl, hv2, _⟩ := hv
    have a := hf 0 0 (by simp [Row.len]) (by simp [Row.sz])
    have c : RepP (pm G w) (.int .i64 ML.m) (f 0 0) := hr 0 0 (by simp [Row.len]) (by simp [Row.sz])
    have c' : f 0 0 = .int .i64 ML.m := by generalize f 0 0 = z at c; cases c; rfl
    rw [c'] at a
    have ho : off = 0 := by simpa using hv2.symm
    subst ho
    exact pm_cell a
  | _ => cases hq
def hasL (s t : ByteArray) : Bool := Lib.contains s.data.toList t.data.toList
theorem has_ct (s t : ByteArray) (hs : s.size ≤ 4000000) : Fn Tryd.prog 9 [.str s, .str t] [.p (.bool (hasL s t))] := by
  intro G w vs g
  have hl := g.len
  match vs, hl with
  | [a, b], _ =>
    have h0 := g.args 0 (by simp)
    have h1 := g.args 1 (by simp)
    simp only [List.map_cons, List.map_nil, List.getD_cons_zero, List.getD_cons_succ] at h0 h1
    obtain rfl := h0.str
    obtain rfl := h1.str
    refine (Any.strings_Contains { Tryd.laysM144 with } s t ML.m w (by omega) (maxLen_cell g.glob)).mono ?_
    rintro e w' ⟨rfl, rfl⟩
    refine ⟨_, rfl, rfl, G, Ext.refl G w', g.wf, fun i hi => by simp at hi, .p (.bool _)⟩
theorem repl_all_ct (s o n : ByteArray) (hs : s.size ≤ 4000000) (ho : 1 ≤ o.size) (hlen : s.size + Lib.countB s o * n.size ≤ 140737488355328) :
    Fn Tryd.prog 8 [.str s, .str o, .str n] [.p (.str ⟨(Lib.replaceAll s.data.toList o.data.toList n.data.toList).toArray⟩)] := by
  intro G w vs g
  have hl := g.len
  match vs, hl with
  | [a, b, c], _ =>
    have h0 := g.args 0 (by simp)
    have h1 := g.args 1 (by simp)
    have h2 := g.args 2 (by simp)
    simp only [List.map_cons, List.map_nil, List.getD_cons_zero, List.getD_cons_succ] at h0 h1 h2
    obtain rfl := h0.str
    obtain rfl := h1.str
    obtain rfl := h2.str
    refine (Any.strings_ReplaceAll { Tryd.laysM155 with } Tryd.Builder_Extra_M155 s o n ML.m w (by omega) (maxLen_cell g.glob) ho hlen).mono ?_
    rintro e w' ⟨rfl, hB⟩
    obtain ⟨k1, e1, wf1⟩ := below_keeps g.wf hB
    exact ⟨_, rfl, rfl, G, e1, wf1, fun i hi => by simp at hi, .p (.str _)⟩
def lineV (l : List (BitVec 8)) : List (BitVec 8) := (crlf l).map lf
theorem u8_txt (l : List (BitVec 8)) : (txt l).data.toList = l.map u8 := txt_list l
theorem txt_u8 (l : List (BitVec 8)) : (ByteArray.mk (l.map u8).toArray) = txt l := bytes_ext (by rw [u8_txt])
theorem crlf_len : ∀ l : List (BitVec 8), (crlf l).length ≤ l.length
  | [] => Nat.le_refl _
  | b :: l => by
    have := crlf_len l
    rw [crlf]
    split
    · rw [List.length_cons]; omega
    · rw [List.length_cons, List.length_cons]; omega
theorem lineV_len (l : List (BitVec 8)) : (lineV l).length ≤ l.length := by unfold lineV; rw [List.length_map]; exact crlf_len l
theorem all1_ct (l : List (BitVec 8)) (hl : l.length ≤ 1000000) : Fn Tryd.prog 8 [.str (txt l), .str (txt [13#8, 10#8]), .str (txt [10#8])] [.p (.str (txt (crlf l)))] := by
  have hc := Lib.count_le (txt l).data.toList (txt [13#8, 10#8]).data.toList
  have hd : (txt l).data.toList.length = l.length := by rw [u8_txt, List.length_map]
  have hz : (txt [10#8]).size = 1 := txt_size _
  have h := repl_all_ct (txt l) (txt [13#8, 10#8]) (txt [10#8]) (by rw [txt_size]; omega) (by simp [txt_size]) (by
    rw [hz, txt_size]
    have : Lib.countB (txt l) (txt [13#8, 10#8]) ≤ l.length + 1 := by rw [← hd]; exact hc
    omega)
  rw [u8_txt, u8_txt, u8_txt] at h
  have e : Lib.replaceAll (l.map u8) ([13#8, 10#8].map u8) ([10#8].map u8) = (crlf l).map u8 := by
    rw [replaceAll_eq _ (by decide)]
    exact repA_crlf l.length l (Nat.le_refl _)
  rw [e, txt_u8] at h
  exact h
theorem all2_ct (l : List (BitVec 8)) (hl : l.length ≤ 1000000) : Fn Tryd.prog 8 [.str (txt l), .str (txt [13#8]), .str (txt [10#8])] [.p (.str (txt (l.map lf)))] := by
  have hc := Lib.count_le (txt l).data.toList (txt [13#8]).data.toList
  have hd : (txt l).data.toList.length = l.length := by rw [u8_txt, List.length_map]
  have hz : (txt [10#8]).size = 1 := txt_size _
  have h := repl_all_ct (txt l) (txt [13#8]) (txt [10#8]) (by rw [txt_size]; omega) (by simp [txt_size]) (by
    rw [hz, txt_size]
    have : Lib.countB (txt l) (txt [13#8]) ≤ l.length + 1 := by rw [← hd]; exact hc
    omega)
  rw [u8_txt, u8_txt, u8_txt] at h
  have e : Lib.replaceAll (l.map u8) ([13#8].map u8) ([10#8].map u8) = (l.map lf).map u8 := by
    rw [replaceAll_eq _ (by decide)]
    exact repA_lf l
  rw [e, txt_u8] at h
  exact h
theorem kCRLF : (ByteArray.mk #[13, 10]) = txt [13#8, 10#8] := rfl
theorem kCR : (ByteArray.mk #[13]) = txt [13#8] := rfl
theorem kLF : (ByteArray.mk #[10]) = txt [10#8] := rfl
theorem lines_ct (l : List (BitVec 8)) (hl : l.length ≤ 1000000) : Fn Tryd.prog 5 [.str (txt l)] [.p (.str (txt (lineV l)))] := by
  have h1 := all1_ct l hl
  have h2 := all2_ct (crlf l) (by have := crlf_len l; omega)
  refine Fn.of_body Tryd.func5 rfl ?_
  unfold lineV
  generalize (crlf l).map lf = B at *
  generalize crlf l = A at *
  repeat (first | ((with_reducible first | refine callK_at 8 ?_); refine callK_p ?_; simp (maxSteps := 1000000) (disch := refine hold_ ?_; first | (simp [kNil, kCRLF, kCR, kLF, -List.getD_eq_getElem?_getD]; done) | omega) [kNil, kCRLF, kCR, kLF, -List.getD_eq_getElem?_getD]; (first | refine callK1_of ((by first | exact Fn.ct h1 Tryd.call8 | exact Fn.ct h2 Tryd.call8)) ?_); (try simp (maxSteps := 1000000) (disch := refine hold_ ?_; first | (simp [kNil, kCRLF, kCR, kLF, -List.getD_eq_getElem?_getD]; done) | omega) [kNil, kCRLF, kCR, kLF, -List.getD_eq_getElem?_getD]); try first | (with_reducible refine zZ ?_) | subst hK_) | ((first | (with_reducible first | refine zP fun K_ hK_ => ?_ | refine zQ fun K_ hK_ => ?_ | refine zT ?_ | refine zU ?_ | refine zV ?_ | refine zW ?_ | refine zX ?_ | refine zY ?_) | ((with_reducible first | refine zR ?_ ?_ fun K_ hK_ => ?_ | refine zS ?_ ?_ fun K_ hK_ => ?_); (focus kernel_rfl); (focus kernel_rfl))); first | (simp (maxSteps := 1000000) (disch := refine hold_ ?_; first | (simp [kNil, kCRLF, kCR, kLF, -List.getD_eq_getElem?_getD]; done) | omega) [kNil, kCRLF, kCR, kLF, -List.getD_eq_getElem?_getD]; try first | (with_reducible refine zZ ?_) | subst hK_) | subst hK_) | (with_reducible first | refine zA ?_ | refine zB ?_ | refine zC ?_ | refine zD ?_ | refine zE ?_ | refine zF ?_ | refine zG ?_ | refine zH ?_ | refine zI ?_ | refine zJ ?_ | refine zK ?_ | refine zL ?_ | refine zM ?_ | refine zN ?_ | refine zO ?_) | ((with_reducible refine yG ?_ ?_); (focus decide)) | ((with_reducible refine yA ?_); refine yB rfl ?_; (with_reducible first | refine yC ?_ | refine yD ?_)))
  all_goals simp (maxSteps := 1000000) (disch := refine hold_ ?_; first | (simp [-List.getD_eq_getElem?_getD]; done) | omega) [-List.getD_eq_getElem?_getD]
end Go.Av.Chl
end
section
set_option linter.unusedSimpArgs false
set_option linter.unusedVariables false
set_option linter.unusedSectionVars false
open Go Go.Av Go.Proofs
namespace Go.Av.Chl
variable [ML]
def e3 : List (BitVec 8) := [93#8, 93#8, 62#8]
theorem kE3 : (ByteArray.mk #[93, 93, 62]) = txt e3 := rfl
theorem u8_map_inj : ∀ (a b : List (BitVec 8)), a.map u8 = b.map u8 → a = b
  | [], [], _ => rfl
  | [], _ :: _, h => by simp at h
  | _ :: _, [], h => by simp at h
  | x :: a, y :: b, h => by
    simp only [List.map_cons, List.cons.injEq] at h
    rw [u8_inj.1 h.1, u8_map_inj a b h.2]
def endK (s : List (BitVec 8)) (k : Nat) : Bool := decide (1 < k) && ((s.take (k + 1)).drop (k - 2) == e3)
def occB (s : List (BitVec 8)) : Bool := (List.range s.length).any (endK s)
theorem occB_true (s : List (BitVec 8)) (k : Nat) (h : k < s.length) (hk : endK s k = true) : occB s = true :=
  List.any_eq_true.2 ⟨k, List.mem_range.2 h, hk⟩
theorem occB_false (s : List (BitVec 8)) (h : ∀ k, k < s.length → endK s k = false) : occB s = false := by
  unfold occB
  rw [List.any_eq_false]
  intro k hk
  rw [h k (List.mem_range.1 hk)]; simp
theorem occAt_end (s : List (BitVec 8)) (j : Nat) : Lib.occAt (s.map u8) (e3.map u8) j = true ↔ (j + 2 < s.length ∧ endK s (j + 2) = true) := by
  unfold Lib.occAt endK
  rw [List.isPrefixOf_iff_prefix, ← List.map_drop]
  have hd : (s.take (j + 2 + 1)).drop (j + 2 - 2) = (s.drop j).take 3 := by
    rw [Nat.add_sub_cancel, List.drop_take, show j + 2 + 1 - j = 3 by omega]
  rw [hd, Bool.and_eq_true, decide_eq_true_eq, beq_iff_eq]
  constructor
  · intro h
    have h2 : e3 <+: s.drop j := by
      obtain ⟨t, ht⟩ := h
      refine ⟨(s.drop j).drop 3, ?_⟩
      have hl : (e3.map u8).length = 3 := rfl
      have h3 : ((s.drop j).take 3).map u8 = e3.map u8 := by
        rw [List.map_take, ← ht, List.take_left' hl]
      have h4 : (s.drop j).take 3 = e3 := by
        exact u8_map_inj _ _ h3
      rw [← h4, List.take_append_drop]
    have hl := h2.length_le
    have e : e3.length = 3 := rfl
    rw [e, List.length_drop] at hl
    refine ⟨by omega, by omega, ?_⟩
    obtain ⟨t, ht⟩ := h2
    rw [← ht]; rfl
  · rintro ⟨_, _, h⟩
    refine ⟨((s.drop j).drop 3).map u8, ?_⟩
    rw [← h, ← List.map_append, List.take_append_drop]
theorem has_occ (s : List (BitVec 8)) : hasL (txt s) (txt e3) = occB s := by
  unfold hasL
  rw [u8_txt, u8_txt]
  unfold Lib.contains
  rcases Lib.index_spec (s.map u8) (e3.map u8) with ⟨h1, h2⟩ | ⟨i, h1, h2, h3, _⟩
  · rw [h1, occB_false s]
    · rfl
    · intro k hk
      cases hc : endK s k with
      | false => rfl
      | true =>
        exfalso
        have hk1 : 1 < k := by unfold endK at hc; simp at hc; exact hc.1
        obtain ⟨j, rfl⟩ : ∃ j, k = j + 2 := ⟨k - 2, by omega⟩
        have := (occAt_end s j).2 ⟨hk, hc⟩
        rw [h2 j (by simp; omega)] at this
        exact absurd this (by simp)
  · have h4 := (occAt_end s i).1 h3
    rw [h1, occB_true s (i + 2) h4.1 h4.2]
    simp
def contentV (s : List (BitVec 8)) : Option (List (BitVec 8)) := if occB s = true then none else expandV idB s
set_option maxHeartbeats 10000000 in
theorem content_ct (s : List (BitVec 8)) (hs : s.length ≤ 4000000) : Fn Tryd.prog 7 [.str (txt s)] (resV (contentV s)) := by
  have k1 := has_ct (txt s) (txt e3) (by rw [txt_size]; exact hs)
  rw [has_occ] at k1
  have k2 := expandC_ct s hs
  unfold contentV
  refine Fn.of_body Tryd.func7 rfl ?_
  cases h1 : occB s with
  | true =>
    rw [h1] at k1
    rw [if_pos rfl]
    repeat (first | ((with_reducible first | refine callK_at 9 ?_); refine callK_p ?_; simp (maxSteps := 1000000) (disch := refine hold_ ?_; first | (simp [kNil, kE3, -List.getD_eq_getElem?_getD]; done) | omega) [kNil, kE3, -List.getD_eq_getElem?_getD]; (first | refine callK1_of (Fn.ct k1 Tryd.call9) ?_); (try simp (maxSteps := 1000000) (disch := refine hold_ ?_; first | (simp [kNil, kE3, -List.getD_eq_getElem?_getD]; done) | omega) [kNil, kE3, -List.getD_eq_getElem?_getD]); try first | (with_reducible refine zZ ?_) | subst hK_) | ((first | (with_reducible first | refine zP fun K_ hK_ => ?_ | refine zQ fun K_ hK_ => ?_ | refine zT ?_ | refine zU ?_ | refine zV ?_ | refine zW ?_ | refine zX ?_ | refine zY ?_) | ((with_reducible first | refine zR ?_ ?_ fun K_ hK_ => ?_ | refine zS ?_ ?_ fun K_ hK_ => ?_); (focus kernel_rfl); (focus kernel_rfl))); first | (simp (maxSteps := 1000000) (disch := refine hold_ ?_; first | (simp [kNil, kE3, -List.getD_eq_getElem?_getD]; done) | omega) [kNil, kE3, -List.getD_eq_getElem?_getD]; try first | (with_reducible refine zZ ?_) | subst hK_) | subst hK_) | (with_reducible first | refine zA ?_ | refine zB ?_ | refine zC ?_ | refine zD ?_ | refine zE ?_ | refine zF ?_ | refine zG ?_ | refine zH ?_ | refine zI ?_ | refine zJ ?_ | refine zK ?_ | refine zL ?_ | refine zM ?_ | refine zN ?_ | refine zO ?_) | ((with_reducible refine yG ?_ ?_); (focus decide)) | ((with_reducible refine yA ?_); refine yB rfl ?_; (with_reducible first | refine yC ?_ | refine yD ?_)))
    all_goals simp (maxSteps := 1000000) (disch := refine hold_ ?_; first | (simp [resV, -List.getD_eq_getElem?_getD]; done) | omega) [resV, -List.getD_eq_getElem?_getD]
  | false =>
    rw [h1] at k1
    rw [if_neg (by simp)]
    cases h2 : expandV idB s with
    | none =>
      rw [h2] at k2
      repeat (first | ((with_reducible first | refine callK_at 9 ?_ | refine callK_at 10 ?_); refine callK_p ?_; simp (maxSteps := 1000000) (disch := refine hold_ ?_; first | (simp [kNil, kE3, resV, -List.getD_eq_getElem?_getD]; done) | omega) [kNil, kE3, resV, -List.getD_eq_getElem?_getD]; (first | ((with_reducible refine k1_at 9 ?_); refine callK1_of (Fn.ct k1 Tryd.call9) ?_) | ((with_reducible refine k1_at 10 ?_); refine callK1_of (Fn.ct k2 Tryd.call10) ?_)); (try simp (maxSteps := 1000000) (disch := refine hold_ ?_; first | (simp [kNil, kE3, resV, -List.getD_eq_getElem?_getD]; done) | omega) [kNil, kE3, resV, -List.getD_eq_getElem?_getD]); try first | (with_reducible refine zZ ?_) | subst hK_) | ((first | (with_reducible first | refine zP fun K_ hK_ => ?_ | refine zQ fun K_ hK_ => ?_ | refine zT ?_ | refine zU ?_ | refine zV ?_ | refine zW ?_ | refine zX ?_ | refine zY ?_) | ((with_reducible first | refine zR ?_ ?_ fun K_ hK_ => ?_ | refine zS ?_ ?_ fun K_ hK_ => ?_); (focus kernel_rfl); (focus kernel_rfl))); first | (simp (maxSteps := 1000000) (disch := refine hold_ ?_; first | (simp [kNil, kE3, resV, -List.getD_eq_getElem?_getD]; done) | omega) [kNil, kE3, resV, -List.getD_eq_getElem?_getD]; try first | (with_reducible refine zZ ?_) | subst hK_) | subst hK_) | (with_reducible first | refine zA ?_ | refine zB ?_ | refine zC ?_ | refine zD ?_ | refine zE ?_ | refine zF ?_ | refine zG ?_ | refine zH ?_ | refine zI ?_ | refine zJ ?_ | refine zK ?_ | refine zL ?_ | refine zM ?_ | refine zN ?_ | refine zO ?_) | ((with_reducible refine yG ?_ ?_); (focus decide)) | ((with_reducible refine yA ?_); refine yB rfl ?_; (with_reducible first | refine yC ?_ | refine yD ?_)))
      all_goals simp (maxSteps := 1000000) (disch := refine hold_ ?_; first | (simp [resV, -List.getD_eq_getElem?_getD]; done) | omega) [resV, -List.getD_eq_getElem?_getD]
    | some x =>
      rw [h2] at k2
      repeat (first | ((with_reducible first | refine callK_at 9 ?_ | refine callK_at 10 ?_); refine callK_p ?_; simp (maxSteps := 1000000) (disch := refine hold_ ?_; first | (simp [kNil, kE3, resV, -List.getD_eq_getElem?_getD]; done) | omega) [kNil, kE3, resV, -List.getD_eq_getElem?_getD]; (first | ((with_reducible refine k1_at 9 ?_); refine callK1_of (Fn.ct k1 Tryd.call9) ?_) | ((with_reducible refine k1_at 10 ?_); refine callK1_of (Fn.ct k2 Tryd.call10) ?_)); (try simp (maxSteps := 1000000) (disch := refine hold_ ?_; first | (simp [kNil, kE3, resV, -List.getD_eq_getElem?_getD]; done) | omega) [kNil, kE3, resV, -List.getD_eq_getElem?_getD]); try first | (with_reducible refine zZ ?_) | subst hK_) | ((first | (with_reducible first | refine zP fun K_ hK_ => ?_ | refine zQ fun K_ hK_ => ?_ | refine zT ?_ | refine zU ?_ | refine zV ?_ | refine zW ?_ | refine zX ?_ | refine zY ?_) | ((with_reducible first | refine zR ?_ ?_ fun K_ hK_ => ?_ | refine zS ?_ ?_ fun K_ hK_ => ?_); (focus kernel_rfl); (focus kernel_rfl))); first | (simp (maxSteps := 1000000) (disch := refine hold_ ?_; first | (simp [kNil, kE3, resV, -List.getD_eq_getElem?_getD]; done) | omega) [kNil, kE3, resV, -List.getD_eq_getElem?_getD]; try first | (with_reducible refine zZ ?_) | subst hK_) | subst hK_) | (with_reducible first | refine zA ?_ | refine zB ?_ | refine zC ?_ | refine zD ?_ | refine zE ?_ | refine zF ?_ | refine zG ?_ | refine zH ?_ | refine zI ?_ | refine zJ ?_ | refine zK ?_ | refine zL ?_ | refine zM ?_ | refine zN ?_ | refine zO ?_) | ((with_reducible refine yG ?_ ?_); (focus decide)) | ((with_reducible refine yA ?_); refine yB rfl ?_; (with_reducible first | refine yC ?_ | refine yD ?_)))
      all_goals simp (maxSteps := 1000000) (disch := refine hold_ ?_; first | (simp [resV, -List.getD_eq_getElem?_getD]; done) | omega) [resV, -List.getD_eq_getElem?_getD]
end Go.Av.Chl
end
section
set_option linter.unusedSimpArgs false
set_option linter.unusedVariables false
set_option linter.unusedSectionVars false
open Go Go.Av Go.Proofs
namespace Go.Av.Chl
variable [ML]
theorem okS_asc (b : BitVec 8) (l : List (BitVec 8)) (h2 : ub b < 128) : okS (b :: l) = 1 := by
  have e : bt (b :: l) 0 = ub b := rfl
  unfold okS; rw [e, if_neg (by simp), if_pos h2]
theorem charsL_asc (b : BitVec 8) (l : List (BitVec 8)) (h2 : ub b < 128) : charsL (b :: l) = (charsL l).map (ub b :: ·) := by
  have e := okS_asc b l h2
  rw [charsL_step _ (by simp) (by rw [e]; omega), e]
  have r : runeN (b :: l) = ub b := by
    have e : bt (b :: l) 0 = ub b := rfl
    unfold runeN; rw [e, if_pos h2]
  rw [r]; rfl
theorem charsL_ascs : ∀ (l : List (BitVec 8)), (∀ b ∈ l, ub b < 128) → charsL l = some (l.map ub)
  | [], _ => charsL_nil
  | b :: l, h => by
    rw [charsL_asc b l (h b (by simp)), charsL_ascs l fun x hx => h x (List.mem_cons_of_mem _ hx)]; rfl
def plainB (b : BitVec 8) : Bool := (decide (35 ≤ ub b) && decide (ub b ≤ 59)) || (decide (97 ≤ ub b) && decide (ub b ≤ 122))
theorem plain_lt {b : BitVec 8} (h : plainB b = true) : ub b < 128 ∧ xmlB (ub b) = true ∧ ¬ b = 60#8 ∧ ¬ b = 62#8 := by
  unfold plainB at h
  simp only [Bool.or_eq_true, Bool.and_eq_true, decide_eq_true_eq] at h
  refine ⟨by omega, ?_, ?_, ?_⟩
  · unfold xmlB; rw [decide_eq_true_eq]; omega
  · intro e; subst e; exact absurd h (by decide)
  · intro e; subst e; exact absurd h (by decide)
theorem plain_text (l : List (BitVec 8)) (h : ∀ b ∈ l, plainB b = true) : textB l = true := by
  unfold textB
  rw [charsL_ascs l fun b hb => (plain_lt (h b hb)).1]
  simp only [List.all_map, List.all_eq_true]
  intro b hb
  exact (plain_lt (h b hb)).2.1
theorem plain_60 (l : List (BitVec 8)) (h : ∀ b ∈ l, plainB b = true) : l.contains 60#8 = false := by
  have : 60#8 ∉ l := fun e => (plain_lt (h _ e)).2.2.1 rfl
  simpa using this
theorem plain_occ (l : List (BitVec 8)) (h : ∀ b ∈ l, plainB b = true) : occB l = false := by
  refine occB_false l fun k hk => ?_
  unfold endK
  have : ((l.take (k + 1)).drop (k - 2) == e3) = false := by
    refine beq_eq_false_iff_ne.2 fun e => ?_
    have hm : 62#8 ∈ (l.take (k + 1)).drop (k - 2) := by rw [e]; decide
    exact (plain_lt (h _ (List.mem_of_mem_take (List.mem_of_mem_drop hm)))).2.2.2 rfl
  rw [this, Bool.and_false]
end Go.Av.Chl
end
section
set_option linter.unusedSimpArgs false
set_option linter.unusedVariables false
set_option linter.unusedSectionVars false
open Go Go.Av Go.Proofs
namespace Go.Av.Chl
variable [ML]
def aw1 : List (BitVec 8) := [97#8, 38#8, 35#8, 120#8, 52#8, 49#8, 59#8, 38#8, 108#8, 116#8, 59#8]
def aw2 : List (BitVec 8) := [97#8, 13#8, 10#8, 98#8, 13#8]
theorem kAw1 : (ByteArray.mk #[97, 38, 35, 120, 52, 49, 59, 38, 108, 116, 59]) = txt aw1 := rfl
theorem kAw2 : (ByteArray.mk #[97, 13, 10, 98, 13]) = txt aw2 := rfl
theorem kAw3 : (ByteArray.mk #[97, 65, 60]) = txt [97#8, 65#8, 60#8] := rfl
theorem kAw4 : (ByteArray.mk #[97, 10, 98, 10]) = txt [97#8, 10#8, 98#8, 10#8] := rfl
theorem aw1_ex : exL idB aw1 = some [97#8, 65#8, 60#8] := by rfl
theorem aw1_content : contentV aw1 = some [97#8, 65#8, 60#8] := by
  have hp : ∀ b ∈ aw1, plainB b = true := by decide
  unfold contentV expandV okX
  rw [plain_occ _ hp, if_neg (by simp), plain_text _ hp, plain_60 _ hp, if_pos (by simp), aw1_ex]
theorem aw2_lines : lineV aw2 = [97#8, 10#8, 98#8, 10#8] := rfl
theorem awake_ct : Fn Tryd.prog 4 [] [.p (.bool true)] := by
  have c1 := content_ct aw1 (by decide)
  rw [aw1_content] at c1
  have c2 := lines_ct aw2 (by decide)
  rw [aw2_lines] at c2
  refine Fn.of_body Tryd.func4 rfl ?_
  repeat (first | ((with_reducible first | refine callK_at 7 ?_ | refine callK_at 5 ?_); refine callK_p ?_; simp (maxSteps := 1000000) (disch := refine hold_ ?_; first | (simp [kAw1, kAw2, kAw3, kAw4, str_eql, resV, -List.getD_eq_getElem?_getD]; done) | omega) [kAw1, kAw2, kAw3, kAw4, str_eql, resV, -List.getD_eq_getElem?_getD]; (first | ((with_reducible refine k1_at 7 ?_); refine callK1_of (Fn.ct c1 Tryd.call7) ?_) | ((with_reducible refine k1_at 5 ?_); refine callK1_of (Fn.ct c2 Tryd.call5) ?_)); (try simp (maxSteps := 1000000) (disch := refine hold_ ?_; first | (simp [kAw1, kAw2, kAw3, kAw4, str_eql, resV, -List.getD_eq_getElem?_getD]; done) | omega) [kAw1, kAw2, kAw3, kAw4, str_eql, resV, -List.getD_eq_getElem?_getD]); try first | (with_reducible refine zZ ?_) | subst hK_) | ((first | (with_reducible first | refine zP fun K_ hK_ => ?_ | refine zQ fun K_ hK_ => ?_ | refine zT ?_ | refine zU ?_ | refine zV ?_ | refine zW ?_ | refine zX ?_ | refine zY ?_) | ((with_reducible first | refine zR ?_ ?_ fun K_ hK_ => ?_ | refine zS ?_ ?_ fun K_ hK_ => ?_); (focus kernel_rfl); (focus kernel_rfl))); first | (simp (maxSteps := 1000000) (disch := refine hold_ ?_; first | (simp [kAw1, kAw2, kAw3, kAw4, str_eql, resV, -List.getD_eq_getElem?_getD]; done) | omega) [kAw1, kAw2, kAw3, kAw4, str_eql, resV, -List.getD_eq_getElem?_getD]; try first | (with_reducible refine zZ ?_) | subst hK_) | subst hK_) | (with_reducible first | refine zA ?_ | refine zB ?_ | refine zC ?_ | refine zD ?_ | refine zE ?_ | refine zF ?_ | refine zG ?_ | refine zH ?_ | refine zI ?_ | refine zJ ?_ | refine zK ?_ | refine zL ?_ | refine zM ?_ | refine zN ?_ | refine zO ?_) | ((with_reducible refine yG ?_ ?_); (focus decide)) | ((with_reducible refine yA ?_); refine yB rfl ?_; (with_reducible first | refine yC ?_ | refine yD ?_)))
  all_goals simp (maxSteps := 1000000) (disch := refine hold_ ?_; first | (simp [-List.getD_eq_getElem?_getD]; done) | omega) [-List.getD_eq_getElem?_getD]
end Go.Av.Chl
end
section
set_option linter.unusedSimpArgs false
set_option linter.unusedVariables false
set_option linter.unusedSectionVars false
open Go Go.Av Go.Proofs
namespace Go.Av.Chl
variable [ML]
theorem ub_ne {b c : BitVec 8} (h : ¬ b = c) : ¬ ub b = ub c := fun e => h (BitVec.eq_of_toNat_eq (by unfold ub at e; omega))
theorem linesL_len (l : List (BitVec 8)) : ∀ n, (linesL l n).length ≤ n
  | 0 => by simp [linesL]
  | n + 1 => by
    have h1 := linesL_len l n
    have h2 : (lineP l n).length ≤ 1 := by unfold lineP; (repeat' split) <;> simp
    rw [linesL_succ, List.length_append]; omega
def rlS (l : List (BitVec 8)) (k : Nat) (o : List (BitVec 8)) : St := ⟨(.p (.str (txt l)) :: V.junk :: V.junk :: .row (bl o) 0 0 (o.length == 0) :: V.junk :: V.junk :: .p (.int .i64 l.length) :: .p (.int .i64 k) :: V.junk :: V.junk :: V.junk :: V.junk :: V.junk :: V.junk :: V.junk :: V.junk :: V.junk :: V.junk :: V.junk :: V.junk :: V.junk :: V.junk :: V.junk :: V.junk :: V.junk :: V.junk :: V.junk :: V.junk :: V.junk :: V.junk :: V.junk :: V.junk :: V.junk :: V.junk :: V.junk :: V.junk :: V.junk :: V.junk :: V.junk :: V.junk :: V.junk :: V.junk :: V.junk :: V.junk :: V.junk :: V.junk :: []), ⟨[], [(0, 0)]⟩⟩
set_option maxHeartbeats 10000000 in
theorem rlines_ct (l : List (BitVec 8)) (hl : l.length ≤ 1000000) : Fn Tryd.prog 6 [.str (txt l)] [.p (.str (txt (linesL l l.length)))] := by
  have hsz := txt_size l
  refine Fn.of_body Tryd.func6 rfl ?_
  repeat (first | ((first | (with_reducible first | refine zP fun K_ hK_ => ?_ | refine zQ fun K_ hK_ => ?_ | refine zT ?_ | refine zU ?_ | refine zV ?_ | refine zW ?_ | refine zX ?_ | refine zY ?_) | ((with_reducible first | refine zR ?_ ?_ fun K_ hK_ => ?_ | refine zS ?_ ?_ fun K_ hK_ => ?_); (focus kernel_rfl); (focus kernel_rfl))); first | (simp (maxSteps := 1000000) (disch := refine hold_ ?_; first | (simp [kNil, hsz, -List.getD_eq_getElem?_getD]; done) | omega) [kNil, hsz, -List.getD_eq_getElem?_getD]; try first | (with_reducible refine zZ ?_) | subst hK_) | subst hK_) | (with_reducible first | refine zA ?_ | refine zB ?_ | refine zC ?_ | refine zD ?_ | refine zE ?_ | refine zF ?_ | refine zG ?_ | refine zH ?_ | refine zI ?_ | refine zJ ?_ | refine zK ?_ | refine zL ?_ | refine zM ?_ | refine zN ?_ | refine zO ?_) | ((with_reducible refine yG ?_ ?_); (focus decide)) | ((with_reducible refine yA ?_); refine yB rfl ?_; (with_reducible first | refine yC ?_ | refine yD ?_)))
  refine AW.nilRow 3 (bl []) 0 _ rfl rfl ?_
  repeat (first | ((first | (with_reducible first | refine zP fun K_ hK_ => ?_ | refine zQ fun K_ hK_ => ?_ | refine zT ?_ | refine zU ?_ | refine zV ?_ | refine zW ?_ | refine zX ?_ | refine zY ?_) | ((with_reducible first | refine zR ?_ ?_ fun K_ hK_ => ?_ | refine zS ?_ ?_ fun K_ hK_ => ?_); (focus kernel_rfl); (focus kernel_rfl))); first | (simp (maxSteps := 1000000) (disch := refine hold_ ?_; first | (simp [kNil, hsz, -List.getD_eq_getElem?_getD]; done) | omega) [kNil, hsz, -List.getD_eq_getElem?_getD]; try first | (with_reducible refine zZ ?_) | subst hK_) | subst hK_) | (with_reducible first | refine zA ?_ | refine zB ?_ | refine zC ?_ | refine zD ?_ | refine zE ?_ | refine zF ?_ | refine zG ?_ | refine zH ?_ | refine zI ?_ | refine zJ ?_ | refine zK ?_ | refine zL ?_ | refine zM ?_ | refine zN ?_ | refine zO ?_) | ((with_reducible refine yG ?_ ?_); (focus decide)) | ((with_reducible refine yA ?_); refine yB rfl ?_; (with_reducible first | refine yC ?_ | refine yD ?_)))
  refine AW.iter (true :: false :: false :: true :: false :: false :: true :: true :: false :: false :: false :: false :: false :: false :: false :: false :: false :: false :: false :: false :: false :: false :: false :: false :: false :: false :: false :: false :: false :: false :: false :: false :: false :: false :: false :: false :: false :: false :: false :: false :: false :: false :: false :: false :: false :: false :: []) l.length (fun k => rlS l k (linesL l k)) ?_ ?_
  · unfold rlS
    simp (maxSteps := 1000000) (disch := refine hold_ ?_; first | (simp [show linesL l 0 = [] from rfl, -List.getD_eq_getElem?_getD]; done) | omega) [show linesL l 0 = [] from rfl, -List.getD_eq_getElem?_getD]
  intro k hk
  have e1 : IntKind.i64.wrap ((k : Int) + 1) = k + 1 := wrap_i64 _ (by omega) (by omega)
  by_cases hkc : k < l.length
  · have hkz : (k : Int) < l.length := by omega
    have hg : (((txt l).data.toList.getD k 0).toNat : Int) = ub (l.getD k 0#8) := txt_get l k
    have hg1 : (((txt l).data.toList.getD (k + 1) 0).toNat : Int) = ub (l.getD (k + 1) 0#8) := txt_get l (k + 1)
    have tn : ((k : Int) + 1).toNat = k + 1 := by omega
    have hs := linesL_succ l k
    have hlen := linesL_len l k
    have hP : lineP l k = if l.getD k 0#8 = 13#8 then (if k + 1 < l.length ∧ l.getD (k + 1) 0#8 = 10#8 then [] else [10#8]) else [l.getD k 0#8] := rfl
    generalize linesL l (k + 1) = B at *
    generalize linesL l k = A at *
    generalize lineP l k = Q at *
    generalize l.getD (k + 1) 0#8 = c at *
    generalize l.getD k 0#8 = b at *
    have hol : A.length + 1 ≤ 140737488355328 := by omega
    by_cases hb : b = 13#8
    · have u : (ub b == 13) = true := by rw [hb]; rfl
      rw [if_pos hb] at hP
      by_cases hn : k + 1 < l.length
      · have hnz : (k : Int) + 1 < l.length := by omega
        by_cases hc : c = 10#8
        · have v : (ub c == 10) = true := by rw [hc]; rfl
          rw [if_pos ⟨hn, hc⟩] at hP
          rw [hP, List.append_nil] at hs
          subst hs
          unfold rlS
          repeat (first | ((first | (with_reducible first | refine zP fun K_ hK_ => ?_ | refine zQ fun K_ hK_ => ?_ | refine zT ?_ | refine zU ?_ | refine zV ?_ | refine zW ?_ | refine zX ?_ | refine zY ?_) | ((with_reducible first | refine zR ?_ ?_ fun K_ hK_ => ?_ | refine zS ?_ ?_ fun K_ hK_ => ?_); (focus kernel_rfl); (focus kernel_rfl))); first | (simp (maxSteps := 1000000) (disch := refine hold_ ?_; first | (simp [hsz, hkz, hkc, hg, hg1, tn, e1, u, hnz, hn, v, -List.getD_eq_getElem?_getD]; done) | omega) [hsz, hkz, hkc, hg, hg1, tn, e1, u, hnz, hn, v, -List.getD_eq_getElem?_getD]; try first | (with_reducible refine zZ ?_) | subst hK_) | subst hK_) | (with_reducible first | refine zA ?_ | refine zB ?_ | refine zC ?_ | refine zD ?_ | refine zE ?_ | refine zF ?_ | refine zG ?_ | refine zH ?_ | refine zI ?_ | refine zJ ?_ | refine zK ?_ | refine zL ?_ | refine zM ?_ | refine zN ?_ | refine zO ?_) | ((with_reducible refine yG ?_ ?_); (focus decide)) | ((with_reducible refine yA ?_); refine yB rfl ?_; (with_reducible first | refine yC ?_ | refine yD ?_)))
          refine ⟨hkc, ?_⟩
          simp (maxSteps := 1000000) (disch := refine hold_ ?_; first | (simp [-List.getD_eq_getElem?_getD]; done) | omega) [-List.getD_eq_getElem?_getD]
        · have v : (ub c == 10) = false := beq_eq_false_iff_ne.2 (ub_ne hc)
          rw [if_neg (fun e => hc e.2)] at hP
          rw [hP] at hs
          subst hs
          have ha : appRow (bl A) (.ints .u8 [10]) = some (bl (A ++ [10#8])) := app_lit A 10 (by omega) (by omega)
          unfold rlS
          repeat (first | ((first | (with_reducible first | refine zP fun K_ hK_ => ?_ | refine zQ fun K_ hK_ => ?_ | refine zT ?_ | refine zU ?_ | refine zV ?_ | refine zW ?_ | refine zX ?_ | refine zY ?_) | ((with_reducible first | refine zR ?_ ?_ fun K_ hK_ => ?_ | refine zS ?_ ?_ fun K_ hK_ => ?_); (focus kernel_rfl); (focus kernel_rfl))); first | (simp (maxSteps := 1000000) (disch := refine hold_ ?_; first | (simp [hsz, hkz, hkc, hg, hg1, tn, e1, u, hnz, hn, v, ha, hol, -List.getD_eq_getElem?_getD]; done) | omega) [hsz, hkz, hkc, hg, hg1, tn, e1, u, hnz, hn, v, ha, hol, -List.getD_eq_getElem?_getD]; try first | (with_reducible refine zZ ?_) | subst hK_) | subst hK_) | (with_reducible first | refine zA ?_ | refine zB ?_ | refine zC ?_ | refine zD ?_ | refine zE ?_ | refine zF ?_ | refine zG ?_ | refine zH ?_ | refine zI ?_ | refine zJ ?_ | refine zK ?_ | refine zL ?_ | refine zM ?_ | refine zN ?_ | refine zO ?_) | ((with_reducible refine yG ?_ ?_); (focus decide)) | ((with_reducible refine yA ?_); refine yB rfl ?_; (with_reducible first | refine yC ?_ | refine yD ?_)))
          refine ⟨hkc, ?_⟩
          simp (maxSteps := 1000000) (disch := refine hold_ ?_; first | (simp [-List.getD_eq_getElem?_getD]; done) | omega) [-List.getD_eq_getElem?_getD]
      · have hnz : ¬ (k : Int) + 1 < l.length := by omega
        rw [if_neg (fun e => hn e.1)] at hP
        rw [hP] at hs
        subst hs
        have ha : appRow (bl A) (.ints .u8 [10]) = some (bl (A ++ [10#8])) := app_lit A 10 (by omega) (by omega)
        unfold rlS
        repeat (first | ((first | (with_reducible first | refine zP fun K_ hK_ => ?_ | refine zQ fun K_ hK_ => ?_ | refine zT ?_ | refine zU ?_ | refine zV ?_ | refine zW ?_ | refine zX ?_ | refine zY ?_) | ((with_reducible first | refine zR ?_ ?_ fun K_ hK_ => ?_ | refine zS ?_ ?_ fun K_ hK_ => ?_); (focus kernel_rfl); (focus kernel_rfl))); first | (simp (maxSteps := 1000000) (disch := refine hold_ ?_; first | (simp [hsz, hkz, hkc, hg, tn, e1, u, hnz, ha, hol, -List.getD_eq_getElem?_getD]; done) | omega) [hsz, hkz, hkc, hg, tn, e1, u, hnz, ha, hol, -List.getD_eq_getElem?_getD]; try first | (with_reducible refine zZ ?_) | subst hK_) | subst hK_) | (with_reducible first | refine zA ?_ | refine zB ?_ | refine zC ?_ | refine zD ?_ | refine zE ?_ | refine zF ?_ | refine zG ?_ | refine zH ?_ | refine zI ?_ | refine zJ ?_ | refine zK ?_ | refine zL ?_ | refine zM ?_ | refine zN ?_ | refine zO ?_) | ((with_reducible refine yG ?_ ?_); (focus decide)) | ((with_reducible refine yA ?_); refine yB rfl ?_; (with_reducible first | refine yC ?_ | refine yD ?_)))
        refine ⟨hkc, ?_⟩
        simp (maxSteps := 1000000) (disch := refine hold_ ?_; first | (simp [-List.getD_eq_getElem?_getD]; done) | omega) [-List.getD_eq_getElem?_getD]
    · have u : (ub b == 13) = false := beq_eq_false_iff_ne.2 (ub_ne hb)
      rw [if_neg hb] at hP
      rw [hP] at hs
      subst hs
      unfold rlS
      repeat (first | ((first | (with_reducible first | refine zP fun K_ hK_ => ?_ | refine zQ fun K_ hK_ => ?_ | refine zT ?_ | refine zU ?_ | refine zV ?_ | refine zW ?_ | refine zX ?_ | refine zY ?_) | ((with_reducible first | refine zR ?_ ?_ fun K_ hK_ => ?_ | refine zS ?_ ?_ fun K_ hK_ => ?_); (focus kernel_rfl); (focus kernel_rfl))); first | (simp (maxSteps := 1000000) (disch := refine hold_ ?_; first | (simp [hsz, hkz, hkc, hg, tn, e1, u, hol, -List.getD_eq_getElem?_getD]; done) | omega) [hsz, hkz, hkc, hg, tn, e1, u, hol, -List.getD_eq_getElem?_getD]; try first | (with_reducible refine zZ ?_) | subst hK_) | subst hK_) | (with_reducible first | refine zA ?_ | refine zB ?_ | refine zC ?_ | refine zD ?_ | refine zE ?_ | refine zF ?_ | refine zG ?_ | refine zH ?_ | refine zI ?_ | refine zJ ?_ | refine zK ?_ | refine zL ?_ | refine zM ?_ | refine zN ?_ | refine zO ?_) | ((with_reducible refine yG ?_ ?_); (focus decide)) | ((with_reducible refine yA ?_); refine yB rfl ?_; (with_reducible first | refine yC ?_ | refine yD ?_)))
      refine ⟨hkc, ?_⟩
      simp (maxSteps := 1000000) (disch := refine hold_ ?_; first | (simp [-List.getD_eq_getElem?_getD]; done) | omega) [-List.getD_eq_getElem?_getD]
  · have hk2 : k = l.length := by omega
    subst hk2
    have hne : ¬ (l.length : Int) < l.length := by omega
    generalize linesL l l.length = B at *
    unfold rlS
    repeat (first | ((first | (with_reducible first | refine zP fun K_ hK_ => ?_ | refine zQ fun K_ hK_ => ?_ | refine zT ?_ | refine zU ?_ | refine zV ?_ | refine zW ?_ | refine zX ?_ | refine zY ?_) | ((with_reducible first | refine zR ?_ ?_ fun K_ hK_ => ?_ | refine zS ?_ ?_ fun K_ hK_ => ?_); (focus kernel_rfl); (focus kernel_rfl))); first | (simp (maxSteps := 1000000) (disch := refine hold_ ?_; first | (simp [hsz, hne, -List.getD_eq_getElem?_getD]; done) | omega) [hsz, hne, -List.getD_eq_getElem?_getD]; try first | (with_reducible refine zZ ?_) | subst hK_) | subst hK_) | (with_reducible first | refine zA ?_ | refine zB ?_ | refine zC ?_ | refine zD ?_ | refine zE ?_ | refine zF ?_ | refine zG ?_ | refine zH ?_ | refine zI ?_ | refine zJ ?_ | refine zK ?_ | refine zL ?_ | refine zM ?_ | refine zN ?_ | refine zO ?_) | ((with_reducible refine yG ?_ ?_); (focus decide)) | ((with_reducible refine yA ?_); refine yB rfl ?_; (with_reducible first | refine yC ?_ | refine yD ?_)))
    all_goals simp (maxSteps := 1000000) (disch := refine hold_ ?_; first | (simp [-List.getD_eq_getElem?_getD]; done) | omega) [-List.getD_eq_getElem?_getD]
    all_goals exact (str_of B).symm
set_option maxHeartbeats 10000000 in
theorem lawLines_ct (l : List (BitVec 8)) : Fn Tryd.prog 3 [.str (txt l)] [.p (.bool true)] := by
  have cw := awake_ct
  have z1 := txt_size l
  refine Fn.of_body Tryd.func3 rfl ?_
  by_cases hc : 1000 < (l.length : Int)
  · repeat (first | ((with_reducible first | refine callK_at 4 ?_); refine callK_p ?_; simp (maxSteps := 1000000) (disch := refine hold_ ?_; first | (simp [z1, hc, -List.getD_eq_getElem?_getD]; done) | omega) [z1, hc, -List.getD_eq_getElem?_getD]; (first | refine callK1_of (Fn.ct cw Tryd.call4) ?_); (try simp (maxSteps := 1000000) (disch := refine hold_ ?_; first | (simp [z1, hc, -List.getD_eq_getElem?_getD]; done) | omega) [z1, hc, -List.getD_eq_getElem?_getD]); try first | (with_reducible refine zZ ?_) | subst hK_) | ((first | (with_reducible first | refine zP fun K_ hK_ => ?_ | refine zQ fun K_ hK_ => ?_ | refine zT ?_ | refine zU ?_ | refine zV ?_ | refine zW ?_ | refine zX ?_ | refine zY ?_) | ((with_reducible first | refine zR ?_ ?_ fun K_ hK_ => ?_ | refine zS ?_ ?_ fun K_ hK_ => ?_); (focus kernel_rfl); (focus kernel_rfl))); first | (simp (maxSteps := 1000000) (disch := refine hold_ ?_; first | (simp [z1, hc, -List.getD_eq_getElem?_getD]; done) | omega) [z1, hc, -List.getD_eq_getElem?_getD]; try first | (with_reducible refine zZ ?_) | subst hK_) | subst hK_) | (with_reducible first | refine zA ?_ | refine zB ?_ | refine zC ?_ | refine zD ?_ | refine zE ?_ | refine zF ?_ | refine zG ?_ | refine zH ?_ | refine zI ?_ | refine zJ ?_ | refine zK ?_ | refine zL ?_ | refine zM ?_ | refine zN ?_ | refine zO ?_) | ((with_reducible refine yG ?_ ?_); (focus decide)) | ((with_reducible refine yA ?_); refine yB rfl ?_; (with_reducible first | refine yC ?_ | refine yD ?_)))
    all_goals simp (maxSteps := 1000000) (disch := refine hold_ ?_; first | (simp [-List.getD_eq_getElem?_getD]; done) | omega) [-List.getD_eq_getElem?_getD]
  · have c1 := lines_ct l (by omega)
    have c2 := rlines_ct l (by omega)
    have c3 := lines_ct (lineV l) (by have := lineV_len l; omega)
    have e1 : linesL l l.length = lineV l := (lines_eq l).symm
    have e2 : lineV (lineV l) = lineV l := lines_again l
    rw [e1] at c2
    rw [e2] at c3
    generalize lineV l = L at *
    repeat (first | ((with_reducible first | refine callK_at 4 ?_ | refine callK_at 5 ?_ | refine callK_at 6 ?_); refine callK_p ?_; simp (maxSteps := 1000000) (disch := refine hold_ ?_; first | (simp [z1, hc, str_eql, -List.getD_eq_getElem?_getD]; done) | omega) [z1, hc, str_eql, -List.getD_eq_getElem?_getD]; (first | ((with_reducible refine k1_at 4 ?_); refine callK1_of (Fn.ct cw Tryd.call4) ?_) | ((with_reducible refine k1_at 5 ?_); refine callK1_of ((by first | exact Fn.ct c1 Tryd.call5 | exact Fn.ct c3 Tryd.call5)) ?_) | ((with_reducible refine k1_at 6 ?_); refine callK1_of (Fn.ct c2 Tryd.call6) ?_)); (try simp (maxSteps := 1000000) (disch := refine hold_ ?_; first | (simp [z1, hc, str_eql, -List.getD_eq_getElem?_getD]; done) | omega) [z1, hc, str_eql, -List.getD_eq_getElem?_getD]); try first | (with_reducible refine zZ ?_) | subst hK_) | ((first | (with_reducible first | refine zP fun K_ hK_ => ?_ | refine zQ fun K_ hK_ => ?_ | refine zT ?_ | refine zU ?_ | refine zV ?_ | refine zW ?_ | refine zX ?_ | refine zY ?_) | ((with_reducible first | refine zR ?_ ?_ fun K_ hK_ => ?_ | refine zS ?_ ?_ fun K_ hK_ => ?_); (focus kernel_rfl); (focus kernel_rfl))); first | (simp (maxSteps := 1000000) (disch := refine hold_ ?_; first | (simp [z1, hc, str_eql, -List.getD_eq_getElem?_getD]; done) | omega) [z1, hc, str_eql, -List.getD_eq_getElem?_getD]; try first | (with_reducible refine zZ ?_) | subst hK_) | subst hK_) | (with_reducible first | refine zA ?_ | refine zB ?_ | refine zC ?_ | refine zD ?_ | refine zE ?_ | refine zF ?_ | refine zG ?_ | refine zH ?_ | refine zI ?_ | refine zJ ?_ | refine zK ?_ | refine zL ?_ | refine zM ?_ | refine zN ?_ | refine zO ?_) | ((with_reducible refine yG ?_ ?_); (focus decide)) | ((with_reducible refine yA ?_); refine yB rfl ?_; (with_reducible first | refine yC ?_ | refine yD ?_)))
    all_goals simp (maxSteps := 1000000) (disch := refine hold_ ?_; first | (simp [-List.getD_eq_getElem?_getD]; done) | omega) [-List.getD_eq_getElem?_getD]
theorem lines_law (s : ByteArray) (_ : s.size ≤ reachBytes) : Fn Tryd.prog 3 [.str s] [.p (.bool true)] := by
  obtain ⟨a, rfl⟩ := txt_of s
  exact lawLines_ct a
end Go.Av.Chl
end
section
set_option linter.unusedSimpArgs false
set_option linter.unusedVariables false
set_option linter.unusedSectionVars false
open Go Go.Av Go.Proofs
namespace Go.Proofs.YtdbojjoffmbjcaaDoor
open Go Go.Av Go.Av.Chl
theorem firstL_at (c : Nat) (h : c < 256) : firstL.getD c 0 = ((Lib.firstT c : Nat) : Int) := by
  rw [show firstL.getD c 0 = firstF c by simp [firstL, List.getD_eq_getElem?_getD, h]]
  unfold firstF Lib.firstT
  (repeat' split) <;> omega
theorem accL_at : ∀ i : Fin 16, accL.getD (2 * i.val) 0 = ((Lib.accLo i.val : Nat) : Int) ∧ accL.getD (2 * i.val + 1) 0 = ((Lib.accHi i.val : Nat) : Int) := by decide
theorem noVars (W : World) (m : Int) (hm : W.cell? ⟨0, 0, none⟩ = some (.int .i64 m)) (h : Lib.Utf8Tabs 1 2 W) :
    ∀ g r, (@Tables.gl (@instTablesOfML ⟨m⟩)) g = some r → RepP (cellsOf W) (.eptr r 0 0) (.pointer (some ⟨g, 0, none⟩)) := by
  intro g r hg
  have one : ∀ (b : Nat) (l : List Int) (n : Nat), l.length = n → n ≠ 0 → (∀ j, j < n → W.cell? ⟨b, j, none⟩ = some (.int .u8 (l.getD j 0))) → RepP (cellsOf W) (.eptr (.vals n [.agg (.ints .u8 l)]) 0 0) (.pointer (some ⟨b, 0, none⟩)) := by
    intro b l n hl h0 hc
    have := RepP.eptr (m := cellsOf W) (.vals n [.agg (.ints .u8 l)]) 0 0 b 0 (fun _ j => .int .u8 (l.getD j 0)) (by simp [Row.len]) ?_ ?_ ?_ ?_
    · simpa using this
    · intro i hi
      simp only [Row.len, List.length_singleton] at hi
      obtain rfl : i = 0 := by omega
      simpa [Row.elem, PV.width, Row.len, Row.sz] using hl
    · intro i j hi hj
      simp only [Row.len, List.length_singleton] at hi
      obtain rfl : i = 0 := by omega
      show W.cell? ⟨b, 0 + 0 * n + j, none⟩ = _
      rw [show 0 + 0 * n + j = j by omega]; exact hc j (by simpa [Row.sz] using hj)
    · intro i j hi hj
      simp only [Row.len, List.length_singleton] at hi
      obtain rfl : i = 0 := by omega
      rfl
    · intro i j hi hj
      simp only [Row.len, List.length_singleton] at hi
      obtain rfl : i = 0 := by omega
      exact .int .u8 _
  match g, hg with
  | 0, hg =>
    have : r = .vals 1 [.int .i64 m] := (Option.some.inj hg).symm
    subst this
    have := RepP.eptr (m := cellsOf W) (.vals 1 [.int .i64 m]) 0 0 0 0 (fun _ _ => .int .i64 m) (by simp [Row.len]) ?_ ?_ ?_ ?_
    · simpa using this
    · intro i hi
      simp only [Row.len, List.length_singleton] at hi
      obtain rfl : i = 0 := by omega
      rfl
    · intro i j hi hj
      simp only [Row.len, List.length_singleton] at hi
      simp only [Row.sz] at hj
      obtain rfl : i = 0 := by omega
      obtain rfl : j = 0 := by omega
      exact hm
    · intro i j hi hj
      simp only [Row.len, List.length_singleton] at hi
      obtain rfl : i = 0 := by omega
      rfl
    · intro i j hi hj
      simp only [Row.len, List.length_singleton] at hi
      obtain rfl : i = 0 := by omega
      exact .int .i64 _
  | 1, hg =>
    have : r = .vals 256 [.agg (.ints .u8 firstL)] := (Option.some.inj hg).symm
    subst this
    exact one 1 firstL 256 (by simp [firstL]) (by omega) fun j hj => by rw [h.1 j hj, firstL_at j hj]
  | 2, hg =>
    have : r = .vals 32 [.agg (.ints .u8 accL)] := (Option.some.inj hg).symm
    subst this
    refine one 2 accL 32 rfl (by omega) fun j hj => ?_
    obtain ⟨k, hk⟩ : ∃ k, j = 2 * k ∨ j = 2 * k + 1 := ⟨j / 2, by omega⟩
    have hk16 : k < 16 := by omega
    obtain ⟨q1, q2⟩ := h.2 k hk16
    obtain ⟨a1, a2⟩ := accL_at ⟨k, hk16⟩
    rcases hk with rfl | rfl
    · rw [q1, a1]
    · rw [q2, a2]
end Go.Proofs.YtdbojjoffmbjcaaDoor
end
