/- The walks of this seat's functions, and what is known of what they reckon (Ref). Conditions: those that each theorem names. -/
import Derived.Test.YtcmhbepfolibgaaSha

section
set_option linter.unusedSimpArgs false
set_option linter.unusedVariables false
open Go Go.Av Go.Proofs
namespace Go.Av.Sha
/-! ### the document's words -/
def refW0 (b : List (BitVec 8)) (t : Nat) : BitVec 32 :=
  ((b.getD (4 * t) 0).setWidth 32 <<< 24) + ((b.getD (4 * t + 1) 0).setWidth 32 <<< 16) + ((b.getD (4 * t + 2) 0).setWidth 32 <<< 8) + (b.getD (4 * t + 3) 0).setWidth 32
def refW1 (w : List (BitVec 32)) (t : Nat) : BitVec 32 :=
  let x := w.getD (t - 2) 0; let y := w.getD (t - 15) 0
  (rotr x 17 ^^^ rotr x 19 ^^^ x >>> 10) + w.getD (t - 7) 0 + (rotr y 7 ^^^ rotr y 18 ^^^ y >>> 3) + w.getD (t - 16) 0
def refStep (b : List (BitVec 8)) (w : List (BitVec 32)) (t : Nat) : List (BitVec 32) := w.set t (if t < 16 then refW0 b t else refW1 w t)
def refL (b : List (BitVec 8)) (n : Nat) : List (BitVec 32) := (List.range n).foldl (refStep b) zero64
theorem refL_zero (b : List (BitVec 8)) : refL b 0 = zero64 := rfl
theorem refL_succ (b : List (BitVec 8)) (n : Nat) : refL b (n + 1) = refStep b (refL b n) n := by simp [refL, List.range_succ]
theorem refL_len (b : List (BitVec 8)) (n : Nat) : (refL b n).length = 64 := (fold_len (fun w t => by simp [refStep]) _ _).trans List.length_replicate
theorem sub2 (m : Nat) : 16 + m - 2 = m + 14 := by omega
theorem sub15 (m : Nat) : 16 + m - 15 = m + 1 := by omega
theorem sub7 (m : Nat) : 16 + m - 7 = m + 9 := by omega
theorem sub16 (m : Nat) : 16 + m - 16 = m := by omega
set_option maxRecDepth 20000 in
set_option maxHeartbeats 10000000 in
theorem words_ct (nl : Bool) (b : List (BitVec 8)) (hb : 64 ≤ b.length) : Fn Try.prog 29 [.sl (bl b) nl] [.p (.agg (wl (refL b 64)))] := by
  refine Fn.of_body Try.func29 rfl ?_
  repeat (first | ((first | (with_reducible first | refine zP fun K_ hK_ => ?_ | refine zQ fun K_ hK_ => ?_ | refine zT ?_ | refine zU ?_ | refine zV ?_ | refine zW ?_ | refine zX ?_ | refine zY ?_) | ((with_reducible first | refine zR ?_ ?_ fun K_ hK_ => ?_ | refine zS ?_ ?_ fun K_ hK_ => ?_); (focus kernel_rfl); (focus kernel_rfl))); first | (simp (maxSteps := 1000000) (disch := refine hold_ ?_; first | (simp [-List.getD_eq_getElem?_getD]; done) | omega) [-List.getD_eq_getElem?_getD]; try first | (with_reducible refine zZ ?_) | subst hK_) | subst hK_) | (with_reducible first | refine zA ?_ | refine zB ?_ | refine zC ?_ | refine zD ?_ | refine zE ?_ | refine zF ?_ | refine zG ?_ | refine zH ?_ | refine zI ?_ | refine zJ ?_ | refine zK ?_ | refine zL ?_ | refine zM ?_ | refine zN ?_ | refine zO ?_) | ((with_reducible refine yG ?_ ?_); (focus decide)) | ((with_reducible refine yA ?_); refine yB rfl ?_; (with_reducible first | refine yC ?_ | refine yD ?_)))
  refine AW.iter (true :: false :: true :: true :: false :: false :: false :: true :: false :: false :: false :: false :: false :: false :: false :: false :: false :: false :: false :: false :: false :: false :: false :: false :: false :: false :: false :: false :: false :: false :: false :: false :: false :: false :: false :: false :: false :: false :: false :: false :: false :: false :: false :: false :: false :: false :: false :: false :: false :: false :: false :: false :: false :: false :: false :: false :: false :: false :: false :: false :: false :: false :: false :: false :: false :: false :: false :: false :: false :: false :: false :: false :: false :: false :: false :: false :: false :: false :: false :: false :: false :: false :: false :: false :: false :: false :: []) 64 (fun k => ⟨(.p (.sl (bl b) nl) :: V.junk :: .ptr 2 0 0 :: .ptr 3 0 0 :: V.junk :: V.junk :: V.junk :: .p (.int .i64 k) :: V.junk :: V.junk :: V.junk :: V.junk :: V.junk :: V.junk :: V.junk :: V.junk :: V.junk :: V.junk :: V.junk :: V.junk :: V.junk :: V.junk :: V.junk :: V.junk :: V.junk :: V.junk :: V.junk :: V.junk :: V.junk :: V.junk :: V.junk :: V.junk :: V.junk :: V.junk :: V.junk :: V.junk :: V.junk :: V.junk :: V.junk :: V.junk :: V.junk :: V.junk :: V.junk :: V.junk :: V.junk :: V.junk :: V.junk :: V.junk :: V.junk :: V.junk :: V.junk :: V.junk :: V.junk :: V.junk :: V.junk :: V.junk :: V.junk :: V.junk :: V.junk :: V.junk :: V.junk :: V.junk :: V.junk :: V.junk :: V.junk :: V.junk :: V.junk :: V.junk :: V.junk :: V.junk :: V.junk :: V.junk :: V.junk :: V.junk :: V.junk :: V.junk :: V.junk :: V.junk :: V.junk :: V.junk :: V.junk :: V.junk :: V.junk :: V.junk :: V.junk :: V.junk :: []), ⟨[(2, 0, .row (wl zero64)), (3, 0, .row (wl (refL b k)))], []⟩⟩) ?_ ?_
  · simp (maxSteps := 1000000) (disch := refine hold_ ?_; first | (simp [refL_zero, -List.getD_eq_getElem?_getD]; done) | omega) [refL_zero, -List.getD_eq_getElem?_getD]
  intro k hk
  have e0 : IntKind.i64.wrap ((k : Int) + 1) = k + 1 := wrap_i64 _ (by omega) (by omega)
  have hR := refL_len b k
  have hst := refL_succ b k
  generalize hWW : refL b k = W at *
  repeat (first | ((first | (with_reducible first | refine zP fun K_ hK_ => ?_ | refine zQ fun K_ hK_ => ?_ | refine zT ?_ | refine zU ?_ | refine zV ?_ | refine zW ?_ | refine zX ?_ | refine zY ?_) | ((with_reducible first | refine zR ?_ ?_ fun K_ hK_ => ?_ | refine zS ?_ ?_ fun K_ hK_ => ?_); (focus kernel_rfl); (focus kernel_rfl))); first | (simp (maxSteps := 1000000) (disch := refine hold_ ?_; first | (simp [-List.getD_eq_getElem?_getD]; done) | omega) [-List.getD_eq_getElem?_getD]; try first | (with_reducible refine zZ ?_) | subst hK_) | subst hK_) | (with_reducible first | refine zA ?_ | refine zB ?_ | refine zC ?_ | refine zD ?_ | refine zE ?_ | refine zF ?_ | refine zG ?_ | refine zH ?_ | refine zI ?_ | refine zJ ?_ | refine zK ?_ | refine zL ?_ | refine zM ?_ | refine zN ?_ | refine zO ?_) | ((with_reducible refine yG ?_ ?_); (focus decide)) | ((with_reducible refine yA ?_); refine yB rfl ?_; (with_reducible first | refine yC ?_ | refine yD ?_)))
  first | refine AW.condD rfl (fun hc => ?_) (fun hc => ?_) | refine AW.cond rfl (fun hc => ?_) (fun hc => ?_)
  · have hk2 : k < 64 := by omega
    repeat (first | ((first | (with_reducible first | refine zP fun K_ hK_ => ?_ | refine zQ fun K_ hK_ => ?_ | refine zT ?_ | refine zU ?_ | refine zV ?_ | refine zW ?_ | refine zX ?_ | refine zY ?_) | ((with_reducible first | refine zR ?_ ?_ fun K_ hK_ => ?_ | refine zS ?_ ?_ fun K_ hK_ => ?_); (focus kernel_rfl); (focus kernel_rfl))); first | (simp (maxSteps := 1000000) (disch := refine hold_ ?_; first | (simp [-List.getD_eq_getElem?_getD]; done) | omega) [-List.getD_eq_getElem?_getD]; try first | (with_reducible refine zZ ?_) | subst hK_) | subst hK_) | (with_reducible first | refine zA ?_ | refine zB ?_ | refine zC ?_ | refine zD ?_ | refine zE ?_ | refine zF ?_ | refine zG ?_ | refine zH ?_ | refine zI ?_ | refine zJ ?_ | refine zK ?_ | refine zL ?_ | refine zM ?_ | refine zN ?_ | refine zO ?_) | ((with_reducible refine yG ?_ ?_); (focus decide)) | ((with_reducible refine yA ?_); refine yB rfl ?_; (with_reducible first | refine yC ?_ | refine yD ?_)))
    first | refine AW.condD rfl (fun hc => ?_) (fun hc => ?_) | refine AW.cond rfl (fun hc => ?_) (fun hc => ?_)
    · have hk3 : k < 16 := by omega
      have f0 : IntKind.i64.wrap (4 * (k : Int)) = 4 * k := wrap_i64 _ (by omega) (by omega)
      have f1 : IntKind.i64.wrap (4 * (k : Int) + 1) = 4 * k + 1 := wrap_i64 _ (by omega) (by omega)
      have f2 : IntKind.i64.wrap (4 * (k : Int) + 2) = 4 * k + 2 := wrap_i64 _ (by omega) (by omega)
      have f3 : IntKind.i64.wrap (4 * (k : Int) + 3) = 4 * k + 3 := wrap_i64 _ (by omega) (by omega)
      have g0 : (4 * (k : Int)).toNat = 4 * k := by omega
      have g1 : (4 * (k : Int) + 1).toNat = 4 * k + 1 := by omega
      have g2 : (4 * (k : Int) + 2).toNat = 4 * k + 2 := by omega
      have g3 : (4 * (k : Int) + 3).toNat = 4 * k + 3 := by omega
      have b0 : 4 * (k : Int) < b.length := by omega
      have b1 : 4 * (k : Int) + 1 < b.length := by omega
      have b2 : 4 * (k : Int) + 2 < b.length := by omega
      have b3 : 4 * (k : Int) + 3 < b.length := by omega
      have c0 : 0 ≤ 4 * (k : Int) := by omega
      have c1 : 0 ≤ 4 * (k : Int) + 1 := by omega
      have c2 : 0 ≤ 4 * (k : Int) + 2 := by omega
      have c3 : 0 ≤ 4 * (k : Int) + 3 := by omega
      simp only [refStep, refW0, if_pos hk3] at hst
      repeat (first | ((first | (with_reducible first | refine zP fun K_ hK_ => ?_ | refine zQ fun K_ hK_ => ?_ | refine zT ?_ | refine zU ?_ | refine zV ?_ | refine zW ?_ | refine zX ?_ | refine zY ?_) | ((with_reducible first | refine zR ?_ ?_ fun K_ hK_ => ?_ | refine zS ?_ ?_ fun K_ hK_ => ?_); (focus kernel_rfl); (focus kernel_rfl))); first | (simp (maxSteps := 1000000) (disch := refine hold_ ?_; first | (simp [f0, f1, f2, f3, g0, g1, g2, g3, b0, b1, b2, b3, c0, c1, c2, c3, hk2, hR, e0, -List.getD_eq_getElem?_getD]; done) | omega) [f0, f1, f2, f3, g0, g1, g2, g3, b0, b1, b2, b3, c0, c1, c2, c3, hk2, hR, e0, -List.getD_eq_getElem?_getD]; try first | (with_reducible refine zZ ?_) | subst hK_) | subst hK_) | (with_reducible first | refine zA ?_ | refine zB ?_ | refine zC ?_ | refine zD ?_ | refine zE ?_ | refine zF ?_ | refine zG ?_ | refine zH ?_ | refine zI ?_ | refine zJ ?_ | refine zK ?_ | refine zL ?_ | refine zM ?_ | refine zN ?_ | refine zO ?_) | ((with_reducible refine yG ?_ ?_); (focus decide)) | ((with_reducible refine yA ?_); refine yB rfl ?_; (with_reducible first | refine yC ?_ | refine yD ?_)))
      exact ⟨hk2, by simp (maxSteps := 1000000) (disch := refine hold_ ?_; first | (simp [hst, -List.getD_eq_getElem?_getD]; done) | omega) [hst, -List.getD_eq_getElem?_getD]⟩
    · have hk3 : ¬ k < 16 := by omega
      simp only [refStep, refW1, if_neg hk3] at hst
      obtain ⟨m, rfl⟩ : ∃ m, k = 16 + m := ⟨k - 16, by omega⟩
      have e1 : IntKind.i64.wrap (16 + (m : Int) + 1) = 16 + m + 1 := wrap_i64 _ (by omega) (by omega)
      have f0 : IntKind.i64.wrap (16 + (m : Int) - 2) = m + 14 := (wrap_i64 _ (by omega) (by omega)).trans (by omega)
      have f1 : IntKind.i64.wrap (16 + (m : Int) - 15) = m + 1 := (wrap_i64 _ (by omega) (by omega)).trans (by omega)
      have f2 : IntKind.i64.wrap (16 + (m : Int) - 7) = m + 9 := (wrap_i64 _ (by omega) (by omega)).trans (by omega)
      have f3 : IntKind.i64.wrap (16 + (m : Int) - 16) = m := (wrap_i64 _ (by omega) (by omega)).trans (by omega)
      have g0 : ((m : Int) + 14).toNat = m + 14 := by omega
      have g1 : ((m : Int) + 1).toNat = m + 1 := by omega
      have g2 : ((m : Int) + 9).toNat = m + 9 := by omega
      have g3 : (16 + (m : Int)).toNat = 16 + m := by omega
      rw [sub2, sub15, sub7, sub16] at hst
      repeat (first | ((with_reducible first | refine callK_at 31 ?_); refine callK_p ?_; simp (maxSteps := 1000000) (disch := refine hold_ ?_; first | (simp [f0, f1, f2, f3, g0, g1, g2, g3, hk2, hR, e1, -List.getD_eq_getElem?_getD]; done) | omega) [f0, f1, f2, f3, g0, g1, g2, g3, hk2, hR, e1, -List.getD_eq_getElem?_getD]; (first | refine callK1_of (Fn.ct (turn_ct _ _ (by decide) (by decide)) Try.call31) ?_); (try simp (maxSteps := 1000000) (disch := refine hold_ ?_; first | (simp [f0, f1, f2, f3, g0, g1, g2, g3, hk2, hR, e1, -List.getD_eq_getElem?_getD]; done) | omega) [f0, f1, f2, f3, g0, g1, g2, g3, hk2, hR, e1, -List.getD_eq_getElem?_getD]); try first | (with_reducible refine zZ ?_) | subst hK_) | ((first | (with_reducible first | refine zP fun K_ hK_ => ?_ | refine zQ fun K_ hK_ => ?_ | refine zT ?_ | refine zU ?_ | refine zV ?_ | refine zW ?_ | refine zX ?_ | refine zY ?_) | ((with_reducible first | refine zR ?_ ?_ fun K_ hK_ => ?_ | refine zS ?_ ?_ fun K_ hK_ => ?_); (focus kernel_rfl); (focus kernel_rfl))); first | (simp (maxSteps := 1000000) (disch := refine hold_ ?_; first | (simp [f0, f1, f2, f3, g0, g1, g2, g3, hk2, hR, e1, -List.getD_eq_getElem?_getD]; done) | omega) [f0, f1, f2, f3, g0, g1, g2, g3, hk2, hR, e1, -List.getD_eq_getElem?_getD]; try first | (with_reducible refine zZ ?_) | subst hK_) | subst hK_) | (with_reducible first | refine zA ?_ | refine zB ?_ | refine zC ?_ | refine zD ?_ | refine zE ?_ | refine zF ?_ | refine zG ?_ | refine zH ?_ | refine zI ?_ | refine zJ ?_ | refine zK ?_ | refine zL ?_ | refine zM ?_ | refine zN ?_ | refine zO ?_) | ((with_reducible refine yG ?_ ?_); (focus decide)) | ((with_reducible refine yA ?_); refine yB rfl ?_; (with_reducible first | refine yC ?_ | refine yD ?_)))
      exact ⟨hk2, by simp (maxSteps := 1000000) (disch := refine hold_ ?_; first | (simp [hst, -List.getD_eq_getElem?_getD]; done) | omega) [hst, -List.getD_eq_getElem?_getD]⟩
  · have hk2 : k = 64 := by omega
    subst hk2
    rw [hWW]
    clear hst hWW
    have hz : zero64.length = 64 := rfl
    repeat (first | ((first | (with_reducible first | refine zP fun K_ hK_ => ?_ | refine zQ fun K_ hK_ => ?_ | refine zT ?_ | refine zU ?_ | refine zV ?_ | refine zW ?_ | refine zX ?_ | refine zY ?_) | ((with_reducible first | refine zR ?_ ?_ fun K_ hK_ => ?_ | refine zS ?_ ?_ fun K_ hK_ => ?_); (focus kernel_rfl); (focus kernel_rfl))); first | (simp (maxSteps := 1000000) (disch := refine hold_ ?_; first | (simp [hR, hz, -List.getD_eq_getElem?_getD]; done) | omega) [hR, hz, -List.getD_eq_getElem?_getD]; try first | (with_reducible refine zZ ?_) | subst hK_) | subst hK_) | (with_reducible first | refine zA ?_ | refine zB ?_ | refine zC ?_ | refine zD ?_ | refine zE ?_ | refine zF ?_ | refine zG ?_ | refine zH ?_ | refine zI ?_ | refine zJ ?_ | refine zK ?_ | refine zL ?_ | refine zM ?_ | refine zN ?_ | refine zO ?_) | ((with_reducible refine yG ?_ ?_); (focus decide)) | ((with_reducible refine yA ?_); refine yB rfl ?_; (with_reducible first | refine yC ?_ | refine yD ?_)))
    simp (maxSteps := 1000000) (disch := refine hold_ ?_; first | (simp [hR, hz, -List.getD_eq_getElem?_getD]; done) | omega) [hR, hz, -List.getD_eq_getElem?_getD]
end Go.Av.Sha
end

section
set_option linter.unusedSimpArgs false
set_option linter.unusedVariables false
open Go Go.Av Go.Proofs
namespace Go.Av.Sha
/-! ### the document's block -/
def rT1 (W x : List (BitVec 32)) (t : Nat) : BitVec 32 :=
  x.getD 7 0 + (rotr (x.getD 4 0) 6 ^^^ rotr (x.getD 4 0) 11 ^^^ rotr (x.getD 4 0) 25) + (x.getD 4 0 &&& x.getD 5 0 ||| ~~~(x.getD 4 0) &&& x.getD 6 0) + kL.getD t 0 + W.getD t 0
def rT2 (x : List (BitVec 32)) : BitVec 32 :=
  (rotr (x.getD 0 0) 2 ^^^ rotr (x.getD 0 0) 13 ^^^ rotr (x.getD 0 0) 22) + (x.getD 0 0 &&& x.getD 1 0 ||| x.getD 0 0 &&& x.getD 2 0 ||| x.getD 1 0 &&& x.getD 2 0)
def shStep (x : List (BitVec 32)) (k : Nat) : List (BitVec 32) := x.set (7 - k) (x.getD (6 - k) 0)
def shL (x : List (BitVec 32)) (n : Nat) : List (BitVec 32) := (List.range n).foldl shStep x
theorem shL_len (x : List (BitVec 32)) (n : Nat) : (shL x n).length = x.length := fold_len (fun w k => by simp [shStep]) _ _
theorem shL_zero (x : List (BitVec 32)) : shL x 0 = x := rfl
theorem shL_succ (x : List (BitVec 32)) (n : Nat) : shL x (n + 1) = shStep (shL x n) n := by simp [shL, List.range_succ]
def rstepL (W x : List (BitVec 32)) (t : Nat) : List (BitVec 32) :=
  let y := shL x 7
  let z := y.set 4 (y.getD 4 0 + rT1 W x t)
  z.set 0 (rT1 W x t + rT2 x)
def rstepsL (W x : List (BitVec 32)) (n : Nat) : List (BitVec 32) := (List.range n).foldl (rstepL W) x
theorem rstepsL_len (W x : List (BitVec 32)) (n : Nat) : (rstepsL W x n).length = x.length := fold_len (fun w k => by simp [rstepL, shL_len]) _ _
theorem rstepsL_zero (W x : List (BitVec 32)) : rstepsL W x 0 = x := rfl
theorem rstepsL_succ (W x : List (BitVec 32)) (n : Nat) : rstepsL W x (n + 1) = rstepL W (rstepsL W x n) n := by simp [rstepsL, List.range_succ]
def rblockL (s : List (BitVec 32)) (b : List (BitVec 8)) : List (BitVec 32) := sumL (rstepsL (refL b 64) s 64) s 8
def zero8 : List (BitVec 32) := List.replicate 8 0
@[simp] theorem cells8 : cellsHB [.int .u32 0, .int .u32 0, .int .u32 0, .int .u32 0, .int .u32 0, .int .u32 0, .int .u32 0, .int .u32 0] = .row (wl zero8) := by kernel_rfl
theorem seven (k : Nat) (h : k < 7) : ((7 : Int) - k).toNat = 7 - k := by omega
theorem seven2 (k : Nat) (h : k < 7) : ((7 : Int) - k - 1).toNat = 6 - k := by omega
set_option maxRecDepth 20000 in
set_option maxHeartbeats 10000000 in
theorem block_ct (S : List (BitVec 32)) (hS : S.length = 8) (nl : Bool) (b : List (BitVec 8)) (hb : 64 ≤ b.length) :
    Fn Try.prog 21 [.agg (wl S), .sl (bl b) nl] [.p (.agg (wl (rblockL S b)))] := by
  have hW := refL_len b 64
  have hK : kL.length = 64 := rfl
  have hz : zero64.length = 64 := rfl
  refine Fn.of_body Try.func21 rfl ?_
  repeat (first | ((first | (with_reducible first | refine zP fun K_ hK_ => ?_ | refine zQ fun K_ hK_ => ?_ | refine zT ?_ | refine zU ?_ | refine zV ?_ | refine zW ?_ | refine zX ?_ | refine zY ?_) | ((with_reducible first | refine zR ?_ ?_ fun K_ hK_ => ?_ | refine zS ?_ ?_ fun K_ hK_ => ?_); (focus kernel_rfl); (focus kernel_rfl))); first | (simp (maxSteps := 1000000) (disch := refine hold_ ?_; first | (simp [hS, hW, hK, hz, -List.getD_eq_getElem?_getD]; done) | omega) [hS, hW, hK, hz, -List.getD_eq_getElem?_getD]; try first | (with_reducible refine zZ ?_) | subst hK_) | subst hK_) | (with_reducible first | refine zA ?_ | refine zB ?_ | refine zC ?_ | refine zD ?_ | refine zE ?_ | refine zF ?_ | refine zG ?_ | refine zH ?_ | refine zI ?_ | refine zJ ?_ | refine zK ?_ | refine zL ?_ | refine zM ?_ | refine zN ?_ | refine zO ?_) | ((with_reducible refine yG ?_ ?_); (focus decide)) | ((with_reducible refine yA ?_); refine yB rfl ?_; (with_reducible first | refine yC ?_ | refine yD ?_)))
  (refine callK_p ?_; simp (maxSteps := 1000000) (disch := refine hold_ ?_; first | (simp [hS, hW, hK, hz, -List.getD_eq_getElem?_getD]; done) | omega) [hS, hW, hK, hz, -List.getD_eq_getElem?_getD]; refine callK1_of (Fn.ct (words_ct _ _ hb) Try.call29) ?_; (try simp (maxSteps := 1000000) (disch := refine hold_ ?_; first | (simp [hS, hW, hK, hz, -List.getD_eq_getElem?_getD]; done) | omega) [hS, hW, hK, hz, -List.getD_eq_getElem?_getD]); first | refine zZ ?_ | subst hK_)
  (refine callK_p ?_; simp (maxSteps := 1000000) (disch := refine hold_ ?_; first | (simp [hS, hW, hK, hz, -List.getD_eq_getElem?_getD]; done) | omega) [hS, hW, hK, hz, -List.getD_eq_getElem?_getD]; refine callK1_of (Fn.ct added_ct Try.call30) ?_; (try simp (maxSteps := 1000000) (disch := refine hold_ ?_; first | (simp [hS, hW, hK, hz, -List.getD_eq_getElem?_getD]; done) | omega) [hS, hW, hK, hz, -List.getD_eq_getElem?_getD]); first | refine zZ ?_ | subst hK_)
  repeat (first | ((first | (with_reducible first | refine zP fun K_ hK_ => ?_ | refine zQ fun K_ hK_ => ?_ | refine zT ?_ | refine zU ?_ | refine zV ?_ | refine zW ?_ | refine zX ?_ | refine zY ?_) | ((with_reducible first | refine zR ?_ ?_ fun K_ hK_ => ?_ | refine zS ?_ ?_ fun K_ hK_ => ?_); (focus kernel_rfl); (focus kernel_rfl))); first | (simp (maxSteps := 1000000) (disch := refine hold_ ?_; first | (simp [hS, hW, hK, hz, -List.getD_eq_getElem?_getD]; done) | omega) [hS, hW, hK, hz, -List.getD_eq_getElem?_getD]; try first | (with_reducible refine zZ ?_) | subst hK_) | subst hK_) | (with_reducible first | refine zA ?_ | refine zB ?_ | refine zC ?_ | refine zD ?_ | refine zE ?_ | refine zF ?_ | refine zG ?_ | refine zH ?_ | refine zI ?_ | refine zJ ?_ | refine zK ?_ | refine zL ?_ | refine zM ?_ | refine zN ?_ | refine zO ?_) | ((with_reducible refine yG ?_ ?_); (focus decide)) | ((with_reducible refine yA ?_); refine yB rfl ?_; (with_reducible first | refine yC ?_ | refine yD ?_)))
  refine AW.iter (false :: false :: true :: false :: true :: true :: true :: true :: false :: false :: false :: false :: false :: false :: false :: false :: false :: false :: false :: true :: false :: false :: false :: false :: false :: false :: false :: false :: false :: false :: false :: false :: false :: false :: false :: false :: false :: false :: false :: false :: false :: false :: false :: false :: false :: false :: false :: false :: false :: false :: false :: false :: false :: false :: false :: false :: false :: false :: false :: false :: false :: false :: false :: false :: false :: false :: false :: false :: false :: false :: false :: false :: false :: false :: false :: false :: false :: false :: false :: false :: false :: false :: false :: false :: false :: false :: false :: false :: false :: false :: false :: false :: false :: false :: false :: false :: false :: false :: false :: false :: false :: false :: false :: false :: false :: false :: false :: false :: false :: false :: false :: false :: false :: false :: false :: false :: false :: false :: false :: false :: false :: false :: []) 64 (fun k => ⟨(V.junk :: V.junk :: .ptr 2 0 0 :: V.junk :: .ptr 4 0 0 :: .ptr 5 0 0 :: .ptr 6 0 0 :: .ptr 7 0 0 :: V.junk :: V.junk :: V.junk :: V.junk :: V.junk :: V.junk :: V.junk :: V.junk :: V.junk :: V.junk :: V.junk :: .p (.int .i64 k) :: V.junk :: V.junk :: V.junk :: V.junk :: V.junk :: V.junk :: V.junk :: V.junk :: V.junk :: V.junk :: V.junk :: V.junk :: V.junk :: V.junk :: V.junk :: V.junk :: V.junk :: V.junk :: V.junk :: V.junk :: V.junk :: V.junk :: V.junk :: V.junk :: V.junk :: V.junk :: V.junk :: V.junk :: V.junk :: V.junk :: V.junk :: V.junk :: V.junk :: V.junk :: V.junk :: V.junk :: V.junk :: V.junk :: V.junk :: V.junk :: V.junk :: V.junk :: V.junk :: V.junk :: V.junk :: V.junk :: V.junk :: V.junk :: V.junk :: V.junk :: V.junk :: V.junk :: V.junk :: V.junk :: V.junk :: V.junk :: V.junk :: V.junk :: V.junk :: V.junk :: V.junk :: V.junk :: V.junk :: V.junk :: V.junk :: V.junk :: V.junk :: V.junk :: V.junk :: V.junk :: V.junk :: V.junk :: V.junk :: V.junk :: V.junk :: V.junk :: V.junk :: V.junk :: V.junk :: V.junk :: V.junk :: V.junk :: V.junk :: V.junk :: V.junk :: V.junk :: V.junk :: V.junk :: V.junk :: V.junk :: V.junk :: V.junk :: V.junk :: V.junk :: V.junk :: V.junk :: V.junk :: V.junk :: V.junk :: V.junk :: V.junk :: V.junk :: []), ⟨[(2, 0, .row (wl S)), (4, 0, .row (wl zero8)), (5, 0, .row (wl (refL b 64))), (6, 0, .row (wl kL)), (7, 0, .row (wl (rstepsL (refL b 64) S k)))], []⟩⟩) ?_ ?_
  · simp (maxSteps := 1000000) (disch := refine hold_ ?_; first | (simp [rstepsL_zero, show (Row.ints IntKind.u32 [0, 0, 0, 0, 0, 0, 0, 0] : Row PV) = wl zero8 from rfl, -List.getD_eq_getElem?_getD]; done) | omega) [rstepsL_zero, show (Row.ints IntKind.u32 [0, 0, 0, 0, 0, 0, 0, 0] : Row PV) = wl zero8 from rfl, -List.getD_eq_getElem?_getD]
  intro k hk
  have e0 : IntKind.i64.wrap ((k : Int) + 1) = k + 1 := wrap_i64 _ (by omega) (by omega)
  have hX := rstepsL_len (refL b 64) S k
  rw [hS] at hX
  have hst := rstepsL_succ (refL b 64) S k
  generalize hW64 : refL b 64 = W at *
  generalize hXX : rstepsL W S k = X at *
  repeat (first | ((first | (with_reducible first | refine zP fun K_ hK_ => ?_ | refine zQ fun K_ hK_ => ?_ | refine zT ?_ | refine zU ?_ | refine zV ?_ | refine zW ?_ | refine zX ?_ | refine zY ?_) | ((with_reducible first | refine zR ?_ ?_ fun K_ hK_ => ?_ | refine zS ?_ ?_ fun K_ hK_ => ?_); (focus kernel_rfl); (focus kernel_rfl))); first | (simp (maxSteps := 1000000) (disch := refine hold_ ?_; first | (simp [hS, hW, hK, hX, e0, -List.getD_eq_getElem?_getD]; done) | omega) [hS, hW, hK, hX, e0, -List.getD_eq_getElem?_getD]; try first | (with_reducible refine zZ ?_) | subst hK_) | subst hK_) | (with_reducible first | refine zA ?_ | refine zB ?_ | refine zC ?_ | refine zD ?_ | refine zE ?_ | refine zF ?_ | refine zG ?_ | refine zH ?_ | refine zI ?_ | refine zJ ?_ | refine zK ?_ | refine zL ?_ | refine zM ?_ | refine zN ?_ | refine zO ?_) | ((with_reducible refine yG ?_ ?_); (focus decide)) | ((with_reducible refine yA ?_); refine yB rfl ?_; (with_reducible first | refine yC ?_ | refine yD ?_)))
  first | refine AW.condD rfl (fun hc => ?_) (fun hc => ?_) | refine AW.cond rfl (fun hc => ?_) (fun hc => ?_)
  · have hk2 := hc
    have hk3 : k < 64 := by omega
    repeat (first | ((with_reducible first | refine callK_at 31 ?_); refine callK_p ?_; simp (maxSteps := 1000000) (disch := refine hold_ ?_; first | (simp [hS, hW, hK, hX, e0, hk2, hk3, -List.getD_eq_getElem?_getD]; done) | omega) [hS, hW, hK, hX, e0, hk2, hk3, -List.getD_eq_getElem?_getD]; (first | refine callK1_of (Fn.ct (turn_ct _ _ (by decide) (by decide)) Try.call31) ?_); (try simp (maxSteps := 1000000) (disch := refine hold_ ?_; first | (simp [hS, hW, hK, hX, e0, hk2, hk3, -List.getD_eq_getElem?_getD]; done) | omega) [hS, hW, hK, hX, e0, hk2, hk3, -List.getD_eq_getElem?_getD]); try first | (with_reducible refine zZ ?_) | subst hK_) | ((first | (with_reducible first | refine zP fun K_ hK_ => ?_ | refine zQ fun K_ hK_ => ?_ | refine zT ?_ | refine zU ?_ | refine zV ?_ | refine zW ?_ | refine zX ?_ | refine zY ?_) | ((with_reducible first | refine zR ?_ ?_ fun K_ hK_ => ?_ | refine zS ?_ ?_ fun K_ hK_ => ?_); (focus kernel_rfl); (focus kernel_rfl))); first | (simp (maxSteps := 1000000) (disch := refine hold_ ?_; first | (simp [hS, hW, hK, hX, e0, hk2, hk3, -List.getD_eq_getElem?_getD]; done) | omega) [hS, hW, hK, hX, e0, hk2, hk3, -List.getD_eq_getElem?_getD]; try first | (with_reducible refine zZ ?_) | subst hK_) | subst hK_) | (with_reducible first | refine zA ?_ | refine zB ?_ | refine zC ?_ | refine zD ?_ | refine zE ?_ | refine zF ?_ | refine zG ?_ | refine zH ?_ | refine zI ?_ | refine zJ ?_ | refine zK ?_ | refine zL ?_ | refine zM ?_ | refine zN ?_ | refine zO ?_) | ((with_reducible refine yG ?_ ?_); (focus decide)) | ((with_reducible refine yA ?_); refine yB rfl ?_; (with_reducible first | refine yC ?_ | refine yD ?_)))
    refine AW.iter (false :: false :: true :: false :: true :: true :: true :: true :: false :: false :: false :: true :: true :: true :: false :: false :: false :: false :: false :: true :: false :: false :: false :: false :: false :: false :: false :: false :: false :: false :: false :: false :: false :: false :: false :: false :: false :: false :: false :: false :: false :: false :: false :: false :: false :: false :: false :: false :: false :: false :: false :: false :: false :: false :: false :: false :: false :: false :: false :: false :: false :: false :: false :: false :: false :: false :: false :: false :: false :: false :: false :: false :: false :: false :: false :: false :: false :: false :: false :: false :: false :: false :: false :: false :: false :: false :: false :: false :: false :: false :: false :: false :: false :: false :: false :: false :: false :: false :: false :: false :: false :: false :: false :: false :: false :: false :: false :: false :: false :: false :: false :: false :: false :: false :: false :: false :: false :: false :: false :: false :: false :: false :: []) 7 (fun j => ⟨(V.junk :: V.junk :: .ptr 2 0 0 :: V.junk :: .ptr 4 0 0 :: .ptr 5 0 0 :: .ptr 6 0 0 :: .ptr 7 0 0 :: V.junk :: V.junk :: V.junk :: .p (.int .u32 (uw (rT1 W X k))) :: .p (.int .u32 (uw (rT2 X))) :: .p (.int .i64 ((7 - j : Nat) : Int)) :: V.junk :: V.junk :: V.junk :: V.junk :: V.junk :: .p (.int .i64 k) :: V.junk :: V.junk :: V.junk :: V.junk :: V.junk :: V.junk :: V.junk :: V.junk :: V.junk :: V.junk :: V.junk :: V.junk :: V.junk :: V.junk :: V.junk :: V.junk :: V.junk :: V.junk :: V.junk :: V.junk :: V.junk :: V.junk :: V.junk :: V.junk :: V.junk :: V.junk :: V.junk :: V.junk :: V.junk :: V.junk :: V.junk :: V.junk :: V.junk :: V.junk :: V.junk :: V.junk :: V.junk :: V.junk :: V.junk :: V.junk :: V.junk :: V.junk :: V.junk :: V.junk :: V.junk :: V.junk :: V.junk :: V.junk :: V.junk :: V.junk :: V.junk :: V.junk :: V.junk :: V.junk :: V.junk :: V.junk :: V.junk :: V.junk :: V.junk :: V.junk :: V.junk :: V.junk :: V.junk :: V.junk :: V.junk :: V.junk :: V.junk :: V.junk :: V.junk :: V.junk :: V.junk :: V.junk :: V.junk :: V.junk :: V.junk :: V.junk :: V.junk :: V.junk :: V.junk :: V.junk :: V.junk :: V.junk :: V.junk :: V.junk :: V.junk :: V.junk :: V.junk :: V.junk :: V.junk :: V.junk :: V.junk :: V.junk :: V.junk :: V.junk :: V.junk :: V.junk :: V.junk :: V.junk :: V.junk :: V.junk :: V.junk :: V.junk :: []), ⟨[(2, 0, .row (wl S)), (4, 0, .row (wl zero8)), (5, 0, .row (wl W)), (6, 0, .row (wl kL)), (7, 0, .row (wl (shL X j)))], []⟩⟩) ?_ ?_
    · simp (maxSteps := 1000000) (disch := refine hold_ ?_; first | (simp [shL_zero, rT1, rT2, -List.getD_eq_getElem?_getD]; done) | omega) [shL_zero, rT1, rT2, -List.getD_eq_getElem?_getD]
    intro j hj
    have hY := shL_len X j
    rw [hX] at hY
    have hsj := shL_succ X j
    generalize hXj : shL X j = Y at *
    repeat (first | ((first | (with_reducible first | refine zP fun K_ hK_ => ?_ | refine zQ fun K_ hK_ => ?_ | refine zT ?_ | refine zU ?_ | refine zV ?_ | refine zW ?_ | refine zX ?_ | refine zY ?_) | ((with_reducible first | refine zR ?_ ?_ fun K_ hK_ => ?_ | refine zS ?_ ?_ fun K_ hK_ => ?_); (focus kernel_rfl); (focus kernel_rfl))); first | (simp (maxSteps := 1000000) (disch := refine hold_ ?_; first | (simp [hX, hY, -List.getD_eq_getElem?_getD]; done) | omega) [hX, hY, -List.getD_eq_getElem?_getD]; try first | (with_reducible refine zZ ?_) | subst hK_) | subst hK_) | (with_reducible first | refine zA ?_ | refine zB ?_ | refine zC ?_ | refine zD ?_ | refine zE ?_ | refine zF ?_ | refine zG ?_ | refine zH ?_ | refine zI ?_ | refine zJ ?_ | refine zK ?_ | refine zL ?_ | refine zM ?_ | refine zN ?_ | refine zO ?_) | ((with_reducible refine yG ?_ ?_); (focus decide)) | ((with_reducible refine yA ?_); refine yB rfl ?_; (with_reducible first | refine yC ?_ | refine yD ?_)))
    first | refine AW.condD rfl (fun hc => ?_) (fun hc => ?_) | refine AW.cond rfl (fun hc => ?_) (fun hc => ?_)
    · have hj2 : j < 7 := by omega
      have e1 : IntKind.i64.wrap (((7 - j : Nat) : Int) - 1) = ((6 - j : Nat) : Int) := (wrap_i64 _ (by omega) (by omega)).trans (by omega)
      have b1 : 7 - j < 8 := by omega
      have b2 : 6 - j < 8 := by omega
      have b3 : 7 - (j + 1) = 6 - j := by omega
      repeat (first | ((first | (with_reducible first | refine zP fun K_ hK_ => ?_ | refine zQ fun K_ hK_ => ?_ | refine zT ?_ | refine zU ?_ | refine zV ?_ | refine zW ?_ | refine zX ?_ | refine zY ?_) | ((with_reducible first | refine zR ?_ ?_ fun K_ hK_ => ?_ | refine zS ?_ ?_ fun K_ hK_ => ?_); (focus kernel_rfl); (focus kernel_rfl))); first | (simp (maxSteps := 1000000) (disch := refine hold_ ?_; first | (simp [hX, hY, e1, b1, b2, -List.getD_eq_getElem?_getD]; done) | omega) [hX, hY, e1, b1, b2, -List.getD_eq_getElem?_getD]; try first | (with_reducible refine zZ ?_) | subst hK_) | subst hK_) | (with_reducible first | refine zA ?_ | refine zB ?_ | refine zC ?_ | refine zD ?_ | refine zE ?_ | refine zF ?_ | refine zG ?_ | refine zH ?_ | refine zI ?_ | refine zJ ?_ | refine zK ?_ | refine zL ?_ | refine zM ?_ | refine zN ?_ | refine zO ?_) | ((with_reducible refine yG ?_ ?_); (focus decide)) | ((with_reducible refine yA ?_); refine yB rfl ?_; (with_reducible first | refine yC ?_ | refine yD ?_)))
      exact ⟨hj2, by simp (maxSteps := 1000000) (disch := refine hold_ ?_; first | (simp [hsj, shStep, b3, -List.getD_eq_getElem?_getD]; done) | omega) [hsj, shStep, b3, -List.getD_eq_getElem?_getD]⟩
    · have hj2 : j = 7 := by omega
      subst hj2
      repeat (first | ((first | (with_reducible first | refine zP fun K_ hK_ => ?_ | refine zQ fun K_ hK_ => ?_ | refine zT ?_ | refine zU ?_ | refine zV ?_ | refine zW ?_ | refine zX ?_ | refine zY ?_) | ((with_reducible first | refine zR ?_ ?_ fun K_ hK_ => ?_ | refine zS ?_ ?_ fun K_ hK_ => ?_); (focus kernel_rfl); (focus kernel_rfl))); first | (simp (maxSteps := 1000000) (disch := refine hold_ ?_; first | (simp [hX, hY, e0, hk3, -List.getD_eq_getElem?_getD]; done) | omega) [hX, hY, e0, hk3, -List.getD_eq_getElem?_getD]; try first | (with_reducible refine zZ ?_) | subst hK_) | subst hK_) | (with_reducible first | refine zA ?_ | refine zB ?_ | refine zC ?_ | refine zD ?_ | refine zE ?_ | refine zF ?_ | refine zG ?_ | refine zH ?_ | refine zI ?_ | refine zJ ?_ | refine zK ?_ | refine zL ?_ | refine zM ?_ | refine zN ?_ | refine zO ?_) | ((with_reducible refine yG ?_ ?_); (focus decide)) | ((with_reducible refine yA ?_); refine yB rfl ?_; (with_reducible first | refine yC ?_ | refine yD ?_)))
      exact ⟨hk3, by simp (maxSteps := 1000000) (disch := refine hold_ ?_; first | (simp [hst, rstepL, hXj, -List.getD_eq_getElem?_getD]; done) | omega) [hst, rstepL, hXj, -List.getD_eq_getElem?_getD]⟩
  · have hk4 : k = 64 := by omega
    subst hk4
    repeat (first | ((first | (with_reducible first | refine zP fun K_ hK_ => ?_ | refine zQ fun K_ hK_ => ?_ | refine zT ?_ | refine zU ?_ | refine zV ?_ | refine zW ?_ | refine zX ?_ | refine zY ?_) | ((with_reducible first | refine zR ?_ ?_ fun K_ hK_ => ?_ | refine zS ?_ ?_ fun K_ hK_ => ?_); (focus kernel_rfl); (focus kernel_rfl))); first | (simp (maxSteps := 1000000) (disch := refine hold_ ?_; first | (simp [hS, hW, hK, hX, e0, -List.getD_eq_getElem?_getD]; done) | omega) [hS, hW, hK, hX, e0, -List.getD_eq_getElem?_getD]; try first | (with_reducible refine zZ ?_) | subst hK_) | subst hK_) | (with_reducible first | refine zA ?_ | refine zB ?_ | refine zC ?_ | refine zD ?_ | refine zE ?_ | refine zF ?_ | refine zG ?_ | refine zH ?_ | refine zI ?_ | refine zJ ?_ | refine zK ?_ | refine zL ?_ | refine zM ?_ | refine zN ?_ | refine zO ?_) | ((with_reducible refine yG ?_ ?_); (focus decide)) | ((with_reducible refine yA ?_); refine yB rfl ?_; (with_reducible first | refine yC ?_ | refine yD ?_)))
    refine AW.iter (false :: false :: true :: false :: true :: false :: false :: true :: false :: false :: false :: false :: false :: false :: false :: false :: false :: false :: false :: false :: false :: false :: false :: false :: false :: false :: false :: false :: false :: false :: false :: false :: false :: false :: false :: false :: false :: false :: false :: false :: false :: false :: false :: false :: false :: false :: false :: false :: false :: false :: false :: false :: false :: false :: false :: false :: false :: false :: false :: false :: false :: false :: false :: false :: false :: false :: false :: false :: false :: false :: false :: false :: false :: false :: false :: false :: false :: false :: false :: false :: false :: false :: false :: false :: false :: false :: false :: false :: false :: false :: false :: false :: false :: false :: false :: false :: false :: false :: false :: false :: false :: false :: false :: false :: false :: false :: false :: false :: true :: false :: false :: false :: false :: false :: false :: false :: false :: false :: false :: false :: false :: false :: []) 8 (fun k => ⟨(V.junk :: V.junk :: .ptr 2 0 0 :: V.junk :: .ptr 4 0 0 :: V.junk :: V.junk :: .ptr 7 0 0 :: V.junk :: V.junk :: V.junk :: V.junk :: V.junk :: V.junk :: V.junk :: V.junk :: V.junk :: V.junk :: V.junk :: V.junk :: V.junk :: V.junk :: V.junk :: V.junk :: V.junk :: V.junk :: V.junk :: V.junk :: V.junk :: V.junk :: V.junk :: V.junk :: V.junk :: V.junk :: V.junk :: V.junk :: V.junk :: V.junk :: V.junk :: V.junk :: V.junk :: V.junk :: V.junk :: V.junk :: V.junk :: V.junk :: V.junk :: V.junk :: V.junk :: V.junk :: V.junk :: V.junk :: V.junk :: V.junk :: V.junk :: V.junk :: V.junk :: V.junk :: V.junk :: V.junk :: V.junk :: V.junk :: V.junk :: V.junk :: V.junk :: V.junk :: V.junk :: V.junk :: V.junk :: V.junk :: V.junk :: V.junk :: V.junk :: V.junk :: V.junk :: V.junk :: V.junk :: V.junk :: V.junk :: V.junk :: V.junk :: V.junk :: V.junk :: V.junk :: V.junk :: V.junk :: V.junk :: V.junk :: V.junk :: V.junk :: V.junk :: V.junk :: V.junk :: V.junk :: V.junk :: V.junk :: V.junk :: V.junk :: V.junk :: V.junk :: V.junk :: V.junk :: V.junk :: V.junk :: V.junk :: V.junk :: V.junk :: V.junk :: .p (.int .i64 k) :: V.junk :: V.junk :: V.junk :: V.junk :: V.junk :: V.junk :: V.junk :: V.junk :: V.junk :: V.junk :: V.junk :: V.junk :: V.junk :: []), ⟨[(2, 0, .row (wl (sumL X S k))), (4, 0, .row (wl zero8)), (7, 0, .row (wl X))], []⟩⟩) ?_ ?_
    · simp (maxSteps := 1000000) (disch := refine hold_ ?_; first | (simp [sumL, -List.getD_eq_getElem?_getD]; done) | omega) [sumL, -List.getD_eq_getElem?_getD]
    intro k hk
    have e0 : IntKind.i64.wrap ((k : Int) + 1) = k + 1 := wrap_i64 _ (by omega) (by omega)
    have hZ := sumL_len X S k
    repeat (first | ((first | (with_reducible first | refine zP fun K_ hK_ => ?_ | refine zQ fun K_ hK_ => ?_ | refine zT ?_ | refine zU ?_ | refine zV ?_ | refine zW ?_ | refine zX ?_ | refine zY ?_) | ((with_reducible first | refine zR ?_ ?_ fun K_ hK_ => ?_ | refine zS ?_ ?_ fun K_ hK_ => ?_); (focus kernel_rfl); (focus kernel_rfl))); first | (simp (maxSteps := 1000000) (disch := refine hold_ ?_; first | (simp [hS, hX, e0, hZ, -List.getD_eq_getElem?_getD]; done) | omega) [hS, hX, e0, hZ, -List.getD_eq_getElem?_getD]; try first | (with_reducible refine zZ ?_) | subst hK_) | subst hK_) | (with_reducible first | refine zA ?_ | refine zB ?_ | refine zC ?_ | refine zD ?_ | refine zE ?_ | refine zF ?_ | refine zG ?_ | refine zH ?_ | refine zI ?_ | refine zJ ?_ | refine zK ?_ | refine zL ?_ | refine zM ?_ | refine zN ?_ | refine zO ?_) | ((with_reducible refine yG ?_ ?_); (focus decide)) | ((with_reducible refine yA ?_); refine yB rfl ?_; (with_reducible first | refine yC ?_ | refine yD ?_)))
    first | refine AW.condD rfl (fun hc => ?_) (fun hc => ?_) | refine AW.cond rfl (fun hc => ?_) (fun hc => ?_)
    · have hk2 := hc
      have hk3 : k < 8 := by omega
      repeat (first | ((first | (with_reducible first | refine zP fun K_ hK_ => ?_ | refine zQ fun K_ hK_ => ?_ | refine zT ?_ | refine zU ?_ | refine zV ?_ | refine zW ?_ | refine zX ?_ | refine zY ?_) | ((with_reducible first | refine zR ?_ ?_ fun K_ hK_ => ?_ | refine zS ?_ ?_ fun K_ hK_ => ?_); (focus kernel_rfl); (focus kernel_rfl))); first | (simp (maxSteps := 1000000) (disch := refine hold_ ?_; first | (simp [hS, hX, e0, hZ, hk2, hk3, -List.getD_eq_getElem?_getD]; done) | omega) [hS, hX, e0, hZ, hk2, hk3, -List.getD_eq_getElem?_getD]; try first | (with_reducible refine zZ ?_) | subst hK_) | subst hK_) | (with_reducible first | refine zA ?_ | refine zB ?_ | refine zC ?_ | refine zD ?_ | refine zE ?_ | refine zF ?_ | refine zG ?_ | refine zH ?_ | refine zI ?_ | refine zJ ?_ | refine zK ?_ | refine zL ?_ | refine zM ?_ | refine zN ?_ | refine zO ?_) | ((with_reducible refine yG ?_ ?_); (focus decide)) | ((with_reducible refine yA ?_); refine yB rfl ?_; (with_reducible first | refine yC ?_ | refine yD ?_)))
      refine ⟨by omega, ?_⟩
      simp (maxSteps := 1000000) (disch := refine hold_ ?_; first | (simp [sumL_succ, sumStep, wl, -List.getD_eq_getElem?_getD]; done) | omega) [sumL_succ, sumStep, wl, -List.getD_eq_getElem?_getD]
    · have hk4 : k = 8 := by omega
      subst hk4
      have hz8 : zero8.length = 8 := rfl
      repeat (first | ((first | (with_reducible first | refine zP fun K_ hK_ => ?_ | refine zQ fun K_ hK_ => ?_ | refine zT ?_ | refine zU ?_ | refine zV ?_ | refine zW ?_ | refine zX ?_ | refine zY ?_) | ((with_reducible first | refine zR ?_ ?_ fun K_ hK_ => ?_ | refine zS ?_ ?_ fun K_ hK_ => ?_); (focus kernel_rfl); (focus kernel_rfl))); first | (simp (maxSteps := 1000000) (disch := refine hold_ ?_; first | (simp [hS, hX, e0, hZ, hz8, -List.getD_eq_getElem?_getD]; done) | omega) [hS, hX, e0, hZ, hz8, -List.getD_eq_getElem?_getD]; try first | (with_reducible refine zZ ?_) | subst hK_) | subst hK_) | (with_reducible first | refine zA ?_ | refine zB ?_ | refine zC ?_ | refine zD ?_ | refine zE ?_ | refine zF ?_ | refine zG ?_ | refine zH ?_ | refine zI ?_ | refine zJ ?_ | refine zK ?_ | refine zL ?_ | refine zM ?_ | refine zN ?_ | refine zO ?_) | ((with_reducible refine yG ?_ ?_); (focus decide)) | ((with_reducible refine yA ?_); refine yB rfl ?_; (with_reducible first | refine yC ?_ | refine yD ?_)))
      simp (maxSteps := 1000000) (disch := refine hold_ ?_; first | (simp [rblockL, hW64, hXX, hS, hX, hZ, hz8, -List.getD_eq_getElem?_getD]; done) | omega) [rblockL, hW64, hXX, hS, hX, hZ, hz8, -List.getD_eq_getElem?_getD]
end Go.Av.Sha
end

section
set_option linter.unusedSimpArgs false
set_option linter.unusedVariables false
open Go Go.Av Go.Proofs
namespace Go.Av.Sha
/-! ### the document's block is the program's -/
theorem or8 (a : BitVec 32) (c : BitVec 8) : a <<< 8 ||| c.setWidth 32 = a <<< 8 + c.setWidth 32 := by
  symm
  apply BitVec.add_eq_or_of_and_eq_zero
  ext i hi
  simp only [BitVec.getElem_and, BitVec.getElem_shiftLeft, BitVec.getElem_setWidth, BitVec.getElem_zero]
  by_cases h : i < 8
  · simp [h]
  · simp [BitVec.getLsbD_of_ge c i (by omega)]
theorem four (c0 c1 c2 c3 : BitVec 8) :
    (((0#32 <<< 8 ||| c0.setWidth 32) <<< 8 ||| c1.setWidth 32) <<< 8 ||| c2.setWidth 32) <<< 8 ||| c3.setWidth 32 =
      (c0.setWidth 32 <<< 24) + (c1.setWidth 32 <<< 16) + (c2.setWidth 32 <<< 8) + (c3.setWidth 32 : BitVec 32) := by
  rw [or8, or8, or8, or8]
  simp [BitVec.shiftLeft_add_distrib, ← BitVec.shiftLeft_add]
theorem be4_set (b : List (BitVec 8)) (w : List (BitVec 32)) (t : Nat) (ht : t < w.length) (h0 : w.getD t 0 = 0) : be4 b w t = w.set t (refW0 b t) := by
  have hr : List.range 4 = [0, 1, 2, 3] := rfl
  have h00 : w[t] = 0#32 := by simpa [ht] using h0
  have := four (b.getD (4 * t) 0) (b.getD (4 * t + 1) 0) (b.getD (4 * t + 2) 0) (b.getD (4 * t + 3) 0)
  simp only [refW0, ← this]
  simp [be4, hr, beStep, List.set_set, ht, h00, List.getElem?_set]
theorem refL_zeros (b : List (BitVec 8)) (n i : Nat) (h : n ≤ i) : (refL b n).getD i 0 = 0 := by
  induction n with
  | zero =>
    rw [refL_zero, zero64, List.getD_eq_getElem?_getD, List.getElem?_replicate]
    split <;> rfl
  | succ n ih =>
    rw [refL_succ, refStep, List.getD_eq_getElem?_getD, List.getElem?_set]
    rw [if_neg (by omega), ← List.getD_eq_getElem?_getD]
    exact ih (by omega)
theorem refL_low (b : List (BitVec 8)) (n : Nat) (h : n ≤ 16) : refL b n = (List.range n).foldl (be4 b) zero64 := by
  induction n with
  | zero => rfl
  | succ n ih =>
    rw [refL_succ, List.range_succ, List.foldl_append, ← ih (by omega)]
    simp only [List.foldl_cons, List.foldl_nil]
    rw [be4_set _ _ _ (by rw [refL_len]; omega) (refL_zeros _ _ _ (Nat.le_refl _)), refStep, if_pos (by omega)]
theorem spreadL_ref (b : List (BitVec 8)) (n : Nat) : spreadL b n = refL b (16 + n) := by
  induction n with
  | zero => rw [spreadL, List.range_zero, List.foldl_nil, Nat.add_zero, ← refL_low b 16 (by omega)]
  | succ n ih =>
    rw [spreadL_succ, ih, ← Nat.add_assoc, refL_succ, refStep, if_neg (by omega)]
    generalize refL b (16 + n) = w
    generalize 16 + n = t
    simp only [nextW, refW1]
theorem ch_eq (e f g : BitVec 32) : e &&& f ||| ~~~e &&& g = e &&& f ^^^ ~~~e &&& g := by
  ext i hi
  simp only [BitVec.getElem_and, BitVec.getElem_or, BitVec.getElem_xor, BitVec.getElem_not]
  cases e[i] <;> cases f[i] <;> cases g[i] <;> rfl
theorem mj_eq (e f g : BitVec 32) : e &&& f ||| e &&& g ||| f &&& g = e &&& f ^^^ e &&& g ^^^ f &&& g := by
  ext i hi
  simp only [BitVec.getElem_and, BitVec.getElem_or, BitVec.getElem_xor]
  cases e[i] <;> cases f[i] <;> cases g[i] <;> rfl
theorem rstep_eq (W x : List (BitVec 32)) (t : Nat) (hx : x.length = 8) : rstepL W x t = stepL W x t := by
  obtain ⟨a, x, rfl⟩ := List.exists_cons_of_length_eq_add_one hx
  simp only [List.length_cons, Nat.reduceEqDiff] at hx
  obtain ⟨b, x, rfl⟩ := List.exists_cons_of_length_eq_add_one hx
  simp only [List.length_cons, Nat.reduceEqDiff] at hx
  obtain ⟨c, x, rfl⟩ := List.exists_cons_of_length_eq_add_one hx
  simp only [List.length_cons, Nat.reduceEqDiff] at hx
  obtain ⟨d, x, rfl⟩ := List.exists_cons_of_length_eq_add_one hx
  simp only [List.length_cons, Nat.reduceEqDiff] at hx
  obtain ⟨e, x, rfl⟩ := List.exists_cons_of_length_eq_add_one hx
  simp only [List.length_cons, Nat.reduceEqDiff] at hx
  obtain ⟨f, x, rfl⟩ := List.exists_cons_of_length_eq_add_one hx
  simp only [List.length_cons, Nat.reduceEqDiff] at hx
  obtain ⟨g, x, rfl⟩ := List.exists_cons_of_length_eq_add_one hx
  simp only [List.length_cons, Nat.reduceEqDiff] at hx
  obtain ⟨h, x, rfl⟩ := List.exists_cons_of_length_eq_add_one hx
  simp only [List.length_cons, Nat.add_eq_right, Nat.reduceEqDiff] at hx
  obtain rfl : x = [] := List.eq_nil_of_length_eq_zero (by omega)
  generalize hk : kL.getD t 0 = kk
  generalize hw : W.getD t 0 = ww
  have hs : shL [a, b, c, d, e, f, g, h] 7 = [a, a, b, c, d, e, f, g] := rfl
  simp only [rstepL, stepL, rT1, rT2, hs, hk, hw, ch_eq, mj_eq]
  rfl
theorem rsteps_eq (W x : List (BitVec 32)) (n : Nat) (hx : x.length = 8) : rstepsL W x n = stepsL W x n := by
  induction n with
  | zero => rfl
  | succ n ih => rw [rstepsL_succ, stepsL_succ, ih, rstep_eq _ _ _ (stepsL_len W x n hx)]
theorem rblock_eq (s : List (BitVec 32)) (b : List (BitVec 8)) (hs : s.length = 8) : rblockL s b = addL s b := by
  unfold rblockL addL
  rw [spreadL_ref, rsteps_eq _ _ _ hs]
end Go.Av.Sha
end

section
set_option linter.unusedSimpArgs false
set_option linter.unusedVariables false
open Go Go.Av Go.Proofs
namespace Go.Av.Sha
/-! ### the document's digits -/
theorem digit_lo (x : BitVec 8) (hx : x.toNat < 10) : IntKind.u8.wrap (48 + ub x) = ub (hexD x) := by
  have key : ∀ n : Fin 10, IntKind.u8.wrap (48 + ub (BitVec.ofNat 8 n.val)) = ub (hexD (BitVec.ofNat 8 n.val)) := by decide
  have := key ⟨x.toNat, hx⟩
  simpa using this
theorem digit_hi (x : BitVec 8) (hx : x.toNat < 16) (h : ¬ x.toNat < 10) : IntKind.u8.wrap (IntKind.u8.wrap (97 + ub x) - 10) = ub (hexD x) := by
  have key : ∀ n : Fin 16, ¬ n.val < 10 → IntKind.u8.wrap (IntKind.u8.wrap (97 + ub (BitVec.ofNat 8 n.val)) - 10) = ub (hexD (BitVec.ofNat 8 n.val)) := by decide
  have := key ⟨x.toNat, hx⟩ h
  simpa using this
theorem quo16 (c : BitVec 8) : IntKind.u8.wrap ((ub c).tdiv 16) = ub (c >>> 4) := by
  have := c.isLt
  have e : (ub c).tdiv 16 = ((c.toNat / 16 : Nat) : Int) := tdiv_nat c.toNat 16
  rw [e, wrap_u8' _ (by omega) (by omega)]
  simp [ub, BitVec.toNat_ushiftRight, Nat.shiftRight_eq_div_pow]
theorem rem16 (c : BitVec 8) : (ub c).tmod 16 = ub (c &&& 15#8) := by
  have := c.isLt
  have e : (ub c).tmod 16 = ((c.toNat % 16 : Nat) : Int) := tmod_nat c.toNat 16
  have e2 : c.toNat &&& 15 = c.toNat % 16 := Nat.and_two_pow_sub_one_eq_mod c.toNat 4
  rw [e]
  simp [ub, BitVec.toNat_and, e2]
theorem txt_append (a b : List (BitVec 8)) : txt (a ++ b) = txt a ++ txt b := by
  apply ByteArray.ext
  simp [txt, strOfNums]
theorem two_txt (a b : BitVec 8) : Option.map (fun l => V.p (PV.str (strOfNums l))) (bytesOf (.ints .u8 [ub a, ub b])) = some (.p (.str (txt [a, b]))) := by
  have : bytesOf (bl [a, b]) = some [ub a, ub b] := by simp
  simpa [bl, txt] using congrArg (Option.map (fun l => V.p (PV.str (strOfNums l)))) this
theorem txt_add (a b : List (BitVec 8)) (h : a.length + b.length ≤ 9223372036854775807) : strBin .add (txt a) (txt b) = some (.str (txt (a ++ b))) := by
  rw [txt_append]
  simp only [strBin, txt_size, if_pos h]
theorem txt_nil : (ByteArray.mk #[]) = txt [] := rfl
set_option maxHeartbeats 10000000 in
theorem digit_ct (x : BitVec 8) (hx : x.toNat < 16) : Fn Try.prog 24 [.int .u8 (ub x)] [.p (.int .u8 (ub (hexD x)))] := by
  refine Fn.of_body Try.func24 rfl ?_
  repeat (first | ((first | (with_reducible first | refine zP fun K_ hK_ => ?_ | refine zQ fun K_ hK_ => ?_ | refine zT ?_ | refine zU ?_ | refine zV ?_ | refine zW ?_ | refine zX ?_ | refine zY ?_) | ((with_reducible first | refine zR ?_ ?_ fun K_ hK_ => ?_ | refine zS ?_ ?_ fun K_ hK_ => ?_); (focus kernel_rfl); (focus kernel_rfl))); first | (simp (maxSteps := 1000000) (disch := refine hold_ ?_; first | (simp [-List.getD_eq_getElem?_getD]; done) | omega) [-List.getD_eq_getElem?_getD]; try first | (with_reducible refine zZ ?_) | subst hK_) | subst hK_) | (with_reducible first | refine zA ?_ | refine zB ?_ | refine zC ?_ | refine zD ?_ | refine zE ?_ | refine zF ?_ | refine zG ?_ | refine zH ?_ | refine zI ?_ | refine zJ ?_ | refine zK ?_ | refine zL ?_ | refine zM ?_ | refine zN ?_ | refine zO ?_) | ((with_reducible refine yG ?_ ?_); (focus decide)) | ((with_reducible refine yA ?_); refine yB rfl ?_; (with_reducible first | refine yC ?_ | refine yD ?_)))
  first | refine AW.condD rfl (fun hc => ?_) (fun hc => ?_) | refine AW.cond rfl (fun hc => ?_) (fun hc => ?_)
  · have hc2 : x.toNat < 10 := by unfold ub at hc; omega
    repeat (first | ((first | (with_reducible first | refine zP fun K_ hK_ => ?_ | refine zQ fun K_ hK_ => ?_ | refine zT ?_ | refine zU ?_ | refine zV ?_ | refine zW ?_ | refine zX ?_ | refine zY ?_) | ((with_reducible first | refine zR ?_ ?_ fun K_ hK_ => ?_ | refine zS ?_ ?_ fun K_ hK_ => ?_); (focus kernel_rfl); (focus kernel_rfl))); first | (simp (maxSteps := 1000000) (disch := refine hold_ ?_; first | (simp [digit_lo x hc2, -List.getD_eq_getElem?_getD]; done) | omega) [digit_lo x hc2, -List.getD_eq_getElem?_getD]; try first | (with_reducible refine zZ ?_) | subst hK_) | subst hK_) | (with_reducible first | refine zA ?_ | refine zB ?_ | refine zC ?_ | refine zD ?_ | refine zE ?_ | refine zF ?_ | refine zG ?_ | refine zH ?_ | refine zI ?_ | refine zJ ?_ | refine zK ?_ | refine zL ?_ | refine zM ?_ | refine zN ?_ | refine zO ?_) | ((with_reducible refine yG ?_ ?_); (focus decide)) | ((with_reducible refine yA ?_); refine yB rfl ?_; (with_reducible first | refine yC ?_ | refine yD ?_)))
    simp (maxSteps := 1000000) (disch := refine hold_ ?_; first | (simp [-List.getD_eq_getElem?_getD]; done) | omega) [-List.getD_eq_getElem?_getD]
  · have hc2 : ¬ x.toNat < 10 := by unfold ub at hc; omega
    repeat (first | ((first | (with_reducible first | refine zP fun K_ hK_ => ?_ | refine zQ fun K_ hK_ => ?_ | refine zT ?_ | refine zU ?_ | refine zV ?_ | refine zW ?_ | refine zX ?_ | refine zY ?_) | ((with_reducible first | refine zR ?_ ?_ fun K_ hK_ => ?_ | refine zS ?_ ?_ fun K_ hK_ => ?_); (focus kernel_rfl); (focus kernel_rfl))); first | (simp (maxSteps := 1000000) (disch := refine hold_ ?_; first | (simp [digit_hi x hx hc2, -List.getD_eq_getElem?_getD]; done) | omega) [digit_hi x hx hc2, -List.getD_eq_getElem?_getD]; try first | (with_reducible refine zZ ?_) | subst hK_) | subst hK_) | (with_reducible first | refine zA ?_ | refine zB ?_ | refine zC ?_ | refine zD ?_ | refine zE ?_ | refine zF ?_ | refine zG ?_ | refine zH ?_ | refine zI ?_ | refine zJ ?_ | refine zK ?_ | refine zL ?_ | refine zM ?_ | refine zN ?_ | refine zO ?_) | ((with_reducible refine yG ?_ ?_); (focus decide)) | ((with_reducible refine yA ?_); refine yB rfl ?_; (with_reducible first | refine yC ?_ | refine yD ?_)))
    simp (maxSteps := 1000000) (disch := refine hold_ ?_; first | (simp [-List.getD_eq_getElem?_getD]; done) | omega) [-List.getD_eq_getElem?_getD]
set_option maxHeartbeats 10000000 in
theorem rhex_ct (nl : Bool) (l : List (BitVec 8)) (hl : l.length ≤ 1000000) : Fn Try.prog 15 [.sl (bl l) nl] [.p (.str (txt (hexL l l.length)))] := by
  refine Fn.of_body Try.func15 rfl ?_
  repeat (first | ((first | (with_reducible first | refine zP fun K_ hK_ => ?_ | refine zQ fun K_ hK_ => ?_ | refine zT ?_ | refine zU ?_ | refine zV ?_ | refine zW ?_ | refine zX ?_ | refine zY ?_) | ((with_reducible first | refine zR ?_ ?_ fun K_ hK_ => ?_ | refine zS ?_ ?_ fun K_ hK_ => ?_); (focus kernel_rfl); (focus kernel_rfl))); first | (simp (maxSteps := 1000000) (disch := refine hold_ ?_; first | (simp [-List.getD_eq_getElem?_getD]; done) | omega) [-List.getD_eq_getElem?_getD]; try first | (with_reducible refine zZ ?_) | subst hK_) | subst hK_) | (with_reducible first | refine zA ?_ | refine zB ?_ | refine zC ?_ | refine zD ?_ | refine zE ?_ | refine zF ?_ | refine zG ?_ | refine zH ?_ | refine zI ?_ | refine zJ ?_ | refine zK ?_ | refine zL ?_ | refine zM ?_ | refine zN ?_ | refine zO ?_) | ((with_reducible refine yG ?_ ?_); (focus decide)) | ((with_reducible refine yA ?_); refine yB rfl ?_; (with_reducible first | refine yC ?_ | refine yD ?_)))
  refine AW.iter (true :: false :: false :: true :: false :: false :: true :: true :: false :: false :: false :: false :: false :: false :: false :: false :: false :: false :: false :: false :: false :: false :: false :: false :: false :: false :: false :: false :: []) l.length (fun k => ⟨(.p (.sl (bl l) nl) :: V.junk :: V.junk :: .p (.str (txt (hexL l k))) :: V.junk :: V.junk :: .p (.int .i64 l.length) :: .p (.int .i64 k) :: V.junk :: V.junk :: V.junk :: V.junk :: V.junk :: V.junk :: V.junk :: V.junk :: V.junk :: V.junk :: V.junk :: V.junk :: V.junk :: V.junk :: V.junk :: V.junk :: V.junk :: V.junk :: V.junk :: V.junk :: []), ⟨[], []⟩⟩) ?_ ?_
  · simp (maxSteps := 1000000) (disch := refine hold_ ?_; first | (simp [hexL_zero, txt_nil, -List.getD_eq_getElem?_getD]; done) | omega) [hexL_zero, txt_nil, -List.getD_eq_getElem?_getD]
  intro k hk
  have g0 : IntKind.i64.wrap ((k : Int) + 1) = k + 1 := wrap_i64 _ (by omega) (by omega)
  repeat (first | ((first | (with_reducible first | refine zP fun K_ hK_ => ?_ | refine zQ fun K_ hK_ => ?_ | refine zT ?_ | refine zU ?_ | refine zV ?_ | refine zW ?_ | refine zX ?_ | refine zY ?_) | ((with_reducible first | refine zR ?_ ?_ fun K_ hK_ => ?_ | refine zS ?_ ?_ fun K_ hK_ => ?_); (focus kernel_rfl); (focus kernel_rfl))); first | (simp (maxSteps := 1000000) (disch := refine hold_ ?_; first | (simp [-List.getD_eq_getElem?_getD]; done) | omega) [-List.getD_eq_getElem?_getD]; try first | (with_reducible refine zZ ?_) | subst hK_) | subst hK_) | (with_reducible first | refine zA ?_ | refine zB ?_ | refine zC ?_ | refine zD ?_ | refine zE ?_ | refine zF ?_ | refine zG ?_ | refine zH ?_ | refine zI ?_ | refine zJ ?_ | refine zK ?_ | refine zL ?_ | refine zM ?_ | refine zN ?_ | refine zO ?_) | ((with_reducible refine yG ?_ ?_); (focus decide)) | ((with_reducible refine yA ?_); refine yB rfl ?_; (with_reducible first | refine yC ?_ | refine yD ?_)))
  first | refine AW.condD rfl (fun hc => ?_) (fun hc => ?_) | refine AW.cond rfl (fun hc => ?_) (fun hc => ?_)
  · have hk2 : k < l.length := by omega
    have h1 := nib_hi (l.getD k 0#8)
    have h2 := nib_lo (l.getD k 0#8)
    have q1 := quo16 (l.getD k 0#8)
    have q2 := rem16 (l.getD k 0#8)
    repeat (first | ((first | (with_reducible first | refine zP fun K_ hK_ => ?_ | refine zQ fun K_ hK_ => ?_ | refine zT ?_ | refine zU ?_ | refine zV ?_ | refine zW ?_ | refine zX ?_ | refine zY ?_) | ((with_reducible first | refine zR ?_ ?_ fun K_ hK_ => ?_ | refine zS ?_ ?_ fun K_ hK_ => ?_); (focus kernel_rfl); (focus kernel_rfl))); first | (simp (maxSteps := 1000000) (disch := refine hold_ ?_; first | (simp [hk2, q1, q2, -List.getD_eq_getElem?_getD]; done) | omega) [hk2, q1, q2, -List.getD_eq_getElem?_getD]; try first | (with_reducible refine zZ ?_) | subst hK_) | subst hK_) | (with_reducible first | refine zA ?_ | refine zB ?_ | refine zC ?_ | refine zD ?_ | refine zE ?_ | refine zF ?_ | refine zG ?_ | refine zH ?_ | refine zI ?_ | refine zJ ?_ | refine zK ?_ | refine zL ?_ | refine zM ?_ | refine zN ?_ | refine zO ?_) | ((with_reducible refine yG ?_ ?_); (focus decide)) | ((with_reducible refine yA ?_); refine yB rfl ?_; (with_reducible first | refine yC ?_ | refine yD ?_)))
    (refine callK_p ?_; simp (maxSteps := 1000000) (disch := refine hold_ ?_; first | (simp [hk2, q1, q2, g0, -List.getD_eq_getElem?_getD]; done) | omega) [hk2, q1, q2, g0, -List.getD_eq_getElem?_getD]; refine callK1_of (Fn.ct (digit_ct _ h1) Try.call24) ?_; (try simp (maxSteps := 1000000) (disch := refine hold_ ?_; first | (simp [hk2, q1, q2, g0, -List.getD_eq_getElem?_getD]; done) | omega) [hk2, q1, q2, g0, -List.getD_eq_getElem?_getD]); first | refine zZ ?_ | subst hK_)
    repeat (first | ((first | (with_reducible first | refine zP fun K_ hK_ => ?_ | refine zQ fun K_ hK_ => ?_ | refine zT ?_ | refine zU ?_ | refine zV ?_ | refine zW ?_ | refine zX ?_ | refine zY ?_) | ((with_reducible first | refine zR ?_ ?_ fun K_ hK_ => ?_ | refine zS ?_ ?_ fun K_ hK_ => ?_); (focus kernel_rfl); (focus kernel_rfl))); first | (simp (maxSteps := 1000000) (disch := refine hold_ ?_; first | (simp [hk2, q1, q2, g0, -List.getD_eq_getElem?_getD]; done) | omega) [hk2, q1, q2, g0, -List.getD_eq_getElem?_getD]; try first | (with_reducible refine zZ ?_) | subst hK_) | subst hK_) | (with_reducible first | refine zA ?_ | refine zB ?_ | refine zC ?_ | refine zD ?_ | refine zE ?_ | refine zF ?_ | refine zG ?_ | refine zH ?_ | refine zI ?_ | refine zJ ?_ | refine zK ?_ | refine zL ?_ | refine zM ?_ | refine zN ?_ | refine zO ?_) | ((with_reducible refine yG ?_ ?_); (focus decide)) | ((with_reducible refine yA ?_); refine yB rfl ?_; (with_reducible first | refine yC ?_ | refine yD ?_)))
    (refine callK_p ?_; simp (maxSteps := 1000000) (disch := refine hold_ ?_; first | (simp [hk2, q1, q2, g0, -List.getD_eq_getElem?_getD]; done) | omega) [hk2, q1, q2, g0, -List.getD_eq_getElem?_getD]; refine callK1_of (Fn.ct (digit_ct _ h2) Try.call24) ?_; (try simp (maxSteps := 1000000) (disch := refine hold_ ?_; first | (simp [hk2, q1, q2, g0, -List.getD_eq_getElem?_getD]; done) | omega) [hk2, q1, q2, g0, -List.getD_eq_getElem?_getD]); first | refine zZ ?_ | subst hK_)
    repeat (first | ((first | (with_reducible first | refine zP fun K_ hK_ => ?_ | refine zQ fun K_ hK_ => ?_ | refine zT ?_ | refine zU ?_ | refine zV ?_ | refine zW ?_ | refine zX ?_ | refine zY ?_) | ((with_reducible first | refine zR ?_ ?_ fun K_ hK_ => ?_ | refine zS ?_ ?_ fun K_ hK_ => ?_); (focus kernel_rfl); (focus kernel_rfl))); first | (simp (maxSteps := 1000000) (disch := refine hold_ ?_; first | (simp [hk2, q1, q2, g0, -List.getD_eq_getElem?_getD]; done) | omega) [hk2, q1, q2, g0, -List.getD_eq_getElem?_getD]; try first | (with_reducible refine zZ ?_) | subst hK_) | subst hK_) | (with_reducible first | refine zA ?_ | refine zB ?_ | refine zC ?_ | refine zD ?_ | refine zE ?_ | refine zF ?_ | refine zG ?_ | refine zH ?_ | refine zI ?_ | refine zJ ?_ | refine zK ?_ | refine zL ?_ | refine zM ?_ | refine zN ?_ | refine zO ?_) | ((with_reducible refine yG ?_ ?_); (focus decide)) | ((with_reducible refine yA ?_); refine yB rfl ?_; (with_reducible first | refine yC ?_ | refine yD ?_)))
    simp only [two_txt]
    have h9 := hexL_len l k
    have a1 : strBin .add (txt (hexL l k)) (txt [hexD (l.getD k 0#8 >>> 4), hexD (l.getD k 0#8 &&& 15#8)]) = some (.str (txt (hexL l (k + 1)))) := by
      rw [txt_add _ _ (by rw [h9]; simp only [List.length_cons, List.length_nil]; omega), hexL_succ]
      rfl
    simp (maxSteps := 1000000) (disch := refine hold_ ?_; first | (simp [a1, hk2, g0, -List.getD_eq_getElem?_getD]; done) | omega) [a1, hk2, g0, -List.getD_eq_getElem?_getD]
    repeat (first | ((first | (with_reducible first | refine zP fun K_ hK_ => ?_ | refine zQ fun K_ hK_ => ?_ | refine zT ?_ | refine zU ?_ | refine zV ?_ | refine zW ?_ | refine zX ?_ | refine zY ?_) | ((with_reducible first | refine zR ?_ ?_ fun K_ hK_ => ?_ | refine zS ?_ ?_ fun K_ hK_ => ?_); (focus kernel_rfl); (focus kernel_rfl))); first | (simp (maxSteps := 1000000) (disch := refine hold_ ?_; first | (simp [hk2, g0, -List.getD_eq_getElem?_getD]; done) | omega) [hk2, g0, -List.getD_eq_getElem?_getD]; try first | (with_reducible refine zZ ?_) | subst hK_) | subst hK_) | (with_reducible first | refine zA ?_ | refine zB ?_ | refine zC ?_ | refine zD ?_ | refine zE ?_ | refine zF ?_ | refine zG ?_ | refine zH ?_ | refine zI ?_ | refine zJ ?_ | refine zK ?_ | refine zL ?_ | refine zM ?_ | refine zN ?_ | refine zO ?_) | ((with_reducible refine yG ?_ ?_); (focus decide)) | ((with_reducible refine yA ?_); refine yB rfl ?_; (with_reducible first | refine yC ?_ | refine yD ?_)))
    simp (maxSteps := 1000000) (disch := refine hold_ ?_; first | (simp [hk2, -List.getD_eq_getElem?_getD]; done) | omega) [hk2, -List.getD_eq_getElem?_getD]
  · have hk2 : k = l.length := by omega
    subst hk2
    generalize txt (hexL l l.length) = O at *
    repeat (first | ((first | (with_reducible first | refine zP fun K_ hK_ => ?_ | refine zQ fun K_ hK_ => ?_ | refine zT ?_ | refine zU ?_ | refine zV ?_ | refine zW ?_ | refine zX ?_ | refine zY ?_) | ((with_reducible first | refine zR ?_ ?_ fun K_ hK_ => ?_ | refine zS ?_ ?_ fun K_ hK_ => ?_); (focus kernel_rfl); (focus kernel_rfl))); first | (simp (maxSteps := 1000000) (disch := refine hold_ ?_; first | (simp [-List.getD_eq_getElem?_getD]; done) | omega) [-List.getD_eq_getElem?_getD]; try first | (with_reducible refine zZ ?_) | subst hK_) | subst hK_) | (with_reducible first | refine zA ?_ | refine zB ?_ | refine zC ?_ | refine zD ?_ | refine zE ?_ | refine zF ?_ | refine zG ?_ | refine zH ?_ | refine zI ?_ | refine zJ ?_ | refine zK ?_ | refine zL ?_ | refine zM ?_ | refine zN ?_ | refine zO ?_) | ((with_reducible refine yG ?_ ?_); (focus decide)) | ((with_reducible refine yA ?_); refine yB rfl ?_; (with_reducible first | refine yC ?_ | refine yD ?_)))
    simp (maxSteps := 1000000) (disch := refine hold_ ?_; first | (simp [-List.getD_eq_getElem?_getD]; done) | omega) [-List.getD_eq_getElem?_getD]
end Go.Av.Sha
end

section
set_option linter.unusedSimpArgs false
set_option linter.unusedVariables false
open Go Go.Av Go.Proofs
namespace Go.Av.Sha
/-! ### the document's sum -/
theorem app_none (c : List (BitVec 8)) : ∃ r, appRow (Row.vals 1 []) (bl c) = some r ∧ r.len = c.length ∧ 1 = r.sz ∧ appRow r (.ints .u8 [128]) = some (bl (c ++ [128#8])) := by
  cases c with
  | nil => exact ⟨.vals 1 [], rfl, rfl, rfl, rfl⟩
  | cons x c => exact ⟨bl (x :: c), rfl, by simp, rfl, by simp [app_lit, bl, appRow, ub]⟩
theorem block_ct2 (S : List (BitVec 32)) (hS : S.length = 8) (nl : Bool) (b : List (BitVec 8)) (hb : 64 ≤ b.length) :
    Fn Try.prog 21 [.agg (wl S), .sl (bl b) nl] [.p (.agg (wl (addL S b)))] := by
  rw [← rblock_eq S b hS]; exact block_ct S hS nl b hb
theorem addL_cut (s : List (BitVec 32)) (b : List (BitVec 8)) : addL s (b.take 64) = addL s b := addL_take (by rw [List.take_take]; rfl)
theorem addL_cut2 (s : List (BitVec 32)) (Z : List (BitVec 8)) (n : Nat) : addL s (List.drop n (List.take (n + 64) Z)) = addL s (Z.drop n) := by
  rw [List.drop_take, Nat.add_sub_cancel_left, addL_cut]
set_option maxHeartbeats 10000000 in
theorem rsum_ct (nl : Bool) (c : List (BitVec 8)) (hcl : c.length ≤ 4000000) : Fn Try.prog 12 [.sl (bl c) nl] [.p (.agg (bl (shaL c)))] := by
  have hs8 : sL.length = 8 := rfl
  refine Fn.of_body Try.func12 rfl ?_
  have e3 : c.length + 1 ≤ 140737488355328 := by omega
  have e4 : c.length ≤ 140737488355328 := by omega
  obtain ⟨r0, k1, k2, k4, k3⟩ := app_none c
  repeat (first | ((first | (with_reducible first | refine zP fun K_ hK_ => ?_ | refine zQ fun K_ hK_ => ?_ | refine zT ?_ | refine zU ?_ | refine zV ?_ | refine zW ?_ | refine zX ?_ | refine zY ?_) | ((with_reducible first | refine zR ?_ ?_ fun K_ hK_ => ?_ | refine zS ?_ ?_ fun K_ hK_ => ?_); (focus kernel_rfl); (focus kernel_rfl))); first | (simp (maxSteps := 1000000) (disch := refine hold_ ?_; first | (simp [app_lit, hs8, e3, e4, k1, k2, k3, ← k4, -List.getD_eq_getElem?_getD]; done) | omega) [app_lit, hs8, e3, e4, k1, k2, k3, ← k4, -List.getD_eq_getElem?_getD]; try first | (with_reducible refine zZ ?_) | subst hK_) | subst hK_) | (with_reducible first | refine zA ?_ | refine zB ?_ | refine zC ?_ | refine zD ?_ | refine zE ?_ | refine zF ?_ | refine zG ?_ | refine zH ?_ | refine zI ?_ | refine zJ ?_ | refine zK ?_ | refine zL ?_ | refine zM ?_ | refine zN ?_ | refine zO ?_) | ((with_reducible refine yG ?_ ?_); (focus decide)) | ((with_reducible refine yA ?_); refine yB rfl ?_; (with_reducible first | refine yC ?_ | refine yD ?_)))
  have hpz : ∀ i, i ≤ padZ c.length → ((c.length + 1 + i) % 64 = 56 ↔ i = padZ c.length) := by intro i hi; unfold padZ at *; omega
  have hz : padZ c.length ≤ 64 := by unfold padZ; omega
  refine AW.iter (true :: false :: true :: true :: false :: false :: false :: false :: false :: false :: false :: false :: false :: false :: false :: false :: false :: false :: false :: false :: false :: false :: false :: false :: false :: false :: false :: false :: false :: false :: false :: false :: false :: false :: false :: false :: false :: false :: false :: false :: false :: false :: false :: false :: false :: false :: false :: false :: false :: false :: false :: false :: false :: false :: false :: false :: false :: false :: false :: false :: false :: false :: false :: false :: false :: false :: false :: false :: false :: false :: false :: false :: []) (padZ c.length) (fun i => ⟨(.p (.sl (bl c) nl) :: V.junk :: .ptr 2 0 0 :: .row (bl (c ++ [128#8] ++ List.replicate i 0#8)) 0 0 false :: V.junk :: V.junk :: V.junk :: V.junk :: V.junk :: V.junk :: V.junk :: V.junk :: V.junk :: V.junk :: V.junk :: V.junk :: V.junk :: V.junk :: V.junk :: V.junk :: V.junk :: V.junk :: V.junk :: V.junk :: V.junk :: V.junk :: V.junk :: V.junk :: V.junk :: V.junk :: V.junk :: V.junk :: V.junk :: V.junk :: V.junk :: V.junk :: V.junk :: V.junk :: V.junk :: V.junk :: V.junk :: V.junk :: V.junk :: V.junk :: V.junk :: V.junk :: V.junk :: V.junk :: V.junk :: V.junk :: V.junk :: V.junk :: V.junk :: V.junk :: V.junk :: V.junk :: V.junk :: V.junk :: V.junk :: V.junk :: V.junk :: V.junk :: V.junk :: V.junk :: V.junk :: V.junk :: V.junk :: V.junk :: V.junk :: V.junk :: V.junk :: V.junk :: []), ⟨[(2, 0, .row (bl zero32))], [(0, 0)]⟩⟩) ?_ ?_
  · simp (maxSteps := 1000000) (disch := refine hold_ ?_; first | (simp [-List.getD_eq_getElem?_getD]; done) | omega) [-List.getD_eq_getElem?_getD]
  intro i hi
  have hX : (c ++ [128#8] ++ List.replicate i 0#8).length = c.length + 1 + i := by simp; omega
  have hXs : c ++ [128#8] ++ List.replicate i 0#8 ++ [0#8] = c ++ [128#8] ++ List.replicate (i + 1) 0#8 := by
    rw [List.replicate_succ', List.append_assoc]
  have e1 : Int.tmod ((c.length : Int) + 1 + i) 64 = ((c.length + 1 + i) % 64 : Nat) := tmod_nat (c.length + 1 + i) 64
  have e3 : c.length + 1 + i + 1 ≤ 140737488355328 := by omega
  generalize hXd : c ++ [128#8] ++ List.replicate i 0#8 = X at *
  repeat (first | ((first | (with_reducible first | refine zP fun K_ hK_ => ?_ | refine zQ fun K_ hK_ => ?_ | refine zT ?_ | refine zU ?_ | refine zV ?_ | refine zW ?_ | refine zX ?_ | refine zY ?_) | ((with_reducible first | refine zR ?_ ?_ fun K_ hK_ => ?_ | refine zS ?_ ?_ fun K_ hK_ => ?_); (focus kernel_rfl); (focus kernel_rfl))); first | (simp (maxSteps := 1000000) (disch := refine hold_ ?_; first | (simp [hX, e1, -List.getD_eq_getElem?_getD]; done) | omega) [hX, e1, -List.getD_eq_getElem?_getD]; try first | (with_reducible refine zZ ?_) | subst hK_) | subst hK_) | (with_reducible first | refine zA ?_ | refine zB ?_ | refine zC ?_ | refine zD ?_ | refine zE ?_ | refine zF ?_ | refine zG ?_ | refine zH ?_ | refine zI ?_ | refine zJ ?_ | refine zK ?_ | refine zL ?_ | refine zM ?_ | refine zN ?_ | refine zO ?_) | ((with_reducible refine yG ?_ ?_); (focus decide)) | ((with_reducible refine yA ?_); refine yB rfl ?_; (with_reducible first | refine yC ?_ | refine yD ?_)))
  first | refine AW.condD rfl (fun hc => ?_) (fun hc => ?_) | refine AW.cond rfl (fun hc => ?_) (fun hc => ?_)
  · have hi2 : i < padZ c.length := by
      have h1 := hpz i hi
      simp at hc; omega
    repeat (first | ((first | (with_reducible first | refine zP fun K_ hK_ => ?_ | refine zQ fun K_ hK_ => ?_ | refine zT ?_ | refine zU ?_ | refine zV ?_ | refine zW ?_ | refine zX ?_ | refine zY ?_) | ((with_reducible first | refine zR ?_ ?_ fun K_ hK_ => ?_ | refine zS ?_ ?_ fun K_ hK_ => ?_); (focus kernel_rfl); (focus kernel_rfl))); first | (simp (maxSteps := 1000000) (disch := refine hold_ ?_; first | (simp [hX, app_lit, hXs, e3, -List.getD_eq_getElem?_getD]; done) | omega) [hX, app_lit, hXs, e3, -List.getD_eq_getElem?_getD]; try first | (with_reducible refine zZ ?_) | subst hK_) | subst hK_) | (with_reducible first | refine zA ?_ | refine zB ?_ | refine zC ?_ | refine zD ?_ | refine zE ?_ | refine zF ?_ | refine zG ?_ | refine zH ?_ | refine zI ?_ | refine zJ ?_ | refine zK ?_ | refine zL ?_ | refine zM ?_ | refine zN ?_ | refine zO ?_) | ((with_reducible refine yG ?_ ?_); (focus decide)) | ((with_reducible refine yA ?_); refine yB rfl ?_; (with_reducible first | refine yC ?_ | refine yD ?_)))
    refine ⟨hi2, ?_⟩
    simp (maxSteps := 1000000) (disch := refine hold_ ?_; first | (simp [-List.getD_eq_getElem?_getD]; done) | omega) [-List.getD_eq_getElem?_getD]
  · have hi2 : i = padZ c.length := by
      have h1 := hpz i hi
      simp at hc; omega
    subst hi2
    have e5 : IntKind.u64.wrap ((c.length : Int) * 8) = 8 * (c.length : Int) := (wrap_u64 _ (by omega) (by omega)).trans (by omega)
    have e6 : IntKind.u64.wrap (c.length : Int) = c.length := wrap_u64 _ (by omega) (by omega)
    repeat (first | ((first | (with_reducible first | refine zP fun K_ hK_ => ?_ | refine zQ fun K_ hK_ => ?_ | refine zT ?_ | refine zU ?_ | refine zV ?_ | refine zW ?_ | refine zX ?_ | refine zY ?_) | ((with_reducible first | refine zR ?_ ?_ fun K_ hK_ => ?_ | refine zS ?_ ?_ fun K_ hK_ => ?_); (focus kernel_rfl); (focus kernel_rfl))); first | (simp (maxSteps := 1000000) (disch := refine hold_ ?_; first | (simp [e5, e6, -List.getD_eq_getElem?_getD]; done) | omega) [e5, e6, -List.getD_eq_getElem?_getD]; try first | (with_reducible refine zZ ?_) | subst hK_) | subst hK_) | (with_reducible first | refine zA ?_ | refine zB ?_ | refine zC ?_ | refine zD ?_ | refine zE ?_ | refine zF ?_ | refine zG ?_ | refine zH ?_ | refine zI ?_ | refine zJ ?_ | refine zK ?_ | refine zL ?_ | refine zM ?_ | refine zN ?_ | refine zO ?_) | ((with_reducible refine yG ?_ ?_); (focus decide)) | ((with_reducible refine yA ?_); refine yB rfl ?_; (with_reducible first | refine yC ?_ | refine yD ?_)))
    refine AW.iter (false :: false :: true :: true :: true :: false :: false :: false :: false :: false :: false :: false :: false :: false :: false :: false :: false :: false :: false :: false :: false :: false :: false :: false :: false :: false :: true :: false :: false :: false :: false :: false :: false :: false :: false :: false :: false :: false :: false :: false :: false :: false :: false :: false :: false :: false :: false :: false :: false :: false :: false :: false :: false :: false :: false :: false :: false :: false :: false :: false :: false :: false :: false :: false :: false :: false :: false :: false :: false :: false :: false :: false :: []) 8 (fun i => ⟨(V.junk :: V.junk :: .ptr 2 0 0 :: .row (bl (X ++ be8 c.length i)) 0 0 false :: .p (.int .u64 (8 * (c.length : Int))) :: V.junk :: V.junk :: V.junk :: V.junk :: V.junk :: V.junk :: V.junk :: V.junk :: V.junk :: V.junk :: V.junk :: V.junk :: V.junk :: V.junk :: V.junk :: V.junk :: V.junk :: V.junk :: V.junk :: V.junk :: V.junk :: .p (.int .i64 i) :: V.junk :: V.junk :: V.junk :: V.junk :: V.junk :: V.junk :: V.junk :: V.junk :: V.junk :: V.junk :: V.junk :: V.junk :: V.junk :: V.junk :: V.junk :: V.junk :: V.junk :: V.junk :: V.junk :: V.junk :: V.junk :: V.junk :: V.junk :: V.junk :: V.junk :: V.junk :: V.junk :: V.junk :: V.junk :: V.junk :: V.junk :: V.junk :: V.junk :: V.junk :: V.junk :: V.junk :: V.junk :: V.junk :: V.junk :: V.junk :: V.junk :: V.junk :: V.junk :: V.junk :: V.junk :: []), ⟨[(2, 0, .row (bl zero32))], [(0, 0)]⟩⟩) ?_ ?_
    · simp (maxSteps := 1000000) (disch := refine hold_ ?_; first | (simp [be8, -List.getD_eq_getElem?_getD]; done) | omega) [be8, -List.getD_eq_getElem?_getD]
    intro i hi
    have f0 : IntKind.i64.wrap ((i : Int) + 1) = i + 1 := wrap_i64 _ (by omega) (by omega)
    have f6 : IntKind.u64.wrap (i : Int) = i := wrap_u64 _ (by omega) (by omega)
    have f1 : IntKind.u64.wrap (8 * (i : Int)) = 8 * i := wrap_u64 _ (by omega) (by omega)
    have hbl : (be8 c.length i).length = i := by simp [be8]
    repeat (first | ((first | (with_reducible first | refine zP fun K_ hK_ => ?_ | refine zQ fun K_ hK_ => ?_ | refine zT ?_ | refine zU ?_ | refine zV ?_ | refine zW ?_ | refine zX ?_ | refine zY ?_) | ((with_reducible first | refine zR ?_ ?_ fun K_ hK_ => ?_ | refine zS ?_ ?_ fun K_ hK_ => ?_); (focus kernel_rfl); (focus kernel_rfl))); first | (simp (maxSteps := 1000000) (disch := refine hold_ ?_; first | (simp [f0, f6, f1, -List.getD_eq_getElem?_getD]; done) | omega) [f0, f6, f1, -List.getD_eq_getElem?_getD]; try first | (with_reducible refine zZ ?_) | subst hK_) | subst hK_) | (with_reducible first | refine zA ?_ | refine zB ?_ | refine zC ?_ | refine zD ?_ | refine zE ?_ | refine zF ?_ | refine zG ?_ | refine zH ?_ | refine zI ?_ | refine zJ ?_ | refine zK ?_ | refine zL ?_ | refine zM ?_ | refine zN ?_ | refine zO ?_) | ((with_reducible refine yG ?_ ?_); (focus decide)) | ((with_reducible refine yA ?_); refine yB rfl ?_; (with_reducible first | refine yC ?_ | refine yD ?_)))
    first | refine AW.condD rfl (fun hc => ?_) (fun hc => ?_) | refine AW.cond rfl (fun hc => ?_) (fun hc => ?_)
    · have hi2 : i < 8 := by omega
      have f2 : IntKind.u64.wrap (56 - 8 * (i : Int)) = 56 - 8 * i := wrap_u64 _ (by omega) (by omega)
      have f3 : shiftBin .shr .u64 (8 * (c.length : Int)) (56 - 8 * (i : Int)) = some (.int .u64 (8 * (c.length : Int) / 2 ^ (8 * (7 - i)))) := by
        have h1 : ¬ (56 - 8 * (i : Int) < 0) := by omega
        have h2 : min (56 - 8 * (i : Int)).toNat 64 = 8 * (7 - i) := by omega
        simp only [shiftBin, h1, if_false, IntKind.bits, h2]
        rw [Int.fdiv_eq_ediv_of_nonneg _ (Int.le_of_lt (Int.pow_pos (by decide)))]
      have f4 : be8 c.length (i + 1) = be8 c.length i ++ [BitVec.ofInt 8 (8 * (c.length : Int) / 2 ^ (8 * (7 - i)))] := by simp [be8, List.range_succ]
      have f5 : (X ++ be8 c.length i).length + 1 ≤ 140737488355328 := by simp; omega
      repeat (first | ((first | (with_reducible first | refine zP fun K_ hK_ => ?_ | refine zQ fun K_ hK_ => ?_ | refine zT ?_ | refine zU ?_ | refine zV ?_ | refine zW ?_ | refine zX ?_ | refine zY ?_) | ((with_reducible first | refine zR ?_ ?_ fun K_ hK_ => ?_ | refine zS ?_ ?_ fun K_ hK_ => ?_); (focus kernel_rfl); (focus kernel_rfl))); first | (simp (maxSteps := 1000000) (disch := refine hold_ ?_; first | (simp [f0, f6, f1, f2, f3, app_wrap, hX, hbl, -List.getD_eq_getElem?_getD]; done) | omega) [f0, f6, f1, f2, f3, app_wrap, hX, hbl, -List.getD_eq_getElem?_getD]; try first | (with_reducible refine zZ ?_) | subst hK_) | subst hK_) | (with_reducible first | refine zA ?_ | refine zB ?_ | refine zC ?_ | refine zD ?_ | refine zE ?_ | refine zF ?_ | refine zG ?_ | refine zH ?_ | refine zI ?_ | refine zJ ?_ | refine zK ?_ | refine zL ?_ | refine zM ?_ | refine zN ?_ | refine zO ?_) | ((with_reducible refine yG ?_ ?_); (focus decide)) | ((with_reducible refine yA ?_); refine yB rfl ?_; (with_reducible first | refine yC ?_ | refine yD ?_)))
      refine ⟨hi2, ?_⟩
      simp (maxSteps := 1000000) (disch := refine hold_ ?_; first | (simp [f4, List.append_assoc, -List.getD_eq_getElem?_getD]; done) | omega) [f4, List.append_assoc, -List.getD_eq_getElem?_getD]
    · have hi2 : i = 8 := by omega
      subst hi2
      have hpd : X ++ be8 c.length 8 = padL c := by rw [← hXd]; rfl
      have hZl : (padL c).length = c.length + 1 + padZ c.length + 8 := by rw [← hpd, List.length_append, hX, hbl]
      rw [hpd] at *
      have hZ64 : (padL c).length % 64 = 0 := by rw [hZl]; unfold padZ; omega
      generalize hZd : padL c = Z at *
      repeat (first | ((with_reducible first | refine callK_at 20 ?_); refine callK_p ?_; simp (maxSteps := 1000000) (disch := refine hold_ ?_; first | (simp [hs8, -List.getD_eq_getElem?_getD]; done) | omega) [hs8, -List.getD_eq_getElem?_getD]; (first | refine callK1_of (Fn.ct first_ct Try.call20) ?_); (try simp (maxSteps := 1000000) (disch := refine hold_ ?_; first | (simp [hs8, -List.getD_eq_getElem?_getD]; done) | omega) [hs8, -List.getD_eq_getElem?_getD]); try first | (with_reducible refine zZ ?_) | subst hK_) | ((first | (with_reducible first | refine zP fun K_ hK_ => ?_ | refine zQ fun K_ hK_ => ?_ | refine zT ?_ | refine zU ?_ | refine zV ?_ | refine zW ?_ | refine zX ?_ | refine zY ?_) | ((with_reducible first | refine zR ?_ ?_ fun K_ hK_ => ?_ | refine zS ?_ ?_ fun K_ hK_ => ?_); (focus kernel_rfl); (focus kernel_rfl))); first | (simp (maxSteps := 1000000) (disch := refine hold_ ?_; first | (simp [hs8, -List.getD_eq_getElem?_getD]; done) | omega) [hs8, -List.getD_eq_getElem?_getD]; try first | (with_reducible refine zZ ?_) | subst hK_) | subst hK_) | (with_reducible first | refine zA ?_ | refine zB ?_ | refine zC ?_ | refine zD ?_ | refine zE ?_ | refine zF ?_ | refine zG ?_ | refine zH ?_ | refine zI ?_ | refine zJ ?_ | refine zK ?_ | refine zL ?_ | refine zM ?_ | refine zN ?_ | refine zO ?_) | ((with_reducible refine yG ?_ ?_); (focus decide)) | ((with_reducible refine yA ?_); refine yB rfl ?_; (with_reducible first | refine yC ?_ | refine yD ?_)))
      have hZm : Z.length ≤ 4000200 := by rw [hZl]; omega
      refine AW.iter (false :: false :: true :: true :: false :: false :: true :: true :: false :: false :: false :: false :: false :: false :: false :: false :: false :: false :: false :: false :: false :: false :: false :: false :: false :: false :: false :: false :: false :: false :: false :: false :: false :: false :: false :: false :: false :: false :: false :: false :: false :: false :: false :: false :: false :: false :: false :: false :: false :: false :: false :: false :: false :: false :: false :: false :: false :: false :: false :: false :: false :: false :: false :: false :: false :: false :: false :: false :: false :: false :: false :: false :: []) (Z.length / 64) (fun j => ⟨(V.junk :: V.junk :: .ptr 2 0 0 :: .row (bl Z) 0 0 false :: V.junk :: V.junk :: .ptr 6 0 0 :: .p (.int .i64 ((64 * j : Nat) : Int)) :: V.junk :: V.junk :: V.junk :: V.junk :: V.junk :: V.junk :: V.junk :: V.junk :: V.junk :: V.junk :: V.junk :: V.junk :: V.junk :: V.junk :: V.junk :: V.junk :: V.junk :: V.junk :: V.junk :: V.junk :: V.junk :: V.junk :: V.junk :: V.junk :: V.junk :: V.junk :: V.junk :: V.junk :: V.junk :: V.junk :: V.junk :: V.junk :: V.junk :: V.junk :: V.junk :: V.junk :: V.junk :: V.junk :: V.junk :: V.junk :: V.junk :: V.junk :: V.junk :: V.junk :: V.junk :: V.junk :: V.junk :: V.junk :: V.junk :: V.junk :: V.junk :: V.junk :: V.junk :: V.junk :: V.junk :: V.junk :: V.junk :: V.junk :: V.junk :: V.junk :: V.junk :: V.junk :: V.junk :: V.junk :: []), ⟨[(2, 0, .row (bl zero32)), (6, 0, .row (wl (blocksL j sL Z)))], [(0, 0)]⟩⟩) ?_ ?_
      · simp (maxSteps := 1000000) (disch := refine hold_ ?_; first | (simp [blocksL, -List.getD_eq_getElem?_getD]; done) | omega) [blocksL, -List.getD_eq_getElem?_getD]
      clear hi hc hpd hZl hXs k1 k2 k3 k4 f0 f1 f6 hXd hpz
      intro j hj
      have hn := blocksL_len j sL Z
      have hsc := blocksL_succ j sL Z
      have q0 : IntKind.i64.wrap (64 * (j : Int) + 64) = 64 * (j : Int) + 64 := wrap_i64 _ (by omega) (by omega)
      generalize hBj : blocksL j sL Z = B at *
      repeat (first | ((first | (with_reducible first | refine zP fun K_ hK_ => ?_ | refine zQ fun K_ hK_ => ?_ | refine zT ?_ | refine zU ?_ | refine zV ?_ | refine zW ?_ | refine zX ?_ | refine zY ?_) | ((with_reducible first | refine zR ?_ ?_ fun K_ hK_ => ?_ | refine zS ?_ ?_ fun K_ hK_ => ?_); (focus kernel_rfl); (focus kernel_rfl))); first | (simp (maxSteps := 1000000) (disch := refine hold_ ?_; first | (simp [hs8, hn, -List.getD_eq_getElem?_getD]; done) | omega) [hs8, hn, -List.getD_eq_getElem?_getD]; try first | (with_reducible refine zZ ?_) | subst hK_) | subst hK_) | (with_reducible first | refine zA ?_ | refine zB ?_ | refine zC ?_ | refine zD ?_ | refine zE ?_ | refine zF ?_ | refine zG ?_ | refine zH ?_ | refine zI ?_ | refine zJ ?_ | refine zK ?_ | refine zL ?_ | refine zM ?_ | refine zN ?_ | refine zO ?_) | ((with_reducible refine yG ?_ ?_); (focus decide)) | ((with_reducible refine yA ?_); refine yB rfl ?_; (with_reducible first | refine yC ?_ | refine yD ?_)))
      first | refine AW.condD rfl (fun hc => ?_) (fun hc => ?_) | refine AW.cond rfl (fun hc => ?_) (fun hc => ?_)
      · have hj2 : j < Z.length / 64 := by omega
        have q1 : 64 * j + 64 ≤ Z.length := by omega
        have q2 : 0 ≤ 64 * (j : Int) := by omega
        have q3 : 0 ≤ 64 * (j : Int) + 64 := by omega
        have q4 : (64 * (j : Int)).toNat = 64 * j := by omega
        have q5 : (64 * (j : Int) + 64).toNat = 64 * j + 64 := by omega
        have q6 : 64 * (j : Int) ≤ 64 * (j : Int) + 64 := by omega
        repeat (first | ((with_reducible first | refine callK_at 21 ?_); refine callK_p ?_; simp (maxSteps := 1000000) (disch := refine hold_ ?_; first | (simp [hs8, hn, q0, q1, q2, q3, q4, q5, q6, addL_len, -List.getD_eq_getElem?_getD]; done) | omega) [hs8, hn, q0, q1, q2, q3, q4, q5, q6, addL_len, -List.getD_eq_getElem?_getD]; (first | refine callK1_of (Fn.ct (block_ct2 _ (by rw [hn]; exact hs8) _ _ (by simp; omega)) Try.call21) ?_); (try simp (maxSteps := 1000000) (disch := refine hold_ ?_; first | (simp [hs8, hn, q0, q1, q2, q3, q4, q5, q6, addL_len, -List.getD_eq_getElem?_getD]; done) | omega) [hs8, hn, q0, q1, q2, q3, q4, q5, q6, addL_len, -List.getD_eq_getElem?_getD]); try first | (with_reducible refine zZ ?_) | subst hK_) | ((first | (with_reducible first | refine zP fun K_ hK_ => ?_ | refine zQ fun K_ hK_ => ?_ | refine zT ?_ | refine zU ?_ | refine zV ?_ | refine zW ?_ | refine zX ?_ | refine zY ?_) | ((with_reducible first | refine zR ?_ ?_ fun K_ hK_ => ?_ | refine zS ?_ ?_ fun K_ hK_ => ?_); (focus kernel_rfl); (focus kernel_rfl))); first | (simp (maxSteps := 1000000) (disch := refine hold_ ?_; first | (simp [hs8, hn, q0, q1, q2, q3, q4, q5, q6, addL_len, -List.getD_eq_getElem?_getD]; done) | omega) [hs8, hn, q0, q1, q2, q3, q4, q5, q6, addL_len, -List.getD_eq_getElem?_getD]; try first | (with_reducible refine zZ ?_) | subst hK_) | subst hK_) | (with_reducible first | refine zA ?_ | refine zB ?_ | refine zC ?_ | refine zD ?_ | refine zE ?_ | refine zF ?_ | refine zG ?_ | refine zH ?_ | refine zI ?_ | refine zJ ?_ | refine zK ?_ | refine zL ?_ | refine zM ?_ | refine zN ?_ | refine zO ?_) | ((with_reducible refine yG ?_ ?_); (focus decide)) | ((with_reducible refine yA ?_); refine yB rfl ?_; (with_reducible first | refine yC ?_ | refine yD ?_)))
        refine ⟨hj2, ?_⟩
        have q7 : 64 * (j : Int) + 64 = 64 * ((j : Int) + 1) := by omega
        simp (maxSteps := 1000000) (disch := refine hold_ ?_; first | (simp [hsc, addL_cut2, q7, -List.getD_eq_getElem?_getD]; done) | omega) [hsc, addL_cut2, q7, -List.getD_eq_getElem?_getD]
      · have hj2 : j = Z.length / 64 := by omega
        repeat (first | ((first | (with_reducible first | refine zP fun K_ hK_ => ?_ | refine zQ fun K_ hK_ => ?_ | refine zT ?_ | refine zU ?_ | refine zV ?_ | refine zW ?_ | refine zX ?_ | refine zY ?_) | ((with_reducible first | refine zR ?_ ?_ fun K_ hK_ => ?_ | refine zS ?_ ?_ fun K_ hK_ => ?_); (focus kernel_rfl); (focus kernel_rfl))); first | (simp (maxSteps := 1000000) (disch := refine hold_ ?_; first | (simp [hj2, -List.getD_eq_getElem?_getD]; done) | omega) [hj2, -List.getD_eq_getElem?_getD]; try first | (with_reducible refine zZ ?_) | subst hK_) | subst hK_) | (with_reducible first | refine zA ?_ | refine zB ?_ | refine zC ?_ | refine zD ?_ | refine zE ?_ | refine zF ?_ | refine zG ?_ | refine zH ?_ | refine zI ?_ | refine zJ ?_ | refine zK ?_ | refine zL ?_ | refine zM ?_ | refine zN ?_ | refine zO ?_) | ((with_reducible refine yG ?_ ?_); (focus decide)) | ((with_reducible refine yA ?_); refine yB rfl ?_; (with_reducible first | refine yC ?_ | refine yD ?_)))
        have hB : B.length = 8 := by rw [hn]; exact hs8
        have hBZ : blocksL (Z.length / 64) sL Z = B := by rw [← hj2]; exact hBj
        clear hn hsc hBj hj2 hj
        refine AW.iter (false :: false :: true :: false :: false :: false :: true :: false :: true :: false :: false :: false :: false :: false :: false :: false :: false :: false :: false :: false :: false :: false :: false :: false :: false :: false :: false :: false :: false :: false :: false :: false :: false :: false :: false :: false :: false :: false :: false :: false :: false :: false :: false :: false :: false :: false :: false :: false :: false :: false :: false :: false :: false :: false :: true :: false :: false :: false :: false :: false :: false :: false :: false :: false :: false :: false :: false :: false :: false :: false :: false :: false :: []) 32 (fun k => ⟨(V.junk :: V.junk :: .ptr 2 0 0 :: V.junk :: V.junk :: V.junk :: .ptr 6 0 0 :: V.junk :: .ptr 8 0 0 :: V.junk :: V.junk :: V.junk :: V.junk :: V.junk :: V.junk :: V.junk :: V.junk :: V.junk :: V.junk :: V.junk :: V.junk :: V.junk :: V.junk :: V.junk :: V.junk :: V.junk :: V.junk :: V.junk :: V.junk :: V.junk :: V.junk :: V.junk :: V.junk :: V.junk :: V.junk :: V.junk :: V.junk :: V.junk :: V.junk :: V.junk :: V.junk :: V.junk :: V.junk :: V.junk :: V.junk :: V.junk :: V.junk :: V.junk :: V.junk :: V.junk :: V.junk :: V.junk :: V.junk :: V.junk :: .p (.int .i64 k) :: V.junk :: V.junk :: V.junk :: V.junk :: V.junk :: V.junk :: V.junk :: V.junk :: V.junk :: V.junk :: V.junk :: V.junk :: V.junk :: V.junk :: V.junk :: V.junk :: V.junk :: []), ⟨[(2, 0, .row (bl zero32)), (6, 0, .row (wl B)), (8, 0, .row (bl (outL B k)))], []⟩⟩) ?_ ?_
        · simp (maxSteps := 1000000) (disch := refine hold_ ?_; first | (simp [outL_zero, -List.getD_eq_getElem?_getD]; done) | omega) [outL_zero, -List.getD_eq_getElem?_getD]
        intro k hk
        have g0 : IntKind.i64.wrap ((k : Int) + 1) = k + 1 := wrap_i64 _ (by omega) (by omega)
        have g1 : Int.tdiv (k : Int) 4 = (k / 4 : Nat) := tdiv_nat k 4
        have g2 : Int.tmod (k : Int) 4 = (k % 4 : Nat) := tmod_nat k 4
        have g9 : k % 4 < 4 := by omega
        have hst := outL_succ B k
        have hO := outL_len B k
        simp only [outStep] at hst
        have hk8 : k < 32 → k / 4 < 8 := by omega
        generalize hq4 : k / 4 = q4 at *
        generalize hr4 : k % 4 = r4 at *
        have g3 : IntKind.i64.wrap (q4 : Int) = q4 := wrap_i64 _ (by omega) (by omega)
        have g10 : IntKind.u64.wrap (r4 : Int) = r4 := wrap_u64 _ (by omega) (by omega)
        have g4 : IntKind.u64.wrap (8 * (r4 : Int)) = 8 * (r4 : Int) := wrap_u64 _ (by omega) (by omega)
        have g5 : IntKind.u64.wrap (24 - 8 * (r4 : Int)) = 24 - 8 * (r4 : Int) := wrap_u64 _ (by omega) (by omega)
        have g6 : (24 - 8 * (r4 : Int)).toNat = 24 - 8 * r4 := by omega
        repeat (first | ((first | (with_reducible first | refine zP fun K_ hK_ => ?_ | refine zQ fun K_ hK_ => ?_ | refine zT ?_ | refine zU ?_ | refine zV ?_ | refine zW ?_ | refine zX ?_ | refine zY ?_) | ((with_reducible first | refine zR ?_ ?_ fun K_ hK_ => ?_ | refine zS ?_ ?_ fun K_ hK_ => ?_); (focus kernel_rfl); (focus kernel_rfl))); first | (simp (maxSteps := 1000000) (disch := refine hold_ ?_; first | (simp [-List.getD_eq_getElem?_getD]; done) | omega) [-List.getD_eq_getElem?_getD]; try first | (with_reducible refine zZ ?_) | subst hK_) | subst hK_) | (with_reducible first | refine zA ?_ | refine zB ?_ | refine zC ?_ | refine zD ?_ | refine zE ?_ | refine zF ?_ | refine zG ?_ | refine zH ?_ | refine zI ?_ | refine zJ ?_ | refine zK ?_ | refine zL ?_ | refine zM ?_ | refine zN ?_ | refine zO ?_) | ((with_reducible refine yG ?_ ?_); (focus decide)) | ((with_reducible refine yA ?_); refine yB rfl ?_; (with_reducible first | refine yC ?_ | refine yD ?_)))
        first | refine AW.condD rfl (fun hc => ?_) (fun hc => ?_) | refine AW.cond rfl (fun hc => ?_) (fun hc => ?_)
        · have hk2 : k < 32 := by omega
          have hk4 : q4 < 8 := hk8 hk2
          have g7 : 0 ≤ 24 - 8 * (r4 : Int) := by omega
          have g8 : 24 - 8 * (r4 : Int) ≤ 32 := by omega
          repeat (first | ((first | (with_reducible first | refine zP fun K_ hK_ => ?_ | refine zQ fun K_ hK_ => ?_ | refine zT ?_ | refine zU ?_ | refine zV ?_ | refine zW ?_ | refine zX ?_ | refine zY ?_) | ((with_reducible first | refine zR ?_ ?_ fun K_ hK_ => ?_ | refine zS ?_ ?_ fun K_ hK_ => ?_); (focus kernel_rfl); (focus kernel_rfl))); first | (simp (maxSteps := 1000000) (disch := refine hold_ ?_; first | (simp [g0, g1, g2, g3, g4, g5, g6, g7, g8, g10, hk2, hk4, hB, hs8, wrap8_uw, hO, -List.getD_eq_getElem?_getD]; done) | omega) [g0, g1, g2, g3, g4, g5, g6, g7, g8, g10, hk2, hk4, hB, hs8, wrap8_uw, hO, -List.getD_eq_getElem?_getD]; try first | (with_reducible refine zZ ?_) | subst hK_) | subst hK_) | (with_reducible first | refine zA ?_ | refine zB ?_ | refine zC ?_ | refine zD ?_ | refine zE ?_ | refine zF ?_ | refine zG ?_ | refine zH ?_ | refine zI ?_ | refine zJ ?_ | refine zK ?_ | refine zL ?_ | refine zM ?_ | refine zN ?_ | refine zO ?_) | ((with_reducible refine yG ?_ ?_); (focus decide)) | ((with_reducible refine yA ?_); refine yB rfl ?_; (with_reducible first | refine yC ?_ | refine yD ?_)))
          refine ⟨hk2, ?_⟩
          simp (maxSteps := 1000000) (disch := refine hold_ ?_; first | (simp [hst, -List.getD_eq_getElem?_getD]; done) | omega) [hst, -List.getD_eq_getElem?_getD]
        · have hk2 : k = 32 := by omega
          subst hk2
          have hz32 : zero32.length = 32 := rfl
          have hfin : shaL c = outL B 32 := by
            unfold shaL; rw [hZd, hBZ]
          rw [hfin]
          generalize outL B 32 = O at *
          repeat (first | ((first | (with_reducible first | refine zP fun K_ hK_ => ?_ | refine zQ fun K_ hK_ => ?_ | refine zT ?_ | refine zU ?_ | refine zV ?_ | refine zW ?_ | refine zX ?_ | refine zY ?_) | ((with_reducible first | refine zR ?_ ?_ fun K_ hK_ => ?_ | refine zS ?_ ?_ fun K_ hK_ => ?_); (focus kernel_rfl); (focus kernel_rfl))); first | (simp (maxSteps := 1000000) (disch := refine hold_ ?_; first | (simp [hO, hz32, -List.getD_eq_getElem?_getD]; done) | omega) [hO, hz32, -List.getD_eq_getElem?_getD]; try first | (with_reducible refine zZ ?_) | subst hK_) | subst hK_) | (with_reducible first | refine zA ?_ | refine zB ?_ | refine zC ?_ | refine zD ?_ | refine zE ?_ | refine zF ?_ | refine zG ?_ | refine zH ?_ | refine zI ?_ | refine zJ ?_ | refine zK ?_ | refine zL ?_ | refine zM ?_ | refine zN ?_ | refine zO ?_) | ((with_reducible refine yG ?_ ?_); (focus decide)) | ((with_reducible refine yA ?_); refine yB rfl ?_; (with_reducible first | refine yC ?_ | refine yD ?_)))
          simp (maxSteps := 1000000) (disch := refine hold_ ?_; first | (simp [hO, hz32, -List.getD_eq_getElem?_getD]; done) | omega) [hO, hz32, -List.getD_eq_getElem?_getD]
end Go.Av.Sha
end

section
set_option linter.unusedSimpArgs false
set_option linter.unusedVariables false
open Go Go.Av Go.Proofs
namespace Go.Av.Sha
/-! ### the law ShaSums -/
theorem take_cut (p q : Nat) (c : List (BitVec 8)) (h : p + q ≤ c.length) : c = c.take p ++ (c.take (p + q)).drop p ++ c.drop (p + q) := by
  have e : c.take p = (c.take (p + q)).take p := by rw [List.take_take]; congr 1; omega
  rw [e, List.take_append_drop, List.take_append_drop]
set_option maxHeartbeats 10000000 in
theorem sums_ct (nl : Bool) (c : List (BitVec 8)) (x y : Int) (hx : 0 ≤ x) (hx2 : x < 65536) (hy : 0 ≤ y) (hy2 : y < 65536) : Fn Try.prog 3 [.sl (bl c) nl, .int .u16 x, .int .u16 y] [.p (.bool true)] := by
  refine Fn.of_body Try.func3 rfl ?_
  repeat (first | ((first | (with_reducible first | refine zP fun K_ hK_ => ?_ | refine zQ fun K_ hK_ => ?_ | refine zT ?_ | refine zU ?_ | refine zV ?_ | refine zW ?_ | refine zX ?_ | refine zY ?_) | ((with_reducible first | refine zR ?_ ?_ fun K_ hK_ => ?_ | refine zS ?_ ?_ fun K_ hK_ => ?_); (focus kernel_rfl); (focus kernel_rfl))); first | (simp (maxSteps := 1000000) (disch := refine hold_ ?_; first | (simp [-List.getD_eq_getElem?_getD]; done) | omega) [-List.getD_eq_getElem?_getD]; try first | (with_reducible refine zZ ?_) | subst hK_) | subst hK_) | (with_reducible first | refine zA ?_ | refine zB ?_ | refine zC ?_ | refine zD ?_ | refine zE ?_ | refine zF ?_ | refine zG ?_ | refine zH ?_ | refine zI ?_ | refine zJ ?_ | refine zK ?_ | refine zL ?_ | refine zM ?_ | refine zN ?_ | refine zO ?_) | ((with_reducible refine yG ?_ ?_); (focus decide)) | ((with_reducible refine yA ?_); refine yB rfl ?_; (with_reducible first | refine yC ?_ | refine yD ?_)))
  (refine callK_p ?_; simp (maxSteps := 1000000) (disch := refine hold_ ?_; first | (simp [-List.getD_eq_getElem?_getD]; done) | omega) [-List.getD_eq_getElem?_getD]; refine callK1_of (Fn.ct awake_ct Try.call11) ?_; (try simp (maxSteps := 1000000) (disch := refine hold_ ?_; first | (simp [-List.getD_eq_getElem?_getD]; done) | omega) [-List.getD_eq_getElem?_getD]); first | refine zZ ?_ | subst hK_)
  repeat (first | ((first | (with_reducible first | refine zP fun K_ hK_ => ?_ | refine zQ fun K_ hK_ => ?_ | refine zT ?_ | refine zU ?_ | refine zV ?_ | refine zW ?_ | refine zX ?_ | refine zY ?_) | ((with_reducible first | refine zR ?_ ?_ fun K_ hK_ => ?_ | refine zS ?_ ?_ fun K_ hK_ => ?_); (focus kernel_rfl); (focus kernel_rfl))); first | (simp (maxSteps := 1000000) (disch := refine hold_ ?_; first | (simp [-List.getD_eq_getElem?_getD]; done) | omega) [-List.getD_eq_getElem?_getD]; try first | (with_reducible refine zZ ?_) | subst hK_) | subst hK_) | (with_reducible first | refine zA ?_ | refine zB ?_ | refine zC ?_ | refine zD ?_ | refine zE ?_ | refine zF ?_ | refine zG ?_ | refine zH ?_ | refine zI ?_ | refine zJ ?_ | refine zK ?_ | refine zL ?_ | refine zM ?_ | refine zN ?_ | refine zO ?_) | ((with_reducible refine yG ?_ ?_); (focus decide)) | ((with_reducible refine yA ?_); refine yB rfl ?_; (with_reducible first | refine yC ?_ | refine yD ?_)))
  first | refine AW.condD rfl (fun hc => ?_) (fun hc => ?_) | refine AW.cond rfl (fun hc => ?_) (fun hc => ?_)
  · repeat (first | ((with_reducible first | refine callK_at 11 ?_); refine callK_p ?_; simp (maxSteps := 1000000) (disch := refine hold_ ?_; first | (simp [-List.getD_eq_getElem?_getD]; done) | omega) [-List.getD_eq_getElem?_getD]; (first | refine callK1_of (Fn.ct awake_ct Try.call11) ?_); (try simp (maxSteps := 1000000) (disch := refine hold_ ?_; first | (simp [-List.getD_eq_getElem?_getD]; done) | omega) [-List.getD_eq_getElem?_getD]); try first | (with_reducible refine zZ ?_) | subst hK_) | ((first | (with_reducible first | refine zP fun K_ hK_ => ?_ | refine zQ fun K_ hK_ => ?_ | refine zT ?_ | refine zU ?_ | refine zV ?_ | refine zW ?_ | refine zX ?_ | refine zY ?_) | ((with_reducible first | refine zR ?_ ?_ fun K_ hK_ => ?_ | refine zS ?_ ?_ fun K_ hK_ => ?_); (focus kernel_rfl); (focus kernel_rfl))); first | (simp (maxSteps := 1000000) (disch := refine hold_ ?_; first | (simp [-List.getD_eq_getElem?_getD]; done) | omega) [-List.getD_eq_getElem?_getD]; try first | (with_reducible refine zZ ?_) | subst hK_) | subst hK_) | (with_reducible first | refine zA ?_ | refine zB ?_ | refine zC ?_ | refine zD ?_ | refine zE ?_ | refine zF ?_ | refine zG ?_ | refine zH ?_ | refine zI ?_ | refine zJ ?_ | refine zK ?_ | refine zL ?_ | refine zM ?_ | refine zN ?_ | refine zO ?_) | ((with_reducible refine yG ?_ ?_); (focus decide)) | ((with_reducible refine yA ?_); refine yB rfl ?_; (with_reducible first | refine yC ?_ | refine yD ?_)))
    simp (maxSteps := 1000000) (disch := refine hold_ ?_; first | (simp [-List.getD_eq_getElem?_getD]; done) | omega) [-List.getD_eq_getElem?_getD]
  · have hl : c.length ≤ 600 := by simp at hc; omega
    obtain ⟨m, rfl⟩ : ∃ m : Nat, x = m := ⟨x.toNat, by omega⟩
    obtain ⟨n, rfl⟩ : ∃ n : Nat, y = n := ⟨y.toNat, by omega⟩
    have e0 : IntKind.i64.wrap (m : Int) = m := wrap_i64 _ (by omega) (by omega)
    have e1 : IntKind.i64.wrap ((c.length : Int) + 1) = c.length + 1 := wrap_i64 _ (by omega) (by omega)
    obtain ⟨p, hp, hpl⟩ : ∃ p : Nat, (m : Int).tmod ((c.length : Int) + 1) = p ∧ p ≤ c.length := ⟨m % (c.length + 1), tmod_nat m (c.length + 1), by have := Nat.mod_lt m (show c.length + 1 > 0 by omega); omega⟩
    have e3 : IntKind.i64.wrap (n : Int) = n := wrap_i64 _ (by omega) (by omega)
    have e4 : IntKind.i64.wrap ((c.length : Int) - p) = c.length - p := wrap_i64 _ (by omega) (by omega)
    have e5 : IntKind.i64.wrap ((c.length : Int) - p + 1) = c.length - p + 1 := wrap_i64 _ (by omega) (by omega)
    obtain ⟨q, hq, hql⟩ : ∃ q : Nat, (n : Int).tmod ((c.length : Int) - p + 1) = q ∧ p + q ≤ c.length := by
      have e : (c.length : Int) - p + 1 = ((c.length - p + 1 : Nat) : Int) := by omega
      refine ⟨n % (c.length - p + 1), ?_, by have := Nat.mod_lt n (show c.length - p + 1 > 0 by omega); omega⟩
      rw [e]; exact tmod_nat n _
    have e6 : IntKind.i64.wrap ((p : Int) + q) = p + q := wrap_i64 _ (by omega) (by omega)
    have z1 : ¬ ((c.length : Int) - p + 1 = 0) := by omega
    have z2 : intBin .rem .i64 (n : Int) ((c.length : Int) - p + 1) = some (.int .i64 q) := by
      have e7 : IntKind.i64.wrap (q : Int) = q := wrap_i64 _ (by omega) (by omega)
      simp [intBin, z1, hq, e7]
    have k12 : Fn Try.prog 12 [.sl (bl c) nl] [.p (.agg (bl (shaL c)))] := rsum_ct nl c (by omega)
    have hSl : (shaL c).length = 32 := by unfold shaL; exact outL_len _ _
    have k13 : Fn Try.prog 13 [.sl (.vals 1 [.sl (bl c) nl]) false] [.p (.agg (bl (shaL c)))] := by
      have h1 : cat [(c, nl)] 1 = c := by simp [cat]
      have := sum_ct [(c, nl)] false (by simp) (by show (cat [(c, nl)] 1).length ≤ 4000000; rw [h1]; omega)
      rw [show ([(c, nl)] : List Part).length = 1 from rfl, h1] at this
      exact this
    have hcut : cat [(c.take p, nl), ((c.take (p + q)).drop p, nl), ([], true), (c.drop (p + q), nl)] 4 = c := by
      simp only [cat, List.take, List.map, List.flatten_cons, List.flatten_nil, List.append_nil, List.nil_append]
      rw [← List.append_assoc]; exact (take_cut p q c hql).symm
    have k13b : Ct Try.prog 13 ([PV.sl (.vals 1 [.sl (bl (c.take p)) nl, .sl (bl ((c.take (p + q)).drop p)) nl, .sl (.vals 1 []) true, .sl (bl (c.drop (p + q))) nl]) false].map V.p) [] 0 [.p (.agg (bl (shaL c)))] [] 0 := by
      have := sum_ct [(c.take p, nl), ((c.take (p + q)).drop p, nl), ([], true), (c.drop (p + q), nl)] false (by simp) (by show (cat _ 4).length ≤ 4000000; rw [hcut]; omega)
      rw [show ([(c.take p, nl), ((c.take (p + q)).drop p, nl), ([], true), (c.drop (p + q), nl)] : List Part).length = 4 from rfl, hcut] at this
      refine Ct.args (Fn.ct this Try.call13) (.cons (PEq.vals false (by simp) ?_) .nil)
      intro i hi
      simp only [List.length_cons, List.length_nil] at hi
      have : i = 0 ∨ i = 1 ∨ i = 2 ∨ i = 3 := by omega
      rcases this with rfl | rfl | rfl | rfl
      · exact ⟨rfl, rfl, PEq.refl _⟩
      · exact ⟨rfl, rfl, PEq.refl _⟩
      · exact ⟨rfl, rfl, PEq.nil _ _ rfl rfl⟩
      · exact ⟨rfl, rfl, PEq.refl _⟩
    have k14 : Fn Try.prog 14 [.agg (bl (shaL c))] [.p (.str (txt (hexL (shaL c) 32)))] := hex_ct _ hSl
    have k15 : Fn Try.prog 15 [.sl (bl (shaL c)) false] [.p (.str (txt (hexL (shaL c) 32)))] := by have := rhex_ct false (shaL c) (by omega); rw [hSl] at this; exact this
    have epq : ((p : Int) + (q : Int)).toNat = p + q := by omega
    have hz32 : zero32.length = 32 := rfl
    generalize hS : shaL c = S at k12 k13 k13b k14 k15 hSl
    repeat (first | ((first | (with_reducible first | refine zP fun K_ hK_ => ?_ | refine zQ fun K_ hK_ => ?_ | refine zT ?_ | refine zU ?_ | refine zV ?_ | refine zW ?_ | refine zX ?_ | refine zY ?_) | ((with_reducible first | refine zR ?_ ?_ fun K_ hK_ => ?_ | refine zS ?_ ?_ fun K_ hK_ => ?_); (focus kernel_rfl); (focus kernel_rfl))); first | (simp (maxSteps := 1000000) (disch := refine hold_ ?_; first | (simp [e0, e1, hp, e3, e4, e5, z2, e6, -List.getD_eq_getElem?_getD]; done) | omega) [e0, e1, hp, e3, e4, e5, z2, e6, -List.getD_eq_getElem?_getD]; try first | (with_reducible refine zZ ?_) | subst hK_) | subst hK_) | (with_reducible first | refine zA ?_ | refine zB ?_ | refine zC ?_ | refine zD ?_ | refine zE ?_ | refine zF ?_ | refine zG ?_ | refine zH ?_ | refine zI ?_ | refine zJ ?_ | refine zK ?_ | refine zL ?_ | refine zM ?_ | refine zN ?_ | refine zO ?_) | ((with_reducible refine yG ?_ ?_); (focus decide)) | ((with_reducible refine yA ?_); refine yB rfl ?_; (with_reducible first | refine yC ?_ | refine yD ?_)))
    (refine callK_p ?_; simp (maxSteps := 1000000) (disch := refine hold_ ?_; first | (simp [hSl, hz32, -List.getD_eq_getElem?_getD]; done) | omega) [hSl, hz32, -List.getD_eq_getElem?_getD]; refine callK1_of (Fn.ct k12 Try.call12) ?_; (try simp (maxSteps := 1000000) (disch := refine hold_ ?_; first | (simp [hSl, hz32, -List.getD_eq_getElem?_getD]; done) | omega) [hSl, hz32, -List.getD_eq_getElem?_getD]); first | refine zZ ?_ | subst hK_)
    repeat (first | ((first | (with_reducible first | refine zP fun K_ hK_ => ?_ | refine zQ fun K_ hK_ => ?_ | refine zT ?_ | refine zU ?_ | refine zV ?_ | refine zW ?_ | refine zX ?_ | refine zY ?_) | ((with_reducible first | refine zR ?_ ?_ fun K_ hK_ => ?_ | refine zS ?_ ?_ fun K_ hK_ => ?_); (focus kernel_rfl); (focus kernel_rfl))); first | (simp (maxSteps := 1000000) (disch := refine hold_ ?_; first | (simp [hSl, hz32, -List.getD_eq_getElem?_getD]; done) | omega) [hSl, hz32, -List.getD_eq_getElem?_getD]; try first | (with_reducible refine zZ ?_) | subst hK_) | subst hK_) | (with_reducible first | refine zA ?_ | refine zB ?_ | refine zC ?_ | refine zD ?_ | refine zE ?_ | refine zF ?_ | refine zG ?_ | refine zH ?_ | refine zI ?_ | refine zJ ?_ | refine zK ?_ | refine zL ?_ | refine zM ?_ | refine zN ?_ | refine zO ?_) | ((with_reducible refine yG ?_ ?_); (focus decide)) | ((with_reducible refine yA ?_); refine yB rfl ?_; (with_reducible first | refine yC ?_ | refine yD ?_)))
    (refine callK_p ?_; simp (maxSteps := 1000000) (disch := refine hold_ ?_; first | (simp [hSl, hz32, -List.getD_eq_getElem?_getD]; done) | omega) [hSl, hz32, -List.getD_eq_getElem?_getD]; refine callK1_of (Fn.ct k13 Try.call13) ?_; (try simp (maxSteps := 1000000) (disch := refine hold_ ?_; first | (simp [hSl, hz32, -List.getD_eq_getElem?_getD]; done) | omega) [hSl, hz32, -List.getD_eq_getElem?_getD]); first | refine zZ ?_ | subst hK_)
    repeat (first | ((first | (with_reducible first | refine zP fun K_ hK_ => ?_ | refine zQ fun K_ hK_ => ?_ | refine zT ?_ | refine zU ?_ | refine zV ?_ | refine zW ?_ | refine zX ?_ | refine zY ?_) | ((with_reducible first | refine zR ?_ ?_ fun K_ hK_ => ?_ | refine zS ?_ ?_ fun K_ hK_ => ?_); (focus kernel_rfl); (focus kernel_rfl))); first | (simp (maxSteps := 1000000) (disch := refine hold_ ?_; first | (simp [hSl, hz32, hpl, epq, hql, -List.getD_eq_getElem?_getD]; done) | omega) [hSl, hz32, hpl, epq, hql, -List.getD_eq_getElem?_getD]; try first | (with_reducible refine zZ ?_) | subst hK_) | subst hK_) | (with_reducible first | refine zA ?_ | refine zB ?_ | refine zC ?_ | refine zD ?_ | refine zE ?_ | refine zF ?_ | refine zG ?_ | refine zH ?_ | refine zI ?_ | refine zJ ?_ | refine zK ?_ | refine zL ?_ | refine zM ?_ | refine zN ?_ | refine zO ?_) | ((with_reducible refine yG ?_ ?_); (focus decide)) | ((with_reducible refine yA ?_); refine yB rfl ?_; (with_reducible first | refine yC ?_ | refine yD ?_)))
    (refine callK_p ?_; simp (maxSteps := 1000000) (disch := refine hold_ ?_; first | (simp [hSl, hz32, -List.getD_eq_getElem?_getD]; done) | omega) [hSl, hz32, -List.getD_eq_getElem?_getD]; refine callK1_of (k13b) ?_; (try simp (maxSteps := 1000000) (disch := refine hold_ ?_; first | (simp [hSl, hz32, -List.getD_eq_getElem?_getD]; done) | omega) [hSl, hz32, -List.getD_eq_getElem?_getD]); first | refine zZ ?_ | subst hK_)
    repeat (first | ((first | (with_reducible first | refine zP fun K_ hK_ => ?_ | refine zQ fun K_ hK_ => ?_ | refine zT ?_ | refine zU ?_ | refine zV ?_ | refine zW ?_ | refine zX ?_ | refine zY ?_) | ((with_reducible first | refine zR ?_ ?_ fun K_ hK_ => ?_ | refine zS ?_ ?_ fun K_ hK_ => ?_); (focus kernel_rfl); (focus kernel_rfl))); first | (simp (maxSteps := 1000000) (disch := refine hold_ ?_; first | (simp [hSl, hz32, -List.getD_eq_getElem?_getD]; done) | omega) [hSl, hz32, -List.getD_eq_getElem?_getD]; try first | (with_reducible refine zZ ?_) | subst hK_) | subst hK_) | (with_reducible first | refine zA ?_ | refine zB ?_ | refine zC ?_ | refine zD ?_ | refine zE ?_ | refine zF ?_ | refine zG ?_ | refine zH ?_ | refine zI ?_ | refine zJ ?_ | refine zK ?_ | refine zL ?_ | refine zM ?_ | refine zN ?_ | refine zO ?_) | ((with_reducible refine yG ?_ ?_); (focus decide)) | ((with_reducible refine yA ?_); refine yB rfl ?_; (with_reducible first | refine yC ?_ | refine yD ?_)))
    (refine callK_p ?_; simp (maxSteps := 1000000) (disch := refine hold_ ?_; first | (simp [hSl, hz32, -List.getD_eq_getElem?_getD]; done) | omega) [hSl, hz32, -List.getD_eq_getElem?_getD]; refine callK1_of (Fn.ct k14 Try.call14) ?_; (try simp (maxSteps := 1000000) (disch := refine hold_ ?_; first | (simp [hSl, hz32, -List.getD_eq_getElem?_getD]; done) | omega) [hSl, hz32, -List.getD_eq_getElem?_getD]); first | refine zZ ?_ | subst hK_)
    repeat (first | ((first | (with_reducible first | refine zP fun K_ hK_ => ?_ | refine zQ fun K_ hK_ => ?_ | refine zT ?_ | refine zU ?_ | refine zV ?_ | refine zW ?_ | refine zX ?_ | refine zY ?_) | ((with_reducible first | refine zR ?_ ?_ fun K_ hK_ => ?_ | refine zS ?_ ?_ fun K_ hK_ => ?_); (focus kernel_rfl); (focus kernel_rfl))); first | (simp (maxSteps := 1000000) (disch := refine hold_ ?_; first | (simp [hSl, hz32, -List.getD_eq_getElem?_getD]; done) | omega) [hSl, hz32, -List.getD_eq_getElem?_getD]; try first | (with_reducible refine zZ ?_) | subst hK_) | subst hK_) | (with_reducible first | refine zA ?_ | refine zB ?_ | refine zC ?_ | refine zD ?_ | refine zE ?_ | refine zF ?_ | refine zG ?_ | refine zH ?_ | refine zI ?_ | refine zJ ?_ | refine zK ?_ | refine zL ?_ | refine zM ?_ | refine zN ?_ | refine zO ?_) | ((with_reducible refine yG ?_ ?_); (focus decide)) | ((with_reducible refine yA ?_); refine yB rfl ?_; (with_reducible first | refine yC ?_ | refine yD ?_)))
    (refine callK_s (by decide) ?_; simp (maxSteps := 1000000) (disch := refine hold_ ?_; first | (simp [hSl, hz32, -List.getD_eq_getElem?_getD]; done) | omega) [hSl, hz32, -List.getD_eq_getElem?_getD]; refine callK2_of rfl (Fn.ct k15 Try.call15) ?_; (try simp (maxSteps := 1000000) (disch := refine hold_ ?_; first | (simp [hSl, hz32, -List.getD_eq_getElem?_getD]; done) | omega) [hSl, hz32, -List.getD_eq_getElem?_getD]); first | refine zZ ?_ | subst hK_)
    repeat (first | ((first | (with_reducible first | refine zP fun K_ hK_ => ?_ | refine zQ fun K_ hK_ => ?_ | refine zT ?_ | refine zU ?_ | refine zV ?_ | refine zW ?_ | refine zX ?_ | refine zY ?_) | ((with_reducible first | refine zR ?_ ?_ fun K_ hK_ => ?_ | refine zS ?_ ?_ fun K_ hK_ => ?_); (focus kernel_rfl); (focus kernel_rfl))); first | (simp (maxSteps := 1000000) (disch := refine hold_ ?_; first | (simp [hSl, hz32, -List.getD_eq_getElem?_getD]; done) | omega) [hSl, hz32, -List.getD_eq_getElem?_getD]; try first | (with_reducible refine zZ ?_) | subst hK_) | subst hK_) | (with_reducible first | refine zA ?_ | refine zB ?_ | refine zC ?_ | refine zD ?_ | refine zE ?_ | refine zF ?_ | refine zG ?_ | refine zH ?_ | refine zI ?_ | refine zJ ?_ | refine zK ?_ | refine zL ?_ | refine zM ?_ | refine zN ?_ | refine zO ?_) | ((with_reducible refine yG ?_ ?_); (focus decide)) | ((with_reducible refine yA ?_); refine yB rfl ?_; (with_reducible first | refine yC ?_ | refine yD ?_)))
    simp (maxSteps := 1000000) (disch := refine hold_ ?_; first | (simp [hSl, hz32, -List.getD_eq_getElem?_getD]; done) | omega) [hSl, hz32, -List.getD_eq_getElem?_getD]
/-! ### the law ShaLong -/
set_option maxHeartbeats 10000000 in
theorem long_ct (b : BitVec 8) (x : Int) (hx : 0 ≤ x) (hx2 : x < 65536) : Fn Try.prog 4 [.int .u8 (ub b), .int .u16 x] [.p (.bool true)] := by
  refine Fn.of_body Try.func4 rfl ?_
  repeat (first | ((first | (with_reducible first | refine zP fun K_ hK_ => ?_ | refine zQ fun K_ hK_ => ?_ | refine zT ?_ | refine zU ?_ | refine zV ?_ | refine zW ?_ | refine zX ?_ | refine zY ?_) | ((with_reducible first | refine zR ?_ ?_ fun K_ hK_ => ?_ | refine zS ?_ ?_ fun K_ hK_ => ?_); (focus kernel_rfl); (focus kernel_rfl))); first | (simp (maxSteps := 1000000) (disch := refine hold_ ?_; first | (simp [-List.getD_eq_getElem?_getD]; done) | omega) [-List.getD_eq_getElem?_getD]; try first | (with_reducible refine zZ ?_) | subst hK_) | subst hK_) | (with_reducible first | refine zA ?_ | refine zB ?_ | refine zC ?_ | refine zD ?_ | refine zE ?_ | refine zF ?_ | refine zG ?_ | refine zH ?_ | refine zI ?_ | refine zJ ?_ | refine zK ?_ | refine zL ?_ | refine zM ?_ | refine zN ?_ | refine zO ?_) | ((with_reducible refine yG ?_ ?_); (focus decide)) | ((with_reducible refine yA ?_); refine yB rfl ?_; (with_reducible first | refine yC ?_ | refine yD ?_)))
  (refine callK_p ?_; simp (maxSteps := 1000000) (disch := refine hold_ ?_; first | (simp [-List.getD_eq_getElem?_getD]; done) | omega) [-List.getD_eq_getElem?_getD]; refine callK1_of (Fn.ct awake_ct Try.call11) ?_; (try simp (maxSteps := 1000000) (disch := refine hold_ ?_; first | (simp [-List.getD_eq_getElem?_getD]; done) | omega) [-List.getD_eq_getElem?_getD]); first | refine zZ ?_ | subst hK_)
  obtain ⟨m, rfl⟩ : ∃ m : Nat, x = m := ⟨x.toNat, by omega⟩
  have e0 : IntKind.i64.wrap (m : Int) = m := wrap_i64 _ (by omega) (by omega)
  obtain ⟨p, hp, hpl⟩ : ∃ p : Nat, (m : Int).tmod 2000 = p ∧ p < 2000 := ⟨m % 2000, by have := tmod_nat m 2000; simpa using this, by omega⟩
  repeat (first | ((first | (with_reducible first | refine zP fun K_ hK_ => ?_ | refine zQ fun K_ hK_ => ?_ | refine zT ?_ | refine zU ?_ | refine zV ?_ | refine zW ?_ | refine zX ?_ | refine zY ?_) | ((with_reducible first | refine zR ?_ ?_ fun K_ hK_ => ?_ | refine zS ?_ ?_ fun K_ hK_ => ?_); (focus kernel_rfl); (focus kernel_rfl))); first | (simp (maxSteps := 1000000) (disch := refine hold_ ?_; first | (simp [e0, hp, -List.getD_eq_getElem?_getD]; done) | omega) [e0, hp, -List.getD_eq_getElem?_getD]; try first | (with_reducible refine zZ ?_) | subst hK_) | subst hK_) | (with_reducible first | refine zA ?_ | refine zB ?_ | refine zC ?_ | refine zD ?_ | refine zE ?_ | refine zF ?_ | refine zG ?_ | refine zH ?_ | refine zI ?_ | refine zJ ?_ | refine zK ?_ | refine zL ?_ | refine zM ?_ | refine zN ?_ | refine zO ?_) | ((with_reducible refine yG ?_ ?_); (focus decide)) | ((with_reducible refine yA ?_); refine yB rfl ?_; (with_reducible first | refine yC ?_ | refine yD ?_)))
  refine AW.nilRow 5 (bl []) 5 _ rfl rfl ?_
  refine AW.iter (true :: false :: false :: false :: false :: true :: false :: false :: false :: false :: true :: true :: false :: false :: false :: false :: false :: false :: false :: false :: false :: false :: false :: false :: []) p (fun k => ⟨(.p (.int .u8 (ub b)) :: V.junk :: V.junk :: V.junk :: V.junk :: .row (bl (List.replicate k b)) 0 0 (k == 0) :: V.junk :: V.junk :: V.junk :: V.junk :: .p (.int .i64 p) :: .p (.int .i64 k) :: V.junk :: V.junk :: V.junk :: V.junk :: V.junk :: V.junk :: V.junk :: V.junk :: V.junk :: V.junk :: V.junk :: V.junk :: []), ⟨[], [(0, 0)]⟩⟩) ?_ ?_
  · simp (maxSteps := 1000000) (disch := refine hold_ ?_; first | (simp [-List.getD_eq_getElem?_getD]; done) | omega) [-List.getD_eq_getElem?_getD]
  intro k hk
  have e1 : IntKind.i64.wrap ((k : Int) + 1) = k + 1 := wrap_i64 _ (by omega) (by omega)
  repeat (first | ((first | (with_reducible first | refine zP fun K_ hK_ => ?_ | refine zQ fun K_ hK_ => ?_ | refine zT ?_ | refine zU ?_ | refine zV ?_ | refine zW ?_ | refine zX ?_ | refine zY ?_) | ((with_reducible first | refine zR ?_ ?_ fun K_ hK_ => ?_ | refine zS ?_ ?_ fun K_ hK_ => ?_); (focus kernel_rfl); (focus kernel_rfl))); first | (simp (maxSteps := 1000000) (disch := refine hold_ ?_; first | (simp [-List.getD_eq_getElem?_getD]; done) | omega) [-List.getD_eq_getElem?_getD]; try first | (with_reducible refine zZ ?_) | subst hK_) | subst hK_) | (with_reducible first | refine zA ?_ | refine zB ?_ | refine zC ?_ | refine zD ?_ | refine zE ?_ | refine zF ?_ | refine zG ?_ | refine zH ?_ | refine zI ?_ | refine zJ ?_ | refine zK ?_ | refine zL ?_ | refine zM ?_ | refine zN ?_ | refine zO ?_) | ((with_reducible refine yG ?_ ?_); (focus decide)) | ((with_reducible refine yA ?_); refine yB rfl ?_; (with_reducible first | refine yC ?_ | refine yD ?_)))
  first | refine AW.condD rfl (fun hc => ?_) (fun hc => ?_) | refine AW.cond rfl (fun hc => ?_) (fun hc => ?_)
  · have hk2 : k < p := by omega
    repeat (first | ((first | (with_reducible first | refine zP fun K_ hK_ => ?_ | refine zQ fun K_ hK_ => ?_ | refine zT ?_ | refine zU ?_ | refine zV ?_ | refine zW ?_ | refine zX ?_ | refine zY ?_) | ((with_reducible first | refine zR ?_ ?_ fun K_ hK_ => ?_ | refine zS ?_ ?_ fun K_ hK_ => ?_); (focus kernel_rfl); (focus kernel_rfl))); first | (simp (maxSteps := 1000000) (disch := refine hold_ ?_; first | (simp [e1, hk2, -List.getD_eq_getElem?_getD]; done) | omega) [e1, hk2, -List.getD_eq_getElem?_getD]; try first | (with_reducible refine zZ ?_) | subst hK_) | subst hK_) | (with_reducible first | refine zA ?_ | refine zB ?_ | refine zC ?_ | refine zD ?_ | refine zE ?_ | refine zF ?_ | refine zG ?_ | refine zH ?_ | refine zI ?_ | refine zJ ?_ | refine zK ?_ | refine zL ?_ | refine zM ?_ | refine zN ?_ | refine zO ?_) | ((with_reducible refine yG ?_ ?_); (focus decide)) | ((with_reducible refine yA ?_); refine yB rfl ?_; (with_reducible first | refine yC ?_ | refine yD ?_)))
    refine ⟨hk2, ?_⟩
    simp (maxSteps := 1000000) (disch := refine hold_ ?_; first | (simp [List.replicate_succ', -List.getD_eq_getElem?_getD]; done) | omega) [List.replicate_succ', -List.getD_eq_getElem?_getD]
  · have hk2 : k = p := by omega
    subst hk2
    have hSl : (shaL (List.replicate k b)).length = 32 := by unfold shaL; exact outL_len _ _
    have hz32 : zero32.length = 32 := rfl
    have k12 : Fn Try.prog 12 [.sl (bl (List.replicate k b)) (k == 0)] [.p (.agg (bl (shaL (List.replicate k b))))] := rsum_ct _ _ (by simp; omega)
    have k13 : Fn Try.prog 13 [.sl (.vals 1 [.sl (bl (List.replicate k b)) (k == 0)]) false] [.p (.agg (bl (shaL (List.replicate k b))))] := by
      have h1 : cat [(List.replicate k b, k == 0)] 1 = List.replicate k b := by simp [cat]
      have := sum_ct [(List.replicate k b, k == 0)] false (by simp) (by show (cat [(List.replicate k b, k == 0)] 1).length ≤ 4000000; rw [h1]; simp; omega)
      rw [show ([(List.replicate k b, k == 0)] : List Part).length = 1 from rfl, h1] at this
      exact this
    generalize shaL (List.replicate k b) = S at *
    generalize List.replicate k b = c at *
    repeat (first | ((first | (with_reducible first | refine zP fun K_ hK_ => ?_ | refine zQ fun K_ hK_ => ?_ | refine zT ?_ | refine zU ?_ | refine zV ?_ | refine zW ?_ | refine zX ?_ | refine zY ?_) | ((with_reducible first | refine zR ?_ ?_ fun K_ hK_ => ?_ | refine zS ?_ ?_ fun K_ hK_ => ?_); (focus kernel_rfl); (focus kernel_rfl))); first | (simp (maxSteps := 1000000) (disch := refine hold_ ?_; first | (simp [-List.getD_eq_getElem?_getD]; done) | omega) [-List.getD_eq_getElem?_getD]; try first | (with_reducible refine zZ ?_) | subst hK_) | subst hK_) | (with_reducible first | refine zA ?_ | refine zB ?_ | refine zC ?_ | refine zD ?_ | refine zE ?_ | refine zF ?_ | refine zG ?_ | refine zH ?_ | refine zI ?_ | refine zJ ?_ | refine zK ?_ | refine zL ?_ | refine zM ?_ | refine zN ?_ | refine zO ?_) | ((with_reducible refine yG ?_ ?_); (focus decide)) | ((with_reducible refine yA ?_); refine yB rfl ?_; (with_reducible first | refine yC ?_ | refine yD ?_)))
    (refine callK_p ?_; simp (maxSteps := 1000000) (disch := refine hold_ ?_; first | (simp [hSl, hz32, -List.getD_eq_getElem?_getD]; done) | omega) [hSl, hz32, -List.getD_eq_getElem?_getD]; refine callK1_of (Fn.ct k13 Try.call13) ?_; (try simp (maxSteps := 1000000) (disch := refine hold_ ?_; first | (simp [hSl, hz32, -List.getD_eq_getElem?_getD]; done) | omega) [hSl, hz32, -List.getD_eq_getElem?_getD]); first | refine zZ ?_ | subst hK_)
    repeat (first | ((first | (with_reducible first | refine zP fun K_ hK_ => ?_ | refine zQ fun K_ hK_ => ?_ | refine zT ?_ | refine zU ?_ | refine zV ?_ | refine zW ?_ | refine zX ?_ | refine zY ?_) | ((with_reducible first | refine zR ?_ ?_ fun K_ hK_ => ?_ | refine zS ?_ ?_ fun K_ hK_ => ?_); (focus kernel_rfl); (focus kernel_rfl))); first | (simp (maxSteps := 1000000) (disch := refine hold_ ?_; first | (simp [hSl, hz32, -List.getD_eq_getElem?_getD]; done) | omega) [hSl, hz32, -List.getD_eq_getElem?_getD]; try first | (with_reducible refine zZ ?_) | subst hK_) | subst hK_) | (with_reducible first | refine zA ?_ | refine zB ?_ | refine zC ?_ | refine zD ?_ | refine zE ?_ | refine zF ?_ | refine zG ?_ | refine zH ?_ | refine zI ?_ | refine zJ ?_ | refine zK ?_ | refine zL ?_ | refine zM ?_ | refine zN ?_ | refine zO ?_) | ((with_reducible refine yG ?_ ?_); (focus decide)) | ((with_reducible refine yA ?_); refine yB rfl ?_; (with_reducible first | refine yC ?_ | refine yD ?_)))
    (refine callK_p ?_; simp (maxSteps := 1000000) (disch := refine hold_ ?_; first | (simp [hSl, hz32, -List.getD_eq_getElem?_getD]; done) | omega) [hSl, hz32, -List.getD_eq_getElem?_getD]; refine callK1_of (Fn.ct k12 Try.call12) ?_; (try simp (maxSteps := 1000000) (disch := refine hold_ ?_; first | (simp [hSl, hz32, -List.getD_eq_getElem?_getD]; done) | omega) [hSl, hz32, -List.getD_eq_getElem?_getD]); first | refine zZ ?_ | subst hK_)
    repeat (first | ((first | (with_reducible first | refine zP fun K_ hK_ => ?_ | refine zQ fun K_ hK_ => ?_ | refine zT ?_ | refine zU ?_ | refine zV ?_ | refine zW ?_ | refine zX ?_ | refine zY ?_) | ((with_reducible first | refine zR ?_ ?_ fun K_ hK_ => ?_ | refine zS ?_ ?_ fun K_ hK_ => ?_); (focus kernel_rfl); (focus kernel_rfl))); first | (simp (maxSteps := 1000000) (disch := refine hold_ ?_; first | (simp [hSl, hz32, -List.getD_eq_getElem?_getD]; done) | omega) [hSl, hz32, -List.getD_eq_getElem?_getD]; try first | (with_reducible refine zZ ?_) | subst hK_) | subst hK_) | (with_reducible first | refine zA ?_ | refine zB ?_ | refine zC ?_ | refine zD ?_ | refine zE ?_ | refine zF ?_ | refine zG ?_ | refine zH ?_ | refine zI ?_ | refine zJ ?_ | refine zK ?_ | refine zL ?_ | refine zM ?_ | refine zN ?_ | refine zO ?_) | ((with_reducible refine yG ?_ ?_); (focus decide)) | ((with_reducible refine yA ?_); refine yB rfl ?_; (with_reducible first | refine yC ?_ | refine yD ?_)))
    simp (maxSteps := 1000000) (disch := refine hold_ ?_; first | (simp [hSl, hz32, -List.getD_eq_getElem?_getD]; done) | omega) [hSl, hz32, -List.getD_eq_getElem?_getD]
/-! ### the laws on numbers as they come -/
theorem wf_u16 {n : Int} (w : (Lit.int .u16 n).wf = true) : 0 ≤ n ∧ n < 65536 := by
  have e : (Lit.int .u16 n).wf = (decide (0 ≤ n) && decide (n ≤ 65535)) := rfl
  rw [e] at w; simp at w; omega
theorem wf_u8 {n : Int} (w : (Lit.int .u8 n).wf = true) : 0 ≤ n ∧ n < 256 := by
  have e : (Lit.int .u8 n).wf = (decide (0 ≤ n) && decide (n ≤ 255)) := rfl
  rw [e] at w; simp at w; omega
theorem sums_law (c : List (BitVec 8)) (nl : Bool) (_ : c.length ≤ maxLen) (x : Int) (wx : (Lit.int .u16 x).wf = true) (y : Int) (wy : (Lit.int .u16 y).wf = true) :
    Fn Try.prog 3 [.sl (bl c) nl, .int .u16 x, .int .u16 y] [.p (.bool true)] :=
  sums_ct nl c x y (wf_u16 wx).1 (wf_u16 wx).2 (wf_u16 wy).1 (wf_u16 wy).2
theorem long_law (b : Int) (wb : (Lit.int .u8 b).wf = true) (x : Int) (wx : (Lit.int .u16 x).wf = true) : Fn Try.prog 4 [.int .u8 b, .int .u16 x] [.p (.bool true)] := by
  have h := long_ct (BitVec.ofInt 8 b) x (wf_u16 wx).1 (wf_u16 wx).2
  have hb := wf_u8 wb
  have e : ub (BitVec.ofInt 8 b) = b := by simp [ub, BitVec.toNat_ofInt]; omega
  rw [e] at h; exact h
end Go.Av.Sha
end
