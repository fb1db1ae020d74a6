/- The walks of this seat's functions, and what is known of what they reckon (Lex5). Conditions: those that each theorem names. -/
import Derived.Test.YtieloaedeiiibaaDoorLex4
import Derived.Lib.Bytealg
section
set_option linter.unusedSimpArgs false
set_option linter.unusedVariables false
open Go Go.Av Go.Proofs
namespace Go.Av.Lex
set_option maxHeartbeats 40000000 in
theorem rbegins_ct (r : Int) : Fn Tryd.prog 38 [.int .i32 r] [.p (.bool (begB r))] := by
  have k : ∀ a b : Int, Fn Tryd.prog 51 [.int .i32 r, .int .i32 a, .int .i32 b] [.p (.bool (decide (a ≤ r ∧ r ≤ b)))] := between_ct r
  have hr : r < 65 ∨ (65 ≤ r ∧ r < 91) ∨ (91 ≤ r ∧ r < 95) ∨ (95 ≤ r ∧ r < 96) ∨ (96 ≤ r ∧ r < 97) ∨ (97 ≤ r ∧ r < 123) ∨ (123 ≤ r ∧ r < 128) ∨ (128 ≤ r ∧ r < 192) ∨ (192 ≤ r ∧ r < 215) ∨ (215 ≤ r ∧ r < 216) ∨ (216 ≤ r ∧ r < 247) ∨ (247 ≤ r ∧ r < 248) ∨ (248 ≤ r ∧ r < 768) ∨ (768 ≤ r ∧ r < 880) ∨ (880 ≤ r ∧ r < 894) ∨ (894 ≤ r ∧ r < 895) ∨ (895 ≤ r ∧ r < 8192) ∨ (8192 ≤ r ∧ r < 8204) ∨ (8204 ≤ r ∧ r < 8205) ∨ (8205 ≤ r ∧ r < 8206) ∨ (8206 ≤ r ∧ r < 8304) ∨ (8304 ≤ r ∧ r < 8592) ∨ (8592 ≤ r ∧ r < 11264) ∨ (11264 ≤ r ∧ r < 12272) ∨ (12272 ≤ r ∧ r < 12289) ∨ (12289 ≤ r ∧ r < 55296) ∨ (55296 ≤ r ∧ r < 63744) ∨ (63744 ≤ r ∧ r < 64976) ∨ (64976 ≤ r ∧ r < 65008) ∨ (65008 ≤ r ∧ r < 65534) ∨ (65534 ≤ r ∧ r < 65536) ∨ (65536 ≤ r ∧ r < 983040) ∨ 983040 ≤ r := by omega
  refine Fn.of_body Tryd.func38 rfl ?_
  rcases hr with hr | hr | hr | hr | hr | hr | hr | hr | hr | hr | hr | hr | hr | hr | hr | hr | hr | hr | hr | hr | hr | hr | hr | hr | hr | hr | hr | hr | hr | hr | hr | hr | hr
  all_goals
    (first | have f1 : (65 ≤ r) = True := eq_true (by omega) | have f1 : (65 ≤ r) = False := eq_false (by omega)); (first | have f2 : (97 ≤ r) = True := eq_true (by omega) | have f2 : (97 ≤ r) = False := eq_false (by omega)); (first | have f3 : (192 ≤ r) = True := eq_true (by omega) | have f3 : (192 ≤ r) = False := eq_false (by omega)); (first | have f4 : (216 ≤ r) = True := eq_true (by omega) | have f4 : (216 ≤ r) = False := eq_false (by omega)); (first | have f5 : (248 ≤ r) = True := eq_true (by omega) | have f5 : (248 ≤ r) = False := eq_false (by omega)); (first | have f6 : (768 ≤ r) = True := eq_true (by omega) | have f6 : (768 ≤ r) = False := eq_false (by omega)); (first | have f7 : (880 ≤ r) = True := eq_true (by omega) | have f7 : (880 ≤ r) = False := eq_false (by omega)); (first | have f8 : (895 ≤ r) = True := eq_true (by omega) | have f8 : (895 ≤ r) = False := eq_false (by omega)); (first | have f9 : (8204 ≤ r) = True := eq_true (by omega) | have f9 : (8204 ≤ r) = False := eq_false (by omega)); (first | have f10 : (8304 ≤ r) = True := eq_true (by omega) | have f10 : (8304 ≤ r) = False := eq_false (by omega)); (first | have f11 : (11264 ≤ r) = True := eq_true (by omega) | have f11 : (11264 ≤ r) = False := eq_false (by omega)); (first | have f12 : (12289 ≤ r) = True := eq_true (by omega) | have f12 : (12289 ≤ r) = False := eq_false (by omega)); (first | have f13 : (63744 ≤ r) = True := eq_true (by omega) | have f13 : (63744 ≤ r) = False := eq_false (by omega)); (first | have f14 : (65008 ≤ r) = True := eq_true (by omega) | have f14 : (65008 ≤ r) = False := eq_false (by omega)); (first | have f15 : (65536 ≤ r) = True := eq_true (by omega) | have f15 : (65536 ≤ r) = False := eq_false (by omega)); (first | have f16 : (r ≤ 90) = True := eq_true (by omega) | have f16 : (r ≤ 90) = False := eq_false (by omega)); (first | have f17 : (r ≤ 122) = True := eq_true (by omega) | have f17 : (r ≤ 122) = False := eq_false (by omega)); (first | have f18 : (r ≤ 214) = True := eq_true (by omega) | have f18 : (r ≤ 214) = False := eq_false (by omega)); (first | have f19 : (r ≤ 246) = True := eq_true (by omega) | have f19 : (r ≤ 246) = False := eq_false (by omega)); (first | have f20 : (r ≤ 767) = True := eq_true (by omega) | have f20 : (r ≤ 767) = False := eq_false (by omega)); (first | have f21 : (r ≤ 879) = True := eq_true (by omega) | have f21 : (r ≤ 879) = False := eq_false (by omega)); (first | have f22 : (r ≤ 893) = True := eq_true (by omega) | have f22 : (r ≤ 893) = False := eq_false (by omega)); (first | have f23 : (r ≤ 8191) = True := eq_true (by omega) | have f23 : (r ≤ 8191) = False := eq_false (by omega)); (first | have f24 : (r ≤ 8205) = True := eq_true (by omega) | have f24 : (r ≤ 8205) = False := eq_false (by omega)); (first | have f25 : (r ≤ 8591) = True := eq_true (by omega) | have f25 : (r ≤ 8591) = False := eq_false (by omega)); (first | have f26 : (r ≤ 12271) = True := eq_true (by omega) | have f26 : (r ≤ 12271) = False := eq_false (by omega)); (first | have f27 : (r ≤ 55295) = True := eq_true (by omega) | have f27 : (r ≤ 55295) = False := eq_false (by omega)); (first | have f28 : (r ≤ 64975) = True := eq_true (by omega) | have f28 : (r ≤ 64975) = False := eq_false (by omega)); (first | have f29 : (r ≤ 65533) = True := eq_true (by omega) | have f29 : (r ≤ 65533) = False := eq_false (by omega)); (first | have f30 : (r ≤ 983039) = True := eq_true (by omega) | have f30 : (r ≤ 983039) = False := eq_false (by omega)); (first | have f31 : (r < 128) = True := eq_true (by omega) | have f31 : (r < 128) = False := eq_false (by omega)); (first | have f32 : (r < 8192) = True := eq_true (by omega) | have f32 : (r < 8192) = False := eq_false (by omega)); (first | have f33 : (r < 12289) = True := eq_true (by omega) | have f33 : (r < 12289) = False := eq_false (by omega)); (first | have f34 : (r == 95) = true := beq_iff_eq.2 (by omega) | have f34 : (r == 95) = false := beq_eq_false_iff_ne.2 (by omega)); (first | have f35 : (r == 215) = true := beq_iff_eq.2 (by omega) | have f35 : (r == 215) = false := beq_eq_false_iff_ne.2 (by omega)); (first | have f36 : (r == 247) = true := beq_iff_eq.2 (by omega) | have f36 : (r == 247) = false := beq_eq_false_iff_ne.2 (by omega)); (first | have f37 : (r == 894) = true := beq_iff_eq.2 (by omega) | have f37 : (r == 894) = false := beq_eq_false_iff_ne.2 (by omega)); (first | have f38 : (r == 8204) = true := beq_iff_eq.2 (by omega) | have f38 : (r == 8204) = false := beq_eq_false_iff_ne.2 (by omega)); (first | have f39 : (r == 8205) = true := beq_iff_eq.2 (by omega) | have f39 : (r == 8205) = false := beq_eq_false_iff_ne.2 (by omega))
    (first | have fx : begB r = true := by simp [begB, inB, begL, f1, f2, f3, f4, f5, f6, f7, f8, f9, f10, f11, f12, f13, f14, f15, f16, f17, f18, f19, f20, f21, f22, f23, f24, f25, f26, f27, f28, f29, f30, f31, f32, f33, f34, f35, f36, f37, f38, f39] | have fx : begB r = false := by simp [begB, inB, begL, f1, f2, f3, f4, f5, f6, f7, f8, f9, f10, f11, f12, f13, f14, f15, f16, f17, f18, f19, f20, f21, f22, f23, f24, f25, f26, f27, f28, f29, f30, f31, f32, f33, f34, f35, f36, f37, f38, f39])
    rw [fx]
    repeat (first | ((first | refine callK_at 51 ?_); refine callK_p ?_; simp (maxSteps := 1000000) (disch := refine hold_ ?_; first | (simp [f1, f2, f3, f4, f5, f6, f7, f8, f9, f10, f11, f12, f13, f14, f15, f16, f17, f18, f19, f20, f21, f22, f23, f24, f25, f26, f27, f28, f29, f30, f31, f32, f33, f34, f35, f36, f37, f38, f39, bne, -List.getD_eq_getElem?_getD]; done) | omega) [f1, f2, f3, f4, f5, f6, f7, f8, f9, f10, f11, f12, f13, f14, f15, f16, f17, f18, f19, f20, f21, f22, f23, f24, f25, f26, f27, f28, f29, f30, f31, f32, f33, f34, f35, f36, f37, f38, f39, bne, -List.getD_eq_getElem?_getD]; (first | refine callK1_of (Fn.ct (k _ _) Tryd.call51) ?_); (try simp (maxSteps := 1000000) (disch := refine hold_ ?_; first | (simp [f1, f2, f3, f4, f5, f6, f7, f8, f9, f10, f11, f12, f13, f14, f15, f16, f17, f18, f19, f20, f21, f22, f23, f24, f25, f26, f27, f28, f29, f30, f31, f32, f33, f34, f35, f36, f37, f38, f39, bne, -List.getD_eq_getElem?_getD]; done) | omega) [f1, f2, f3, f4, f5, f6, f7, f8, f9, f10, f11, f12, f13, f14, f15, f16, f17, f18, f19, f20, f21, f22, f23, f24, f25, f26, f27, f28, f29, f30, f31, f32, f33, f34, f35, f36, f37, f38, f39, bne, -List.getD_eq_getElem?_getD]); first | refine zZ ?_ | subst hK_) | ((first | refine zP fun K_ hK_ => ?_ | refine zQ fun K_ hK_ => ?_ | refine zR (by kernel_rfl) (by kernel_rfl) fun K_ hK_ => ?_ | refine zS (by kernel_rfl) (by kernel_rfl) fun K_ hK_ => ?_ | refine zT ?_); first | (simp (maxSteps := 1000000) (disch := refine hold_ ?_; first | (simp [f1, f2, f3, f4, f5, f6, f7, f8, f9, f10, f11, f12, f13, f14, f15, f16, f17, f18, f19, f20, f21, f22, f23, f24, f25, f26, f27, f28, f29, f30, f31, f32, f33, f34, f35, f36, f37, f38, f39, bne, -List.getD_eq_getElem?_getD]; done) | omega) [f1, f2, f3, f4, f5, f6, f7, f8, f9, f10, f11, f12, f13, f14, f15, f16, f17, f18, f19, f20, f21, f22, f23, f24, f25, f26, f27, f28, f29, f30, f31, f32, f33, f34, f35, f36, f37, f38, f39, bne, -List.getD_eq_getElem?_getD]; try first | refine zZ ?_ | subst hK_) | subst hK_) | refine zA ?_ | refine zB ?_ | refine zC ?_ | refine zD ?_ | refine zE ?_ | refine zF ?_ | refine zG ?_ | refine zH ?_ | refine zI ?_ | refine zJ ?_ | refine zK ?_ | refine zL ?_ | refine zM ?_ | refine zN ?_ | refine zO ?_ | refine yG (by decide) ?_ | refine AW.condT rfl ?_ | refine AW.condF rfl ?_)
    simp (maxSteps := 1000000) (disch := refine hold_ ?_; first | (simp [f1, f2, f3, f4, f5, f6, f7, f8, f9, f10, f11, f12, f13, f14, f15, f16, f17, f18, f19, f20, f21, f22, f23, f24, f25, f26, f27, f28, f29, f30, f31, f32, f33, f34, f35, f36, f37, f38, f39, -List.getD_eq_getElem?_getD]; done) | omega) [f1, f2, f3, f4, f5, f6, f7, f8, f9, f10, f11, f12, f13, f14, f15, f16, f17, f18, f19, f20, f21, f22, f23, f24, f25, f26, f27, f28, f29, f30, f31, f32, f33, f34, f35, f36, f37, f38, f39, -List.getD_eq_getElem?_getD]
set_option maxHeartbeats 40000000 in
theorem stands_ct (r : Int) : Fn Tryd.prog 59 [.int .i32 r] [.p (.bool (staB r))] := by
  have k := in_ct r false staL (by decide)
  have hsp : spR staL = .vals 2 [.agg (.vals 1 [.int .i32 48, .int .i32 57]), .agg (.vals 1 [.int .i32 768, .int .i32 879]), .agg (.vals 1 [.int .i32 8255, .int .i32 8256])] := rfl
  rw [hsp] at k
  have kb := begins_ct r
  unfold staB
  generalize begB r = B at *
  generalize inB r staL = X at *
  refine Fn.of_body Tryd.func59 rfl ?_
  cases h1 : r == 45 <;> cases h2 : r == 46 <;> cases h3 : r == 183 <;> cases B
  all_goals
    repeat (first | ((first | refine callK_at 58 ?_ | refine callK_at 63 ?_); refine callK_p ?_; simp (maxSteps := 1000000) (disch := refine hold_ ?_; first | (simp [h1, h2, h3, -List.getD_eq_getElem?_getD]; done) | omega) [h1, h2, h3, -List.getD_eq_getElem?_getD]; (first | refine callK1_of (Fn.ct kb Tryd.call58) ?_ | refine callK1_of (Fn.ct k Tryd.call63) ?_); (try simp (maxSteps := 1000000) (disch := refine hold_ ?_; first | (simp [h1, h2, h3, -List.getD_eq_getElem?_getD]; done) | omega) [h1, h2, h3, -List.getD_eq_getElem?_getD]); first | refine zZ ?_ | subst hK_) | ((first | refine zP fun K_ hK_ => ?_ | refine zQ fun K_ hK_ => ?_ | refine zR (by kernel_rfl) (by kernel_rfl) fun K_ hK_ => ?_ | refine zS (by kernel_rfl) (by kernel_rfl) fun K_ hK_ => ?_ | refine zT ?_); first | (simp (maxSteps := 1000000) (disch := refine hold_ ?_; first | (simp [h1, h2, h3, -List.getD_eq_getElem?_getD]; done) | omega) [h1, h2, h3, -List.getD_eq_getElem?_getD]; try first | refine zZ ?_ | subst hK_) | subst hK_) | refine zA ?_ | refine zB ?_ | refine zC ?_ | refine zD ?_ | refine zE ?_ | refine zF ?_ | refine zG ?_ | refine zH ?_ | refine zI ?_ | refine zJ ?_ | refine zK ?_ | refine zL ?_ | refine zM ?_ | refine zN ?_ | refine zO ?_ | refine yG (by decide) ?_ | refine AW.condT rfl ?_ | refine AW.condF rfl ?_)
    simp (maxSteps := 1000000) (disch := refine hold_ ?_; first | (simp [h1, h2, h3, -List.getD_eq_getElem?_getD]; done) | omega) [h1, h2, h3, -List.getD_eq_getElem?_getD]
set_option maxHeartbeats 40000000 in
theorem rstands_ct (r : Int) : Fn Tryd.prog 39 [.int .i32 r] [.p (.bool (staB r))] := by
  have k : ∀ a b : Int, Fn Tryd.prog 51 [.int .i32 r, .int .i32 a, .int .i32 b] [.p (.bool (decide (a ≤ r ∧ r ≤ b)))] := between_ct r
  have kb := rbegins_ct r
  have hr : r < 45 ∨ r = 45 ∨ r = 46 ∨ r = 47 ∨ (48 ≤ r ∧ r ≤ 57) ∨ (58 ≤ r ∧ r < 183) ∨ r = 183 ∨ (183 < r ∧ r < 768) ∨ (768 ≤ r ∧ r ≤ 879) ∨ (879 < r ∧ r < 8255) ∨ r = 8255 ∨ r = 8256 ∨ 8256 < r := by omega
  refine Fn.of_body Tryd.func39 rfl ?_
  rcases hr with hr | hr | hr | hr | hr | hr | hr | hr | hr | hr | hr | hr | hr
  all_goals
    (first | have f1 : (48 ≤ r) = True := eq_true (by omega) | have f1 : (48 ≤ r) = False := eq_false (by omega)); (first | have f2 : (r ≤ 57) = True := eq_true (by omega) | have f2 : (r ≤ 57) = False := eq_false (by omega)); (first | have f3 : (768 ≤ r) = True := eq_true (by omega) | have f3 : (768 ≤ r) = False := eq_false (by omega)); (first | have f4 : (r ≤ 879) = True := eq_true (by omega) | have f4 : (r ≤ 879) = False := eq_false (by omega)); (first | have f5 : (8255 ≤ r) = True := eq_true (by omega) | have f5 : (8255 ≤ r) = False := eq_false (by omega)); (first | have f6 : (r ≤ 8256) = True := eq_true (by omega) | have f6 : (r ≤ 8256) = False := eq_false (by omega)); (first | have f7 : (r == 45) = true := beq_iff_eq.2 (by omega) | have f7 : (r == 45) = false := beq_eq_false_iff_ne.2 (by omega)); (first | have f8 : (r == 46) = true := beq_iff_eq.2 (by omega) | have f8 : (r == 46) = false := beq_eq_false_iff_ne.2 (by omega)); (first | have f9 : (r == 183) = true := beq_iff_eq.2 (by omega) | have f9 : (r == 183) = false := beq_eq_false_iff_ne.2 (by omega)); (first | have f10 : (r == 8255) = true := beq_iff_eq.2 (by omega) | have f10 : (r == 8255) = false := beq_eq_false_iff_ne.2 (by omega)); (first | have f11 : (r == 8256) = true := beq_iff_eq.2 (by omega) | have f11 : (r == 8256) = false := beq_eq_false_iff_ne.2 (by omega))
    (first | have fx : (r == 45 || r == 46 || r == 183 || inB r staL) = true := by simp [inB, staL, f1, f2, f3, f4, f5, f6, f7, f8, f9, f10, f11] | have fx : (r == 45 || r == 46 || r == 183 || inB r staL) = false := by simp [inB, staL, f1, f2, f3, f4, f5, f6, f7, f8, f9, f10, f11])
    have fs : staB r = (begB r || (r == 45 || r == 46 || r == 183 || inB r staL)) := by unfold staB; simp only [Bool.or_assoc]
    rw [fs, fx]
    generalize begB r = B at *
    cases B
  all_goals
    repeat (first | ((first | refine callK_at 38 ?_ | refine callK_at 51 ?_); refine callK_p ?_; simp (maxSteps := 1000000) (disch := refine hold_ ?_; first | (simp [f1, f2, f3, f4, f5, f6, f7, f8, f9, f10, f11, -List.getD_eq_getElem?_getD]; done) | omega) [f1, f2, f3, f4, f5, f6, f7, f8, f9, f10, f11, -List.getD_eq_getElem?_getD]; (first | refine callK1_of (Fn.ct kb Tryd.call38) ?_ | refine callK1_of (Fn.ct (k _ _) Tryd.call51) ?_); (try simp (maxSteps := 1000000) (disch := refine hold_ ?_; first | (simp [f1, f2, f3, f4, f5, f6, f7, f8, f9, f10, f11, -List.getD_eq_getElem?_getD]; done) | omega) [f1, f2, f3, f4, f5, f6, f7, f8, f9, f10, f11, -List.getD_eq_getElem?_getD]); first | refine zZ ?_ | subst hK_) | ((first | refine zP fun K_ hK_ => ?_ | refine zQ fun K_ hK_ => ?_ | refine zR (by kernel_rfl) (by kernel_rfl) fun K_ hK_ => ?_ | refine zS (by kernel_rfl) (by kernel_rfl) fun K_ hK_ => ?_ | refine zT ?_); first | (simp (maxSteps := 1000000) (disch := refine hold_ ?_; first | (simp [f1, f2, f3, f4, f5, f6, f7, f8, f9, f10, f11, -List.getD_eq_getElem?_getD]; done) | omega) [f1, f2, f3, f4, f5, f6, f7, f8, f9, f10, f11, -List.getD_eq_getElem?_getD]; try first | refine zZ ?_ | subst hK_) | subst hK_) | refine zA ?_ | refine zB ?_ | refine zC ?_ | refine zD ?_ | refine zE ?_ | refine zF ?_ | refine zG ?_ | refine zH ?_ | refine zI ?_ | refine zJ ?_ | refine zK ?_ | refine zL ?_ | refine zM ?_ | refine zN ?_ | refine zO ?_ | refine yG (by decide) ?_ | refine AW.condT rfl ?_ | refine AW.condF rfl ?_)
    simp (maxSteps := 1000000) (disch := refine hold_ ?_; first | (simp [f1, f2, f3, f4, f5, f6, f7, f8, f9, f10, f11, -List.getD_eq_getElem?_getD]; done) | omega) [f1, f2, f3, f4, f5, f6, f7, f8, f9, f10, f11, -List.getD_eq_getElem?_getD]
end Go.Av.Lex
end
section
set_option linter.unusedSimpArgs false
set_option linter.unusedVariables false
open Go Go.Av Go.Proofs
namespace Go.Av.Lex
end Go.Av.Lex
end
section
set_option linter.unusedSimpArgs false
set_option linter.unusedVariables false
open Go Go.Av Go.Proofs
namespace Go.Av.Lex
def nameC : List Int → Bool
  | [] => false
  | r :: t => begB r && (r :: t).all staB
def nameB (l : List (BitVec 8)) : Bool := match charsL l with
  | some c => nameC c
  | none => false
end Go.Av.Lex
end
section
set_option linter.unusedSimpArgs false
set_option linter.unusedVariables false
open Go Go.Av Go.Proofs
namespace Go.Av.Lex
def blankB (c : Int) : Bool := c == 32 || c == 9 || c == 10 || c == 13
theorem blank_ct (c : Int) : Fn Tryd.prog 24 [.int .u8 c] [.p (.bool (blankB c))] := by
  unfold blankB
  refine Fn.of_body Tryd.func24 rfl ?_
  cases h1 : c == 32 <;> cases h2 : c == 9 <;> cases h3 : c == 10
  all_goals
    repeat (first | ((first | refine zP fun K_ hK_ => ?_ | refine zQ fun K_ hK_ => ?_ | refine zR (by kernel_rfl) (by kernel_rfl) fun K_ hK_ => ?_ | refine zS (by kernel_rfl) (by kernel_rfl) fun K_ hK_ => ?_ | refine zT ?_); first | (simp (maxSteps := 1000000) (disch := refine hold_ ?_; first | (simp [h1, h2, h3, -List.getD_eq_getElem?_getD]; done) | omega) [h1, h2, h3, -List.getD_eq_getElem?_getD]; try first | refine zZ ?_ | subst hK_) | subst hK_) | refine zA ?_ | refine zB ?_ | refine zC ?_ | refine zD ?_ | refine zE ?_ | refine zF ?_ | refine zG ?_ | refine zH ?_ | refine zI ?_ | refine zJ ?_ | refine zK ?_ | refine zL ?_ | refine zM ?_ | refine zN ?_ | refine zO ?_ | refine yG (by decide) ?_ | refine AW.condT rfl ?_ | refine AW.condF rfl ?_)
    simp (maxSteps := 1000000) (disch := refine hold_ ?_; first | (simp [h1, h2, h3, -List.getD_eq_getElem?_getD]; done) | omega) [h1, h2, h3, -List.getD_eq_getElem?_getD]
theorem rblank_ct (c : Int) : Fn Tryd.prog 36 [.int .u8 c] [.p (.bool (blankB c))] := by
  unfold blankB
  refine Fn.of_body Tryd.func36 rfl ?_
  cases h1 : c == 32 <;> cases h2 : c == 9 <;> cases h3 : c == 10
  all_goals
    repeat (first | ((first | refine zP fun K_ hK_ => ?_ | refine zQ fun K_ hK_ => ?_ | refine zR (by kernel_rfl) (by kernel_rfl) fun K_ hK_ => ?_ | refine zS (by kernel_rfl) (by kernel_rfl) fun K_ hK_ => ?_ | refine zT ?_); first | (simp (maxSteps := 1000000) (disch := refine hold_ ?_; first | (simp [h1, h2, h3, -List.getD_eq_getElem?_getD]; done) | omega) [h1, h2, h3, -List.getD_eq_getElem?_getD]; try first | refine zZ ?_ | subst hK_) | subst hK_) | refine zA ?_ | refine zB ?_ | refine zC ?_ | refine zD ?_ | refine zE ?_ | refine zF ?_ | refine zG ?_ | refine zH ?_ | refine zI ?_ | refine zJ ?_ | refine zK ?_ | refine zL ?_ | refine zM ?_ | refine zN ?_ | refine zO ?_ | refine yG (by decide) ?_ | refine AW.condT rfl ?_ | refine AW.condF rfl ?_)
    simp (maxSteps := 1000000) (disch := refine hold_ ?_; first | (simp [h1, h2, h3, -List.getD_eq_getElem?_getD]; done) | omega) [h1, h2, h3, -List.getD_eq_getElem?_getD]
end Go.Av.Lex
end
section
set_option linter.unusedSimpArgs false
set_option linter.unusedVariables false
open Go Go.Av Go.Proofs
namespace Go.Av.Lex
def longF (f : Bool) (l : List (BitVec 8)) : Nat :=
  if h : l.length = 0 then 0
  else if h2 : okS l = 0 then 0
  else if (f && !begB (runeN l)) || !staB (runeN l) then 0
  else okS l + longF false (l.drop (okS l))
termination_by l.length
decreasing_by simp; omega
theorem longF_nil (f : Bool) : longF f [] = 0 := by rw [longF]; simp
theorem longF_bad (f : Bool) (l : List (BitVec 8)) (h : l.length ≠ 0) (h2 : okS l = 0) : longF f l = 0 := by rw [longF]; simp [h, h2]
theorem longF_stop (f : Bool) (l : List (BitVec 8)) (h : l.length ≠ 0) (h2 : okS l ≠ 0) (h3 : ((f && !begB (runeN l)) || !staB (runeN l)) = true) : longF f l = 0 := by
  rw [longF, dif_neg h, dif_neg h2, if_pos h3]
theorem longF_step (f : Bool) (l : List (BitVec 8)) (h : l.length ≠ 0) (h2 : okS l ≠ 0) (h3 : ((f && !begB (runeN l)) || !staB (runeN l)) = false) : longF f l = okS l + longF false (l.drop (okS l)) := by
  rw [longF, dif_neg h, dif_neg h2, if_neg (by rw [h3]; simp)]
theorem longF_le : ∀ (n : Nat) (f : Bool) (l : List (BitVec 8)), l.length ≤ n → longF f l ≤ l.length
  | n, f, l, hn => by
    by_cases h : l.length = 0
    · obtain rfl := List.eq_nil_of_length_eq_zero h; rw [longF_nil]; simp
    by_cases h2 : okS l = 0
    · rw [longF_bad f l h h2]; omega
    cases h3 : ((f && !begB (runeN l)) || !staB (runeN l)) with
    | true => rw [longF_stop f l h h2 h3]; omega
    | false =>
      rw [longF_step f l h h2 h3]
      have hle := okS_len l
      match n, hn with
      | 0, hn => omega
      | n + 1, hn =>
        have := longF_le n false (l.drop (okS l)) (by rw [List.length_drop]; omega)
        rw [List.length_drop] at this; omega
def goodB (f : Bool) : List Int → Bool
  | [] => true
  | r :: t => !((f && !begB r) || !staB r) && goodB false t
theorem goodB_all (t : List Int) : goodB false t = t.all staB := by
  induction t with
  | nil => rfl
  | cons r t ih => rw [goodB, ih]; simp
theorem longF_all : ∀ (n : Nat) (f : Bool) (l : List (BitVec 8)), l.length ≤ n → ((longF f l == l.length) = match charsL l with | some c => goodB f c | none => false)
  | n, f, l, hn => by
    by_cases h : l.length = 0
    · obtain rfl := List.eq_nil_of_length_eq_zero h; rw [longF_nil, charsL_nil]; rfl
    by_cases h2 : okS l = 0
    · rw [longF_bad f l h h2, charsL_bad l h h2]
      exact beq_eq_false_iff_ne.2 (by omega)
    have hle := okS_len l
    rw [charsL_step l h h2]
    cases h3 : ((f && !begB (runeN l)) || !staB (runeN l)) with
    | true =>
      rw [longF_stop f l h h2 h3]
      have : (0 == l.length) = false := beq_eq_false_iff_ne.2 (by omega)
      rw [this]
      cases charsL (l.drop (okS l)) with
      | none => rfl
      | some c => show false = goodB f (runeN l :: c); rw [goodB, h3]; rfl
    | false =>
      rw [longF_step f l h h2 h3]
      match n, hn with
      | 0, hn => omega
      | n + 1, hn =>
        have ih := longF_all n false (l.drop (okS l)) (by rw [List.length_drop]; omega)
        have e : (okS l + longF false (l.drop (okS l)) == l.length) = (longF false (l.drop (okS l)) == (l.drop (okS l)).length) := by
          rw [List.length_drop]
          by_cases hx : longF false (l.drop (okS l)) = l.length - okS l
          · rw [beq_iff_eq.2 hx]; exact beq_iff_eq.2 (by omega)
          · rw [beq_eq_false_iff_ne.2 hx]; exact beq_eq_false_iff_ne.2 (by omega)
        rw [e, ih]
        cases charsL (l.drop (okS l)) with
        | none => rfl
        | some c => show goodB false c = goodB f (runeN l :: c); rw [goodB, h3]; simp
theorem nameB_long (l : List (BitVec 8)) : nameB l = (!(l == []) && (longF true l == l.length)) := by
  rw [longF_all _ true l (Nat.le_refl _)]
  unfold nameB
  by_cases h : l = []
  · subst h; rw [charsL_nil]; rfl
  · have h1 : (l == []) = false := beq_eq_false_iff_ne.2 h
    rw [h1]
    cases hc : charsL l with
    | none => rfl
    | some c =>
      cases c with
      | nil =>
        exfalso
        have h0 : l.length ≠ 0 := fun e => h (List.eq_nil_of_length_eq_zero e)
        by_cases h2 : okS l = 0
        · rw [charsL_bad l h0 h2] at hc; simp at hc
        · rw [charsL_step l h0 h2] at hc; cases hx : charsL (l.drop (okS l)) <;> rw [hx] at hc <;> simp at hc
      | cons r t =>
        show nameC (r :: t) = (!false && goodB true (r :: t))
        show (begB r && (r :: t).all staB) = _
        rw [goodB, goodB_all]
        simp
        cases begB r <;> cases staB r <;> simp
end Go.Av.Lex
end
section
set_option linter.unusedSimpArgs false
set_option linter.unusedVariables false
open Go Go.Av Go.Proofs
namespace Go.Av.Lex
set_option maxHeartbeats 8000000 in
theorem rlong_ct (l : List (BitVec 8)) (hl : l.length ≤ 4000000) : Fn Tryd.prog 19 [.str (txt l)] [.p (.int .i64 (longF true l : Nat))] := by
  have hsz := txt_size l
  generalize hA : longF true l = A
  refine Fn.of_body Tryd.func19 rfl ?_
  repeat (first | ((first | refine zP fun K_ hK_ => ?_ | refine zQ fun K_ hK_ => ?_ | refine zR (by kernel_rfl) (by kernel_rfl) fun K_ hK_ => ?_ | refine zS (by kernel_rfl) (by kernel_rfl) fun K_ hK_ => ?_ | refine zT ?_); first | (simp (maxSteps := 1000000) (disch := refine hold_ ?_; first | (simp [-List.getD_eq_getElem?_getD]; done) | omega) [-List.getD_eq_getElem?_getD]; try first | refine zZ ?_ | subst hK_) | subst hK_) | refine zA ?_ | refine zB ?_ | refine zC ?_ | refine zD ?_ | refine zE ?_ | refine zF ?_ | refine zG ?_ | refine zH ?_ | refine zI ?_ | refine zJ ?_ | refine zK ?_ | refine zL ?_ | refine zM ?_ | refine zN ?_ | refine zO ?_ | refine yG (by decide) ?_ | refine AW.condT rfl ?_ | refine AW.condF rfl ?_)
  refine AW.iterI (true :: false :: false :: true :: false :: false :: false :: false :: false :: false :: false :: false :: false :: false :: false :: false :: false :: false :: false :: false :: false :: false :: false :: false :: false :: false :: false :: false :: false :: false :: false :: false :: false :: false :: false :: false :: false :: false :: []) l.length (fun m σ => ∃ p, σ = (⟨(.p (.str (txt l)) :: V.junk :: V.junk :: .p (.int .i64 (p : Nat)) :: V.junk :: V.junk :: V.junk :: V.junk :: V.junk :: V.junk :: V.junk :: V.junk :: V.junk :: V.junk :: V.junk :: V.junk :: V.junk :: V.junk :: V.junk :: V.junk :: V.junk :: V.junk :: V.junk :: V.junk :: V.junk :: V.junk :: V.junk :: V.junk :: V.junk :: V.junk :: V.junk :: V.junk :: V.junk :: V.junk :: V.junk :: V.junk :: V.junk :: V.junk :: []), ⟨[], []⟩⟩ : St) ∧ m + p = l.length ∧ A = p + longF (p == 0) (l.drop p)) (τ := ⟨(.p (.str (txt l)) :: V.junk :: V.junk :: .p (.int .i64 0) :: V.junk :: V.junk :: V.junk :: V.junk :: V.junk :: V.junk :: V.junk :: V.junk :: V.junk :: V.junk :: V.junk :: V.junk :: V.junk :: V.junk :: V.junk :: V.junk :: V.junk :: V.junk :: V.junk :: V.junk :: V.junk :: V.junk :: V.junk :: V.junk :: V.junk :: V.junk :: V.junk :: V.junk :: V.junk :: V.junk :: V.junk :: V.junk :: V.junk :: V.junk :: []), ⟨[], []⟩⟩) ?_ ⟨0, rfl, by omega, by rw [← hA]; simp⟩ ?_
  · simp (maxSteps := 1000000) (disch := refine hold_ ?_; first | (simp [-List.getD_eq_getElem?_getD]; done) | omega) [-List.getD_eq_getElem?_getD]
  rintro m σ ⟨p, rfl, hm, hp⟩
  clear hA
  by_cases hpl : p < l.length
  · have hplz : (p : Int) < l.length := by omega
    have hp2 : p ≤ l.length := by omega
    have hne : (l.drop p).length ≠ 0 := by rw [List.length_drop]; omega
    have x1 : (txt l).extract p l.length = txt (l.drop p) := by rw [txt_extract, List.take_length]
    have k42 := first_ct false (l.drop p) (by rw [List.length_drop]; omega)
    have hle := okS_len (l.drop p)
    rw [List.length_drop] at hle
    have hds : (l.drop p).length = l.length - p := List.length_drop
    by_cases h2 : okS (l.drop p) = 0
    · rw [longF_bad _ _ hne h2] at hp
      rw [h2] at k42
      obtain rfl : A = p := by omega
      generalize l.drop A = D at *
      repeat (first | ((first | refine zP fun K_ hK_ => ?_ | refine zQ fun K_ hK_ => ?_ | refine zR (by kernel_rfl) (by kernel_rfl) fun K_ hK_ => ?_ | refine zS (by kernel_rfl) (by kernel_rfl) fun K_ hK_ => ?_ | refine zT ?_); first | (simp (maxSteps := 1000000) (disch := refine hold_ ?_; first | (simp [hplz, hp2, hsz, x1, txt_bytes, -List.getD_eq_getElem?_getD]; done) | omega) [hplz, hp2, hsz, x1, txt_bytes, -List.getD_eq_getElem?_getD]; try first | refine zZ ?_ | subst hK_) | subst hK_) | refine zA ?_ | refine zB ?_ | refine zC ?_ | refine zD ?_ | refine zE ?_ | refine zF ?_ | refine zG ?_ | refine zH ?_ | refine zI ?_ | refine zJ ?_ | refine zK ?_ | refine zL ?_ | refine zM ?_ | refine zN ?_ | refine zO ?_ | refine yG (by decide) ?_ | refine AW.condT rfl ?_ | refine AW.condF rfl ?_)
      (refine callK_p ?_; simp (maxSteps := 1000000) (disch := refine hold_ ?_; first | (simp [txt_bytes, x1, -List.getD_eq_getElem?_getD]; done) | omega) [txt_bytes, x1, -List.getD_eq_getElem?_getD]; refine callK1_of (Fn.ct k42 Tryd.call37) ?_; (try simp (maxSteps := 1000000) (disch := refine hold_ ?_; first | (simp [txt_bytes, x1, -List.getD_eq_getElem?_getD]; done) | omega) [txt_bytes, x1, -List.getD_eq_getElem?_getD]); first | refine zZ ?_ | subst hK_)
      repeat (first | ((first | refine zP fun K_ hK_ => ?_ | refine zQ fun K_ hK_ => ?_ | refine zR (by kernel_rfl) (by kernel_rfl) fun K_ hK_ => ?_ | refine zS (by kernel_rfl) (by kernel_rfl) fun K_ hK_ => ?_ | refine zT ?_); first | (simp (maxSteps := 1000000) (disch := refine hold_ ?_; first | (simp [-List.getD_eq_getElem?_getD]; done) | omega) [-List.getD_eq_getElem?_getD]; try first | refine zZ ?_ | subst hK_) | subst hK_) | refine zA ?_ | refine zB ?_ | refine zC ?_ | refine zD ?_ | refine zE ?_ | refine zF ?_ | refine zG ?_ | refine zH ?_ | refine zI ?_ | refine zJ ?_ | refine zK ?_ | refine zL ?_ | refine zM ?_ | refine zN ?_ | refine zO ?_ | refine yG (by decide) ?_ | refine AW.condT rfl ?_ | refine AW.condF rfl ?_)
      simp (maxSteps := 1000000) (disch := refine hold_ ?_; first | (simp [-List.getD_eq_getElem?_getD]; done) | omega) [-List.getD_eq_getElem?_getD]
    · rw [if_neg h2] at k42
      have hz : ((okS (l.drop p) : Int) == 0) = false := beq_eq_false_iff_ne.2 (by omega)
      have kb := rbegins_ct (runeN (l.drop p))
      have ks := rstands_ct (runeN (l.drop p))
      have hpz : ((p : Int) == 0) = (p == 0) := by cases p <;> rfl
      cases h3 : (((p == 0) && !begB (runeN (l.drop p))) || !staB (runeN (l.drop p))) with
      | true =>
        rw [longF_stop _ _ hne h2 h3] at hp
        obtain rfl : A = p := by omega
        generalize runeN (l.drop A) = R at *
        generalize okS (l.drop A) = n at *
        generalize l.drop A = D at *
        generalize hP : (A == 0) = P at *
        generalize begB R = X at *
        generalize staB R = Y at *
        cases P <;> cases X <;> cases Y <;> simp only [Bool.true_and, Bool.false_and, Bool.not_true, Bool.not_false, Bool.or_false, Bool.or_true, Bool.false_eq_true, reduceCtorEq] at h3
        all_goals
          repeat (first | ((first | refine zP fun K_ hK_ => ?_ | refine zQ fun K_ hK_ => ?_ | refine zR (by kernel_rfl) (by kernel_rfl) fun K_ hK_ => ?_ | refine zS (by kernel_rfl) (by kernel_rfl) fun K_ hK_ => ?_ | refine zT ?_); first | (simp (maxSteps := 1000000) (disch := refine hold_ ?_; first | (simp [hplz, hp2, hsz, x1, txt_bytes, -List.getD_eq_getElem?_getD]; done) | omega) [hplz, hp2, hsz, x1, txt_bytes, -List.getD_eq_getElem?_getD]; try first | refine zZ ?_ | subst hK_) | subst hK_) | refine zA ?_ | refine zB ?_ | refine zC ?_ | refine zD ?_ | refine zE ?_ | refine zF ?_ | refine zG ?_ | refine zH ?_ | refine zI ?_ | refine zJ ?_ | refine zK ?_ | refine zL ?_ | refine zM ?_ | refine zN ?_ | refine zO ?_ | refine yG (by decide) ?_ | refine AW.condT rfl ?_ | refine AW.condF rfl ?_)
          (refine callK_p ?_; simp (maxSteps := 1000000) (disch := refine hold_ ?_; first | (simp [txt_bytes, x1, hz, hpz, -List.getD_eq_getElem?_getD]; done) | omega) [txt_bytes, x1, hz, hpz, -List.getD_eq_getElem?_getD]; refine callK1_of (Fn.ct k42 Tryd.call37) ?_; (try simp (maxSteps := 1000000) (disch := refine hold_ ?_; first | (simp [txt_bytes, x1, hz, hpz, -List.getD_eq_getElem?_getD]; done) | omega) [txt_bytes, x1, hz, hpz, -List.getD_eq_getElem?_getD]); first | refine zZ ?_ | subst hK_)
          repeat (first | ((first | refine callK_at 38 ?_ | refine callK_at 39 ?_); refine callK_p ?_; simp (maxSteps := 1000000) (disch := refine hold_ ?_; first | (simp [hz, hpz, -List.getD_eq_getElem?_getD]; done) | omega) [hz, hpz, -List.getD_eq_getElem?_getD]; (first | refine callK1_of (Fn.ct kb Tryd.call38) ?_ | refine callK1_of (Fn.ct ks Tryd.call39) ?_); (try simp (maxSteps := 1000000) (disch := refine hold_ ?_; first | (simp [hz, hpz, -List.getD_eq_getElem?_getD]; done) | omega) [hz, hpz, -List.getD_eq_getElem?_getD]); first | refine zZ ?_ | subst hK_) | ((first | refine zP fun K_ hK_ => ?_ | refine zQ fun K_ hK_ => ?_ | refine zR (by kernel_rfl) (by kernel_rfl) fun K_ hK_ => ?_ | refine zS (by kernel_rfl) (by kernel_rfl) fun K_ hK_ => ?_ | refine zT ?_); first | (simp (maxSteps := 1000000) (disch := refine hold_ ?_; first | (simp [hz, hpz, -List.getD_eq_getElem?_getD]; done) | omega) [hz, hpz, -List.getD_eq_getElem?_getD]; try first | refine zZ ?_ | subst hK_) | subst hK_) | refine zA ?_ | refine zB ?_ | refine zC ?_ | refine zD ?_ | refine zE ?_ | refine zF ?_ | refine zG ?_ | refine zH ?_ | refine zI ?_ | refine zJ ?_ | refine zK ?_ | refine zL ?_ | refine zM ?_ | refine zN ?_ | refine zO ?_ | refine yG (by decide) ?_ | refine AW.condT rfl ?_ | refine AW.condF rfl ?_)
          simp (maxSteps := 1000000) (disch := refine hold_ ?_; first | (simp [-List.getD_eq_getElem?_getD]; done) | omega) [-List.getD_eq_getElem?_getD]
      | false =>
        rw [longF_step _ _ hne h2 h3, List.drop_drop] at hp
        have hpn : p + okS (l.drop p) ≤ l.length := by omega
        have hnext : ((p + okS (l.drop p) == 0)) = false := beq_eq_false_iff_ne.2 (by omega)
        have hp4 : A = (p + okS (l.drop p)) + longF (p + okS (l.drop p) == 0) (l.drop (p + okS (l.drop p))) := by rw [hnext]; omega
        have e1 : IntKind.i64.wrap ((p : Int) + (okS (l.drop p) : Nat)) = (p : Int) + (okS (l.drop p) : Nat) := wrap_i64 _ (by omega) (by omega)
        have hn0 : okS (l.drop p) ≠ 0 := h2
        clear hp hne
        generalize runeN (l.drop p) = R at *
        generalize okS (l.drop p) = n at *
        generalize hD : l.drop p = D at *
        generalize hP : (p == 0) = P at *
        generalize begB R = X at *
        generalize staB R = Y at *
        cases P <;> cases X <;> cases Y <;> simp only [Bool.true_and, Bool.false_and, Bool.not_true, Bool.not_false, Bool.or_false, Bool.or_true, Bool.false_eq_true, reduceCtorEq] at h3
        all_goals
          repeat (first | ((first | refine zP fun K_ hK_ => ?_ | refine zQ fun K_ hK_ => ?_ | refine zR (by kernel_rfl) (by kernel_rfl) fun K_ hK_ => ?_ | refine zS (by kernel_rfl) (by kernel_rfl) fun K_ hK_ => ?_ | refine zT ?_); first | (simp (maxSteps := 1000000) (disch := refine hold_ ?_; first | (simp [hplz, hp2, hsz, x1, txt_bytes, -List.getD_eq_getElem?_getD]; done) | omega) [hplz, hp2, hsz, x1, txt_bytes, -List.getD_eq_getElem?_getD]; try first | refine zZ ?_ | subst hK_) | subst hK_) | refine zA ?_ | refine zB ?_ | refine zC ?_ | refine zD ?_ | refine zE ?_ | refine zF ?_ | refine zG ?_ | refine zH ?_ | refine zI ?_ | refine zJ ?_ | refine zK ?_ | refine zL ?_ | refine zM ?_ | refine zN ?_ | refine zO ?_ | refine yG (by decide) ?_ | refine AW.condT rfl ?_ | refine AW.condF rfl ?_)
          (refine callK_p ?_; simp (maxSteps := 1000000) (disch := refine hold_ ?_; first | (simp [txt_bytes, x1, hz, hpz, -List.getD_eq_getElem?_getD]; done) | omega) [txt_bytes, x1, hz, hpz, -List.getD_eq_getElem?_getD]; refine callK1_of (Fn.ct k42 Tryd.call37) ?_; (try simp (maxSteps := 1000000) (disch := refine hold_ ?_; first | (simp [txt_bytes, x1, hz, hpz, -List.getD_eq_getElem?_getD]; done) | omega) [txt_bytes, x1, hz, hpz, -List.getD_eq_getElem?_getD]); first | refine zZ ?_ | subst hK_)
          repeat (first | ((first | refine callK_at 38 ?_ | refine callK_at 39 ?_); refine callK_p ?_; simp (maxSteps := 1000000) (disch := refine hold_ ?_; first | (simp [hz, hpz, e1, -List.getD_eq_getElem?_getD]; done) | omega) [hz, hpz, e1, -List.getD_eq_getElem?_getD]; (first | refine callK1_of (Fn.ct kb Tryd.call38) ?_ | refine callK1_of (Fn.ct ks Tryd.call39) ?_); (try simp (maxSteps := 1000000) (disch := refine hold_ ?_; first | (simp [hz, hpz, e1, -List.getD_eq_getElem?_getD]; done) | omega) [hz, hpz, e1, -List.getD_eq_getElem?_getD]); first | refine zZ ?_ | subst hK_) | ((first | refine zP fun K_ hK_ => ?_ | refine zQ fun K_ hK_ => ?_ | refine zR (by kernel_rfl) (by kernel_rfl) fun K_ hK_ => ?_ | refine zS (by kernel_rfl) (by kernel_rfl) fun K_ hK_ => ?_ | refine zT ?_); first | (simp (maxSteps := 1000000) (disch := refine hold_ ?_; first | (simp [hz, hpz, e1, -List.getD_eq_getElem?_getD]; done) | omega) [hz, hpz, e1, -List.getD_eq_getElem?_getD]; try first | refine zZ ?_ | subst hK_) | subst hK_) | refine zA ?_ | refine zB ?_ | refine zC ?_ | refine zD ?_ | refine zE ?_ | refine zF ?_ | refine zG ?_ | refine zH ?_ | refine zI ?_ | refine zJ ?_ | refine zK ?_ | refine zL ?_ | refine zM ?_ | refine zN ?_ | refine zO ?_ | refine yG (by decide) ?_ | refine AW.condT rfl ?_ | refine AW.condF rfl ?_)
          refine ⟨m - n, ⟨(.p (.str (txt l)) :: V.junk :: V.junk :: .p (.int .i64 (p + n : Nat)) :: V.junk :: V.junk :: V.junk :: V.junk :: V.junk :: V.junk :: V.junk :: V.junk :: V.junk :: V.junk :: V.junk :: V.junk :: V.junk :: V.junk :: V.junk :: V.junk :: V.junk :: V.junk :: V.junk :: V.junk :: V.junk :: V.junk :: V.junk :: V.junk :: V.junk :: V.junk :: V.junk :: V.junk :: V.junk :: V.junk :: V.junk :: V.junk :: V.junk :: V.junk :: []), ⟨[], []⟩⟩, by omega, ?_, p + n, rfl, by omega, hp4⟩
          simp (maxSteps := 1000000) (disch := refine hold_ ?_; first | (simp [-List.getD_eq_getElem?_getD]; done) | omega) [-List.getD_eq_getElem?_getD]
  · have hplz : ¬ (p : Int) < l.length := by omega
    have hd : l.drop p = [] := List.drop_eq_nil_of_le (by omega)
    rw [hd, longF_nil] at hp
    obtain rfl : A = p := by omega
    repeat (first | ((first | refine zP fun K_ hK_ => ?_ | refine zQ fun K_ hK_ => ?_ | refine zR (by kernel_rfl) (by kernel_rfl) fun K_ hK_ => ?_ | refine zS (by kernel_rfl) (by kernel_rfl) fun K_ hK_ => ?_ | refine zT ?_); first | (simp (maxSteps := 1000000) (disch := refine hold_ ?_; first | (simp [hplz, hsz, -List.getD_eq_getElem?_getD]; done) | omega) [hplz, hsz, -List.getD_eq_getElem?_getD]; try first | refine zZ ?_ | subst hK_) | subst hK_) | refine zA ?_ | refine zB ?_ | refine zC ?_ | refine zD ?_ | refine zE ?_ | refine zF ?_ | refine zG ?_ | refine zH ?_ | refine zI ?_ | refine zJ ?_ | refine zK ?_ | refine zL ?_ | refine zM ?_ | refine zN ?_ | refine zO ?_ | refine yG (by decide) ?_ | refine AW.condT rfl ?_ | refine AW.condF rfl ?_)
    simp (maxSteps := 1000000) (disch := refine hold_ ?_; first | (simp [-List.getD_eq_getElem?_getD]; done) | omega) [-List.getD_eq_getElem?_getD]
theorem ris_ct (l : List (BitVec 8)) (hl : l.length ≤ 4000000) : Fn Tryd.prog 10 [.str (txt l)] [.p (.bool (nameB l))] := by
  have k46 := rlong_ct l hl
  have hsz := txt_size l
  rw [nameB_long]
  have hq : strBin .neq (txt l) (ByteArray.mk #[]) = some (.bool (!(l == []))) := by rw [txt_nil, str_neq_txt]
  have hi : (((longF true l : Nat) : Int) == (l.length : Int)) = (longF true l == l.length) := by
    by_cases h : longF true l = l.length
    · rw [h]; simp
    · rw [beq_eq_false_iff_ne.2 h]; exact beq_eq_false_iff_ne.2 (by omega)
  generalize longF true l = n at *
  cases hl0 : l == []
  · rw [hl0] at hq
    refine Fn.of_body Tryd.func10 rfl ?_
    repeat (first | ((first | refine zP fun K_ hK_ => ?_ | refine zQ fun K_ hK_ => ?_ | refine zR (by kernel_rfl) (by kernel_rfl) fun K_ hK_ => ?_ | refine zS (by kernel_rfl) (by kernel_rfl) fun K_ hK_ => ?_ | refine zT ?_); first | (simp (maxSteps := 1000000) (disch := refine hold_ ?_; first | (simp [hq, -List.getD_eq_getElem?_getD]; done) | omega) [hq, -List.getD_eq_getElem?_getD]; try first | refine zZ ?_ | subst hK_) | subst hK_) | refine zA ?_ | refine zB ?_ | refine zC ?_ | refine zD ?_ | refine zE ?_ | refine zF ?_ | refine zG ?_ | refine zH ?_ | refine zI ?_ | refine zJ ?_ | refine zK ?_ | refine zL ?_ | refine zM ?_ | refine zN ?_ | refine zO ?_ | refine yG (by decide) ?_ | refine AW.condT rfl ?_ | refine AW.condF rfl ?_)
    (refine callK_p ?_; simp (maxSteps := 1000000) (disch := refine hold_ ?_; first | (simp [hsz, hi, -List.getD_eq_getElem?_getD]; done) | omega) [hsz, hi, -List.getD_eq_getElem?_getD]; refine callK1_of (Fn.ct k46 Tryd.call19) ?_; (try simp (maxSteps := 1000000) (disch := refine hold_ ?_; first | (simp [hsz, hi, -List.getD_eq_getElem?_getD]; done) | omega) [hsz, hi, -List.getD_eq_getElem?_getD]); first | refine zZ ?_ | subst hK_)
    repeat (first | ((first | refine zP fun K_ hK_ => ?_ | refine zQ fun K_ hK_ => ?_ | refine zR (by kernel_rfl) (by kernel_rfl) fun K_ hK_ => ?_ | refine zS (by kernel_rfl) (by kernel_rfl) fun K_ hK_ => ?_ | refine zT ?_); first | (simp (maxSteps := 1000000) (disch := refine hold_ ?_; first | (simp [hsz, hi, -List.getD_eq_getElem?_getD]; done) | omega) [hsz, hi, -List.getD_eq_getElem?_getD]; try first | refine zZ ?_ | subst hK_) | subst hK_) | refine zA ?_ | refine zB ?_ | refine zC ?_ | refine zD ?_ | refine zE ?_ | refine zF ?_ | refine zG ?_ | refine zH ?_ | refine zI ?_ | refine zJ ?_ | refine zK ?_ | refine zL ?_ | refine zM ?_ | refine zN ?_ | refine zO ?_ | refine yG (by decide) ?_ | refine AW.condT rfl ?_ | refine AW.condF rfl ?_)
    simp (maxSteps := 1000000) (disch := refine hold_ ?_; first | (simp [-List.getD_eq_getElem?_getD]; done) | omega) [-List.getD_eq_getElem?_getD]
  · rw [hl0] at hq
    refine Fn.of_body Tryd.func10 rfl ?_
    repeat (first | ((first | refine zP fun K_ hK_ => ?_ | refine zQ fun K_ hK_ => ?_ | refine zR (by kernel_rfl) (by kernel_rfl) fun K_ hK_ => ?_ | refine zS (by kernel_rfl) (by kernel_rfl) fun K_ hK_ => ?_ | refine zT ?_); first | (simp (maxSteps := 1000000) (disch := refine hold_ ?_; first | (simp [hq, -List.getD_eq_getElem?_getD]; done) | omega) [hq, -List.getD_eq_getElem?_getD]; try first | refine zZ ?_ | subst hK_) | subst hK_) | refine zA ?_ | refine zB ?_ | refine zC ?_ | refine zD ?_ | refine zE ?_ | refine zF ?_ | refine zG ?_ | refine zH ?_ | refine zI ?_ | refine zJ ?_ | refine zK ?_ | refine zL ?_ | refine zM ?_ | refine zN ?_ | refine zO ?_ | refine yG (by decide) ?_ | refine AW.condT rfl ?_ | refine AW.condF rfl ?_)
    simp (maxSteps := 1000000) (disch := refine hold_ ?_; first | (simp [-List.getD_eq_getElem?_getD]; done) | omega) [-List.getD_eq_getElem?_getD]
end Go.Av.Lex
end
section
set_option linter.unusedSimpArgs false
set_option linter.unusedVariables false
open Go Go.Av Go.Proofs
namespace Go.Av.Lex
def preB (l p : List (BitVec 8)) : Bool := decide (p.length ≤ l.length) && (l.take p.length == p)
theorem hp1_ct (l p : List (BitVec 8)) : Fn Tryd.prog 54 [.str (txt l), .str (txt p)] [.p (.bool (preB l p))] := by
  have sl := txt_size l
  have sp := txt_size p
  have hq := str_eq_txt (l.take p.length) p
  have hx : (txt l).extract 0 p.length = txt (l.take p.length) := by rw [txt_extract]; simp
  by_cases h : p.length ≤ l.length
  · have hz : (p.length : Int) ≤ l.length := by omega
    have e : preB l p = (l.take p.length == p) := by unfold preB; simp [h]
    rw [e]
    generalize l.take p.length = q at *
    refine Fn.of_body Tryd.func54 rfl ?_
    repeat (first | ((first | (with_reducible first | refine zP fun K_ hK_ => ?_ | refine zQ fun K_ hK_ => ?_ | refine zT ?_ | refine zU ?_ | refine zV ?_ | refine zW ?_ | refine zX ?_ | refine zY ?_) | ((with_reducible first | refine zR ?_ ?_ fun K_ hK_ => ?_ | refine zS ?_ ?_ fun K_ hK_ => ?_); (focus kernel_rfl); (focus kernel_rfl))); first | (simp (maxSteps := 1000000) (disch := refine hold_ ?_; first | (simp [sl, sp, h, hz, hx, hq, -List.getD_eq_getElem?_getD]; done) | omega) [sl, sp, h, hz, hx, hq, -List.getD_eq_getElem?_getD]; try first | (with_reducible refine zZ ?_) | subst hK_) | subst hK_) | (with_reducible first | refine zA ?_ | refine zB ?_ | refine zC ?_ | refine zD ?_ | refine zE ?_ | refine zF ?_ | refine zG ?_ | refine zH ?_ | refine zI ?_ | refine zJ ?_ | refine zK ?_ | refine zL ?_ | refine zM ?_ | refine zN ?_ | refine zO ?_) | ((with_reducible refine yG ?_ ?_); (focus decide)) | ((with_reducible refine yA ?_); refine yB rfl ?_; (with_reducible first | refine yC ?_ | refine yD ?_)))
    all_goals simp (maxSteps := 1000000) (disch := refine hold_ ?_; first | (simp [-List.getD_eq_getElem?_getD]; done) | omega) [-List.getD_eq_getElem?_getD]
  · have hz : ¬ (p.length : Int) ≤ l.length := by omega
    have e : preB l p = false := by unfold preB; simp [h]
    rw [e]
    refine Fn.of_body Tryd.func54 rfl ?_
    repeat (first | ((first | (with_reducible first | refine zP fun K_ hK_ => ?_ | refine zQ fun K_ hK_ => ?_ | refine zT ?_ | refine zU ?_ | refine zV ?_ | refine zW ?_ | refine zX ?_ | refine zY ?_) | ((with_reducible first | refine zR ?_ ?_ fun K_ hK_ => ?_ | refine zS ?_ ?_ fun K_ hK_ => ?_); (focus kernel_rfl); (focus kernel_rfl))); first | (simp (maxSteps := 1000000) (disch := refine hold_ ?_; first | (simp [sl, sp, h, hz, -List.getD_eq_getElem?_getD]; done) | omega) [sl, sp, h, hz, -List.getD_eq_getElem?_getD]; try first | (with_reducible refine zZ ?_) | subst hK_) | subst hK_) | (with_reducible first | refine zA ?_ | refine zB ?_ | refine zC ?_ | refine zD ?_ | refine zE ?_ | refine zF ?_ | refine zG ?_ | refine zH ?_ | refine zI ?_ | refine zJ ?_ | refine zK ?_ | refine zL ?_ | refine zM ?_ | refine zN ?_ | refine zO ?_) | ((with_reducible refine yG ?_ ?_); (focus decide)) | ((with_reducible refine yA ?_); refine yB rfl ?_; (with_reducible first | refine yC ?_ | refine yD ?_)))
    all_goals simp (maxSteps := 1000000) (disch := refine hold_ ?_; first | (simp [-List.getD_eq_getElem?_getD]; done) | omega) [-List.getD_eq_getElem?_getD]
theorem hp_ct (l p : List (BitVec 8)) : Fn Tryd.prog 42 [.str (txt l), .str (txt p)] [.p (.bool (preB l p))] := by
  refine Fn.of_body Tryd.func42 rfl ?_
  repeat (first | ((with_reducible first | refine callK_at 54 ?_); refine callK_p ?_; simp (maxSteps := 1000000) (disch := refine hold_ ?_; first | (simp [-List.getD_eq_getElem?_getD]; done) | omega) [-List.getD_eq_getElem?_getD]; (first | refine callK1_of (Fn.ct (hp1_ct l p) Tryd.call54) ?_); (try simp (maxSteps := 1000000) (disch := refine hold_ ?_; first | (simp [-List.getD_eq_getElem?_getD]; done) | omega) [-List.getD_eq_getElem?_getD]); first | (with_reducible refine zZ ?_) | subst hK_) | ((first | (with_reducible first | refine zP fun K_ hK_ => ?_ | refine zQ fun K_ hK_ => ?_ | refine zT ?_ | refine zU ?_ | refine zV ?_ | refine zW ?_ | refine zX ?_ | refine zY ?_) | ((with_reducible first | refine zR ?_ ?_ fun K_ hK_ => ?_ | refine zS ?_ ?_ fun K_ hK_ => ?_); (focus kernel_rfl); (focus kernel_rfl))); first | (simp (maxSteps := 1000000) (disch := refine hold_ ?_; first | (simp [-List.getD_eq_getElem?_getD]; done) | omega) [-List.getD_eq_getElem?_getD]; try first | (with_reducible refine zZ ?_) | subst hK_) | subst hK_) | (with_reducible first | refine zA ?_ | refine zB ?_ | refine zC ?_ | refine zD ?_ | refine zE ?_ | refine zF ?_ | refine zG ?_ | refine zH ?_ | refine zI ?_ | refine zJ ?_ | refine zK ?_ | refine zL ?_ | refine zM ?_ | refine zN ?_ | refine zO ?_) | ((with_reducible refine yG ?_ ?_); (focus decide)) | ((with_reducible refine yA ?_); refine yB rfl ?_; (with_reducible first | refine yC ?_ | refine yD ?_)))
  all_goals simp (maxSteps := 1000000) (disch := refine hold_ ?_; first | (simp [-List.getD_eq_getElem?_getD]; done) | omega) [-List.getD_eq_getElem?_getD]
theorem cp1_ct (l p : List (BitVec 8)) : Fn Tryd.prog 57 [.str (txt l), .str (txt p)] [.p (.str (txt (if preB l p then l.drop p.length else l))), .p (.bool (preB l p))] := by
  have sl := txt_size l
  have sp := txt_size p
  have k54 := hp1_ct l p
  have hx : (txt l).extract p.length l.length = txt (l.drop p.length) := by rw [txt_extract, List.take_length]
  cases h : preB l p with
  | true =>
    rw [h] at k54
    have hl : p.length ≤ l.length := by
      unfold preB at h
      rw [Bool.and_eq_true, decide_eq_true_eq] at h; exact h.1
    refine Fn.of_body Tryd.func57 rfl ?_
    repeat (first | ((with_reducible first | refine callK_at 54 ?_); refine callK_p ?_; simp (maxSteps := 1000000) (disch := refine hold_ ?_; first | (simp [sl, sp, hl, hx, -List.getD_eq_getElem?_getD]; done) | omega) [sl, sp, hl, hx, -List.getD_eq_getElem?_getD]; (first | refine callK1_of (Fn.ct k54 Tryd.call54) ?_); (try simp (maxSteps := 1000000) (disch := refine hold_ ?_; first | (simp [sl, sp, hl, hx, -List.getD_eq_getElem?_getD]; done) | omega) [sl, sp, hl, hx, -List.getD_eq_getElem?_getD]); first | (with_reducible refine zZ ?_) | subst hK_) | ((first | (with_reducible first | refine zP fun K_ hK_ => ?_ | refine zQ fun K_ hK_ => ?_ | refine zT ?_ | refine zU ?_ | refine zV ?_ | refine zW ?_ | refine zX ?_ | refine zY ?_) | ((with_reducible first | refine zR ?_ ?_ fun K_ hK_ => ?_ | refine zS ?_ ?_ fun K_ hK_ => ?_); (focus kernel_rfl); (focus kernel_rfl))); first | (simp (maxSteps := 1000000) (disch := refine hold_ ?_; first | (simp [sl, sp, hl, hx, -List.getD_eq_getElem?_getD]; done) | omega) [sl, sp, hl, hx, -List.getD_eq_getElem?_getD]; try first | (with_reducible refine zZ ?_) | subst hK_) | subst hK_) | (with_reducible first | refine zA ?_ | refine zB ?_ | refine zC ?_ | refine zD ?_ | refine zE ?_ | refine zF ?_ | refine zG ?_ | refine zH ?_ | refine zI ?_ | refine zJ ?_ | refine zK ?_ | refine zL ?_ | refine zM ?_ | refine zN ?_ | refine zO ?_) | ((with_reducible refine yG ?_ ?_); (focus decide)) | ((with_reducible refine yA ?_); refine yB rfl ?_; (with_reducible first | refine yC ?_ | refine yD ?_)))
    all_goals simp (maxSteps := 1000000) (disch := refine hold_ ?_; first | (simp [-List.getD_eq_getElem?_getD]; done) | omega) [-List.getD_eq_getElem?_getD]
  | false =>
    rw [h] at k54
    refine Fn.of_body Tryd.func57 rfl ?_
    repeat (first | ((with_reducible first | refine callK_at 54 ?_); refine callK_p ?_; simp (maxSteps := 1000000) (disch := refine hold_ ?_; first | (simp [sl, sp, -List.getD_eq_getElem?_getD]; done) | omega) [sl, sp, -List.getD_eq_getElem?_getD]; (first | refine callK1_of (Fn.ct k54 Tryd.call54) ?_); (try simp (maxSteps := 1000000) (disch := refine hold_ ?_; first | (simp [sl, sp, -List.getD_eq_getElem?_getD]; done) | omega) [sl, sp, -List.getD_eq_getElem?_getD]); first | (with_reducible refine zZ ?_) | subst hK_) | ((first | (with_reducible first | refine zP fun K_ hK_ => ?_ | refine zQ fun K_ hK_ => ?_ | refine zT ?_ | refine zU ?_ | refine zV ?_ | refine zW ?_ | refine zX ?_ | refine zY ?_) | ((with_reducible first | refine zR ?_ ?_ fun K_ hK_ => ?_ | refine zS ?_ ?_ fun K_ hK_ => ?_); (focus kernel_rfl); (focus kernel_rfl))); first | (simp (maxSteps := 1000000) (disch := refine hold_ ?_; first | (simp [sl, sp, -List.getD_eq_getElem?_getD]; done) | omega) [sl, sp, -List.getD_eq_getElem?_getD]; try first | (with_reducible refine zZ ?_) | subst hK_) | subst hK_) | (with_reducible first | refine zA ?_ | refine zB ?_ | refine zC ?_ | refine zD ?_ | refine zE ?_ | refine zF ?_ | refine zG ?_ | refine zH ?_ | refine zI ?_ | refine zJ ?_ | refine zK ?_ | refine zL ?_ | refine zM ?_ | refine zN ?_ | refine zO ?_) | ((with_reducible refine yG ?_ ?_); (focus decide)) | ((with_reducible refine yA ?_); refine yB rfl ?_; (with_reducible first | refine yC ?_ | refine yD ?_)))
    all_goals simp (maxSteps := 1000000) (disch := refine hold_ ?_; first | (simp [-List.getD_eq_getElem?_getD]; done) | omega) [-List.getD_eq_getElem?_getD]
theorem cp_ct (l p : List (BitVec 8)) : Fn Tryd.prog 45 [.str (txt l), .str (txt p)] [.p (.str (txt (if preB l p then l.drop p.length else l))), .p (.bool (preB l p))] := by
  have k := cp1_ct l p
  generalize (if preB l p then l.drop p.length else l) = q at *
  refine Fn.of_body Tryd.func45 rfl ?_
  repeat (first | ((with_reducible first | refine callK_at 57 ?_); refine callK_p ?_; simp (maxSteps := 1000000) (disch := refine hold_ ?_; first | (simp [-List.getD_eq_getElem?_getD]; done) | omega) [-List.getD_eq_getElem?_getD]; (first | refine callK1_of (Fn.ct k Tryd.call57) ?_); (try simp (maxSteps := 1000000) (disch := refine hold_ ?_; first | (simp [-List.getD_eq_getElem?_getD]; done) | omega) [-List.getD_eq_getElem?_getD]); first | (with_reducible refine zZ ?_) | subst hK_) | ((first | (with_reducible first | refine zP fun K_ hK_ => ?_ | refine zQ fun K_ hK_ => ?_ | refine zT ?_ | refine zU ?_ | refine zV ?_ | refine zW ?_ | refine zX ?_ | refine zY ?_) | ((with_reducible first | refine zR ?_ ?_ fun K_ hK_ => ?_ | refine zS ?_ ?_ fun K_ hK_ => ?_); (focus kernel_rfl); (focus kernel_rfl))); first | (simp (maxSteps := 1000000) (disch := refine hold_ ?_; first | (simp [-List.getD_eq_getElem?_getD]; done) | omega) [-List.getD_eq_getElem?_getD]; try first | (with_reducible refine zZ ?_) | subst hK_) | subst hK_) | (with_reducible first | refine zA ?_ | refine zB ?_ | refine zC ?_ | refine zD ?_ | refine zE ?_ | refine zF ?_ | refine zG ?_ | refine zH ?_ | refine zI ?_ | refine zJ ?_ | refine zK ?_ | refine zL ?_ | refine zM ?_ | refine zN ?_ | refine zO ?_) | ((with_reducible refine yG ?_ ?_); (focus decide)) | ((with_reducible refine yA ?_); refine yB rfl ?_; (with_reducible first | refine yC ?_ | refine yD ?_)))
  all_goals simp (maxSteps := 1000000) (disch := refine hold_ ?_; first | (simp [-List.getD_eq_getElem?_getD]; done) | omega) [-List.getD_eq_getElem?_getD]
theorem index1_ct (l : List (BitVec 8)) (d : BitVec 8) : Fn Tryd.prog 62 [.str (txt l), .str (txt [d])] [.p (.int .i64 (idxI l d))] := by
  have k64 := indexByte_ct l d
  have hq := str_eq_txt [d] l
  have hs : (txt [d]).size = 1 := by rw [txt_size]; rfl
  have hg : (((txt [d]).data.toList.getD 0 0).toNat : Int) = ub d := txt_get [d] 0
  refine Fn.of_body Tryd.func62 rfl ?_
  cases hl : ([d] == l) with
  | true =>
    have e : idxI l d = 0 := by
      rw [← beq_iff_eq.1 hl]
      simp [idxI]
    rw [hl] at hq
    rw [e]
    repeat (first | ((first | (with_reducible first | refine zP fun K_ hK_ => ?_ | refine zQ fun K_ hK_ => ?_ | refine zT ?_ | refine zU ?_ | refine zV ?_ | refine zW ?_ | refine zX ?_ | refine zY ?_) | ((with_reducible first | refine zR ?_ ?_ fun K_ hK_ => ?_ | refine zS ?_ ?_ fun K_ hK_ => ?_); (focus kernel_rfl); (focus kernel_rfl))); first | (simp (maxSteps := 1000000) (disch := refine hold_ ?_; first | (simp [hq, hs, hg, -List.getD_eq_getElem?_getD]; done) | omega) [hq, hs, hg, -List.getD_eq_getElem?_getD]; try first | (with_reducible refine zZ ?_) | subst hK_) | subst hK_) | (with_reducible first | refine zA ?_ | refine zB ?_ | refine zC ?_ | refine zD ?_ | refine zE ?_ | refine zF ?_ | refine zG ?_ | refine zH ?_ | refine zI ?_ | refine zJ ?_ | refine zK ?_ | refine zL ?_ | refine zM ?_ | refine zN ?_ | refine zO ?_) | ((with_reducible refine yG ?_ ?_); (focus decide)) | ((with_reducible refine yA ?_); refine yB rfl ?_; (with_reducible first | refine yC ?_ | refine yD ?_)))
    all_goals simp (maxSteps := 1000000) (disch := refine hold_ ?_; first | (simp [-List.getD_eq_getElem?_getD]; done) | omega) [-List.getD_eq_getElem?_getD]
  | false =>
    rw [hl] at hq
    repeat (first | ((with_reducible first | refine callK_at 64 ?_); refine callK_p ?_; simp (maxSteps := 1000000) (disch := refine hold_ ?_; first | (simp [hq, hs, hg, -List.getD_eq_getElem?_getD]; done) | omega) [hq, hs, hg, -List.getD_eq_getElem?_getD]; (first | refine callK1_of (Fn.ct k64 Tryd.call64) ?_); (try simp (maxSteps := 1000000) (disch := refine hold_ ?_; first | (simp [hq, hs, hg, -List.getD_eq_getElem?_getD]; done) | omega) [hq, hs, hg, -List.getD_eq_getElem?_getD]); first | (with_reducible refine zZ ?_) | subst hK_) | ((first | (with_reducible first | refine zP fun K_ hK_ => ?_ | refine zQ fun K_ hK_ => ?_ | refine zT ?_ | refine zU ?_ | refine zV ?_ | refine zW ?_ | refine zX ?_ | refine zY ?_) | ((with_reducible first | refine zR ?_ ?_ fun K_ hK_ => ?_ | refine zS ?_ ?_ fun K_ hK_ => ?_); (focus kernel_rfl); (focus kernel_rfl))); first | (simp (maxSteps := 1000000) (disch := refine hold_ ?_; first | (simp [hq, hs, hg, -List.getD_eq_getElem?_getD]; done) | omega) [hq, hs, hg, -List.getD_eq_getElem?_getD]; try first | (with_reducible refine zZ ?_) | subst hK_) | subst hK_) | (with_reducible first | refine zA ?_ | refine zB ?_ | refine zC ?_ | refine zD ?_ | refine zE ?_ | refine zF ?_ | refine zG ?_ | refine zH ?_ | refine zI ?_ | refine zJ ?_ | refine zK ?_ | refine zL ?_ | refine zM ?_ | refine zN ?_ | refine zO ?_) | ((with_reducible refine yG ?_ ?_); (focus decide)) | ((with_reducible refine yA ?_); refine yB rfl ?_; (with_reducible first | refine yC ?_ | refine yD ?_)))
    all_goals simp (maxSteps := 1000000) (disch := refine hold_ ?_; first | (simp [-List.getD_eq_getElem?_getD]; done) | omega) [-List.getD_eq_getElem?_getD]
theorem index_ct1 (l : List (BitVec 8)) (d : BitVec 8) : Fn Tryd.prog 60 [.str (txt l), .str (txt [d])] [.p (.int .i64 (idxI l d))] := by
  refine Fn.of_body Tryd.func60 rfl ?_
  repeat (first | ((with_reducible first | refine callK_at 62 ?_); refine callK_p ?_; simp (maxSteps := 1000000) (disch := refine hold_ ?_; first | (simp [-List.getD_eq_getElem?_getD]; done) | omega) [-List.getD_eq_getElem?_getD]; (first | refine callK1_of (Fn.ct (index1_ct l d) Tryd.call62) ?_); (try simp (maxSteps := 1000000) (disch := refine hold_ ?_; first | (simp [-List.getD_eq_getElem?_getD]; done) | omega) [-List.getD_eq_getElem?_getD]); first | (with_reducible refine zZ ?_) | subst hK_) | ((first | (with_reducible first | refine zP fun K_ hK_ => ?_ | refine zQ fun K_ hK_ => ?_ | refine zT ?_ | refine zU ?_ | refine zV ?_ | refine zW ?_ | refine zX ?_ | refine zY ?_) | ((with_reducible first | refine zR ?_ ?_ fun K_ hK_ => ?_ | refine zS ?_ ?_ fun K_ hK_ => ?_); (focus kernel_rfl); (focus kernel_rfl))); first | (simp (maxSteps := 1000000) (disch := refine hold_ ?_; first | (simp [-List.getD_eq_getElem?_getD]; done) | omega) [-List.getD_eq_getElem?_getD]; try first | (with_reducible refine zZ ?_) | subst hK_) | subst hK_) | (with_reducible first | refine zA ?_ | refine zB ?_ | refine zC ?_ | refine zD ?_ | refine zE ?_ | refine zF ?_ | refine zG ?_ | refine zH ?_ | refine zI ?_ | refine zJ ?_ | refine zK ?_ | refine zL ?_ | refine zM ?_ | refine zN ?_ | refine zO ?_) | ((with_reducible refine yG ?_ ?_); (focus decide)) | ((with_reducible refine yA ?_); refine yB rfl ?_; (with_reducible first | refine yC ?_ | refine yD ?_)))
  all_goals simp (maxSteps := 1000000) (disch := refine hold_ ?_; first | (simp [-List.getD_eq_getElem?_getD]; done) | omega) [-List.getD_eq_getElem?_getD]
theorem idx_contains (l : List (BitVec 8)) (c : BitVec 8) : (decide (0 ≤ idxI l c)) = l.contains c := by
  rcases idxI_spec l c with ⟨h, hm⟩ | ⟨k, h, hk, hg, _⟩
  · rw [h]; simp; exact hm
  · rw [h]
    have : c ∈ l := by
      rw [← hg, List.getD_eq_getElem?_getD, List.getElem?_eq_getElem hk]; exact List.getElem_mem hk
    simp [this]
theorem contains_ct (l : List (BitVec 8)) (d : BitVec 8) : Fn Tryd.prog 47 [.str (txt l), .str (txt [d])] [.p (.bool (l.contains d))] := by
  have k := index_ct1 l d
  rw [← idx_contains]
  generalize idxI l d = I at *
  refine Fn.of_body Tryd.func47 rfl ?_
  repeat (first | ((with_reducible first | refine callK_at 60 ?_); refine callK_p ?_; simp (maxSteps := 1000000) (disch := refine hold_ ?_; first | (simp [-List.getD_eq_getElem?_getD]; done) | omega) [-List.getD_eq_getElem?_getD]; (first | refine callK1_of (Fn.ct k Tryd.call60) ?_); (try simp (maxSteps := 1000000) (disch := refine hold_ ?_; first | (simp [-List.getD_eq_getElem?_getD]; done) | omega) [-List.getD_eq_getElem?_getD]); first | (with_reducible refine zZ ?_) | subst hK_) | ((first | (with_reducible first | refine zP fun K_ hK_ => ?_ | refine zQ fun K_ hK_ => ?_ | refine zT ?_ | refine zU ?_ | refine zV ?_ | refine zW ?_ | refine zX ?_ | refine zY ?_) | ((with_reducible first | refine zR ?_ ?_ fun K_ hK_ => ?_ | refine zS ?_ ?_ fun K_ hK_ => ?_); (focus kernel_rfl); (focus kernel_rfl))); first | (simp (maxSteps := 1000000) (disch := refine hold_ ?_; first | (simp [-List.getD_eq_getElem?_getD]; done) | omega) [-List.getD_eq_getElem?_getD]; try first | (with_reducible refine zZ ?_) | subst hK_) | subst hK_) | (with_reducible first | refine zA ?_ | refine zB ?_ | refine zC ?_ | refine zD ?_ | refine zE ?_ | refine zF ?_ | refine zG ?_ | refine zH ?_ | refine zI ?_ | refine zJ ?_ | refine zK ?_ | refine zL ?_ | refine zM ?_ | refine zN ?_ | refine zO ?_) | ((with_reducible refine yG ?_ ?_); (focus decide)) | ((with_reducible refine yA ?_); refine yB rfl ?_; (with_reducible first | refine yC ?_ | refine yD ?_)))
  all_goals simp (maxSteps := 1000000) (disch := refine hold_ ?_; first | (simp [-List.getD_eq_getElem?_getD]; done) | omega) [-List.getD_eq_getElem?_getD]
def cutB (d : BitVec 8) : List (BitVec 8) → Option (List (BitVec 8) × List (BitVec 8))
  | [] => none
  | c :: l => if c = d then some ([], l) else (cutB d l).map fun q => (c :: q.1, q.2)
theorem cutB_idx (d : BitVec 8) : ∀ l, (cutB d l = none ∧ idxI l d = -1) ∨ ∃ k : Nat, idxI l d = k ∧ k < l.length ∧ cutB d l = some (l.take k, l.drop (k + 1))
  | [] => .inl ⟨rfl, rfl⟩
  | c :: l => by
    by_cases h : c = d
    · subst h
      right; exact ⟨0, by simp [idxI], by simp, by simp [cutB]⟩
    · rcases cutB_idx d l with ⟨h1, h2⟩ | ⟨k, h1, h2, h3⟩
      · left; exact ⟨by simp [cutB, h, h1], by simp [idxI, h, h2]⟩
      · right; exact ⟨k + 1, by simp [idxI, h, h1], by simp; omega, by simp [cutB, h, h3]⟩
def cutR (l : List (BitVec 8)) : Option (List (BitVec 8) × List (BitVec 8)) → List V
  | none => [.p (.str (txt l)), .p (.str (txt [])), .p (.bool false)]
  | some q => [.p (.str (txt q.1)), .p (.str (txt q.2)), .p (.bool true)]
theorem cut1_ct (l : List (BitVec 8)) (d : BitVec 8) (hl : l.length ≤ 4000000) : Fn Tryd.prog 55 [.str (txt l), .str (txt [d])] (cutR l (cutB d l)) := by
  have k62 := index1_ct l d
  have sl := txt_size l
  have hs : (txt [d]).size = 1 := by rw [txt_size]; rfl
  have t0 : ByteArray.mk #[] = txt [] := rfl
  rcases cutB_idx d l with ⟨h1, h2⟩ | ⟨k, h1, h2, h3⟩
  · rw [h2] at k62
    rw [h1]
    refine Fn.of_body Tryd.func55 rfl ?_
    repeat (first | ((with_reducible first | refine callK_at 62 ?_); refine callK_p ?_; simp (maxSteps := 1000000) (disch := refine hold_ ?_; first | (simp [-List.getD_eq_getElem?_getD]; done) | omega) [-List.getD_eq_getElem?_getD]; (first | refine callK1_of (Fn.ct k62 Tryd.call62) ?_); (try simp (maxSteps := 1000000) (disch := refine hold_ ?_; first | (simp [-List.getD_eq_getElem?_getD]; done) | omega) [-List.getD_eq_getElem?_getD]); first | (with_reducible refine zZ ?_) | subst hK_) | ((first | (with_reducible first | refine zP fun K_ hK_ => ?_ | refine zQ fun K_ hK_ => ?_ | refine zT ?_ | refine zU ?_ | refine zV ?_ | refine zW ?_ | refine zX ?_ | refine zY ?_) | ((with_reducible first | refine zR ?_ ?_ fun K_ hK_ => ?_ | refine zS ?_ ?_ fun K_ hK_ => ?_); (focus kernel_rfl); (focus kernel_rfl))); first | (simp (maxSteps := 1000000) (disch := refine hold_ ?_; first | (simp [-List.getD_eq_getElem?_getD]; done) | omega) [-List.getD_eq_getElem?_getD]; try first | (with_reducible refine zZ ?_) | subst hK_) | subst hK_) | (with_reducible first | refine zA ?_ | refine zB ?_ | refine zC ?_ | refine zD ?_ | refine zE ?_ | refine zF ?_ | refine zG ?_ | refine zH ?_ | refine zI ?_ | refine zJ ?_ | refine zK ?_ | refine zL ?_ | refine zM ?_ | refine zN ?_ | refine zO ?_) | ((with_reducible refine yG ?_ ?_); (focus decide)) | ((with_reducible refine yA ?_); refine yB rfl ?_; (with_reducible first | refine yC ?_ | refine yD ?_)))
    all_goals simp (maxSteps := 1000000) (disch := refine hold_ ?_; first | (simp [cutR, t0, -List.getD_eq_getElem?_getD]; done) | omega) [cutR, t0, -List.getD_eq_getElem?_getD]
  · rw [h1] at k62
    rw [h3]
    have e1 : IntKind.i64.wrap ((k : Int) + 1) = k + 1 := wrap_i64 _ (by omega) (by omega)
    have h4 : k ≤ l.length := by omega
    have h5 : k + 1 ≤ l.length := by omega
    have h6 : ((k : Int) + 1).toNat = k + 1 := by omega
    have x1 : (txt l).extract 0 k = txt (l.take k) := by rw [txt_extract]; simp
    have x2 : (txt l).extract (k + 1) l.length = txt (l.drop (k + 1)) := by rw [txt_extract, List.take_length]
    have hkz : (k : Int) ≤ l.length := by omega
    have hkz1 : (k : Int) + 1 ≤ l.length := by omega
    have hk0 : (0 : Int) ≤ (k : Int) + 1 := by omega
    generalize l.take k = q1 at *
    generalize l.drop (k + 1) = q2 at *
    refine Fn.of_body Tryd.func55 rfl ?_
    repeat (first | ((with_reducible first | refine callK_at 62 ?_); refine callK_p ?_; simp (maxSteps := 1000000) (disch := refine hold_ ?_; first | (simp [sl, hs, e1, h4, h5, h6, x1, x2, hkz, hkz1, hk0, -List.getD_eq_getElem?_getD]; done) | omega) [sl, hs, e1, h4, h5, h6, x1, x2, hkz, hkz1, hk0, -List.getD_eq_getElem?_getD]; (first | refine callK1_of (Fn.ct k62 Tryd.call62) ?_); (try simp (maxSteps := 1000000) (disch := refine hold_ ?_; first | (simp [sl, hs, e1, h4, h5, h6, x1, x2, hkz, hkz1, hk0, -List.getD_eq_getElem?_getD]; done) | omega) [sl, hs, e1, h4, h5, h6, x1, x2, hkz, hkz1, hk0, -List.getD_eq_getElem?_getD]); first | (with_reducible refine zZ ?_) | subst hK_) | ((first | (with_reducible first | refine zP fun K_ hK_ => ?_ | refine zQ fun K_ hK_ => ?_ | refine zT ?_ | refine zU ?_ | refine zV ?_ | refine zW ?_ | refine zX ?_ | refine zY ?_) | ((with_reducible first | refine zR ?_ ?_ fun K_ hK_ => ?_ | refine zS ?_ ?_ fun K_ hK_ => ?_); (focus kernel_rfl); (focus kernel_rfl))); first | (simp (maxSteps := 1000000) (disch := refine hold_ ?_; first | (simp [sl, hs, e1, h4, h5, h6, x1, x2, hkz, hkz1, hk0, -List.getD_eq_getElem?_getD]; done) | omega) [sl, hs, e1, h4, h5, h6, x1, x2, hkz, hkz1, hk0, -List.getD_eq_getElem?_getD]; try first | (with_reducible refine zZ ?_) | subst hK_) | subst hK_) | (with_reducible first | refine zA ?_ | refine zB ?_ | refine zC ?_ | refine zD ?_ | refine zE ?_ | refine zF ?_ | refine zG ?_ | refine zH ?_ | refine zI ?_ | refine zJ ?_ | refine zK ?_ | refine zL ?_ | refine zM ?_ | refine zN ?_ | refine zO ?_) | ((with_reducible refine yG ?_ ?_); (focus decide)) | ((with_reducible refine yA ?_); refine yB rfl ?_; (with_reducible first | refine yC ?_ | refine yD ?_)))
    all_goals simp (maxSteps := 1000000) (disch := refine hold_ ?_; first | (simp [cutR, -List.getD_eq_getElem?_getD]; done) | omega) [cutR, -List.getD_eq_getElem?_getD]
theorem cut_ct (l : List (BitVec 8)) (d : BitVec 8) (hl : l.length ≤ 4000000) : Fn Tryd.prog 43 [.str (txt l), .str (txt [d])] (cutR l (cutB d l)) := by
  have k := cut1_ct l d hl
  cases h : cutB d l with
  | none =>
    rw [h] at k
    refine Fn.of_body Tryd.func43 rfl ?_
    repeat (first | ((with_reducible first | refine callK_at 55 ?_); refine callK_p ?_; simp (maxSteps := 1000000) (disch := refine hold_ ?_; first | (simp [cutR, -List.getD_eq_getElem?_getD]; done) | omega) [cutR, -List.getD_eq_getElem?_getD]; (first | refine callK1_of (Fn.ct k Tryd.call55) ?_); (try simp (maxSteps := 1000000) (disch := refine hold_ ?_; first | (simp [cutR, -List.getD_eq_getElem?_getD]; done) | omega) [cutR, -List.getD_eq_getElem?_getD]); first | (with_reducible refine zZ ?_) | subst hK_) | ((first | (with_reducible first | refine zP fun K_ hK_ => ?_ | refine zQ fun K_ hK_ => ?_ | refine zT ?_ | refine zU ?_ | refine zV ?_ | refine zW ?_ | refine zX ?_ | refine zY ?_) | ((with_reducible first | refine zR ?_ ?_ fun K_ hK_ => ?_ | refine zS ?_ ?_ fun K_ hK_ => ?_); (focus kernel_rfl); (focus kernel_rfl))); first | (simp (maxSteps := 1000000) (disch := refine hold_ ?_; first | (simp [cutR, -List.getD_eq_getElem?_getD]; done) | omega) [cutR, -List.getD_eq_getElem?_getD]; try first | (with_reducible refine zZ ?_) | subst hK_) | subst hK_) | (with_reducible first | refine zA ?_ | refine zB ?_ | refine zC ?_ | refine zD ?_ | refine zE ?_ | refine zF ?_ | refine zG ?_ | refine zH ?_ | refine zI ?_ | refine zJ ?_ | refine zK ?_ | refine zL ?_ | refine zM ?_ | refine zN ?_ | refine zO ?_) | ((with_reducible refine yG ?_ ?_); (focus decide)) | ((with_reducible refine yA ?_); refine yB rfl ?_; (with_reducible first | refine yC ?_ | refine yD ?_)))
    all_goals simp (maxSteps := 1000000) (disch := refine hold_ ?_; first | (simp [cutR, -List.getD_eq_getElem?_getD]; done) | omega) [cutR, -List.getD_eq_getElem?_getD]
  | some q =>
    rw [h] at k
    refine Fn.of_body Tryd.func43 rfl ?_
    repeat (first | ((with_reducible first | refine callK_at 55 ?_); refine callK_p ?_; simp (maxSteps := 1000000) (disch := refine hold_ ?_; first | (simp [cutR, -List.getD_eq_getElem?_getD]; done) | omega) [cutR, -List.getD_eq_getElem?_getD]; (first | refine callK1_of (Fn.ct k Tryd.call55) ?_); (try simp (maxSteps := 1000000) (disch := refine hold_ ?_; first | (simp [cutR, -List.getD_eq_getElem?_getD]; done) | omega) [cutR, -List.getD_eq_getElem?_getD]); first | (with_reducible refine zZ ?_) | subst hK_) | ((first | (with_reducible first | refine zP fun K_ hK_ => ?_ | refine zQ fun K_ hK_ => ?_ | refine zT ?_ | refine zU ?_ | refine zV ?_ | refine zW ?_ | refine zX ?_ | refine zY ?_) | ((with_reducible first | refine zR ?_ ?_ fun K_ hK_ => ?_ | refine zS ?_ ?_ fun K_ hK_ => ?_); (focus kernel_rfl); (focus kernel_rfl))); first | (simp (maxSteps := 1000000) (disch := refine hold_ ?_; first | (simp [cutR, -List.getD_eq_getElem?_getD]; done) | omega) [cutR, -List.getD_eq_getElem?_getD]; try first | (with_reducible refine zZ ?_) | subst hK_) | subst hK_) | (with_reducible first | refine zA ?_ | refine zB ?_ | refine zC ?_ | refine zD ?_ | refine zE ?_ | refine zF ?_ | refine zG ?_ | refine zH ?_ | refine zI ?_ | refine zJ ?_ | refine zK ?_ | refine zL ?_ | refine zM ?_ | refine zN ?_ | refine zO ?_) | ((with_reducible refine yG ?_ ?_); (focus decide)) | ((with_reducible refine yA ?_); refine yB rfl ?_; (with_reducible first | refine yC ?_ | refine yD ?_)))
    all_goals simp (maxSteps := 1000000) (disch := refine hold_ ?_; first | (simp [cutR, -List.getD_eq_getElem?_getD]; done) | omega) [cutR, -List.getD_eq_getElem?_getD]
def sR (ps : List (List (BitVec 8))) : Row PV := .strs (ps.map txt)
theorem sidx_ct (ps : List (List (BitVec 8))) (nl : Bool) (l : List (BitVec 8)) (hp : ps.length ≤ 1000) : ∃ I : Int, Fn Tryd.prog 56 [.sl (sR ps) nl, .str (txt l)] [.p (.int .i64 I)] ∧ decide (0 ≤ I) = ps.contains l := by
  have hlen : (sR ps).len = ps.length := by simp [sR]
  have hsR : (sR ps).sz = 1 := rfl
  have hel : ∀ k, k < ps.length → (sR ps).elem k = .str (txt (ps.getD k [])) := by
    intro k hk
    simp [sR, List.getD_eq_getElem?_getD, hk]
  have hall : (ps.contains l = false ∧ ∀ k, k < ps.length → (l == ps.getD k []) = false) ∨ (ps.contains l = true ∧ ∃ n, n < ps.length ∧ (l == ps.getD n []) = true ∧ ∀ k, k < n → (l == ps.getD k []) = false) := by
    clear hlen hel hp hsR
    induction ps with
    | nil => left; exact ⟨rfl, fun k hk => by simp at hk⟩
    | cons p ps ih =>
      rw [List.contains_cons]
      cases hp : (l == p) with
      | true => right; exact ⟨by simp, 0, by simp, hp, fun k hk => by omega⟩
      | false =>
        rcases ih with ⟨h1, h2⟩ | ⟨h1, n, h2, h3, h4⟩
        · left
          refine ⟨by simpa using h1, ?_⟩
          intro k hk
          cases k with
          | zero => exact hp
          | succ k => exact h2 k (by simpa using hk)
        · right
          refine ⟨by simpa using h1, n + 1, by simpa using h2, h3, ?_⟩
          intro k hk
          cases k with
          | zero => exact hp
          | succ k => exact h4 k (by omega)
  generalize hR : sR ps = R at *
  rcases hall with ⟨h1, h2⟩ | ⟨h1, n, h2, h3, h4⟩
  · refine ⟨-1, ?_, by rw [h1]; rfl⟩
    refine Fn.of_body Tryd.func56 rfl ?_
    repeat (first | ((first | (with_reducible first | refine zP fun K_ hK_ => ?_ | refine zQ fun K_ hK_ => ?_ | refine zT ?_ | refine zU ?_ | refine zV ?_ | refine zW ?_ | refine zX ?_ | refine zY ?_) | ((with_reducible first | refine zR ?_ ?_ fun K_ hK_ => ?_ | refine zS ?_ ?_ fun K_ hK_ => ?_); (focus kernel_rfl); (focus kernel_rfl))); first | (simp (maxSteps := 1000000) (disch := refine hold_ ?_; first | (simp [hlen, -List.getD_eq_getElem?_getD]; done) | omega) [hlen, -List.getD_eq_getElem?_getD]; try first | (with_reducible refine zZ ?_) | subst hK_) | subst hK_) | (with_reducible first | refine zA ?_ | refine zB ?_ | refine zC ?_ | refine zD ?_ | refine zE ?_ | refine zF ?_ | refine zG ?_ | refine zH ?_ | refine zI ?_ | refine zJ ?_ | refine zK ?_ | refine zL ?_ | refine zM ?_ | refine zN ?_ | refine zO ?_) | ((with_reducible refine yG ?_ ?_); (focus decide)) | ((with_reducible refine yA ?_); refine yB rfl ?_; (with_reducible first | refine yC ?_ | refine yD ?_)))
    refine AW.iter (true :: true :: false :: false :: false :: false :: false :: true :: true :: false :: false :: false :: false :: false :: false :: false :: false :: false :: false :: []) ps.length (fun k => ⟨(.p (.sl R nl) :: .p (.str (txt l)) :: V.junk :: V.junk :: V.junk :: V.junk :: V.junk :: .p (.int .i64 ps.length) :: .p (.int .i64 k) :: V.junk :: V.junk :: V.junk :: V.junk :: V.junk :: V.junk :: V.junk :: V.junk :: V.junk :: V.junk :: []), ⟨[], []⟩⟩) ?_ ?_
    · simp (maxSteps := 1000000) (disch := refine hold_ ?_; first | (simp [hlen, -List.getD_eq_getElem?_getD]; done) | omega) [hlen, -List.getD_eq_getElem?_getD]
    intro k hk
    have e1 : IntKind.i64.wrap ((k : Int) + 1) = k + 1 := wrap_i64 _ (by omega) (by omega)
    by_cases hkc : k < ps.length
    · have hkz : (k : Int) < ps.length := by omega
      have he := hel k hkc
      have hq := str_eq_txt l (ps.getD k [])
      rw [h2 k hkc] at hq
      generalize ps.getD k [] = x at *
      repeat (first | ((first | (with_reducible first | refine zP fun K_ hK_ => ?_ | refine zQ fun K_ hK_ => ?_ | refine zT ?_ | refine zU ?_ | refine zV ?_ | refine zW ?_ | refine zX ?_ | refine zY ?_) | ((with_reducible first | refine zR ?_ ?_ fun K_ hK_ => ?_ | refine zS ?_ ?_ fun K_ hK_ => ?_); (focus kernel_rfl); (focus kernel_rfl))); first | (simp (maxSteps := 1000000) (disch := refine hold_ ?_; first | (simp [hlen, hsR, hkc, hkz, he, hq, e1, -List.getD_eq_getElem?_getD]; done) | omega) [hlen, hsR, hkc, hkz, he, hq, e1, -List.getD_eq_getElem?_getD]; try first | (with_reducible refine zZ ?_) | subst hK_) | subst hK_) | (with_reducible first | refine zA ?_ | refine zB ?_ | refine zC ?_ | refine zD ?_ | refine zE ?_ | refine zF ?_ | refine zG ?_ | refine zH ?_ | refine zI ?_ | refine zJ ?_ | refine zK ?_ | refine zL ?_ | refine zM ?_ | refine zN ?_ | refine zO ?_) | ((with_reducible refine yG ?_ ?_); (focus decide)) | ((with_reducible refine yA ?_); refine yB rfl ?_; (with_reducible first | refine yC ?_ | refine yD ?_)))
      refine ⟨hkc, ?_⟩
      simp (maxSteps := 1000000) (disch := refine hold_ ?_; first | (simp [-List.getD_eq_getElem?_getD]; done) | omega) [-List.getD_eq_getElem?_getD]
    · obtain rfl : k = ps.length := by omega
      have hkz : ¬ (ps.length : Int) < ps.length := by omega
      repeat (first | ((first | (with_reducible first | refine zP fun K_ hK_ => ?_ | refine zQ fun K_ hK_ => ?_ | refine zT ?_ | refine zU ?_ | refine zV ?_ | refine zW ?_ | refine zX ?_ | refine zY ?_) | ((with_reducible first | refine zR ?_ ?_ fun K_ hK_ => ?_ | refine zS ?_ ?_ fun K_ hK_ => ?_); (focus kernel_rfl); (focus kernel_rfl))); first | (simp (maxSteps := 1000000) (disch := refine hold_ ?_; first | (simp [hkz, -List.getD_eq_getElem?_getD]; done) | omega) [hkz, -List.getD_eq_getElem?_getD]; try first | (with_reducible refine zZ ?_) | subst hK_) | subst hK_) | (with_reducible first | refine zA ?_ | refine zB ?_ | refine zC ?_ | refine zD ?_ | refine zE ?_ | refine zF ?_ | refine zG ?_ | refine zH ?_ | refine zI ?_ | refine zJ ?_ | refine zK ?_ | refine zL ?_ | refine zM ?_ | refine zN ?_ | refine zO ?_) | ((with_reducible refine yG ?_ ?_); (focus decide)) | ((with_reducible refine yA ?_); refine yB rfl ?_; (with_reducible first | refine yC ?_ | refine yD ?_)))
      all_goals simp (maxSteps := 1000000) (disch := refine hold_ ?_; first | (simp [-List.getD_eq_getElem?_getD]; done) | omega) [-List.getD_eq_getElem?_getD]
  · refine ⟨n, ?_, by rw [h1]; simp⟩
    refine Fn.of_body Tryd.func56 rfl ?_
    repeat (first | ((first | (with_reducible first | refine zP fun K_ hK_ => ?_ | refine zQ fun K_ hK_ => ?_ | refine zT ?_ | refine zU ?_ | refine zV ?_ | refine zW ?_ | refine zX ?_ | refine zY ?_) | ((with_reducible first | refine zR ?_ ?_ fun K_ hK_ => ?_ | refine zS ?_ ?_ fun K_ hK_ => ?_); (focus kernel_rfl); (focus kernel_rfl))); first | (simp (maxSteps := 1000000) (disch := refine hold_ ?_; first | (simp [hlen, -List.getD_eq_getElem?_getD]; done) | omega) [hlen, -List.getD_eq_getElem?_getD]; try first | (with_reducible refine zZ ?_) | subst hK_) | subst hK_) | (with_reducible first | refine zA ?_ | refine zB ?_ | refine zC ?_ | refine zD ?_ | refine zE ?_ | refine zF ?_ | refine zG ?_ | refine zH ?_ | refine zI ?_ | refine zJ ?_ | refine zK ?_ | refine zL ?_ | refine zM ?_ | refine zN ?_ | refine zO ?_) | ((with_reducible refine yG ?_ ?_); (focus decide)) | ((with_reducible refine yA ?_); refine yB rfl ?_; (with_reducible first | refine yC ?_ | refine yD ?_)))
    refine AW.iter (true :: true :: false :: false :: false :: false :: false :: true :: true :: false :: false :: false :: false :: false :: false :: false :: false :: false :: false :: []) n (fun k => ⟨(.p (.sl R nl) :: .p (.str (txt l)) :: V.junk :: V.junk :: V.junk :: V.junk :: V.junk :: .p (.int .i64 ps.length) :: .p (.int .i64 k) :: V.junk :: V.junk :: V.junk :: V.junk :: V.junk :: V.junk :: V.junk :: V.junk :: V.junk :: V.junk :: []), ⟨[], []⟩⟩) ?_ ?_
    · simp (maxSteps := 1000000) (disch := refine hold_ ?_; first | (simp [hlen, -List.getD_eq_getElem?_getD]; done) | omega) [hlen, -List.getD_eq_getElem?_getD]
    intro k hk
    have e1 : IntKind.i64.wrap ((k : Int) + 1) = k + 1 := wrap_i64 _ (by omega) (by omega)
    have hkc : k < ps.length := by omega
    have hkz : (k : Int) < ps.length := by omega
    have he := hel k hkc
    have hq := str_eq_txt l (ps.getD k [])
    by_cases hkn : k < n
    · rw [h4 k hkn] at hq
      generalize ps.getD k [] = x at *
      repeat (first | ((first | (with_reducible first | refine zP fun K_ hK_ => ?_ | refine zQ fun K_ hK_ => ?_ | refine zT ?_ | refine zU ?_ | refine zV ?_ | refine zW ?_ | refine zX ?_ | refine zY ?_) | ((with_reducible first | refine zR ?_ ?_ fun K_ hK_ => ?_ | refine zS ?_ ?_ fun K_ hK_ => ?_); (focus kernel_rfl); (focus kernel_rfl))); first | (simp (maxSteps := 1000000) (disch := refine hold_ ?_; first | (simp [hlen, hsR, hkc, hkz, he, hq, e1, -List.getD_eq_getElem?_getD]; done) | omega) [hlen, hsR, hkc, hkz, he, hq, e1, -List.getD_eq_getElem?_getD]; try first | (with_reducible refine zZ ?_) | subst hK_) | subst hK_) | (with_reducible first | refine zA ?_ | refine zB ?_ | refine zC ?_ | refine zD ?_ | refine zE ?_ | refine zF ?_ | refine zG ?_ | refine zH ?_ | refine zI ?_ | refine zJ ?_ | refine zK ?_ | refine zL ?_ | refine zM ?_ | refine zN ?_ | refine zO ?_) | ((with_reducible refine yG ?_ ?_); (focus decide)) | ((with_reducible refine yA ?_); refine yB rfl ?_; (with_reducible first | refine yC ?_ | refine yD ?_)))
      refine ⟨hkn, ?_⟩
      simp (maxSteps := 1000000) (disch := refine hold_ ?_; first | (simp [-List.getD_eq_getElem?_getD]; done) | omega) [-List.getD_eq_getElem?_getD]
    · obtain rfl : k = n := by omega
      rw [h3] at hq
      generalize ps.getD k [] = x at *
      repeat (first | ((first | (with_reducible first | refine zP fun K_ hK_ => ?_ | refine zQ fun K_ hK_ => ?_ | refine zT ?_ | refine zU ?_ | refine zV ?_ | refine zW ?_ | refine zX ?_ | refine zY ?_) | ((with_reducible first | refine zR ?_ ?_ fun K_ hK_ => ?_ | refine zS ?_ ?_ fun K_ hK_ => ?_); (focus kernel_rfl); (focus kernel_rfl))); first | (simp (maxSteps := 1000000) (disch := refine hold_ ?_; first | (simp [hlen, hsR, hkc, hkz, he, hq, e1, -List.getD_eq_getElem?_getD]; done) | omega) [hlen, hsR, hkc, hkz, he, hq, e1, -List.getD_eq_getElem?_getD]; try first | (with_reducible refine zZ ?_) | subst hK_) | subst hK_) | (with_reducible first | refine zA ?_ | refine zB ?_ | refine zC ?_ | refine zD ?_ | refine zE ?_ | refine zF ?_ | refine zG ?_ | refine zH ?_ | refine zI ?_ | refine zJ ?_ | refine zK ?_ | refine zL ?_ | refine zM ?_ | refine zN ?_ | refine zO ?_) | ((with_reducible refine yG ?_ ?_); (focus decide)) | ((with_reducible refine yA ?_); refine yB rfl ?_; (with_reducible first | refine yC ?_ | refine yD ?_)))
      all_goals simp (maxSteps := 1000000) (disch := refine hold_ ?_; first | (simp [-List.getD_eq_getElem?_getD]; done) | omega) [-List.getD_eq_getElem?_getD]
theorem scont_ct (ps : List (List (BitVec 8))) (nl : Bool) (l : List (BitVec 8)) (hp : ps.length ≤ 1000) : Fn Tryd.prog 44 [.sl (sR ps) nl, .str (txt l)] [.p (.bool (ps.contains l))] := by
  obtain ⟨I, k56, hI⟩ := sidx_ct ps nl l hp
  rw [← hI]
  refine Fn.of_body Tryd.func44 rfl ?_
  repeat (first | ((with_reducible first | refine callK_at 56 ?_); refine callK_p ?_; simp (maxSteps := 1000000) (disch := refine hold_ ?_; first | (simp [-List.getD_eq_getElem?_getD]; done) | omega) [-List.getD_eq_getElem?_getD]; (first | refine callK1_of (Fn.ct k56 Tryd.call56) ?_); (try simp (maxSteps := 1000000) (disch := refine hold_ ?_; first | (simp [-List.getD_eq_getElem?_getD]; done) | omega) [-List.getD_eq_getElem?_getD]); first | (with_reducible refine zZ ?_) | subst hK_) | ((first | (with_reducible first | refine zP fun K_ hK_ => ?_ | refine zQ fun K_ hK_ => ?_ | refine zT ?_ | refine zU ?_ | refine zV ?_ | refine zW ?_ | refine zX ?_ | refine zY ?_) | ((with_reducible first | refine zR ?_ ?_ fun K_ hK_ => ?_ | refine zS ?_ ?_ fun K_ hK_ => ?_); (focus kernel_rfl); (focus kernel_rfl))); first | (simp (maxSteps := 1000000) (disch := refine hold_ ?_; first | (simp [-List.getD_eq_getElem?_getD]; done) | omega) [-List.getD_eq_getElem?_getD]; try first | (with_reducible refine zZ ?_) | subst hK_) | subst hK_) | (with_reducible first | refine zA ?_ | refine zB ?_ | refine zC ?_ | refine zD ?_ | refine zE ?_ | refine zF ?_ | refine zG ?_ | refine zH ?_ | refine zI ?_ | refine zJ ?_ | refine zK ?_ | refine zL ?_ | refine zM ?_ | refine zN ?_ | refine zO ?_) | ((with_reducible refine yG ?_ ?_); (focus decide)) | ((with_reducible refine yA ?_); refine yB rfl ?_; (with_reducible first | refine yC ?_ | refine yD ?_)))
  all_goals simp (maxSteps := 1000000) (disch := refine hold_ ?_; first | (simp [-List.getD_eq_getElem?_getD]; done) | omega) [-List.getD_eq_getElem?_getD]
end Go.Av.Lex
end
section
set_option linter.unusedSimpArgs false
set_option linter.unusedVariables false
open Go Go.Av Go.Proofs
namespace Go.Av.Lex
def bn (l : List (BitVec 8)) (k : Nat) : Nat := (l.getD k 0#8).toNat
theorem bt_bn (l : List (BitVec 8)) (k : Nat) : bt l k = (bn l k : Int) := rfl
theorem get_bn (l : List (BitVec 8)) (pos k : Nat) : ((txt l).get! (pos + k)).toNat = bn (l.drop pos) k := by
  have h := txt_get l (pos + k)
  have e : ((txt l).get! (pos + k)) = (txt l).data.toList.getD (pos + k) 0 := by
    show (txt l).data[pos + k]! = _
    rw [List.getD_eq_getElem?_getD, Array.getElem?_toList]
    simp only [getElem!_def]
    cases (txt l).data[pos + k]? <;> rfl
  rw [e]
  have : bn (l.drop pos) k = (l.getD (pos + k) 0#8).toNat := by unfold bn; simp [List.getD_eq_getElem?_getD]
  rw [this]
  have h2 : ub (l.getD (pos + k) 0) = ((l.getD (pos + k) 0#8).toNat : Int) := rfl
  omega
set_option maxRecDepth 20000 in
theorem okS_nat (S : List (BitVec 8)) (h : okS S ≠ 0) : 0 < S.length ∧
    ((bn S 0 < 128 ∧ okS S = 1 ∧ runeN S = (bn S 0 : Int)) ∨
    (194 ≤ bn S 0 ∧ bn S 0 < 224 ∧ 2 ≤ S.length ∧ 128 ≤ bn S 1 ∧ bn S 1 ≤ 191 ∧ okS S = 2 ∧ runeN S = ((bn S 0 : Int) - 192) * 64 + ((bn S 1 : Int) - 128)) ∨
    (224 ≤ bn S 0 ∧ bn S 0 < 240 ∧ 3 ≤ S.length ∧ 128 ≤ bn S 1 ∧ bn S 1 ≤ 191 ∧ 128 ≤ bn S 2 ∧ bn S 2 ≤ 191 ∧ (bn S 0 = 224 → 160 ≤ bn S 1) ∧ (bn S 0 = 237 → bn S 1 ≤ 159) ∧ okS S = 3 ∧ runeN S = ((bn S 0 : Int) - 224) * 4096 + ((bn S 1 : Int) - 128) * 64 + ((bn S 2 : Int) - 128)) ∨
    (240 ≤ bn S 0 ∧ bn S 0 < 245 ∧ 4 ≤ S.length ∧ 128 ≤ bn S 1 ∧ bn S 1 ≤ 191 ∧ 128 ≤ bn S 2 ∧ bn S 2 ≤ 191 ∧ 128 ≤ bn S 3 ∧ bn S 3 ≤ 191 ∧ (bn S 0 = 240 → 144 ≤ bn S 1) ∧ (bn S 0 = 244 → bn S 1 ≤ 143) ∧ okS S = 4 ∧ runeN S = ((bn S 0 : Int) - 240) * 262144 + ((bn S 1 : Int) - 128) * 4096 + ((bn S 2 : Int) - 128) * 64 + ((bn S 3 : Int) - 128))) := by
  unfold okS at h ⊢
  unfold runeN
  have q0 := bt_bn S 0
  have q1 := bt_bn S 1
  have q2 := bt_bn S 2
  have q3 := bt_bn S 3
  by_cases hn : S.length = 0
  · rw [if_pos hn] at h; exact absurd rfl h
  rw [if_neg hn] at h ⊢
  refine ⟨by omega, ?_⟩
  by_cases h1 : bt S 0 < 128
  · rw [if_pos h1] at h ⊢; rw [if_pos h1]; left; exact ⟨by omega, rfl, rfl⟩
  rw [if_neg h1] at h ⊢
  rw [if_neg h1]
  by_cases h2 : 194 ≤ bt S 0 ∧ bt S 0 < 224
  · rw [if_pos h2] at h ⊢
    rw [if_pos h2.2]
    by_cases h3 : 2 ≤ S.length ∧ 128 ≤ bt S 1 ∧ bt S 1 ≤ 191
    · rw [if_pos h3]; right; left; exact ⟨by omega, by omega, by omega, by omega, by omega, rfl, rfl⟩
    · rw [if_neg h3] at h; exact absurd rfl h
  rw [if_neg h2] at h ⊢
  by_cases h4 : 224 ≤ bt S 0 ∧ bt S 0 < 240
  · rw [if_pos h4] at h ⊢
    have h224 : ¬ bt S 0 < 224 := by omega
    rw [if_neg h224, if_pos h4.2]
    by_cases h3 : 3 ≤ S.length ∧ loB (bt S 0) ≤ bt S 1 ∧ bt S 1 ≤ hiB (bt S 0) ∧ 128 ≤ bt S 2 ∧ bt S 2 ≤ 191
    · rw [if_pos h3]
      unfold loB hiB at h3
      right; right; left
      have p1 : (bn S 0 = 224 → 160 ≤ bn S 1) := by intro e; have := h3.2.1; rw [if_pos (by omega)] at this; omega
      have p2 : (bn S 0 = 237 → bn S 1 ≤ 159) := by intro e; have := h3.2.2.1; rw [if_pos (by omega)] at this; omega
      have p3 : 128 ≤ bn S 1 := by have := h3.2.1; (repeat' split at this) <;> omega
      have p4 : bn S 1 ≤ 191 := by have := h3.2.2.1; (repeat' split at this) <;> omega
      exact ⟨by omega, by omega, by omega, p3, p4, by omega, by omega, p1, p2, rfl, rfl⟩
    · rw [if_neg h3] at h; exact absurd rfl h
  rw [if_neg h4] at h ⊢
  by_cases h5 : 240 ≤ bt S 0 ∧ bt S 0 < 245
  · rw [if_pos h5] at h ⊢
    have h224 : ¬ bt S 0 < 224 := by omega
    have h240 : ¬ bt S 0 < 240 := by omega
    rw [if_neg h224, if_neg h240]
    by_cases h3 : 4 ≤ S.length ∧ loB (bt S 0) ≤ bt S 1 ∧ bt S 1 ≤ hiB (bt S 0) ∧ 128 ≤ bt S 2 ∧ bt S 2 ≤ 191 ∧ 128 ≤ bt S 3 ∧ bt S 3 ≤ 191
    · rw [if_pos h3]
      unfold loB hiB at h3
      right; right; right
      have p1 : (bn S 0 = 240 → 144 ≤ bn S 1) := by intro e; have := h3.2.1; rw [if_neg (by omega), if_pos (by omega)] at this; omega
      have p2 : (bn S 0 = 244 → bn S 1 ≤ 143) := by intro e; have := h3.2.2.1; rw [if_neg (by omega), if_pos (by omega)] at this; omega
      have p3 : 128 ≤ bn S 1 := by have := h3.2.1; (repeat' split at this) <;> omega
      have p4 : bn S 1 ≤ 191 := by have := h3.2.2.1; (repeat' split at this) <;> omega
      exact ⟨by omega, by omega, by omega, p3, p4, by omega, by omega, by omega, by omega, p1, p2, rfl, rfl⟩
    · rw [if_neg h3] at h; exact absurd rfl h
  · rw [if_neg h5] at h; exact absurd rfl h
set_option maxRecDepth 20000 in
theorem dec_ok (l : List (BitVec 8)) (pos : Nat) (h : okS (l.drop pos) ≠ 0) : Utf8.decode (txt l) pos = ((runeN (l.drop pos)).toNat, okS (l.drop pos)) := by
  have hsz := txt_size l
  have hdl : (l.drop pos).length = l.length - pos := List.length_drop
  obtain ⟨h0, hc⟩ := okS_nat _ h
  have g0 : ((txt l).get! pos).toNat = bn (l.drop pos) 0 := get_bn l pos 0
  unfold Utf8.decode
  simp only [get_bn, g0, Nat.add_zero, hsz, Utf8.valid, Utf8.runeError]
  generalize l.drop pos = S at *
  generalize bn S 0 = b0 at *
  generalize bn S 1 = b1 at *
  generalize bn S 2 = b2 at *
  generalize bn S 3 = b3 at *
  rcases hc with ⟨c1, c2, c3⟩ | ⟨c1, c1', c2, c3, c4, c5, c6⟩ | ⟨c1, c1', c2, c3, c4, c5, c6, c7, c8, c9, c10⟩ | ⟨c1, c1', c2, c3, c4, c5, c6, c7, c8, c9, c10, c11, c12⟩
  · rw [c2, c3, if_pos (by omega)]; simp
  · rw [c5, c6, if_neg (by omega)]
    have e1 : (b0 / 32 == 6 && (decide (pos + 1 < l.length) && b1 / 64 == 2)) = true := by simp; omega
    rw [if_pos e1, if_pos (by omega)]
    refine Prod.ext ?_ rfl
    show _ = Int.toNat _
    omega
  · rw [c9, c10, if_neg (by omega)]
    have e0 : (b0 / 32 == 6) = false := by simp; omega
    have e1 : (b0 / 16 == 14 && (decide (pos + 1 < l.length) && b1 / 64 == 2) && (decide (pos + 2 < l.length) && b2 / 64 == 2)) = true := by simp; omega
    simp only [e0, Bool.false_and, Bool.false_eq_true, if_false]
    rw [if_pos e1]
    have e2 : (decide (b0 % 16 * 4096 + b1 % 64 * 64 + b2 % 64 ≥ 2048) && (decide ((0 : Int) ≤ ((b0 % 16 * 4096 + b1 % 64 * 64 + b2 % 64 : Nat) : Int)) && decide (((b0 % 16 * 4096 + b1 % 64 * 64 + b2 % 64 : Nat) : Int) < 55296) || decide ((57344 : Int) ≤ ((b0 % 16 * 4096 + b1 % 64 * 64 + b2 % 64 : Nat) : Int)) && decide (((b0 % 16 * 4096 + b1 % 64 * 64 + b2 % 64 : Nat) : Int) ≤ 1114111))) = true := by
      have q1 : b0 % 16 * 4096 + b1 % 64 * 64 + b2 % 64 ≥ 2048 := by
        by_cases e : b0 = 224
        · have := c7 e; omega
        · omega
      have q2 : b0 % 16 * 4096 + b1 % 64 * 64 + b2 % 64 < 55296 ∨ (57344 ≤ b0 % 16 * 4096 + b1 % 64 * 64 + b2 % 64 ∧ b0 % 16 * 4096 + b1 % 64 * 64 + b2 % 64 ≤ 1114111) := by
        by_cases e : b0 = 237
        · have := c8 e; omega
        · omega
      rw [Bool.and_eq_true, Bool.or_eq_true, Bool.and_eq_true, Bool.and_eq_true, decide_eq_true_eq, decide_eq_true_eq, decide_eq_true_eq, decide_eq_true_eq, decide_eq_true_eq]
      refine ⟨q1, ?_⟩
      rcases q2 with q | q
      · left; exact ⟨by omega, by omega⟩
      · right; exact ⟨by omega, by omega⟩
    rw [if_pos e2]
    refine Prod.ext ?_ rfl
    show _ = Int.toNat _
    omega
  · rw [c11, c12, if_neg (by omega)]
    have e0 : (b0 / 32 == 6) = false := by simp; omega
    have e0' : (b0 / 16 == 14) = false := by simp; omega
    have e1 : (b0 / 8 == 30 && (decide (pos + 1 < l.length) && b1 / 64 == 2) && (decide (pos + 2 < l.length) && b2 / 64 == 2) && (decide (pos + 3 < l.length) && b3 / 64 == 2)) = true := by simp; omega
    simp only [e0, e0', Bool.false_and, Bool.false_eq_true, if_false]
    rw [if_pos e1]
    have e2 : (decide (b0 % 8 * 262144 + b1 % 64 * 4096 + b2 % 64 * 64 + b3 % 64 ≥ 65536) && (decide ((0 : Int) ≤ ((b0 % 8 * 262144 + b1 % 64 * 4096 + b2 % 64 * 64 + b3 % 64 : Nat) : Int)) && decide (((b0 % 8 * 262144 + b1 % 64 * 4096 + b2 % 64 * 64 + b3 % 64 : Nat) : Int) < 55296) || decide ((57344 : Int) ≤ ((b0 % 8 * 262144 + b1 % 64 * 4096 + b2 % 64 * 64 + b3 % 64 : Nat) : Int)) && decide (((b0 % 8 * 262144 + b1 % 64 * 4096 + b2 % 64 * 64 + b3 % 64 : Nat) : Int) ≤ 1114111))) = true := by
      have q1 : b0 % 8 * 262144 + b1 % 64 * 4096 + b2 % 64 * 64 + b3 % 64 ≥ 65536 := by
        by_cases e : b0 = 240
        · have := c9 e; omega
        · omega
      have q2 : b0 % 8 * 262144 + b1 % 64 * 4096 + b2 % 64 * 64 + b3 % 64 ≤ 1114111 := by
        by_cases e : b0 = 244
        · have := c10 e; omega
        · omega
      rw [Bool.and_eq_true, Bool.or_eq_true, Bool.and_eq_true, Bool.and_eq_true, decide_eq_true_eq, decide_eq_true_eq, decide_eq_true_eq, decide_eq_true_eq, decide_eq_true_eq]
      exact ⟨q1, .inr ⟨by omega, by omega⟩⟩
    rw [if_pos e2]
    refine Prod.ext ?_ rfl
    show _ = Int.toNat _
    omega
set_option maxRecDepth 20000 in
theorem enc_size (S : List (BitVec 8)) (h : okS S ≠ 0) : (Utf8.encode (runeN S)).size = okS S := by
  obtain ⟨h0, hc⟩ := okS_nat _ h
  have hv : Utf8.valid (runeN S) = true := by
    unfold Utf8.valid
    rw [Bool.or_eq_true, Bool.and_eq_true, Bool.and_eq_true, decide_eq_true_eq, decide_eq_true_eq, decide_eq_true_eq, decide_eq_true_eq]
    rcases hc with ⟨c1, c2, c3⟩ | ⟨c1, c1', c2, c3, c4, c5, c6⟩ | ⟨c1, c1', c2, c3, c4, c5, c6, c7, c8, c9, c10⟩ | ⟨c1, c1', c2, c3, c4, c5, c6, c7, c8, c9, c10, c11, c12⟩
    · omega
    · omega
    · by_cases e : bn S 0 = 237
      · have := c8 e; omega
      · omega
    · by_cases e : bn S 0 = 244
      · have := c10 e; omega
      · omega
  unfold Utf8.encode
  simp only [hv, if_true]
  rcases hc with ⟨c1, c2, c3⟩ | ⟨c1, c1', c2, c3, c4, c5, c6⟩ | ⟨c1, c1', c2, c3, c4, c5, c6, c7, c8, c9, c10⟩ | ⟨c1, c1', c2, c3, c4, c5, c6, c7, c8, c9, c10, c11, c12⟩
  · rw [c2, if_pos (by omega)]; rfl
  · rw [c5, if_neg (by omega), if_pos (by omega)]; rfl
  · rw [c9, if_neg (by omega), if_neg (by
      by_cases e : bn S 0 = 224
      · have := c7 e
        omega
      · omega), if_pos (by omega)]; rfl
  · rw [c11, if_neg (by omega), if_neg (by omega), if_neg (by
      by_cases e : bn S 0 = 240
      · have := c9 e
        omega
      · omega)]; rfl
def bd (c : BitVec 8) : Bool := blankB (ub c)
def skL (l : List (BitVec 8)) : List (BitVec 8) := l.dropWhile bd
theorem tw_get (p : BitVec 8 → Bool) : ∀ (t : List (BitVec 8)) (k : Nat), k < (t.takeWhile p).length → p (t.getD k 0#8) = true
  | [], k, h => by simp at h
  | c :: t, k, h => by
    rw [List.takeWhile_cons] at h
    split at h
    · rename_i hc
      cases k with
      | zero => exact hc
      | succ k => exact tw_get p t k (by simpa using h)
    · simp at h
theorem dw_drop (p : BitVec 8 → Bool) (t : List (BitVec 8)) : t.dropWhile p = t.drop (t.takeWhile p).length := by
  conv => rhs; rw [← List.takeWhile_append_dropWhile (p := p) (l := t)]
  rw [List.drop_append_of_le_length (by simp)]
  simp
theorem dw_stop (p : BitVec 8 → Bool) : ∀ (t : List (BitVec 8)), (t.takeWhile p).length < t.length → p (t.getD (t.takeWhile p).length 0#8) = false
  | [], h => by simp at h
  | c :: t, h => by
    rw [List.takeWhile_cons] at h ⊢
    split at h
    · rename_i hc
      simp only [hc, if_true, List.length_cons]
      exact dw_stop p t (by simpa using h)
    · rename_i hc
      simp only [hc, if_false, List.length_nil]
      simpa using hc
theorem tw_le (p : BitVec 8 → Bool) (t : List (BitVec 8)) : (t.takeWhile p).length ≤ t.length := by
  have := congrArg List.length (List.takeWhile_append_dropWhile (p := p) (l := t))
  rw [List.length_append] at this; omega
theorem skip_ct (l : List (BitVec 8)) : Fn Tryd.prog 12 [.str (txt l)] [.p (.str (txt (skL l)))] := by
  have hle := tw_le bd l
  have hE : skL l = l.drop (l.takeWhile bd).length := dw_drop bd l
  rw [hE]
  refine Fn.of_body Tryd.func12 rfl ?_
  repeat (first | ((first | (with_reducible first | refine zP fun K_ hK_ => ?_ | refine zQ fun K_ hK_ => ?_ | refine zT ?_ | refine zU ?_ | refine zV ?_ | refine zW ?_ | refine zX ?_ | refine zY ?_) | ((with_reducible first | refine zR ?_ ?_ fun K_ hK_ => ?_ | refine zS ?_ ?_ fun K_ hK_ => ?_); (focus kernel_rfl); (focus kernel_rfl))); first | (simp (maxSteps := 1000000) (disch := refine hold_ ?_; first | (simp [-List.getD_eq_getElem?_getD]; done) | omega) [-List.getD_eq_getElem?_getD]; try first | (with_reducible refine zZ ?_) | subst hK_) | subst hK_) | (with_reducible first | refine zA ?_ | refine zB ?_ | refine zC ?_ | refine zD ?_ | refine zE ?_ | refine zF ?_ | refine zG ?_ | refine zH ?_ | refine zI ?_ | refine zJ ?_ | refine zK ?_ | refine zL ?_ | refine zM ?_ | refine zN ?_ | refine zO ?_) | ((with_reducible refine yG ?_ ?_); (focus decide)) | ((with_reducible refine yA ?_); refine yB rfl ?_; (with_reducible first | refine yC ?_ | refine yD ?_)))
  refine AW.iter (true :: false :: false :: false :: false :: false :: false :: false :: false :: false :: false :: false :: false :: []) (l.takeWhile bd).length (fun k => ⟨(.p (.str (txt (l.drop k))) :: V.junk :: V.junk :: V.junk :: V.junk :: V.junk :: V.junk :: V.junk :: V.junk :: V.junk :: V.junk :: V.junk :: V.junk :: []), ⟨[], []⟩⟩) ?_ ?_
  · simp (maxSteps := 1000000) (disch := refine hold_ ?_; first | (simp [-List.getD_eq_getElem?_getD]; done) | omega) [-List.getD_eq_getElem?_getD]
  intro k hk
  have hdl : (l.drop k).length = l.length - k := List.length_drop
  have hsz := txt_size (l.drop k)
  have hg : (((txt (l.drop k)).data.toList.getD 0 0).toNat : Int) = ub ((l.drop k).getD 0 0#8) := txt_get (l.drop k) 0
  have hg0 : (l.drop k).getD 0 0#8 = l.getD k 0#8 := by simp [List.getD_eq_getElem?_getD]
  rw [hg0] at hg
  have hne := str_neq_txt (l.drop k) []
  rw [show txt [] = ByteArray.mk #[] from rfl] at hne
  have kb := blank_ct (ub (l.getD k 0#8))
  have hx : (txt (l.drop k)).extract 1 (l.drop k).length = txt (l.drop (k + 1)) := by rw [txt_extract, List.take_length, List.drop_drop]
  by_cases hkm : k < (l.takeWhile bd).length
  · have hb : blankB (ub (l.getD k 0#8)) = true := tw_get bd l k hkm
    rw [hb] at kb
    have h1 : (l.drop k == []) = false := beq_eq_false_iff_ne.2 fun e => by rw [e] at hdl; simp at hdl; omega
    rw [h1] at hne
    have h2 : 0 < (l.drop k).length := by omega
    have h3 : 1 ≤ (l.drop k).length := by omega
    have h3z : (1 : Int) ≤ (l.drop k).length := by omega
    generalize l.drop (k + 1) = Y at *
    generalize l.drop k = X at *
    repeat (first | ((with_reducible first | refine callK_at 24 ?_); refine callK_p ?_; simp (maxSteps := 1000000) (disch := refine hold_ ?_; first | (simp [hsz, hg, hne, h2, h3, h3z, hx, -List.getD_eq_getElem?_getD]; done) | omega) [hsz, hg, hne, h2, h3, h3z, hx, -List.getD_eq_getElem?_getD]; (first | refine callK1_of (Fn.ct kb Tryd.call24) ?_); (try simp (maxSteps := 1000000) (disch := refine hold_ ?_; first | (simp [hsz, hg, hne, h2, h3, h3z, hx, -List.getD_eq_getElem?_getD]; done) | omega) [hsz, hg, hne, h2, h3, h3z, hx, -List.getD_eq_getElem?_getD]); first | (with_reducible refine zZ ?_) | subst hK_) | ((first | (with_reducible first | refine zP fun K_ hK_ => ?_ | refine zQ fun K_ hK_ => ?_ | refine zT ?_ | refine zU ?_ | refine zV ?_ | refine zW ?_ | refine zX ?_ | refine zY ?_) | ((with_reducible first | refine zR ?_ ?_ fun K_ hK_ => ?_ | refine zS ?_ ?_ fun K_ hK_ => ?_); (focus kernel_rfl); (focus kernel_rfl))); first | (simp (maxSteps := 1000000) (disch := refine hold_ ?_; first | (simp [hsz, hg, hne, h2, h3, h3z, hx, -List.getD_eq_getElem?_getD]; done) | omega) [hsz, hg, hne, h2, h3, h3z, hx, -List.getD_eq_getElem?_getD]; try first | (with_reducible refine zZ ?_) | subst hK_) | subst hK_) | (with_reducible first | refine zA ?_ | refine zB ?_ | refine zC ?_ | refine zD ?_ | refine zE ?_ | refine zF ?_ | refine zG ?_ | refine zH ?_ | refine zI ?_ | refine zJ ?_ | refine zK ?_ | refine zL ?_ | refine zM ?_ | refine zN ?_ | refine zO ?_) | ((with_reducible refine yG ?_ ?_); (focus decide)) | ((with_reducible refine yA ?_); refine yB rfl ?_; (with_reducible first | refine yC ?_ | refine yD ?_)))
    refine ⟨hkm, ?_⟩
    simp (maxSteps := 1000000) (disch := refine hold_ ?_; first | (simp [-List.getD_eq_getElem?_getD]; done) | omega) [-List.getD_eq_getElem?_getD]
  · obtain rfl : k = (l.takeWhile bd).length := by omega
    by_cases hlt : (l.takeWhile bd).length < l.length
    · have hb : blankB (ub (l.getD (l.takeWhile bd).length 0#8)) = false := dw_stop bd l hlt
      rw [hb] at kb
      have h1 : (l.drop (l.takeWhile bd).length == []) = false := beq_eq_false_iff_ne.2 fun e => by rw [e] at hdl; simp at hdl; omega
      rw [h1] at hne
      have h2 : 0 < (l.drop (l.takeWhile bd).length).length := by omega
      generalize l.drop (l.takeWhile bd).length = X at *
      repeat (first | ((with_reducible first | refine callK_at 24 ?_); refine callK_p ?_; simp (maxSteps := 1000000) (disch := refine hold_ ?_; first | (simp [hsz, hg, hne, h2, -List.getD_eq_getElem?_getD]; done) | omega) [hsz, hg, hne, h2, -List.getD_eq_getElem?_getD]; (first | refine callK1_of (Fn.ct kb Tryd.call24) ?_); (try simp (maxSteps := 1000000) (disch := refine hold_ ?_; first | (simp [hsz, hg, hne, h2, -List.getD_eq_getElem?_getD]; done) | omega) [hsz, hg, hne, h2, -List.getD_eq_getElem?_getD]); first | (with_reducible refine zZ ?_) | subst hK_) | ((first | (with_reducible first | refine zP fun K_ hK_ => ?_ | refine zQ fun K_ hK_ => ?_ | refine zT ?_ | refine zU ?_ | refine zV ?_ | refine zW ?_ | refine zX ?_ | refine zY ?_) | ((with_reducible first | refine zR ?_ ?_ fun K_ hK_ => ?_ | refine zS ?_ ?_ fun K_ hK_ => ?_); (focus kernel_rfl); (focus kernel_rfl))); first | (simp (maxSteps := 1000000) (disch := refine hold_ ?_; first | (simp [hsz, hg, hne, h2, -List.getD_eq_getElem?_getD]; done) | omega) [hsz, hg, hne, h2, -List.getD_eq_getElem?_getD]; try first | (with_reducible refine zZ ?_) | subst hK_) | subst hK_) | (with_reducible first | refine zA ?_ | refine zB ?_ | refine zC ?_ | refine zD ?_ | refine zE ?_ | refine zF ?_ | refine zG ?_ | refine zH ?_ | refine zI ?_ | refine zJ ?_ | refine zK ?_ | refine zL ?_ | refine zM ?_ | refine zN ?_ | refine zO ?_) | ((with_reducible refine yG ?_ ?_); (focus decide)) | ((with_reducible refine yA ?_); refine yB rfl ?_; (with_reducible first | refine yC ?_ | refine yD ?_)))
      all_goals simp (maxSteps := 1000000) (disch := refine hold_ ?_; first | (simp [-List.getD_eq_getElem?_getD]; done) | omega) [-List.getD_eq_getElem?_getD]
    · have h1 : l.drop (l.takeWhile bd).length = [] := List.drop_eq_nil_of_le (by omega)
      rw [h1] at hne ⊢
      have t0 : txt [] = ByteArray.mk #[] := rfl
      repeat (first | ((first | (with_reducible first | refine zP fun K_ hK_ => ?_ | refine zQ fun K_ hK_ => ?_ | refine zT ?_ | refine zU ?_ | refine zV ?_ | refine zW ?_ | refine zX ?_ | refine zY ?_) | ((with_reducible first | refine zR ?_ ?_ fun K_ hK_ => ?_ | refine zS ?_ ?_ fun K_ hK_ => ?_); (focus kernel_rfl); (focus kernel_rfl))); first | (simp (maxSteps := 1000000) (disch := refine hold_ ?_; first | (simp [hne, t0, -List.getD_eq_getElem?_getD]; done) | omega) [hne, t0, -List.getD_eq_getElem?_getD]; try first | (with_reducible refine zZ ?_) | subst hK_) | subst hK_) | (with_reducible first | refine zA ?_ | refine zB ?_ | refine zC ?_ | refine zD ?_ | refine zE ?_ | refine zF ?_ | refine zG ?_ | refine zH ?_ | refine zI ?_ | refine zJ ?_ | refine zK ?_ | refine zL ?_ | refine zM ?_ | refine zN ?_ | refine zO ?_) | ((with_reducible refine yG ?_ ?_); (focus decide)) | ((with_reducible refine yA ?_); refine yB rfl ?_; (with_reducible first | refine yC ?_ | refine yD ?_)))
      all_goals simp (maxSteps := 1000000) (disch := refine hold_ ?_; first | (simp [t0, -List.getD_eq_getElem?_getD]; done) | omega) [t0, -List.getD_eq_getElem?_getD]
def okB (l : List (BitVec 8)) : Prop := ∃ c, charsL l = some c
theorem okB_nil : okB [] := ⟨[], charsL_nil⟩
theorem okB_cons {l : List (BitVec 8)} (h : okB l) (h0 : l.length ≠ 0) : okS l ≠ 0 ∧ okB (l.drop (okS l)) := by
  obtain ⟨c, hc⟩ := h
  rw [charsL, dif_neg h0] at hc
  by_cases h2 : okS l = 0
  · rw [dif_pos h2] at hc; cases hc
  · rw [dif_neg h2] at hc
    rw [Option.map_eq_some_iff] at hc
    obtain ⟨d, hd, _⟩ := hc
    exact ⟨h2, d, hd⟩
def wSt (l : List (BitVec 8)) (p : Nat) : St := ⟨(.p (.str (txt l)) :: V.junk :: V.junk :: .p (.int .i64 p) :: V.junk :: V.junk :: V.junk :: .ptr 7 0 0 :: V.junk :: V.junk :: V.junk :: V.junk :: V.junk :: V.junk :: V.junk :: V.junk :: V.junk :: V.junk :: V.junk :: V.junk :: V.junk :: V.junk :: V.junk :: V.junk :: V.junk :: V.junk :: V.junk :: V.junk :: V.junk :: V.junk :: V.junk :: V.junk :: []), ⟨[(7, (0, .iter (txt l) p))], []⟩⟩
def wordL (l : List (BitVec 8)) : List (BitVec 8) := l.take (longF true l)
set_option maxHeartbeats 4000000 in
theorem word_ct1 (l : List (BitVec 8)) (hl : l.length ≤ 4000000) (hok : okB l) : Fn Tryd.prog 46 [.str (txt l)] [.p (.str (txt (wordL l)))] := by
  have hsz := txt_size l
  have hx : ∀ p, (txt l).extract 0 p = txt (l.take p) := fun p => by rw [txt_extract]; simp
  refine Fn.of_body Tryd.func46 rfl ?_
  repeat (first | ((first | (with_reducible first | refine zP fun K_ hK_ => ?_ | refine zQ fun K_ hK_ => ?_ | refine zT ?_ | refine zU ?_ | refine zV ?_ | refine zW ?_ | refine zX ?_ | refine zY ?_) | ((with_reducible first | refine zR ?_ ?_ fun K_ hK_ => ?_ | refine zS ?_ ?_ fun K_ hK_ => ?_); (focus kernel_rfl); (focus kernel_rfl))); first | (simp (maxSteps := 1000000) (disch := refine hold_ ?_; first | (simp [-List.getD_eq_getElem?_getD]; done) | omega) [-List.getD_eq_getElem?_getD]; try first | (with_reducible refine zZ ?_) | subst hK_) | subst hK_) | (with_reducible first | refine zA ?_ | refine zB ?_ | refine zC ?_ | refine zD ?_ | refine zE ?_ | refine zF ?_ | refine zG ?_ | refine zH ?_ | refine zI ?_ | refine zJ ?_ | refine zK ?_ | refine zL ?_ | refine zM ?_ | refine zN ?_ | refine zO ?_) | ((with_reducible refine yG ?_ ?_); (focus decide)) | ((with_reducible refine yA ?_); refine yB rfl ?_; (with_reducible first | refine yC ?_ | refine yD ?_)))
  refine AW.iterI (τ := wSt l 0) (true :: false :: false :: true :: false :: false :: false :: true :: false :: false :: false :: false :: false :: false :: false :: false :: false :: false :: false :: false :: false :: false :: false :: false :: false :: false :: false :: false :: false :: false :: false :: false :: []) l.length (fun m σ => ∃ p, p ≤ l.length ∧ m = l.length - p ∧ p + longF (decide (p = 0)) (l.drop p) = longF true l ∧ okB (l.drop p) ∧ σ = wSt l p) ?_ ⟨0, by omega, by omega, by simp, hok, rfl⟩ ?_
  · (unfold wSt; simp (maxSteps := 1000000) (disch := refine hold_ ?_; first | (simp [-List.getD_eq_getElem?_getD]; done) | omega) [-List.getD_eq_getElem?_getD])
  rintro m σ ⟨p, hp, rfl, hlong, hokp, rfl⟩
  unfold wSt
  have hdl : (l.drop p).length = l.length - p := List.length_drop
  by_cases hpl : p < l.length
  · obtain ⟨hS, hokn⟩ := okB_cons hokp (by omega)
    have hd := dec_ok l p hS
    have hSl := okS_len (l.drop p)
    have hes := enc_size _ hS
    have hr0 : 0 ≤ runeN (l.drop p) := by
      obtain ⟨_, hc⟩ := okS_nat _ hS
      rcases hc with ⟨c1, c2, c3⟩ | ⟨c1, c1', c2, c3, c4, c5, c6⟩ | ⟨c1, c1', c2, c3, c4, c5, c6, c7, c8, c9, c10⟩ | ⟨c1, c1', c2, c3, c4, c5, c6, c7, c8, c9, c10, c11, c12⟩ <;> omega
    have hrn : ((runeN (l.drop p)).toNat : Int) = runeN (l.drop p) := by omega
    have kb := begins_ct (runeN (l.drop p))
    have ks := stands_ct (runeN (l.drop p))
    have hpz : ((p : Int) == 0) = decide (p = 0) := by
      by_cases h0 : p = 0
      · subst h0; rfl
      · rw [beq_eq_false_iff_ne.2 (by omega)]; simp [h0]
    by_cases hstop : ((decide (p = 0) && !begB (runeN (l.drop p))) || !staB (runeN (l.drop p))) = true
    · have hz := longF_stop (decide (p = 0)) (l.drop p) (by omega) hS hstop
      rw [hz, Nat.add_zero] at hlong
      unfold wordL
      rw [← hlong]
      clear hlong hz hes
      generalize runeN (l.drop p) = R at *
      generalize okS (l.drop p) = z at *
      generalize begB R = B at *
      generalize staB R = C at *
      by_cases h0 : p = 0
      · subst h0
        have t0 : txt [] = ByteArray.empty := rfl
        cases B <;> cases C <;> simp only [decide_true, Bool.true_and, Bool.not_true, Bool.not_false, Bool.or_true, Bool.or_false, Bool.false_eq_true] at hstop
        all_goals
          repeat (first | ((with_reducible first | refine callK_at 58 ?_ | refine callK_at 59 ?_); refine callK_p ?_; simp (maxSteps := 1000000) (disch := refine hold_ ?_; first | (simp [hsz, hd, hrn, hpl, hx, -List.getD_eq_getElem?_getD]; done) | omega) [hsz, hd, hrn, hpl, hx, -List.getD_eq_getElem?_getD]; (first | refine callK1_of (Fn.ct kb Tryd.call58) ?_ | refine callK1_of (Fn.ct ks Tryd.call59) ?_); (try simp (maxSteps := 1000000) (disch := refine hold_ ?_; first | (simp [hsz, hd, hrn, hpl, hx, -List.getD_eq_getElem?_getD]; done) | omega) [hsz, hd, hrn, hpl, hx, -List.getD_eq_getElem?_getD]); first | (with_reducible refine zZ ?_) | subst hK_) | ((first | (with_reducible first | refine zP fun K_ hK_ => ?_ | refine zQ fun K_ hK_ => ?_ | refine zT ?_ | refine zU ?_ | refine zV ?_ | refine zW ?_ | refine zX ?_ | refine zY ?_) | ((with_reducible first | refine zR ?_ ?_ fun K_ hK_ => ?_ | refine zS ?_ ?_ fun K_ hK_ => ?_); (focus kernel_rfl); (focus kernel_rfl))); first | (simp (maxSteps := 1000000) (disch := refine hold_ ?_; first | (simp [hsz, hd, hrn, hpl, hx, -List.getD_eq_getElem?_getD]; done) | omega) [hsz, hd, hrn, hpl, hx, -List.getD_eq_getElem?_getD]; try first | (with_reducible refine zZ ?_) | subst hK_) | subst hK_) | (with_reducible first | refine zA ?_ | refine zB ?_ | refine zC ?_ | refine zD ?_ | refine zE ?_ | refine zF ?_ | refine zG ?_ | refine zH ?_ | refine zI ?_ | refine zJ ?_ | refine zK ?_ | refine zL ?_ | refine zM ?_ | refine zN ?_ | refine zO ?_) | ((with_reducible refine yG ?_ ?_); (focus decide)) | ((with_reducible refine yA ?_); refine yB rfl ?_; (with_reducible first | refine yC ?_ | refine yD ?_)))
          simp (maxSteps := 1000000) (disch := refine hold_ ?_; first | (simp [hx, t0, -List.getD_eq_getElem?_getD]; done) | omega) [hx, t0, -List.getD_eq_getElem?_getD]
      · have hd0 : decide (p = 0) = false := by simp [h0]
        rw [hd0] at hpz hstop
        cases C <;> simp only [Bool.false_and, Bool.false_or, Bool.not_true, Bool.not_false, Bool.false_eq_true] at hstop
        repeat (first | ((with_reducible first | refine callK_at 58 ?_ | refine callK_at 59 ?_); refine callK_p ?_; simp (maxSteps := 1000000) (disch := refine hold_ ?_; first | (simp [hsz, hd, hrn, hpl, hx, hpz, hp, -List.getD_eq_getElem?_getD]; done) | omega) [hsz, hd, hrn, hpl, hx, hpz, hp, -List.getD_eq_getElem?_getD]; (first | refine callK1_of (Fn.ct kb Tryd.call58) ?_ | refine callK1_of (Fn.ct ks Tryd.call59) ?_); (try simp (maxSteps := 1000000) (disch := refine hold_ ?_; first | (simp [hsz, hd, hrn, hpl, hx, hpz, hp, -List.getD_eq_getElem?_getD]; done) | omega) [hsz, hd, hrn, hpl, hx, hpz, hp, -List.getD_eq_getElem?_getD]); first | (with_reducible refine zZ ?_) | subst hK_) | ((first | (with_reducible first | refine zP fun K_ hK_ => ?_ | refine zQ fun K_ hK_ => ?_ | refine zT ?_ | refine zU ?_ | refine zV ?_ | refine zW ?_ | refine zX ?_ | refine zY ?_) | ((with_reducible first | refine zR ?_ ?_ fun K_ hK_ => ?_ | refine zS ?_ ?_ fun K_ hK_ => ?_); (focus kernel_rfl); (focus kernel_rfl))); first | (simp (maxSteps := 1000000) (disch := refine hold_ ?_; first | (simp [hsz, hd, hrn, hpl, hx, hpz, hp, -List.getD_eq_getElem?_getD]; done) | omega) [hsz, hd, hrn, hpl, hx, hpz, hp, -List.getD_eq_getElem?_getD]; try first | (with_reducible refine zZ ?_) | subst hK_) | subst hK_) | (with_reducible first | refine zA ?_ | refine zB ?_ | refine zC ?_ | refine zD ?_ | refine zE ?_ | refine zF ?_ | refine zG ?_ | refine zH ?_ | refine zI ?_ | refine zJ ?_ | refine zK ?_ | refine zL ?_ | refine zM ?_ | refine zN ?_ | refine zO ?_) | ((with_reducible refine yG ?_ ?_); (focus decide)) | ((with_reducible refine yA ?_); refine yB rfl ?_; (with_reducible first | refine yC ?_ | refine yD ?_)))
        simp (maxSteps := 1000000) (disch := refine hold_ ?_; first | (simp [hx, -List.getD_eq_getElem?_getD]; done) | omega) [hx, -List.getD_eq_getElem?_getD]
    · have hstop2 : ((decide (p = 0) && !begB (runeN (l.drop p))) || !staB (runeN (l.drop p))) = false := by simpa using hstop
      have hz := longF_step (decide (p = 0)) (l.drop p) (by omega) hS hstop2
      have e1 : IntKind.i64.wrap ((p : Int) + (okS (l.drop p) : Int)) = ((p + okS (l.drop p) : Nat) : Int) := by rw [wrap_i64 _ (by omega) (by omega)]; omega
      rw [hz, List.drop_drop] at hlong
      rw [List.drop_drop] at hokn
      have hne : decide (p + okS (l.drop p) = 0) = false := by simp; omega
      have hnew : p + okS (l.drop p) + longF (decide (p + okS (l.drop p) = 0)) (l.drop (p + okS (l.drop p))) = longF true l := by rw [hne]; omega
      have hnp : p + okS (l.drop p) ≤ l.length := by omega
      clear hlong hz hne hstop
      generalize runeN (l.drop p) = R at *
      generalize okS (l.drop p) = z at *
      generalize begB R = B at *
      generalize staB R = C at *
      by_cases h0 : p = 0
      · subst h0
        cases B <;> cases C <;> simp only [decide_true, Bool.true_and, Bool.not_true, Bool.not_false, Bool.or_true, Bool.or_false, Bool.true_eq_false] at hstop2
        have e0 : IntKind.i64.wrap (z : Int) = z := wrap_i64 _ (by omega) (by omega)
        repeat (first | ((with_reducible first | refine callK_at 58 ?_ | refine callK_at 59 ?_); refine callK_p ?_; simp (maxSteps := 1000000) (disch := refine hold_ ?_; first | (simp [hsz, hd, hrn, hpl, hes, e0, -List.getD_eq_getElem?_getD]; done) | omega) [hsz, hd, hrn, hpl, hes, e0, -List.getD_eq_getElem?_getD]; (first | refine callK1_of (Fn.ct kb Tryd.call58) ?_ | refine callK1_of (Fn.ct ks Tryd.call59) ?_); (try simp (maxSteps := 1000000) (disch := refine hold_ ?_; first | (simp [hsz, hd, hrn, hpl, hes, e0, -List.getD_eq_getElem?_getD]; done) | omega) [hsz, hd, hrn, hpl, hes, e0, -List.getD_eq_getElem?_getD]); first | (with_reducible refine zZ ?_) | subst hK_) | ((first | (with_reducible first | refine zP fun K_ hK_ => ?_ | refine zQ fun K_ hK_ => ?_ | refine zT ?_ | refine zU ?_ | refine zV ?_ | refine zW ?_ | refine zX ?_ | refine zY ?_) | ((with_reducible first | refine zR ?_ ?_ fun K_ hK_ => ?_ | refine zS ?_ ?_ fun K_ hK_ => ?_); (focus kernel_rfl); (focus kernel_rfl))); first | (simp (maxSteps := 1000000) (disch := refine hold_ ?_; first | (simp [hsz, hd, hrn, hpl, hes, e0, -List.getD_eq_getElem?_getD]; done) | omega) [hsz, hd, hrn, hpl, hes, e0, -List.getD_eq_getElem?_getD]; try first | (with_reducible refine zZ ?_) | subst hK_) | subst hK_) | (with_reducible first | refine zA ?_ | refine zB ?_ | refine zC ?_ | refine zD ?_ | refine zE ?_ | refine zF ?_ | refine zG ?_ | refine zH ?_ | refine zI ?_ | refine zJ ?_ | refine zK ?_ | refine zL ?_ | refine zM ?_ | refine zN ?_ | refine zO ?_) | ((with_reducible refine yG ?_ ?_); (focus decide)) | ((with_reducible refine yA ?_); refine yB rfl ?_; (with_reducible first | refine yC ?_ | refine yD ?_)))
        refine ⟨l.length - (0 + z), wSt l (0 + z), by omega, ?_, 0 + z, hnp, rfl, hnew, hokn, rfl⟩
        (unfold wSt; simp (maxSteps := 1000000) (disch := refine hold_ ?_; first | (simp [-List.getD_eq_getElem?_getD]; done) | omega) [-List.getD_eq_getElem?_getD])
      · have hd0 : decide (p = 0) = false := by simp [h0]
        rw [hd0] at hpz hstop2
        cases C <;> simp only [Bool.false_and, Bool.false_or, Bool.not_true, Bool.not_false, Bool.true_eq_false] at hstop2
        repeat (first | ((with_reducible first | refine callK_at 58 ?_ | refine callK_at 59 ?_); refine callK_p ?_; simp (maxSteps := 1000000) (disch := refine hold_ ?_; first | (simp [hsz, hd, hrn, hpl, hes, e1, hpz, -List.getD_eq_getElem?_getD]; done) | omega) [hsz, hd, hrn, hpl, hes, e1, hpz, -List.getD_eq_getElem?_getD]; (first | refine callK1_of (Fn.ct kb Tryd.call58) ?_ | refine callK1_of (Fn.ct ks Tryd.call59) ?_); (try simp (maxSteps := 1000000) (disch := refine hold_ ?_; first | (simp [hsz, hd, hrn, hpl, hes, e1, hpz, -List.getD_eq_getElem?_getD]; done) | omega) [hsz, hd, hrn, hpl, hes, e1, hpz, -List.getD_eq_getElem?_getD]); first | (with_reducible refine zZ ?_) | subst hK_) | ((first | (with_reducible first | refine zP fun K_ hK_ => ?_ | refine zQ fun K_ hK_ => ?_ | refine zT ?_ | refine zU ?_ | refine zV ?_ | refine zW ?_ | refine zX ?_ | refine zY ?_) | ((with_reducible first | refine zR ?_ ?_ fun K_ hK_ => ?_ | refine zS ?_ ?_ fun K_ hK_ => ?_); (focus kernel_rfl); (focus kernel_rfl))); first | (simp (maxSteps := 1000000) (disch := refine hold_ ?_; first | (simp [hsz, hd, hrn, hpl, hes, e1, hpz, -List.getD_eq_getElem?_getD]; done) | omega) [hsz, hd, hrn, hpl, hes, e1, hpz, -List.getD_eq_getElem?_getD]; try first | (with_reducible refine zZ ?_) | subst hK_) | subst hK_) | (with_reducible first | refine zA ?_ | refine zB ?_ | refine zC ?_ | refine zD ?_ | refine zE ?_ | refine zF ?_ | refine zG ?_ | refine zH ?_ | refine zI ?_ | refine zJ ?_ | refine zK ?_ | refine zL ?_ | refine zM ?_ | refine zN ?_ | refine zO ?_) | ((with_reducible refine yG ?_ ?_); (focus decide)) | ((with_reducible refine yA ?_); refine yB rfl ?_; (with_reducible first | refine yC ?_ | refine yD ?_)))
        refine ⟨l.length - (p + z), wSt l (p + z), by omega, ?_, p + z, hnp, rfl, hnew, hokn, rfl⟩
        (unfold wSt; simp (maxSteps := 1000000) (disch := refine hold_ ?_; first | (simp [-List.getD_eq_getElem?_getD]; done) | omega) [-List.getD_eq_getElem?_getD])
  · obtain rfl : p = l.length := by omega
    have h0 : l.drop l.length = [] := List.drop_length
    rw [h0, longF_nil, Nat.add_zero] at hlong
    unfold wordL
    rw [← hlong]
    repeat (first | ((first | (with_reducible first | refine zP fun K_ hK_ => ?_ | refine zQ fun K_ hK_ => ?_ | refine zT ?_ | refine zU ?_ | refine zV ?_ | refine zW ?_ | refine zX ?_ | refine zY ?_) | ((with_reducible first | refine zR ?_ ?_ fun K_ hK_ => ?_ | refine zS ?_ ?_ fun K_ hK_ => ?_); (focus kernel_rfl); (focus kernel_rfl))); first | (simp (maxSteps := 1000000) (disch := refine hold_ ?_; first | (simp [hsz, -List.getD_eq_getElem?_getD]; done) | omega) [hsz, -List.getD_eq_getElem?_getD]; try first | (with_reducible refine zZ ?_) | subst hK_) | subst hK_) | (with_reducible first | refine zA ?_ | refine zB ?_ | refine zC ?_ | refine zD ?_ | refine zE ?_ | refine zF ?_ | refine zG ?_ | refine zH ?_ | refine zI ?_ | refine zJ ?_ | refine zK ?_ | refine zL ?_ | refine zM ?_ | refine zN ?_ | refine zO ?_) | ((with_reducible refine yG ?_ ?_); (focus decide)) | ((with_reducible refine yA ?_); refine yB rfl ?_; (with_reducible first | refine yC ?_ | refine yD ?_)))
    simp (maxSteps := 1000000) (disch := refine hold_ ?_; first | (simp [hx, -List.getD_eq_getElem?_getD]; done) | omega) [hx, -List.getD_eq_getElem?_getD]
end Go.Av.Lex
end
section
set_option linter.unusedSimpArgs false
set_option linter.unusedVariables false
open Go Go.Av Go.Proofs
namespace Go.Av.Lex
structure Tok where
  kind : Nat
  text : List (BitVec 8)
  n : Nat
  deriving DecidableEq
def tokP (t : Tok) : PV := .agg (.vals 1 [.int .i64 t.kind, .str (txt t.text), .int .i64 t.n])
def tkR (T : List Tok) : Row PV := .vals 3 (T.map tokP)
def rdH (S : List (BitVec 8)) (T : List Tok) (t v : Nat) (nl : Bool) : HB := .cells [.p (.str (txt S)), .row (tkR T) t v nl]
@[simp] theorem tkR_len (T : List Tok) : (tkR T).len = T.length := by simp [tkR]
@[simp] theorem tkR_sz (T : List Tok) : (tkR T).sz = 3 := rfl
theorem tkR_app (T : List Tok) (t : Tok) : appRow (tkR T) (.vals 3 [.agg (.vals 1 [.int .i64 t.kind, .str (txt t.text), .int .i64 t.n])]) = some (tkR (T ++ [t])) := by
  unfold tkR; rw [app_vals]; simp [tokP]
set_option maxHeartbeats 2000000 in
theorem put_ct (S : List (BitVec 8)) (T : List Tok) (nl : Bool) (t : Tok) (hT : T.length ≤ 100000) :
    FnG Tryd.prog 28 [.ptr 10000 0 0, .p (.int .i64 t.kind), .p (.str (txt t.text)), .p (.int .i64 t.n)] [rdH S T 10000 0 nl] 1 [] [rdH S (T ++ [t]) 0 0 false] 1 := by
  have ha := tkR_app T t
  unfold rdH
  refine FnG.of_body Tryd.func28 rfl ?_
  repeat (first | ((first | (with_reducible first | refine zP fun K_ hK_ => ?_ | refine zQ fun K_ hK_ => ?_ | refine zT ?_ | refine zU ?_ | refine zV ?_ | refine zW ?_ | refine zX ?_ | refine zY ?_) | ((with_reducible first | refine zR ?_ ?_ fun K_ hK_ => ?_ | refine zS ?_ ?_ fun K_ hK_ => ?_); (focus kernel_rfl); (focus kernel_rfl))); first | (simp (maxSteps := 1000000) (disch := refine hold_ ?_; first | (simp [hT, ha, -List.getD_eq_getElem?_getD]; done) | omega) [hT, ha, -List.getD_eq_getElem?_getD]; try first | (with_reducible refine zZ ?_) | subst hK_) | subst hK_) | (with_reducible first | refine zA ?_ | refine zB ?_ | refine zC ?_ | refine zD ?_ | refine zE ?_ | refine zF ?_ | refine zG ?_ | refine zH ?_ | refine zI ?_ | refine zJ ?_ | refine zK ?_ | refine zL ?_ | refine zM ?_ | refine zN ?_ | refine zO ?_) | ((with_reducible refine yG ?_ ?_); (focus decide)) | ((with_reducible refine yA ?_); refine yB rfl ?_; (with_reducible first | refine yC ?_ | refine yD ?_)))
  all_goals simp (maxSteps := 1000000) (disch := refine hold_ ?_; first | (simp [-List.getD_eq_getElem?_getD]; done) | omega) [-List.getD_eq_getElem?_getD]
def lookL : List (List (BitVec 8)) := [[40#8], [91#8], [64#8], [44#8], [58#8, 58#8]]
def lookT (t : Tok) : Bool := t.kind != 1 && (t.kind != 0 || !(lookL.contains t.text))
def lookB (T : List Tok) : Bool := match T.getLast? with
  | none => false
  | some t => lookT t
theorem tkR_elem (T : List Tok) (k : Nat) (h : k < T.length) : (tkR T).elem k = tokP (T.getD k ⟨0, [], 0⟩) := by
  simp [tkR, List.getD_eq_getElem?_getD, h]
set_option maxHeartbeats 2000000 in
theorem looked_ct (S : List (BitVec 8)) (T : List Tok) (nl : Bool) (hT : T.length ≤ 100000) :
    FnG Tryd.prog 27 [.ptr 10000 0 0] [rdH S T 10000 0 nl] 1 [.p (.bool (lookB T))] [rdH S T 0 0 nl] 1 := by
  have hlen := tkR_len T
  have hsz := tkR_sz T
  by_cases hE : T = []
  · subst hE
    unfold rdH
    refine FnG.of_body Tryd.func27 rfl ?_
    repeat (first | ((first | (with_reducible first | refine zP fun K_ hK_ => ?_ | refine zQ fun K_ hK_ => ?_ | refine zT ?_ | refine zU ?_ | refine zV ?_ | refine zW ?_ | refine zX ?_ | refine zY ?_) | ((with_reducible first | refine zR ?_ ?_ fun K_ hK_ => ?_ | refine zS ?_ ?_ fun K_ hK_ => ?_); (focus kernel_rfl); (focus kernel_rfl))); first | (simp (maxSteps := 1000000) (disch := refine hold_ ?_; first | (simp [hlen, -List.getD_eq_getElem?_getD]; done) | omega) [hlen, -List.getD_eq_getElem?_getD]; try first | (with_reducible refine zZ ?_) | subst hK_) | subst hK_) | (with_reducible first | refine zA ?_ | refine zB ?_ | refine zC ?_ | refine zD ?_ | refine zE ?_ | refine zF ?_ | refine zG ?_ | refine zH ?_ | refine zI ?_ | refine zJ ?_ | refine zK ?_ | refine zL ?_ | refine zM ?_ | refine zN ?_ | refine zO ?_) | ((with_reducible refine yG ?_ ?_); (focus decide)) | ((with_reducible refine yA ?_); refine yB rfl ?_; (with_reducible first | refine yC ?_ | refine yD ?_)))
    all_goals simp (maxSteps := 1000000) (disch := refine hold_ ?_; first | (simp [lookB, -List.getD_eq_getElem?_getD]; done) | omega) [lookB, -List.getD_eq_getElem?_getD]
  · have hpos : 0 < T.length := List.length_pos_iff.2 hE
    have hlast : T.getLast? = some (T.getD (T.length - 1) ⟨0, [], 0⟩) := by
      rw [List.getLast?_eq_getElem?, List.getD_eq_getElem?_getD, List.getElem?_eq_getElem (by omega)]; rfl
    have hz : ((T.length : Int) == 0) = false := beq_eq_false_iff_ne.2 (by omega)
    have w1 : IntKind.i64.wrap ((T.length : Int) - 1) = ((T.length - 1 : Nat) : Int) := by rw [wrap_i64 _ (by omega) (by omega)]; omega
    have hl1 : T.length - 1 < T.length := by omega
    have hel := tkR_elem T (T.length - 1) hl1
    have hB : lookB T = lookT (T.getD (T.length - 1) ⟨0, [], 0⟩) := by unfold lookB; rw [hlast]
    rw [hB]
    have k44 : Fn Tryd.prog 44 [.sl (.strs [ByteArray.mk #[40], ByteArray.mk #[91], ByteArray.mk #[64], ByteArray.mk #[44], ByteArray.mk #[58, 58]]) false, .str (txt (T.getD (T.length - 1) ⟨0, [], 0⟩).text)] [.p (.bool (lookL.contains (T.getD (T.length - 1) ⟨0, [], 0⟩).text))] := scont_ct lookL false _ (by decide)
    generalize T.getD (T.length - 1) ⟨0, [], 0⟩ = t at *
    obtain ⟨k, x, n⟩ := t
    unfold lookT tokP at *
    simp only at k44 hel ⊢
    generalize T.length - 1 = m at *
    generalize lookL.contains x = C at *
    unfold rdH
    have q0 : ((k : Int) != 1) = (k != 1) := by
      by_cases h : k = 1
      · subst h; rfl
      · rw [bne_iff_ne.2 h, bne_iff_ne.2 (by omega)]
    have q1 : ((k : Int) != 0) = (k != 0) := by
      by_cases h : k = 0
      · subst h; rfl
      · rw [bne_iff_ne.2 h, bne_iff_ne.2 (by omega)]
    generalize (k != 1) = A at *
    generalize (k != 0) = B at *
    cases A <;> cases B
    all_goals
      refine FnG.of_body Tryd.func27 rfl ?_
      repeat (first | ((with_reducible refine Go.Av.AW.drawSeqA (id := 3) 12 3 ?_ ?_ ?_ fun K_ hK_ => ?_); (focus kernel_rfl); (focus kernel_rfl); (focus (first | rfl | (simp; done))); (try simp (maxSteps := 1000000) (disch := refine hold_ ?_; first | (simp [hlen, hsz, hz, w1, hl1, hel, q0, q1, -List.getD_eq_getElem?_getD]; done) | omega) [hlen, hsz, hz, w1, hl1, hel, q0, q1, -List.getD_eq_getElem?_getD]); first | (with_reducible refine zZ ?_) | subst hK_) | ((with_reducible first | refine callK_at 44 ?_); refine callK_p ?_; simp (maxSteps := 1000000) (disch := refine hold_ ?_; first | (simp [hlen, hsz, hz, w1, hl1, hel, q0, q1, -List.getD_eq_getElem?_getD]; done) | omega) [hlen, hsz, hz, w1, hl1, hel, q0, q1, -List.getD_eq_getElem?_getD]; (first | refine callK1_of (Fn.ct k44 Tryd.call44) ?_); (try simp (maxSteps := 1000000) (disch := refine hold_ ?_; first | (simp [hlen, hsz, hz, w1, hl1, hel, q0, q1, -List.getD_eq_getElem?_getD]; done) | omega) [hlen, hsz, hz, w1, hl1, hel, q0, q1, -List.getD_eq_getElem?_getD]); first | (with_reducible refine zZ ?_) | subst hK_) | ((first | (with_reducible first | refine zP fun K_ hK_ => ?_ | refine zQ fun K_ hK_ => ?_ | refine zT ?_ | refine zU ?_ | refine zV ?_ | refine zW ?_ | refine zX ?_ | refine zY ?_) | ((with_reducible first | refine zR ?_ ?_ fun K_ hK_ => ?_ | refine zS ?_ ?_ fun K_ hK_ => ?_); (focus kernel_rfl); (focus kernel_rfl))); first | (simp (maxSteps := 1000000) (disch := refine hold_ ?_; first | (simp [hlen, hsz, hz, w1, hl1, hel, q0, q1, -List.getD_eq_getElem?_getD]; done) | omega) [hlen, hsz, hz, w1, hl1, hel, q0, q1, -List.getD_eq_getElem?_getD]; try first | (with_reducible refine zZ ?_) | subst hK_) | subst hK_) | (with_reducible first | refine zA ?_ | refine zB ?_ | refine zC ?_ | refine zD ?_ | refine zE ?_ | refine zF ?_ | refine zG ?_ | refine zH ?_ | refine zI ?_ | refine zJ ?_ | refine zK ?_ | refine zL ?_ | refine zM ?_ | refine zN ?_ | refine zO ?_) | ((with_reducible refine yG ?_ ?_); (focus decide)) | ((with_reducible refine yA ?_); refine yB rfl ?_; (with_reducible first | refine yC ?_ | refine yD ?_)))
      simp (maxSteps := 1000000) (disch := refine hold_ ?_; first | (simp [-List.getD_eq_getElem?_getD]; done) | omega) [-List.getD_eq_getElem?_getD]
def marksL : List (List (BitVec 8)) := [[46#8, 46#8], [58#8, 58#8], [40#8], [41#8], [91#8], [93#8], [46#8], [64#8], [44#8]]
def opsL : List (List (BitVec 8)) := [[47#8, 47#8], [33#8, 61#8], [60#8, 61#8], [62#8, 61#8], [47#8], [124#8], [43#8], [45#8], [61#8], [60#8], [62#8]]
theorem marks_ct : Fn Tryd.prog 30 [] [.row (sR marksL) 0 0 false] 1 := by
  have e : sR marksL = .strs [ByteArray.mk #[46, 46], ByteArray.mk #[58, 58], ByteArray.mk #[40], ByteArray.mk #[41], ByteArray.mk #[91], ByteArray.mk #[93], ByteArray.mk #[46], ByteArray.mk #[64], ByteArray.mk #[44]] := rfl
  rw [e]
  refine Fn.of_body Tryd.func30 rfl ?_
  repeat (first | ((first | (with_reducible first | refine zP fun K_ hK_ => ?_ | refine zQ fun K_ hK_ => ?_ | refine zT ?_ | refine zU ?_ | refine zV ?_ | refine zW ?_ | refine zX ?_ | refine zY ?_) | ((with_reducible first | refine zR ?_ ?_ fun K_ hK_ => ?_ | refine zS ?_ ?_ fun K_ hK_ => ?_); (focus kernel_rfl); (focus kernel_rfl))); first | (simp (maxSteps := 1000000) (disch := refine hold_ ?_; first | (simp [-List.getD_eq_getElem?_getD]; done) | omega) [-List.getD_eq_getElem?_getD]; try first | (with_reducible refine zZ ?_) | subst hK_) | subst hK_) | (with_reducible first | refine zA ?_ | refine zB ?_ | refine zC ?_ | refine zD ?_ | refine zE ?_ | refine zF ?_ | refine zG ?_ | refine zH ?_ | refine zI ?_ | refine zJ ?_ | refine zK ?_ | refine zL ?_ | refine zM ?_ | refine zN ?_ | refine zO ?_) | ((with_reducible refine yG ?_ ?_); (focus decide)) | ((with_reducible refine yA ?_); refine yB rfl ?_; (with_reducible first | refine yC ?_ | refine yD ?_)))
  all_goals simp (maxSteps := 1000000) (disch := refine hold_ ?_; first | (simp [-List.getD_eq_getElem?_getD]; done) | omega) [-List.getD_eq_getElem?_getD]
theorem operators_ct : Fn Tryd.prog 31 [] [.row (sR opsL) 0 0 false] 1 := by
  have e : sR opsL = .strs [ByteArray.mk #[47, 47], ByteArray.mk #[33, 61], ByteArray.mk #[60, 61], ByteArray.mk #[62, 61], ByteArray.mk #[47], ByteArray.mk #[124], ByteArray.mk #[43], ByteArray.mk #[45], ByteArray.mk #[61], ByteArray.mk #[60], ByteArray.mk #[62]] := rfl
  rw [e]
  refine Fn.of_body Tryd.func31 rfl ?_
  repeat (first | ((first | (with_reducible first | refine zP fun K_ hK_ => ?_ | refine zQ fun K_ hK_ => ?_ | refine zT ?_ | refine zU ?_ | refine zV ?_ | refine zW ?_ | refine zX ?_ | refine zY ?_) | ((with_reducible first | refine zR ?_ ?_ fun K_ hK_ => ?_ | refine zS ?_ ?_ fun K_ hK_ => ?_); (focus kernel_rfl); (focus kernel_rfl))); first | (simp (maxSteps := 1000000) (disch := refine hold_ ?_; first | (simp [-List.getD_eq_getElem?_getD]; done) | omega) [-List.getD_eq_getElem?_getD]; try first | (with_reducible refine zZ ?_) | subst hK_) | subst hK_) | (with_reducible first | refine zA ?_ | refine zB ?_ | refine zC ?_ | refine zD ?_ | refine zE ?_ | refine zF ?_ | refine zG ?_ | refine zH ?_ | refine zI ?_ | refine zJ ?_ | refine zK ?_ | refine zL ?_ | refine zM ?_ | refine zN ?_ | refine zO ?_) | ((with_reducible refine yG ?_ ?_); (focus decide)) | ((with_reducible refine yA ?_); refine yB rfl ?_; (with_reducible first | refine yC ?_ | refine yD ?_)))
  all_goals simp (maxSteps := 1000000) (disch := refine hold_ ?_; first | (simp [-List.getD_eq_getElem?_getD]; done) | omega) [-List.getD_eq_getElem?_getD]
end Go.Av.Lex
end
section
set_option linter.unusedSimpArgs false
set_option linter.unusedVariables false
open Go Go.Av Go.Proofs
namespace Go.Av.Lex
def takeL (ps : List (List (BitVec 8))) (S : List (BitVec 8)) : Option (List (BitVec 8)) := ps.find? (preB S)
theorem take_or (ps : List (List (BitVec 8))) (S : List (BitVec 8)) : (takeL ps S = none ∧ ∀ k, k < ps.length → preB S (ps.getD k []) = false) ∨ ∃ n, n < ps.length ∧ takeL ps S = some (ps.getD n []) ∧ preB S (ps.getD n []) = true ∧ ∀ k, k < n → preB S (ps.getD k []) = false := by
  unfold takeL
  induction ps with
  | nil => left; exact ⟨rfl, fun k hk => by simp at hk⟩
  | cons p ps ih =>
    rw [List.find?_cons]
    cases hp : preB S p with
    | true => right; exact ⟨0, by simp, rfl, hp, fun k hk => by omega⟩
    | false =>
      rcases ih with ⟨h1, h2⟩ | ⟨n, h1, h2, h3, h4⟩
      · left
        refine ⟨h1, ?_⟩
        intro k hk
        cases k with
        | zero => exact hp
        | succ k => exact h2 k (by simpa using hk)
      · right
        refine ⟨n + 1, by simpa using h1, h2, h3, ?_⟩
        intro k hk
        cases k with
        | zero => exact hp
        | succ k => exact h4 k (by omega)
def takeR : Option (List (BitVec 8)) → List V
  | none => [.p (.str ByteArray.empty), .p (.bool false)]
  | some x => [.p (.str (txt x)), .p (.bool true)]
set_option maxHeartbeats 2000000 in
theorem take_ct (S : List (BitVec 8)) (T : List Tok) (nl : Bool) (ps : List (List (BitVec 8))) (hp : ps.length ≤ 1000) :
    FnG Tryd.prog 29 [.ptr 10000 0 0, .row (sR ps) 10001 0 false] [rdH S T 10000 0 nl] 2 (takeR (takeL ps S)) [rdH (match takeL ps S with | some x => S.drop x.length | none => S) T 0 0 nl] 1 := by
  have hlen : (sR ps).len = ps.length := by simp [sR]
  have hsR : (sR ps).sz = 1 := rfl
  have hel : ∀ k, k < ps.length → (sR ps).elem k = .str (txt (ps.getD k [])) := by
    intro k hk
    simp [sR, List.getD_eq_getElem?_getD, hk]
  have k45 := fun x => cp_ct S x
  have t0 : ByteArray.mk #[] = ByteArray.empty := rfl
  rcases take_or ps S with ⟨h1, h2⟩ | ⟨n, h1, h2, h3, h4⟩
  · rw [h1]
    unfold rdH
    generalize sR ps = R at *
    refine FnG.of_body Tryd.func29 rfl ?_
    repeat (first | ((first | (with_reducible first | refine zP fun K_ hK_ => ?_ | refine zQ fun K_ hK_ => ?_ | refine zT ?_ | refine zU ?_ | refine zV ?_ | refine zW ?_ | refine zX ?_ | refine zY ?_) | ((with_reducible first | refine zR ?_ ?_ fun K_ hK_ => ?_ | refine zS ?_ ?_ fun K_ hK_ => ?_); (focus kernel_rfl); (focus kernel_rfl))); first | (simp (maxSteps := 1000000) (disch := refine hold_ ?_; first | (simp [hlen, -List.getD_eq_getElem?_getD]; done) | omega) [hlen, -List.getD_eq_getElem?_getD]; try first | (with_reducible refine zZ ?_) | subst hK_) | subst hK_) | (with_reducible first | refine zA ?_ | refine zB ?_ | refine zC ?_ | refine zD ?_ | refine zE ?_ | refine zF ?_ | refine zG ?_ | refine zH ?_ | refine zI ?_ | refine zJ ?_ | refine zK ?_ | refine zL ?_ | refine zM ?_ | refine zN ?_ | refine zO ?_) | ((with_reducible refine yG ?_ ?_); (focus decide)) | ((with_reducible refine yA ?_); refine yB rfl ?_; (with_reducible first | refine yC ?_ | refine yD ?_)))
    refine AW.iter (true :: false :: false :: false :: false :: false :: false :: false :: false :: false :: true :: true :: true :: false :: false :: false :: false :: false :: false :: false :: false :: false :: false :: false :: false :: false :: false :: false :: false :: false :: false :: false :: []) ps.length (fun k => ⟨(.ptr 10000 0 0 :: V.junk :: V.junk :: V.junk :: V.junk :: V.junk :: V.junk :: V.junk :: V.junk :: V.junk :: .row R 0 0 false :: .p (.int .i64 ps.length) :: .p (.int .i64 k) :: V.junk :: V.junk :: V.junk :: V.junk :: V.junk :: V.junk :: V.junk :: V.junk :: V.junk :: V.junk :: V.junk :: V.junk :: V.junk :: V.junk :: V.junk :: V.junk :: V.junk :: V.junk :: V.junk :: []), ⟨[(10000, (0, .cells [.p (.str (txt S)), .row (tkR T) 1 0 nl]))], [(0, 0), (1, 0)]⟩⟩) ?_ ?_
    · simp (maxSteps := 1000000) (disch := refine hold_ ?_; first | (simp [hlen, -List.getD_eq_getElem?_getD]; done) | omega) [hlen, -List.getD_eq_getElem?_getD]
    intro k hk
    have e1 : IntKind.i64.wrap ((k : Int) + 1) = k + 1 := wrap_i64 _ (by omega) (by omega)
    by_cases hkc : k < ps.length
    · have hkz : (k : Int) < ps.length := by omega
      have he := hel k hkc
      have kk := k45 (ps.getD k [])
      rw [h2 k hkc] at kk
      generalize ps.getD k [] = x at *
      repeat (first | ((with_reducible first | refine callK_at 45 ?_); refine callK_p ?_; simp (maxSteps := 1000000) (disch := refine hold_ ?_; first | (simp [hlen, hsR, hkc, hkz, he, e1, -List.getD_eq_getElem?_getD]; done) | omega) [hlen, hsR, hkc, hkz, he, e1, -List.getD_eq_getElem?_getD]; (first | refine callK1_of (Fn.ct kk Tryd.call45) ?_); (try simp (maxSteps := 1000000) (disch := refine hold_ ?_; first | (simp [hlen, hsR, hkc, hkz, he, e1, -List.getD_eq_getElem?_getD]; done) | omega) [hlen, hsR, hkc, hkz, he, e1, -List.getD_eq_getElem?_getD]); first | (with_reducible refine zZ ?_) | subst hK_) | ((first | (with_reducible first | refine zP fun K_ hK_ => ?_ | refine zQ fun K_ hK_ => ?_ | refine zT ?_ | refine zU ?_ | refine zV ?_ | refine zW ?_ | refine zX ?_ | refine zY ?_) | ((with_reducible first | refine zR ?_ ?_ fun K_ hK_ => ?_ | refine zS ?_ ?_ fun K_ hK_ => ?_); (focus kernel_rfl); (focus kernel_rfl))); first | (simp (maxSteps := 1000000) (disch := refine hold_ ?_; first | (simp [hlen, hsR, hkc, hkz, he, e1, -List.getD_eq_getElem?_getD]; done) | omega) [hlen, hsR, hkc, hkz, he, e1, -List.getD_eq_getElem?_getD]; try first | (with_reducible refine zZ ?_) | subst hK_) | subst hK_) | (with_reducible first | refine zA ?_ | refine zB ?_ | refine zC ?_ | refine zD ?_ | refine zE ?_ | refine zF ?_ | refine zG ?_ | refine zH ?_ | refine zI ?_ | refine zJ ?_ | refine zK ?_ | refine zL ?_ | refine zM ?_ | refine zN ?_ | refine zO ?_) | ((with_reducible refine yG ?_ ?_); (focus decide)) | ((with_reducible refine yA ?_); refine yB rfl ?_; (with_reducible first | refine yC ?_ | refine yD ?_)))
      refine ⟨hkc, ?_⟩
      simp (maxSteps := 1000000) (disch := refine hold_ ?_; first | (simp [-List.getD_eq_getElem?_getD]; done) | omega) [-List.getD_eq_getElem?_getD]
    · obtain rfl : k = ps.length := by omega
      have hkz : ¬ (ps.length : Int) < ps.length := by omega
      repeat (first | ((first | (with_reducible first | refine zP fun K_ hK_ => ?_ | refine zQ fun K_ hK_ => ?_ | refine zT ?_ | refine zU ?_ | refine zV ?_ | refine zW ?_ | refine zX ?_ | refine zY ?_) | ((with_reducible first | refine zR ?_ ?_ fun K_ hK_ => ?_ | refine zS ?_ ?_ fun K_ hK_ => ?_); (focus kernel_rfl); (focus kernel_rfl))); first | (simp (maxSteps := 1000000) (disch := refine hold_ ?_; first | (simp [hkz, -List.getD_eq_getElem?_getD]; done) | omega) [hkz, -List.getD_eq_getElem?_getD]; try first | (with_reducible refine zZ ?_) | subst hK_) | subst hK_) | (with_reducible first | refine zA ?_ | refine zB ?_ | refine zC ?_ | refine zD ?_ | refine zE ?_ | refine zF ?_ | refine zG ?_ | refine zH ?_ | refine zI ?_ | refine zJ ?_ | refine zK ?_ | refine zL ?_ | refine zM ?_ | refine zN ?_ | refine zO ?_) | ((with_reducible refine yG ?_ ?_); (focus decide)) | ((with_reducible refine yA ?_); refine yB rfl ?_; (with_reducible first | refine yC ?_ | refine yD ?_)))
      all_goals simp (maxSteps := 1000000) (disch := refine hold_ ?_; first | (simp [takeR, t0, -List.getD_eq_getElem?_getD]; done) | omega) [takeR, t0, -List.getD_eq_getElem?_getD]
  · rw [h2]
    simp only
    unfold rdH
    generalize sR ps = R at *
    refine FnG.of_body Tryd.func29 rfl ?_
    repeat (first | ((first | (with_reducible first | refine zP fun K_ hK_ => ?_ | refine zQ fun K_ hK_ => ?_ | refine zT ?_ | refine zU ?_ | refine zV ?_ | refine zW ?_ | refine zX ?_ | refine zY ?_) | ((with_reducible first | refine zR ?_ ?_ fun K_ hK_ => ?_ | refine zS ?_ ?_ fun K_ hK_ => ?_); (focus kernel_rfl); (focus kernel_rfl))); first | (simp (maxSteps := 1000000) (disch := refine hold_ ?_; first | (simp [hlen, -List.getD_eq_getElem?_getD]; done) | omega) [hlen, -List.getD_eq_getElem?_getD]; try first | (with_reducible refine zZ ?_) | subst hK_) | subst hK_) | (with_reducible first | refine zA ?_ | refine zB ?_ | refine zC ?_ | refine zD ?_ | refine zE ?_ | refine zF ?_ | refine zG ?_ | refine zH ?_ | refine zI ?_ | refine zJ ?_ | refine zK ?_ | refine zL ?_ | refine zM ?_ | refine zN ?_ | refine zO ?_) | ((with_reducible refine yG ?_ ?_); (focus decide)) | ((with_reducible refine yA ?_); refine yB rfl ?_; (with_reducible first | refine yC ?_ | refine yD ?_)))
    refine AW.iter (true :: false :: false :: false :: false :: false :: false :: false :: false :: false :: true :: true :: true :: false :: false :: false :: false :: false :: false :: false :: false :: false :: false :: false :: false :: false :: false :: false :: false :: false :: false :: false :: []) n (fun k => ⟨(.ptr 10000 0 0 :: V.junk :: V.junk :: V.junk :: V.junk :: V.junk :: V.junk :: V.junk :: V.junk :: V.junk :: .row R 0 0 false :: .p (.int .i64 ps.length) :: .p (.int .i64 k) :: V.junk :: V.junk :: V.junk :: V.junk :: V.junk :: V.junk :: V.junk :: V.junk :: V.junk :: V.junk :: V.junk :: V.junk :: V.junk :: V.junk :: V.junk :: V.junk :: V.junk :: V.junk :: V.junk :: []), ⟨[(10000, (0, .cells [.p (.str (txt S)), .row (tkR T) 1 0 nl]))], [(0, 0), (1, 0)]⟩⟩) ?_ ?_
    · simp (maxSteps := 1000000) (disch := refine hold_ ?_; first | (simp [hlen, -List.getD_eq_getElem?_getD]; done) | omega) [hlen, -List.getD_eq_getElem?_getD]
    intro k hk
    have e1 : IntKind.i64.wrap ((k : Int) + 1) = k + 1 := wrap_i64 _ (by omega) (by omega)
    have hkc : k < ps.length := by omega
    have hkz : (k : Int) < ps.length := by omega
    have he := hel k hkc
    have kk := k45 (ps.getD k [])
    by_cases hkn : k < n
    · rw [h4 k hkn] at kk
      generalize ps.getD k [] = x at *
      repeat (first | ((with_reducible first | refine callK_at 45 ?_); refine callK_p ?_; simp (maxSteps := 1000000) (disch := refine hold_ ?_; first | (simp [hlen, hsR, hkc, hkz, he, e1, -List.getD_eq_getElem?_getD]; done) | omega) [hlen, hsR, hkc, hkz, he, e1, -List.getD_eq_getElem?_getD]; (first | refine callK1_of (Fn.ct kk Tryd.call45) ?_); (try simp (maxSteps := 1000000) (disch := refine hold_ ?_; first | (simp [hlen, hsR, hkc, hkz, he, e1, -List.getD_eq_getElem?_getD]; done) | omega) [hlen, hsR, hkc, hkz, he, e1, -List.getD_eq_getElem?_getD]); first | (with_reducible refine zZ ?_) | subst hK_) | ((first | (with_reducible first | refine zP fun K_ hK_ => ?_ | refine zQ fun K_ hK_ => ?_ | refine zT ?_ | refine zU ?_ | refine zV ?_ | refine zW ?_ | refine zX ?_ | refine zY ?_) | ((with_reducible first | refine zR ?_ ?_ fun K_ hK_ => ?_ | refine zS ?_ ?_ fun K_ hK_ => ?_); (focus kernel_rfl); (focus kernel_rfl))); first | (simp (maxSteps := 1000000) (disch := refine hold_ ?_; first | (simp [hlen, hsR, hkc, hkz, he, e1, -List.getD_eq_getElem?_getD]; done) | omega) [hlen, hsR, hkc, hkz, he, e1, -List.getD_eq_getElem?_getD]; try first | (with_reducible refine zZ ?_) | subst hK_) | subst hK_) | (with_reducible first | refine zA ?_ | refine zB ?_ | refine zC ?_ | refine zD ?_ | refine zE ?_ | refine zF ?_ | refine zG ?_ | refine zH ?_ | refine zI ?_ | refine zJ ?_ | refine zK ?_ | refine zL ?_ | refine zM ?_ | refine zN ?_ | refine zO ?_) | ((with_reducible refine yG ?_ ?_); (focus decide)) | ((with_reducible refine yA ?_); refine yB rfl ?_; (with_reducible first | refine yC ?_ | refine yD ?_)))
      refine ⟨hkn, ?_⟩
      simp (maxSteps := 1000000) (disch := refine hold_ ?_; first | (simp [-List.getD_eq_getElem?_getD]; done) | omega) [-List.getD_eq_getElem?_getD]
    · obtain rfl : k = n := by omega
      rw [h3] at kk
      simp only [if_true] at kk
      generalize ps.getD k [] = x at *
      repeat (first | ((with_reducible first | refine callK_at 45 ?_); refine callK_p ?_; simp (maxSteps := 1000000) (disch := refine hold_ ?_; first | (simp [hlen, hsR, hkc, hkz, he, e1, -List.getD_eq_getElem?_getD]; done) | omega) [hlen, hsR, hkc, hkz, he, e1, -List.getD_eq_getElem?_getD]; (first | refine callK1_of (Fn.ct kk Tryd.call45) ?_); (try simp (maxSteps := 1000000) (disch := refine hold_ ?_; first | (simp [hlen, hsR, hkc, hkz, he, e1, -List.getD_eq_getElem?_getD]; done) | omega) [hlen, hsR, hkc, hkz, he, e1, -List.getD_eq_getElem?_getD]); first | (with_reducible refine zZ ?_) | subst hK_) | ((first | (with_reducible first | refine zP fun K_ hK_ => ?_ | refine zQ fun K_ hK_ => ?_ | refine zT ?_ | refine zU ?_ | refine zV ?_ | refine zW ?_ | refine zX ?_ | refine zY ?_) | ((with_reducible first | refine zR ?_ ?_ fun K_ hK_ => ?_ | refine zS ?_ ?_ fun K_ hK_ => ?_); (focus kernel_rfl); (focus kernel_rfl))); first | (simp (maxSteps := 1000000) (disch := refine hold_ ?_; first | (simp [hlen, hsR, hkc, hkz, he, e1, -List.getD_eq_getElem?_getD]; done) | omega) [hlen, hsR, hkc, hkz, he, e1, -List.getD_eq_getElem?_getD]; try first | (with_reducible refine zZ ?_) | subst hK_) | subst hK_) | (with_reducible first | refine zA ?_ | refine zB ?_ | refine zC ?_ | refine zD ?_ | refine zE ?_ | refine zF ?_ | refine zG ?_ | refine zH ?_ | refine zI ?_ | refine zJ ?_ | refine zK ?_ | refine zL ?_ | refine zM ?_ | refine zN ?_ | refine zO ?_) | ((with_reducible refine yG ?_ ?_); (focus decide)) | ((with_reducible refine yA ?_); refine yB rfl ?_; (with_reducible first | refine yC ?_ | refine yD ?_)))
      all_goals simp (maxSteps := 1000000) (disch := refine hold_ ?_; first | (simp [takeR, -List.getD_eq_getElem?_getD]; done) | omega) [takeR, -List.getD_eq_getElem?_getD]
def litL (S : List (BitVec 8)) (T : List Tok) : Bool × List (BitVec 8) × List Tok := match cutB (S.getD 0 0#8) (S.drop 1) with
  | some q => (true, q.2, T ++ [⟨2, q.1, 0⟩])
  | none => (false, [], T ++ [⟨2, S.drop 1, 0⟩])
set_option maxHeartbeats 2000000 in
theorem literal_ct (S : List (BitVec 8)) (T : List Tok) (nl : Bool) (hS : 0 < S.length) (hl : S.length ≤ 100000) (hT : T.length ≤ 100000) :
    FnG Tryd.prog 26 [.ptr 10000 0 0] [rdH S T 10000 0 nl] 1 [.p (.bool (litL S T).1)] [rdH (litL S T).2.1 (litL S T).2.2 0 0 false] 1 := by
  have hsz := txt_size S
  have h1 : 1 ≤ S.length := hS
  have h1z : (1 : Int) ≤ S.length := by omega
  have x1 : (txt S).extract 1 S.length = txt (S.drop 1) := by rw [txt_extract, List.take_length]
  have x2 : (txt S).extract 0 1 = txt [S.getD 0 0#8] := by
    rw [txt_extract, List.drop_zero]
    congr 1
    match S, hS with
    | c :: r, _ => rfl
  have k43 := cut_ct (S.drop 1) (S.getD 0 0#8) (by rw [List.length_drop]; omega)
  unfold litL
  cases hc : cutB (S.getD 0 0#8) (S.drop 1) with
  | none =>
    rw [hc] at k43
    simp only [cutR] at k43
    have kp := put_ct [] T nl ⟨2, S.drop 1, 0⟩ hT
    unfold rdH at *
    simp only
    generalize txt (S.drop 1) = X at *
    generalize [S.getD 0 0#8] = q at *
    generalize T ++ [⟨2, S.drop 1, 0⟩] = T2 at *
    refine FnG.of_body Tryd.func26 rfl ?_
    repeat (first | ((with_reducible first | refine callK_at 43 ?_); refine callK_p ?_; simp (maxSteps := 1000000) (disch := refine hold_ ?_; first | (simp [hsz, h1, h1z, x1, x2, -List.getD_eq_getElem?_getD]; done) | omega) [hsz, h1, h1z, x1, x2, -List.getD_eq_getElem?_getD]; (first | refine callK1_of (Fn.ct k43 Tryd.call43) ?_); (try simp (maxSteps := 1000000) (disch := refine hold_ ?_; first | (simp [hsz, h1, h1z, x1, x2, -List.getD_eq_getElem?_getD]; done) | omega) [hsz, h1, h1z, x1, x2, -List.getD_eq_getElem?_getD]); first | (with_reducible refine zZ ?_) | subst hK_) | ((with_reducible first | refine callK_at 28 ?_); refine callK_o (by decide) ?_; simp (maxSteps := 1000000) (disch := refine hold_ ?_; first | (simp [hsz, h1, h1z, x1, x2, -List.getD_eq_getElem?_getD]; done) | omega) [hsz, h1, h1z, x1, x2, -List.getD_eq_getElem?_getD]; (first | refine callK3_of (FnG.ct kp Tryd.call28) ?_); (try simp (maxSteps := 1000000) (disch := refine hold_ ?_; first | (simp [hsz, h1, h1z, x1, x2, -List.getD_eq_getElem?_getD]; done) | omega) [hsz, h1, h1z, x1, x2, -List.getD_eq_getElem?_getD]); first | (with_reducible refine zZ ?_) | subst hK_) | ((first | (with_reducible first | refine zP fun K_ hK_ => ?_ | refine zQ fun K_ hK_ => ?_ | refine zT ?_ | refine zU ?_ | refine zV ?_ | refine zW ?_ | refine zX ?_ | refine zY ?_) | ((with_reducible first | refine zR ?_ ?_ fun K_ hK_ => ?_ | refine zS ?_ ?_ fun K_ hK_ => ?_); (focus kernel_rfl); (focus kernel_rfl))); first | (simp (maxSteps := 1000000) (disch := refine hold_ ?_; first | (simp [hsz, h1, h1z, x1, x2, -List.getD_eq_getElem?_getD]; done) | omega) [hsz, h1, h1z, x1, x2, -List.getD_eq_getElem?_getD]; try first | (with_reducible refine zZ ?_) | subst hK_) | subst hK_) | (with_reducible first | refine zA ?_ | refine zB ?_ | refine zC ?_ | refine zD ?_ | refine zE ?_ | refine zF ?_ | refine zG ?_ | refine zH ?_ | refine zI ?_ | refine zJ ?_ | refine zK ?_ | refine zL ?_ | refine zM ?_ | refine zN ?_ | refine zO ?_) | ((with_reducible refine yG ?_ ?_); (focus decide)) | ((with_reducible refine yA ?_); refine yB rfl ?_; (with_reducible first | refine yC ?_ | refine yD ?_)))
    all_goals simp (maxSteps := 1000000) (disch := refine hold_ ?_; first | (simp [-List.getD_eq_getElem?_getD]; done) | omega) [-List.getD_eq_getElem?_getD]
  | some q =>
    rw [hc] at k43
    simp only [cutR] at k43
    have kp := put_ct q.2 T nl ⟨2, q.1, 0⟩ hT
    unfold rdH at *
    simp only at kp ⊢
    generalize txt (S.drop 1) = X at *
    generalize [S.getD 0 0#8] = qq at *
    generalize T ++ [⟨2, q.1, 0⟩] = T2 at *
    refine FnG.of_body Tryd.func26 rfl ?_
    repeat (first | ((with_reducible first | refine callK_at 43 ?_); refine callK_p ?_; simp (maxSteps := 1000000) (disch := refine hold_ ?_; first | (simp [hsz, h1, h1z, x1, x2, -List.getD_eq_getElem?_getD]; done) | omega) [hsz, h1, h1z, x1, x2, -List.getD_eq_getElem?_getD]; (first | refine callK1_of (Fn.ct k43 Tryd.call43) ?_); (try simp (maxSteps := 1000000) (disch := refine hold_ ?_; first | (simp [hsz, h1, h1z, x1, x2, -List.getD_eq_getElem?_getD]; done) | omega) [hsz, h1, h1z, x1, x2, -List.getD_eq_getElem?_getD]); first | (with_reducible refine zZ ?_) | subst hK_) | ((with_reducible first | refine callK_at 28 ?_); refine callK_o (by decide) ?_; simp (maxSteps := 1000000) (disch := refine hold_ ?_; first | (simp [hsz, h1, h1z, x1, x2, -List.getD_eq_getElem?_getD]; done) | omega) [hsz, h1, h1z, x1, x2, -List.getD_eq_getElem?_getD]; (first | refine callK3_of (FnG.ct kp Tryd.call28) ?_); (try simp (maxSteps := 1000000) (disch := refine hold_ ?_; first | (simp [hsz, h1, h1z, x1, x2, -List.getD_eq_getElem?_getD]; done) | omega) [hsz, h1, h1z, x1, x2, -List.getD_eq_getElem?_getD]); first | (with_reducible refine zZ ?_) | subst hK_) | ((first | (with_reducible first | refine zP fun K_ hK_ => ?_ | refine zQ fun K_ hK_ => ?_ | refine zT ?_ | refine zU ?_ | refine zV ?_ | refine zW ?_ | refine zX ?_ | refine zY ?_) | ((with_reducible first | refine zR ?_ ?_ fun K_ hK_ => ?_ | refine zS ?_ ?_ fun K_ hK_ => ?_); (focus kernel_rfl); (focus kernel_rfl))); first | (simp (maxSteps := 1000000) (disch := refine hold_ ?_; first | (simp [hsz, h1, h1z, x1, x2, -List.getD_eq_getElem?_getD]; done) | omega) [hsz, h1, h1z, x1, x2, -List.getD_eq_getElem?_getD]; try first | (with_reducible refine zZ ?_) | subst hK_) | subst hK_) | (with_reducible first | refine zA ?_ | refine zB ?_ | refine zC ?_ | refine zD ?_ | refine zE ?_ | refine zF ?_ | refine zG ?_ | refine zH ?_ | refine zI ?_ | refine zJ ?_ | refine zK ?_ | refine zL ?_ | refine zM ?_ | refine zN ?_ | refine zO ?_) | ((with_reducible refine yG ?_ ?_); (focus decide)) | ((with_reducible refine yA ?_); refine yB rfl ?_; (with_reducible first | refine yC ?_ | refine yD ?_)))
    all_goals simp (maxSteps := 1000000) (disch := refine hold_ ?_; first | (simp [-List.getD_eq_getElem?_getD]; done) | omega) [-List.getD_eq_getElem?_getD]
end Go.Av.Lex
end
section
set_option linter.unusedSimpArgs false
set_option linter.unusedVariables false
open Go Go.Av Go.Proofs
namespace Go.Av.Lex
def digB (c : BitVec 8) : Bool := decide (48 ≤ c.toNat) && decide (c.toNat ≤ 57)
def numS (n : Nat) (c : BitVec 8) : Nat := min (n * 10 + (c.toNat - 48)) 9007199254740993
def numV (ds : List (BitVec 8)) : Nat := ds.foldl numS 0
theorem numV_le (ds : List (BitVec 8)) : numV ds ≤ 9007199254740993 := by
  have : ∀ (l : List (BitVec 8)) (n : Nat), n ≤ 9007199254740993 → l.foldl numS n ≤ 9007199254740993 := by
    intro l
    induction l with
    | nil => intro n h; exact h
    | cons c l ih => intro n h; exact ih _ (Nat.min_le_right _ _)
  exact this ds 0 (by omega)
theorem numV_succ (S : List (BitVec 8)) (k : Nat) (h : k < S.length) : numV (S.take (k + 1)) = numS (numV (S.take k)) (S.getD k 0#8) := by
  have e : S.take (k + 1) = S.take k ++ [S.getD k 0#8] := by
    rw [List.take_add_one, List.getElem?_eq_getElem h, List.getD_eq_getElem?_getD, List.getElem?_eq_getElem h]; rfl
  unfold numV
  rw [e, List.foldl_append]; rfl
theorem tw_take (p : BitVec 8 → Bool) (t : List (BitVec 8)) : t.take (t.takeWhile p).length = t.takeWhile p := by
  conv => lhs; rw [← List.takeWhile_append_dropWhile (p := p) (l := t)]
  rw [List.take_append_of_le_length (by simp)]
  simp
def digs (S : List (BitVec 8)) : Nat := (S.takeWhile digB).length
def numR (S : List (BitVec 8)) (T : List Tok) (nl : Bool) : Int × List Tok × Bool :=
  if numV (S.takeWhile digB) > 9007199254740992 then (6, T, nl)
  else if preB (S.drop (digs S)) [46#8] then (4, T, nl)
  else (0, T ++ [⟨3, [], numV (S.takeWhile digB)⟩], false)
def nSt (S : List (BitVec 8)) (T : List Tok) (nl : Bool) (k : Nat) : St := ⟨(.ptr 10000 0 0 :: V.junk :: V.junk :: .p (.int .i64 (numV (S.take k) : Nat)) :: .p (.int .i64 k) :: V.junk :: V.junk :: V.junk :: V.junk :: V.junk :: V.junk :: V.junk :: V.junk :: V.junk :: V.junk :: V.junk :: V.junk :: V.junk :: V.junk :: V.junk :: V.junk :: V.junk :: V.junk :: V.junk :: V.junk :: V.junk :: V.junk :: V.junk :: V.junk :: V.junk :: V.junk :: V.junk :: V.junk :: V.junk :: V.junk :: V.junk :: V.junk :: V.junk :: V.junk :: V.junk :: V.junk :: V.junk :: V.junk :: V.junk :: V.junk :: V.junk :: V.junk :: V.junk :: V.junk :: V.junk :: V.junk :: V.junk :: V.junk :: V.junk :: V.junk :: V.junk :: V.junk :: V.junk :: V.junk :: V.junk :: V.junk :: V.junk :: V.junk :: V.junk :: V.junk :: []), ⟨[(10000, (0, .cells [.p (.str (txt S)), .row (tkR T) 0 0 nl]))], [(0, 0)]⟩⟩
set_option maxHeartbeats 4000000 in
theorem number_ct (S : List (BitVec 8)) (T : List Tok) (nl : Bool) (hl : S.length ≤ 100000) (hT : T.length ≤ 100000) :
    FnG Tryd.prog 25 [.ptr 10000 0 0] [rdH S T 10000 0 nl] 1 [.p (.int .i64 (numR S T nl).1)] [rdH (S.drop (digs S)) (numR S T nl).2.1 0 0 (numR S T nl).2.2] 1 := by
  have hsz := txt_size S
  have hm := tw_le digB S
  have htk := tw_take digB S
  have hst := dw_stop digB S
  have hdg : digs S = (S.takeWhile digB).length := rfl
  refine FnG.of_body Tryd.func25 rfl ?_
  unfold rdH
  repeat (first | ((first | (with_reducible first | refine zP fun K_ hK_ => ?_ | refine zQ fun K_ hK_ => ?_ | refine zT ?_ | refine zU ?_ | refine zV ?_ | refine zW ?_ | refine zX ?_ | refine zY ?_) | ((with_reducible first | refine zR ?_ ?_ fun K_ hK_ => ?_ | refine zS ?_ ?_ fun K_ hK_ => ?_); (focus kernel_rfl); (focus kernel_rfl))); first | (simp (maxSteps := 1000000) (disch := refine hold_ ?_; first | (simp [-List.getD_eq_getElem?_getD]; done) | omega) [-List.getD_eq_getElem?_getD]; try first | (with_reducible refine zZ ?_) | subst hK_) | subst hK_) | (with_reducible first | refine zA ?_ | refine zB ?_ | refine zC ?_ | refine zD ?_ | refine zE ?_ | refine zF ?_ | refine zG ?_ | refine zH ?_ | refine zI ?_ | refine zJ ?_ | refine zK ?_ | refine zL ?_ | refine zM ?_ | refine zN ?_ | refine zO ?_) | ((with_reducible refine yG ?_ ?_); (focus decide)) | ((with_reducible refine yA ?_); refine yB rfl ?_; (with_reducible first | refine yC ?_ | refine yD ?_)))
  refine AW.iter (true :: false :: false :: true :: true :: false :: false :: false :: false :: false :: false :: false :: false :: false :: false :: false :: false :: false :: false :: false :: false :: false :: false :: false :: false :: false :: false :: false :: false :: false :: false :: false :: false :: false :: false :: false :: false :: false :: false :: false :: false :: false :: false :: false :: false :: false :: false :: false :: false :: false :: false :: false :: false :: false :: false :: false :: false :: false :: false :: false :: false :: false :: false :: false :: false :: []) (digs S) (nSt S T nl) ?_ ?_
  · (unfold nSt; simp (maxSteps := 1000000) (disch := refine hold_ ?_; first | (simp [numV, -List.getD_eq_getElem?_getD]; done) | omega) [numV, -List.getD_eq_getElem?_getD])
  intro k hk
  unfold nSt
  have hg := txt_get S k
  have hn := numV_le (S.take k)
  have e1 : IntKind.i64.wrap ((k : Int) + 1) = k + 1 := wrap_i64 _ (by omega) (by omega)
  by_cases hkm : k < digs S
  · have hd := tw_get digB S k hkm
    have hkl : k < S.length := by omega
    have hkz : (k : Int) < S.length := by omega
    have hs := numV_succ S k hkl
    generalize numV (S.take (k + 1)) = N2 at *
    generalize numV (S.take k) = N at *
    generalize hc : S.getD k 0#8 = c at *
    unfold digB at hd
    rw [Bool.and_eq_true, decide_eq_true_eq, decide_eq_true_eq] at hd
    have hub : ub c = (c.toNat : Int) := rfl
    have d1 : (48 : Int) ≤ ub c := by omega
    have d2 : ub c ≤ 57 := by omega
    have w1 : IntKind.i64.wrap ((N : Int) * 10) = N * 10 := wrap_i64 _ (by omega) (by omega)
    have w2 : IntKind.u8.wrap (ub c - 48) = ub c - 48 := wrap_u8' _ (by omega) (by omega)
    have w3 : IntKind.i64.wrap (ub c - 48) = ub c - 48 := wrap_i64 _ (by omega) (by omega)
    have w4 : IntKind.i64.wrap ((N : Int) * 10 + (ub c - 48)) = N * 10 + (ub c - 48) := wrap_i64 _ (by omega) (by omega)
    have w5 : (if (9007199254740993 : Int) < N * 10 + (ub c - 48) then (9007199254740993 : Int) else N * 10 + (ub c - 48)) = (N2 : Int) := by
      rw [hs]; unfold numS; split <;> omega
    repeat (first | ((first | (with_reducible first | refine zP fun K_ hK_ => ?_ | refine zQ fun K_ hK_ => ?_ | refine zT ?_ | refine zU ?_ | refine zV ?_ | refine zW ?_ | refine zX ?_ | refine zY ?_) | ((with_reducible first | refine zR ?_ ?_ fun K_ hK_ => ?_ | refine zS ?_ ?_ fun K_ hK_ => ?_); (focus kernel_rfl); (focus kernel_rfl))); first | (simp (maxSteps := 1000000) (disch := refine hold_ ?_; first | (simp [hkl, hkz, hsz, hg, hc, d1, d2, w1, w2, w3, w4, w5, e1, -List.getD_eq_getElem?_getD]; done) | omega) [hkl, hkz, hsz, hg, hc, d1, d2, w1, w2, w3, w4, w5, e1, -List.getD_eq_getElem?_getD]; try first | (with_reducible refine zZ ?_) | subst hK_) | subst hK_) | (with_reducible first | refine zA ?_ | refine zB ?_ | refine zC ?_ | refine zD ?_ | refine zE ?_ | refine zF ?_ | refine zG ?_ | refine zH ?_ | refine zI ?_ | refine zJ ?_ | refine zK ?_ | refine zL ?_ | refine zM ?_ | refine zN ?_ | refine zO ?_) | ((with_reducible refine yG ?_ ?_); (focus decide)) | ((with_reducible refine yA ?_); refine yB rfl ?_; (with_reducible first | refine yC ?_ | refine yD ?_)))
    refine ⟨hkm, ?_⟩
    simp (maxSteps := 1000000) (disch := refine hold_ ?_; first | (simp [-List.getD_eq_getElem?_getD]; done) | omega) [-List.getD_eq_getElem?_getD]
  · obtain rfl : k = digs S := by omega
    have hr0 : (txt S).extract (digs S) S.length = txt (S.drop (digs S)) := by rw [txt_extract, List.take_length]
    have hle : digs S ≤ S.length := hm
    have hlez : (digs S : Int) ≤ S.length := by omega
    have k42 := hp_ct (S.drop (digs S)) [46#8]
    have kp := put_ct (S.drop (digs S)) T nl ⟨3, [], numV (S.takeWhile digB)⟩ hT
    rw [hdg, htk] at hn ⊢
    rw [← hdg] at *
    unfold numR
    unfold rdH at kp
    by_cases hlt : digs S < S.length
    · have hltz : (digs S : Int) < S.length := by omega
      have hns := hst hlt
      change digB (S.getD (digs S) 0#8) = false at hns
      have hub : ub (S.getD (digs S) 0#8) = ((S.getD (digs S) 0#8).toNat : Int) := rfl
      have hcc : ub (S.getD (digs S) 0#8) < 48 ∨ (48 ≤ ub (S.getD (digs S) 0#8) ∧ 57 < ub (S.getD (digs S) 0#8)) := by
        unfold digB at hns
        rw [Bool.and_eq_false_iff, decide_eq_false_iff_not, decide_eq_false_iff_not] at hns
        omega
      generalize ub (S.getD (digs S) 0#8) = U at *
      generalize numV (S.takeWhile digB) = N at *
      generalize hY : S.drop (digs S) = Y at *
      generalize digs S = m at *
      by_cases hN : N > 9007199254740992
      · have hNz : (9007199254740992 : Int) < N := by omega
        rw [if_pos hN]
        rcases hcc with h1 | ⟨h1, h2⟩
        · have h1' : ¬ 48 ≤ U := by omega
          repeat (first | ((first | (with_reducible first | refine zP fun K_ hK_ => ?_ | refine zQ fun K_ hK_ => ?_ | refine zT ?_ | refine zU ?_ | refine zV ?_ | refine zW ?_ | refine zX ?_ | refine zY ?_) | ((with_reducible first | refine zR ?_ ?_ fun K_ hK_ => ?_ | refine zS ?_ ?_ fun K_ hK_ => ?_); (focus kernel_rfl); (focus kernel_rfl))); first | (simp (maxSteps := 1000000) (disch := refine hold_ ?_; first | (simp [hlt, hltz, hsz, hg, h1', hr0, hle, hlez, hNz, -List.getD_eq_getElem?_getD]; done) | omega) [hlt, hltz, hsz, hg, h1', hr0, hle, hlez, hNz, -List.getD_eq_getElem?_getD]; try first | (with_reducible refine zZ ?_) | subst hK_) | subst hK_) | (with_reducible first | refine zA ?_ | refine zB ?_ | refine zC ?_ | refine zD ?_ | refine zE ?_ | refine zF ?_ | refine zG ?_ | refine zH ?_ | refine zI ?_ | refine zJ ?_ | refine zK ?_ | refine zL ?_ | refine zM ?_ | refine zN ?_ | refine zO ?_) | ((with_reducible refine yG ?_ ?_); (focus decide)) | ((with_reducible refine yA ?_); refine yB rfl ?_; (with_reducible first | refine yC ?_ | refine yD ?_)))
          all_goals simp (maxSteps := 1000000) (disch := refine hold_ ?_; first | (simp [-List.getD_eq_getElem?_getD]; done) | omega) [-List.getD_eq_getElem?_getD]
        · have h2' : ¬ U ≤ 57 := by omega
          repeat (first | ((first | (with_reducible first | refine zP fun K_ hK_ => ?_ | refine zQ fun K_ hK_ => ?_ | refine zT ?_ | refine zU ?_ | refine zV ?_ | refine zW ?_ | refine zX ?_ | refine zY ?_) | ((with_reducible first | refine zR ?_ ?_ fun K_ hK_ => ?_ | refine zS ?_ ?_ fun K_ hK_ => ?_); (focus kernel_rfl); (focus kernel_rfl))); first | (simp (maxSteps := 1000000) (disch := refine hold_ ?_; first | (simp [hlt, hltz, hsz, hg, h1, h2', hr0, hle, hlez, hNz, -List.getD_eq_getElem?_getD]; done) | omega) [hlt, hltz, hsz, hg, h1, h2', hr0, hle, hlez, hNz, -List.getD_eq_getElem?_getD]; try first | (with_reducible refine zZ ?_) | subst hK_) | subst hK_) | (with_reducible first | refine zA ?_ | refine zB ?_ | refine zC ?_ | refine zD ?_ | refine zE ?_ | refine zF ?_ | refine zG ?_ | refine zH ?_ | refine zI ?_ | refine zJ ?_ | refine zK ?_ | refine zL ?_ | refine zM ?_ | refine zN ?_ | refine zO ?_) | ((with_reducible refine yG ?_ ?_); (focus decide)) | ((with_reducible refine yA ?_); refine yB rfl ?_; (with_reducible first | refine yC ?_ | refine yD ?_)))
          all_goals simp (maxSteps := 1000000) (disch := refine hold_ ?_; first | (simp [-List.getD_eq_getElem?_getD]; done) | omega) [-List.getD_eq_getElem?_getD]
      · have hNz : ¬ (9007199254740992 : Int) < N := by omega
        rw [if_neg hN]
        generalize preB Y [46#8] = B at *
        generalize T ++ [⟨3, [], N⟩] = T2 at *
        cases B
        all_goals
          rcases hcc with h1 | ⟨h1, h2⟩
          · have h1' : ¬ 48 ≤ U := by omega
            repeat (first | ((with_reducible first | refine callK_at 42 ?_); refine callK_p ?_; simp (maxSteps := 1000000) (disch := refine hold_ ?_; first | (simp [hlt, hltz, hsz, hg, h1', hr0, hle, hlez, hNz, -List.getD_eq_getElem?_getD]; done) | omega) [hlt, hltz, hsz, hg, h1', hr0, hle, hlez, hNz, -List.getD_eq_getElem?_getD]; (first | refine callK1_of (Fn.ct k42 Tryd.call42) ?_); (try simp (maxSteps := 1000000) (disch := refine hold_ ?_; first | (simp [hlt, hltz, hsz, hg, h1', hr0, hle, hlez, hNz, -List.getD_eq_getElem?_getD]; done) | omega) [hlt, hltz, hsz, hg, h1', hr0, hle, hlez, hNz, -List.getD_eq_getElem?_getD]); first | (with_reducible refine zZ ?_) | subst hK_) | ((with_reducible first | refine callK_at 28 ?_); refine callK_o (by decide) ?_; simp (maxSteps := 1000000) (disch := refine hold_ ?_; first | (simp [hlt, hltz, hsz, hg, h1', hr0, hle, hlez, hNz, -List.getD_eq_getElem?_getD]; done) | omega) [hlt, hltz, hsz, hg, h1', hr0, hle, hlez, hNz, -List.getD_eq_getElem?_getD]; (first | refine callK3_of (FnG.ct kp Tryd.call28) ?_); (try simp (maxSteps := 1000000) (disch := refine hold_ ?_; first | (simp [hlt, hltz, hsz, hg, h1', hr0, hle, hlez, hNz, -List.getD_eq_getElem?_getD]; done) | omega) [hlt, hltz, hsz, hg, h1', hr0, hle, hlez, hNz, -List.getD_eq_getElem?_getD]); first | (with_reducible refine zZ ?_) | subst hK_) | ((first | (with_reducible first | refine zP fun K_ hK_ => ?_ | refine zQ fun K_ hK_ => ?_ | refine zT ?_ | refine zU ?_ | refine zV ?_ | refine zW ?_ | refine zX ?_ | refine zY ?_) | ((with_reducible first | refine zR ?_ ?_ fun K_ hK_ => ?_ | refine zS ?_ ?_ fun K_ hK_ => ?_); (focus kernel_rfl); (focus kernel_rfl))); first | (simp (maxSteps := 1000000) (disch := refine hold_ ?_; first | (simp [hlt, hltz, hsz, hg, h1', hr0, hle, hlez, hNz, -List.getD_eq_getElem?_getD]; done) | omega) [hlt, hltz, hsz, hg, h1', hr0, hle, hlez, hNz, -List.getD_eq_getElem?_getD]; try first | (with_reducible refine zZ ?_) | subst hK_) | subst hK_) | (with_reducible first | refine zA ?_ | refine zB ?_ | refine zC ?_ | refine zD ?_ | refine zE ?_ | refine zF ?_ | refine zG ?_ | refine zH ?_ | refine zI ?_ | refine zJ ?_ | refine zK ?_ | refine zL ?_ | refine zM ?_ | refine zN ?_ | refine zO ?_) | ((with_reducible refine yG ?_ ?_); (focus decide)) | ((with_reducible refine yA ?_); refine yB rfl ?_; (with_reducible first | refine yC ?_ | refine yD ?_)))
            simp (maxSteps := 1000000) (disch := refine hold_ ?_; first | (simp [-List.getD_eq_getElem?_getD]; done) | omega) [-List.getD_eq_getElem?_getD]
          · have h2' : ¬ U ≤ 57 := by omega
            repeat (first | ((with_reducible first | refine callK_at 42 ?_); refine callK_p ?_; simp (maxSteps := 1000000) (disch := refine hold_ ?_; first | (simp [hlt, hltz, hsz, hg, h1, h2', hr0, hle, hlez, hNz, -List.getD_eq_getElem?_getD]; done) | omega) [hlt, hltz, hsz, hg, h1, h2', hr0, hle, hlez, hNz, -List.getD_eq_getElem?_getD]; (first | refine callK1_of (Fn.ct k42 Tryd.call42) ?_); (try simp (maxSteps := 1000000) (disch := refine hold_ ?_; first | (simp [hlt, hltz, hsz, hg, h1, h2', hr0, hle, hlez, hNz, -List.getD_eq_getElem?_getD]; done) | omega) [hlt, hltz, hsz, hg, h1, h2', hr0, hle, hlez, hNz, -List.getD_eq_getElem?_getD]); first | (with_reducible refine zZ ?_) | subst hK_) | ((with_reducible first | refine callK_at 28 ?_); refine callK_o (by decide) ?_; simp (maxSteps := 1000000) (disch := refine hold_ ?_; first | (simp [hlt, hltz, hsz, hg, h1, h2', hr0, hle, hlez, hNz, -List.getD_eq_getElem?_getD]; done) | omega) [hlt, hltz, hsz, hg, h1, h2', hr0, hle, hlez, hNz, -List.getD_eq_getElem?_getD]; (first | refine callK3_of (FnG.ct kp Tryd.call28) ?_); (try simp (maxSteps := 1000000) (disch := refine hold_ ?_; first | (simp [hlt, hltz, hsz, hg, h1, h2', hr0, hle, hlez, hNz, -List.getD_eq_getElem?_getD]; done) | omega) [hlt, hltz, hsz, hg, h1, h2', hr0, hle, hlez, hNz, -List.getD_eq_getElem?_getD]); first | (with_reducible refine zZ ?_) | subst hK_) | ((first | (with_reducible first | refine zP fun K_ hK_ => ?_ | refine zQ fun K_ hK_ => ?_ | refine zT ?_ | refine zU ?_ | refine zV ?_ | refine zW ?_ | refine zX ?_ | refine zY ?_) | ((with_reducible first | refine zR ?_ ?_ fun K_ hK_ => ?_ | refine zS ?_ ?_ fun K_ hK_ => ?_); (focus kernel_rfl); (focus kernel_rfl))); first | (simp (maxSteps := 1000000) (disch := refine hold_ ?_; first | (simp [hlt, hltz, hsz, hg, h1, h2', hr0, hle, hlez, hNz, -List.getD_eq_getElem?_getD]; done) | omega) [hlt, hltz, hsz, hg, h1, h2', hr0, hle, hlez, hNz, -List.getD_eq_getElem?_getD]; try first | (with_reducible refine zZ ?_) | subst hK_) | subst hK_) | (with_reducible first | refine zA ?_ | refine zB ?_ | refine zC ?_ | refine zD ?_ | refine zE ?_ | refine zF ?_ | refine zG ?_ | refine zH ?_ | refine zI ?_ | refine zJ ?_ | refine zK ?_ | refine zL ?_ | refine zM ?_ | refine zN ?_ | refine zO ?_) | ((with_reducible refine yG ?_ ?_); (focus decide)) | ((with_reducible refine yA ?_); refine yB rfl ?_; (with_reducible first | refine yC ?_ | refine yD ?_)))
            simp (maxSteps := 1000000) (disch := refine hold_ ?_; first | (simp [-List.getD_eq_getElem?_getD]; done) | omega) [-List.getD_eq_getElem?_getD]
    · have hltz : ¬ (digs S : Int) < S.length := by omega
      generalize numV (S.takeWhile digB) = N at *
      generalize hY : S.drop (digs S) = Y at *
      generalize digs S = m at *
      by_cases hN : N > 9007199254740992
      · have hNz : (9007199254740992 : Int) < N := by omega
        rw [if_pos hN]
        repeat (first | ((first | (with_reducible first | refine zP fun K_ hK_ => ?_ | refine zQ fun K_ hK_ => ?_ | refine zT ?_ | refine zU ?_ | refine zV ?_ | refine zW ?_ | refine zX ?_ | refine zY ?_) | ((with_reducible first | refine zR ?_ ?_ fun K_ hK_ => ?_ | refine zS ?_ ?_ fun K_ hK_ => ?_); (focus kernel_rfl); (focus kernel_rfl))); first | (simp (maxSteps := 1000000) (disch := refine hold_ ?_; first | (simp [hltz, hsz, hr0, hle, hlez, hNz, -List.getD_eq_getElem?_getD]; done) | omega) [hltz, hsz, hr0, hle, hlez, hNz, -List.getD_eq_getElem?_getD]; try first | (with_reducible refine zZ ?_) | subst hK_) | subst hK_) | (with_reducible first | refine zA ?_ | refine zB ?_ | refine zC ?_ | refine zD ?_ | refine zE ?_ | refine zF ?_ | refine zG ?_ | refine zH ?_ | refine zI ?_ | refine zJ ?_ | refine zK ?_ | refine zL ?_ | refine zM ?_ | refine zN ?_ | refine zO ?_) | ((with_reducible refine yG ?_ ?_); (focus decide)) | ((with_reducible refine yA ?_); refine yB rfl ?_; (with_reducible first | refine yC ?_ | refine yD ?_)))
        all_goals simp (maxSteps := 1000000) (disch := refine hold_ ?_; first | (simp [-List.getD_eq_getElem?_getD]; done) | omega) [-List.getD_eq_getElem?_getD]
      · have hNz : ¬ (9007199254740992 : Int) < N := by omega
        rw [if_neg hN]
        generalize preB Y [46#8] = B at *
        generalize T ++ [⟨3, [], N⟩] = T2 at *
        cases B
        all_goals
          repeat (first | ((with_reducible first | refine callK_at 42 ?_); refine callK_p ?_; simp (maxSteps := 1000000) (disch := refine hold_ ?_; first | (simp [hltz, hsz, hr0, hle, hlez, hNz, -List.getD_eq_getElem?_getD]; done) | omega) [hltz, hsz, hr0, hle, hlez, hNz, -List.getD_eq_getElem?_getD]; (first | refine callK1_of (Fn.ct k42 Tryd.call42) ?_); (try simp (maxSteps := 1000000) (disch := refine hold_ ?_; first | (simp [hltz, hsz, hr0, hle, hlez, hNz, -List.getD_eq_getElem?_getD]; done) | omega) [hltz, hsz, hr0, hle, hlez, hNz, -List.getD_eq_getElem?_getD]); first | (with_reducible refine zZ ?_) | subst hK_) | ((with_reducible first | refine callK_at 28 ?_); refine callK_o (by decide) ?_; simp (maxSteps := 1000000) (disch := refine hold_ ?_; first | (simp [hltz, hsz, hr0, hle, hlez, hNz, -List.getD_eq_getElem?_getD]; done) | omega) [hltz, hsz, hr0, hle, hlez, hNz, -List.getD_eq_getElem?_getD]; (first | refine callK3_of (FnG.ct kp Tryd.call28) ?_); (try simp (maxSteps := 1000000) (disch := refine hold_ ?_; first | (simp [hltz, hsz, hr0, hle, hlez, hNz, -List.getD_eq_getElem?_getD]; done) | omega) [hltz, hsz, hr0, hle, hlez, hNz, -List.getD_eq_getElem?_getD]); first | (with_reducible refine zZ ?_) | subst hK_) | ((first | (with_reducible first | refine zP fun K_ hK_ => ?_ | refine zQ fun K_ hK_ => ?_ | refine zT ?_ | refine zU ?_ | refine zV ?_ | refine zW ?_ | refine zX ?_ | refine zY ?_) | ((with_reducible first | refine zR ?_ ?_ fun K_ hK_ => ?_ | refine zS ?_ ?_ fun K_ hK_ => ?_); (focus kernel_rfl); (focus kernel_rfl))); first | (simp (maxSteps := 1000000) (disch := refine hold_ ?_; first | (simp [hltz, hsz, hr0, hle, hlez, hNz, -List.getD_eq_getElem?_getD]; done) | omega) [hltz, hsz, hr0, hle, hlez, hNz, -List.getD_eq_getElem?_getD]; try first | (with_reducible refine zZ ?_) | subst hK_) | subst hK_) | (with_reducible first | refine zA ?_ | refine zB ?_ | refine zC ?_ | refine zD ?_ | refine zE ?_ | refine zF ?_ | refine zG ?_ | refine zH ?_ | refine zI ?_ | refine zJ ?_ | refine zK ?_ | refine zL ?_ | refine zM ?_ | refine zN ?_ | refine zO ?_) | ((with_reducible refine yG ?_ ?_); (focus decide)) | ((with_reducible refine yA ?_); refine yB rfl ?_; (with_reducible first | refine yC ?_ | refine yD ?_)))
          simp (maxSteps := 1000000) (disch := refine hold_ ?_; first | (simp [-List.getD_eq_getElem?_getD]; done) | omega) [-List.getD_eq_getElem?_getD]
end Go.Av.Lex
end
section
set_option linter.unusedSimpArgs false
set_option linter.unusedVariables false
open Go Go.Av Go.Proofs
namespace Go.Av.Lex
theorem longF_ok : ∀ (n : Nat) (f : Bool) (l : List (BitVec 8)), l.length ≤ n → okB l → okB (l.drop (longF f l)) := by
  intro n
  induction n with
  | zero =>
    intro f l h hok
    obtain rfl := List.eq_nil_of_length_eq_zero (Nat.le_zero.1 h)
    rw [List.drop_nil]; exact okB_nil
  | succ n ih =>
    intro f l h hok
    by_cases h0 : l.length = 0
    · obtain rfl := List.eq_nil_of_length_eq_zero h0
      rw [List.drop_nil]; exact okB_nil
    · obtain ⟨h2, hok2⟩ := okB_cons hok h0
      cases hs : ((f && !begB (runeN l)) || !staB (runeN l)) with
      | true => rw [longF_stop f l h0 h2 hs, List.drop_zero]; exact hok
      | false =>
        rw [longF_step f l h0 h2 hs, ← List.drop_drop]
        exact ih false _ (by rw [List.length_drop]; omega) hok2
theorem wordL_len (S : List (BitVec 8)) : (wordL S).length = longF true S := by
  unfold wordL; rw [List.length_take]; have := longF_le _ true S (Nat.le_refl _); omega
theorem wordL_le (S : List (BitVec 8)) : (wordL S).length ≤ S.length := by rw [wordL_len]; exact longF_le _ true S (Nat.le_refl _)
theorem okB_word {S : List (BitVec 8)} (h : okB S) : okB (S.drop (wordL S).length) := by rw [wordL_len]; exact longF_ok _ true S (Nat.le_refl _) h
theorem okB_asc {S : List (BitVec 8)} (h : okB S) (h0 : 0 < S.length) (hc : bt S 0 < 128) : okB (S.drop 1) := by
  obtain ⟨h1, h2⟩ := okB_cons h (by omega)
  have : okS S = 1 := by unfold okS; rw [if_neg (by omega), if_pos hc]
  rw [this] at h2; exact h2
theorem preB_cons {S p : List (BitVec 8)} (h : preB S p = true) : p.length ≤ S.length ∧ S.take p.length = p := by
  unfold preB at h
  rw [Bool.and_eq_true, decide_eq_true_eq, beq_iff_eq] at h; exact h
theorem preB_get {S p : List (BitVec 8)} (h : preB S p = true) (k : Nat) (hk : k < p.length) : S.getD k 0#8 = p.getD k 0#8 := by
  obtain ⟨h1, h2⟩ := preB_cons h
  rw [← h2]
  simp only [List.getD_eq_getElem?_getD, List.getElem?_take]
  rw [if_pos hk]
theorem okB_pre1 {S : List (BitVec 8)} {d : BitVec 8} (h : okB S) (hp : preB S [d] = true) (hd : d.toNat < 128) : okB (S.drop 1) := by
  have h1 := (preB_cons hp).1
  have h2 := preB_get hp 0 (by simp)
  refine okB_asc h (by have := h1; simp at this; omega) ?_
  show ub (S.getD 0 0#8) < 128
  rw [h2]; show ((d.toNat : Nat) : Int) < 128; omega
def opwL : List (List (BitVec 8)) := [[97#8, 110#8, 100#8], [111#8, 114#8], [109#8, 111#8, 100#8], [100#8, 105#8, 118#8]]
def opB (S : List (BitVec 8)) : Bool := opwL.contains (wordL S) && !(preB (S.drop (wordL S).length) [58#8] && !preB (S.drop (wordL S).length) [58#8, 58#8])
def opR (S : List (BitVec 8)) (T : List Tok) (nl : Bool) : Bool × List (BitVec 8) × List Tok × Bool :=
  if opB S then (true, S.drop (wordL S).length, T ++ [⟨1, wordL S, 0⟩], false) else (false, S, T, nl)
set_option maxHeartbeats 4000000 in
theorem operator_ct (S : List (BitVec 8)) (T : List Tok) (nl : Bool) (hl : S.length ≤ 100000) (hT : T.length ≤ 100000) (hok : okB S) :
    FnG Tryd.prog 32 [.ptr 10000 0 0] [rdH S T 10000 0 nl] 1 [.p (.bool (opR S T nl).1)] [rdH (opR S T nl).2.1 (opR S T nl).2.2.1 0 0 (opR S T nl).2.2.2] 1 := by
  have hsz := txt_size S
  have k46 := word_ct1 S (by omega) hok
  have hwl := wordL_le S
  have hws := txt_size (wordL S)
  have x1 : (txt S).extract (wordL S).length S.length = txt (S.drop (wordL S).length) := by rw [txt_extract, List.take_length]
  have hwz : ((wordL S).length : Int) ≤ S.length := by omega
  have k44 : Fn Tryd.prog 44 [.sl (.strs [ByteArray.mk #[97, 110, 100], ByteArray.mk #[111, 114], ByteArray.mk #[109, 111, 100], ByteArray.mk #[100, 105, 118]]) false, .str (txt (wordL S))] [.p (.bool (opwL.contains (wordL S)))] := scont_ct opwL false _ (by decide)
  have k1 := hp_ct (S.drop (wordL S).length) [58#8]
  have k2 := hp_ct (S.drop (wordL S).length) [58#8, 58#8]
  have kp := put_ct (S.drop (wordL S).length) T nl ⟨1, wordL S, 0⟩ hT
  unfold opR opB
  unfold rdH at *
  generalize T ++ [⟨1, wordL S, 0⟩] = T2 at *
  generalize hY : S.drop (wordL S).length = Y at *
  generalize opwL.contains (wordL S) = C at *
  generalize preB Y [58#8] = B1 at *
  generalize preB Y [58#8, 58#8] = B2 at *
  generalize wordL S = w at *
  refine FnG.of_body Tryd.func32 rfl ?_
  cases C <;> cases B1 <;> cases B2
  all_goals
    repeat (first | ((with_reducible first | refine callK_at 46 ?_ | refine callK_at 44 ?_ | refine callK_at 42 ?_); refine callK_p ?_; simp (maxSteps := 1000000) (disch := refine hold_ ?_; first | (simp [hsz, hws, hwl, hwz, x1, -List.getD_eq_getElem?_getD]; done) | omega) [hsz, hws, hwl, hwz, x1, -List.getD_eq_getElem?_getD]; (first | refine callK1_of (Fn.ct k46 Tryd.call46) ?_ | refine callK1_of (Fn.ct k44 Tryd.call44) ?_ | refine callK1_of (Fn.ct k1 Tryd.call42) ?_ | refine callK1_of (Fn.ct k2 Tryd.call42) ?_); (try simp (maxSteps := 1000000) (disch := refine hold_ ?_; first | (simp [hsz, hws, hwl, hwz, x1, -List.getD_eq_getElem?_getD]; done) | omega) [hsz, hws, hwl, hwz, x1, -List.getD_eq_getElem?_getD]); first | (with_reducible refine zZ ?_) | subst hK_) | ((with_reducible first | refine callK_at 28 ?_); refine callK_o (by decide) ?_; simp (maxSteps := 1000000) (disch := refine hold_ ?_; first | (simp [hsz, hws, hwl, hwz, x1, -List.getD_eq_getElem?_getD]; done) | omega) [hsz, hws, hwl, hwz, x1, -List.getD_eq_getElem?_getD]; (first | refine callK3_of (FnG.ct kp Tryd.call28) ?_); (try simp (maxSteps := 1000000) (disch := refine hold_ ?_; first | (simp [hsz, hws, hwl, hwz, x1, -List.getD_eq_getElem?_getD]; done) | omega) [hsz, hws, hwl, hwz, x1, -List.getD_eq_getElem?_getD]); first | (with_reducible refine zZ ?_) | subst hK_) | ((first | (with_reducible first | refine zP fun K_ hK_ => ?_ | refine zQ fun K_ hK_ => ?_ | refine zT ?_ | refine zU ?_ | refine zV ?_ | refine zW ?_ | refine zX ?_ | refine zY ?_) | ((with_reducible first | refine zR ?_ ?_ fun K_ hK_ => ?_ | refine zS ?_ ?_ fun K_ hK_ => ?_); (focus kernel_rfl); (focus kernel_rfl))); first | (simp (maxSteps := 1000000) (disch := refine hold_ ?_; first | (simp [hsz, hws, hwl, hwz, x1, -List.getD_eq_getElem?_getD]; done) | omega) [hsz, hws, hwl, hwz, x1, -List.getD_eq_getElem?_getD]; try first | (with_reducible refine zZ ?_) | subst hK_) | subst hK_) | (with_reducible first | refine zA ?_ | refine zB ?_ | refine zC ?_ | refine zD ?_ | refine zE ?_ | refine zF ?_ | refine zG ?_ | refine zH ?_ | refine zI ?_ | refine zJ ?_ | refine zK ?_ | refine zL ?_ | refine zM ?_ | refine zN ?_ | refine zO ?_) | ((with_reducible refine yG ?_ ?_); (focus decide)) | ((with_reducible refine yA ?_); refine yB rfl ?_; (with_reducible first | refine yC ?_ | refine yD ?_)))
    simp (maxSteps := 1000000) (disch := refine hold_ ?_; first | (simp [-List.getD_eq_getElem?_getD]; done) | omega) [-List.getD_eq_getElem?_getD]
def typesL : List (List (BitVec 8)) := [[99#8, 111#8, 109#8, 109#8, 101#8, 110#8, 116#8], [116#8, 101#8, 120#8, 116#8], [112#8, 114#8, 111#8, 99#8, 101#8, 115#8, 115#8, 105#8, 110#8, 103#8, 45#8, 105#8, 110#8, 115#8, 116#8, 114#8, 117#8, 99#8, 116#8, 105#8, 111#8, 110#8], [110#8, 111#8, 100#8, 101#8]]
def kindN (w next : List (BitVec 8)) : Option Nat :=
  if preB next [58#8, 58#8] then (if w.contains 58#8 then none else some 8)
  else if preB next [40#8] then some (if typesL.contains w then 7 else 6) else some 9
def namedT (S w rest : List (BitVec 8)) (T : List Tok) (nl : Bool) : Bool × List (BitVec 8) × List Tok × Bool := match kindN w (skL rest) with
  | some k => (true, rest, T ++ [⟨k, w, 0⟩], false)
  | none => (false, S, T, nl)
def fullB (rest : List (BitVec 8)) : Bool := preB rest [58#8] && !(wordL (rest.drop 1) == [])
def namedR (S : List (BitVec 8)) (T : List Tok) (nl : Bool) : Bool × List (BitVec 8) × List Tok × Bool :=
  if wordL S == [] then (false, S, T, nl)
  else if preB (S.drop (wordL S).length) [58#8, 42#8] then (true, (S.drop (wordL S).length).drop 2, T ++ [⟨5, wordL S, 0⟩], false)
  else if fullB (S.drop (wordL S).length) then namedT S (wordL S ++ 58#8 :: wordL ((S.drop (wordL S).length).drop 1)) (S.drop (wordL S ++ 58#8 :: wordL ((S.drop (wordL S).length).drop 1)).length) T nl
  else namedT S (wordL S) (S.drop (wordL S).length) T nl
end Go.Av.Lex
end
