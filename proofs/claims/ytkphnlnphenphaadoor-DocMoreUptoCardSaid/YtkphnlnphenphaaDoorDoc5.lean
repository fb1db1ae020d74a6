/- The walks of this seat's functions, and what is known of what they reckon (Doc5). Conditions: those that each theorem names. -/
import Derived.Test.YtkphnlnphenphaaDoorDoc4
import Derived.Lib.Bytealg
section
set_option linter.unusedSimpArgs false
set_option linter.unusedVariables false
set_option linter.unusedSectionVars false
open Go Go.Av Go.Proofs
namespace Go.Av.Doc
variable [ML]
set_option maxHeartbeats 40000000 in
set_option maxRecDepth 8000 in
theorem rbegins_ct (r : Int) : Fn Tryd.prog 47 [.int .i32 r] [.p (.bool (begB r))] := by
  have k : ∀ a b : Int, Fn Tryd.prog 65 [.int .i32 r, .int .i32 a, .int .i32 b] [.p (.bool (decide (a ≤ r ∧ r ≤ b)))] := between_ct r
  have hr : r < 65 ∨ (65 ≤ r ∧ r < 91) ∨ (91 ≤ r ∧ r < 95) ∨ (95 ≤ r ∧ r < 96) ∨ (96 ≤ r ∧ r < 97) ∨ (97 ≤ r ∧ r < 123) ∨ (123 ≤ r ∧ r < 128) ∨ (128 ≤ r ∧ r < 192) ∨ (192 ≤ r ∧ r < 215) ∨ (215 ≤ r ∧ r < 216) ∨ (216 ≤ r ∧ r < 247) ∨ (247 ≤ r ∧ r < 248) ∨ (248 ≤ r ∧ r < 768) ∨ (768 ≤ r ∧ r < 880) ∨ (880 ≤ r ∧ r < 894) ∨ (894 ≤ r ∧ r < 895) ∨ (895 ≤ r ∧ r < 8192) ∨ (8192 ≤ r ∧ r < 8204) ∨ (8204 ≤ r ∧ r < 8205) ∨ (8205 ≤ r ∧ r < 8206) ∨ (8206 ≤ r ∧ r < 8304) ∨ (8304 ≤ r ∧ r < 8592) ∨ (8592 ≤ r ∧ r < 11264) ∨ (11264 ≤ r ∧ r < 12272) ∨ (12272 ≤ r ∧ r < 12289) ∨ (12289 ≤ r ∧ r < 55296) ∨ (55296 ≤ r ∧ r < 63744) ∨ (63744 ≤ r ∧ r < 64976) ∨ (64976 ≤ r ∧ r < 65008) ∨ (65008 ≤ r ∧ r < 65534) ∨ (65534 ≤ r ∧ r < 65536) ∨ (65536 ≤ r ∧ r < 983040) ∨ 983040 ≤ r := by omega
  refine Fn.of_body Tryd.func47 rfl ?_
  rcases hr with hr | hr | hr | hr | hr | hr | hr | hr | hr | hr | hr | hr | hr | hr | hr | hr | hr | hr | hr | hr | hr | hr | hr | hr | hr | hr | hr | hr | hr | hr | hr | hr | hr
  all_goals
    (first | have f1 : (65 ≤ r) = True := eq_true (by omega) | have f1 : (65 ≤ r) = False := eq_false (by omega)); (first | have f2 : (97 ≤ r) = True := eq_true (by omega) | have f2 : (97 ≤ r) = False := eq_false (by omega)); (first | have f3 : (192 ≤ r) = True := eq_true (by omega) | have f3 : (192 ≤ r) = False := eq_false (by omega)); (first | have f4 : (216 ≤ r) = True := eq_true (by omega) | have f4 : (216 ≤ r) = False := eq_false (by omega)); (first | have f5 : (248 ≤ r) = True := eq_true (by omega) | have f5 : (248 ≤ r) = False := eq_false (by omega)); (first | have f6 : (768 ≤ r) = True := eq_true (by omega) | have f6 : (768 ≤ r) = False := eq_false (by omega)); (first | have f7 : (880 ≤ r) = True := eq_true (by omega) | have f7 : (880 ≤ r) = False := eq_false (by omega)); (first | have f8 : (895 ≤ r) = True := eq_true (by omega) | have f8 : (895 ≤ r) = False := eq_false (by omega)); (first | have f9 : (8204 ≤ r) = True := eq_true (by omega) | have f9 : (8204 ≤ r) = False := eq_false (by omega)); (first | have f10 : (8304 ≤ r) = True := eq_true (by omega) | have f10 : (8304 ≤ r) = False := eq_false (by omega)); (first | have f11 : (11264 ≤ r) = True := eq_true (by omega) | have f11 : (11264 ≤ r) = False := eq_false (by omega)); (first | have f12 : (12289 ≤ r) = True := eq_true (by omega) | have f12 : (12289 ≤ r) = False := eq_false (by omega)); (first | have f13 : (63744 ≤ r) = True := eq_true (by omega) | have f13 : (63744 ≤ r) = False := eq_false (by omega)); (first | have f14 : (65008 ≤ r) = True := eq_true (by omega) | have f14 : (65008 ≤ r) = False := eq_false (by omega)); (first | have f15 : (65536 ≤ r) = True := eq_true (by omega) | have f15 : (65536 ≤ r) = False := eq_false (by omega)); (first | have f16 : (r ≤ 90) = True := eq_true (by omega) | have f16 : (r ≤ 90) = False := eq_false (by omega)); (first | have f17 : (r ≤ 122) = True := eq_true (by omega) | have f17 : (r ≤ 122) = False := eq_false (by omega)); (first | have f18 : (r ≤ 214) = True := eq_true (by omega) | have f18 : (r ≤ 214) = False := eq_false (by omega)); (first | have f19 : (r ≤ 246) = True := eq_true (by omega) | have f19 : (r ≤ 246) = False := eq_false (by omega)); (first | have f20 : (r ≤ 767) = True := eq_true (by omega) | have f20 : (r ≤ 767) = False := eq_false (by omega)); (first | have f21 : (r ≤ 879) = True := eq_true (by omega) | have f21 : (r ≤ 879) = False := eq_false (by omega)); (first | have f22 : (r ≤ 893) = True := eq_true (by omega) | have f22 : (r ≤ 893) = False := eq_false (by omega)); (first | have f23 : (r ≤ 8191) = True := eq_true (by omega) | have f23 : (r ≤ 8191) = False := eq_false (by omega)); (first | have f24 : (r ≤ 8205) = True := eq_true (by omega) | have f24 : (r ≤ 8205) = False := eq_false (by omega)); (first | have f25 : (r ≤ 8591) = True := eq_true (by omega) | have f25 : (r ≤ 8591) = False := eq_false (by omega)); (first | have f26 : (r ≤ 12271) = True := eq_true (by omega) | have f26 : (r ≤ 12271) = False := eq_false (by omega)); (first | have f27 : (r ≤ 55295) = True := eq_true (by omega) | have f27 : (r ≤ 55295) = False := eq_false (by omega)); (first | have f28 : (r ≤ 64975) = True := eq_true (by omega) | have f28 : (r ≤ 64975) = False := eq_false (by omega)); (first | have f29 : (r ≤ 65533) = True := eq_true (by omega) | have f29 : (r ≤ 65533) = False := eq_false (by omega)); (first | have f30 : (r ≤ 983039) = True := eq_true (by omega) | have f30 : (r ≤ 983039) = False := eq_false (by omega)); (first | have f31 : (r < 128) = True := eq_true (by omega) | have f31 : (r < 128) = False := eq_false (by omega)); (first | have f32 : (r < 8192) = True := eq_true (by omega) | have f32 : (r < 8192) = False := eq_false (by omega)); (first | have f33 : (r < 12289) = True := eq_true (by omega) | have f33 : (r < 12289) = False := eq_false (by omega)); (first | have f34 : (r == 95) = true := beq_iff_eq.2 (by omega) | have f34 : (r == 95) = false := beq_eq_false_iff_ne.2 (by omega)); (first | have f35 : (r == 215) = true := beq_iff_eq.2 (by omega) | have f35 : (r == 215) = false := beq_eq_false_iff_ne.2 (by omega)); (first | have f36 : (r == 247) = true := beq_iff_eq.2 (by omega) | have f36 : (r == 247) = false := beq_eq_false_iff_ne.2 (by omega)); (first | have f37 : (r == 894) = true := beq_iff_eq.2 (by omega) | have f37 : (r == 894) = false := beq_eq_false_iff_ne.2 (by omega)); (first | have f38 : (r == 8204) = true := beq_iff_eq.2 (by omega) | have f38 : (r == 8204) = false := beq_eq_false_iff_ne.2 (by omega)); (first | have f39 : (r == 8205) = true := beq_iff_eq.2 (by omega) | have f39 : (r == 8205) = false := beq_eq_false_iff_ne.2 (by omega))
    (first | have fx : begB r = true := by simp [begB, inB, begL, f1, f2, f3, f4, f5, f6, f7, f8, f9, f10, f11, f12, f13, f14, f15, f16, f17, f18, f19, f20, f21, f22, f23, f24, f25, f26, f27, f28, f29, f30, f31, f32, f33, f34, f35, f36, f37, f38, f39] | have fx : begB r = false := by simp [begB, inB, begL, f1, f2, f3, f4, f5, f6, f7, f8, f9, f10, f11, f12, f13, f14, f15, f16, f17, f18, f19, f20, f21, f22, f23, f24, f25, f26, f27, f28, f29, f30, f31, f32, f33, f34, f35, f36, f37, f38, f39])
    rw [fx]
    repeat (first | ((first | refine callK_at 65 ?_); refine callK_p ?_; simp (maxSteps := 1000000) (disch := refine hold_ ?_; first | (simp [f1, f2, f3, f4, f5, f6, f7, f8, f9, f10, f11, f12, f13, f14, f15, f16, f17, f18, f19, f20, f21, f22, f23, f24, f25, f26, f27, f28, f29, f30, f31, f32, f33, f34, f35, f36, f37, f38, f39, bne, -List.getD_eq_getElem?_getD]; done) | omega) [f1, f2, f3, f4, f5, f6, f7, f8, f9, f10, f11, f12, f13, f14, f15, f16, f17, f18, f19, f20, f21, f22, f23, f24, f25, f26, f27, f28, f29, f30, f31, f32, f33, f34, f35, f36, f37, f38, f39, bne, -List.getD_eq_getElem?_getD]; (first | refine callK1_of (Fn.ct (k _ _) Tryd.call65) ?_); (try simp (maxSteps := 1000000) (disch := refine hold_ ?_; first | (simp [f1, f2, f3, f4, f5, f6, f7, f8, f9, f10, f11, f12, f13, f14, f15, f16, f17, f18, f19, f20, f21, f22, f23, f24, f25, f26, f27, f28, f29, f30, f31, f32, f33, f34, f35, f36, f37, f38, f39, bne, -List.getD_eq_getElem?_getD]; done) | omega) [f1, f2, f3, f4, f5, f6, f7, f8, f9, f10, f11, f12, f13, f14, f15, f16, f17, f18, f19, f20, f21, f22, f23, f24, f25, f26, f27, f28, f29, f30, f31, f32, f33, f34, f35, f36, f37, f38, f39, bne, -List.getD_eq_getElem?_getD]); try first | refine zZ ?_ | subst hK_) | ((first | refine zP fun K_ hK_ => ?_ | refine zQ fun K_ hK_ => ?_ | refine zR (by kernel_rfl) (by kernel_rfl) fun K_ hK_ => ?_ | refine zS (by kernel_rfl) (by kernel_rfl) fun K_ hK_ => ?_ | refine zT ?_); first | (simp (maxSteps := 1000000) (disch := refine hold_ ?_; first | (simp [f1, f2, f3, f4, f5, f6, f7, f8, f9, f10, f11, f12, f13, f14, f15, f16, f17, f18, f19, f20, f21, f22, f23, f24, f25, f26, f27, f28, f29, f30, f31, f32, f33, f34, f35, f36, f37, f38, f39, bne, -List.getD_eq_getElem?_getD]; done) | omega) [f1, f2, f3, f4, f5, f6, f7, f8, f9, f10, f11, f12, f13, f14, f15, f16, f17, f18, f19, f20, f21, f22, f23, f24, f25, f26, f27, f28, f29, f30, f31, f32, f33, f34, f35, f36, f37, f38, f39, bne, -List.getD_eq_getElem?_getD]; try first | refine zZ ?_ | subst hK_) | subst hK_) | refine zA ?_ | refine zB ?_ | refine zC ?_ | refine zD ?_ | refine zE ?_ | refine zF ?_ | refine zG ?_ | refine zH ?_ | refine zI ?_ | refine zJ ?_ | refine zK ?_ | refine zL ?_ | refine zM ?_ | refine zN ?_ | refine zO ?_ | refine yG (by decide) ?_ | refine AW.condT rfl ?_ | refine AW.condF rfl ?_)
    simp (maxSteps := 1000000) (disch := refine hold_ ?_; first | (simp [f1, f2, f3, f4, f5, f6, f7, f8, f9, f10, f11, f12, f13, f14, f15, f16, f17, f18, f19, f20, f21, f22, f23, f24, f25, f26, f27, f28, f29, f30, f31, f32, f33, f34, f35, f36, f37, f38, f39, -List.getD_eq_getElem?_getD]; done) | omega) [f1, f2, f3, f4, f5, f6, f7, f8, f9, f10, f11, f12, f13, f14, f15, f16, f17, f18, f19, f20, f21, f22, f23, f24, f25, f26, f27, f28, f29, f30, f31, f32, f33, f34, f35, f36, f37, f38, f39, -List.getD_eq_getElem?_getD]
set_option maxHeartbeats 40000000 in
set_option maxRecDepth 8000 in
theorem stands_ct (r : Int) : Fn Tryd.prog 77 [.int .i32 r] [.p (.bool (staB r))] := by
  have k := in_ct r false staL (by decide)
  have hsp : spR staL = .vals 2 [.agg (.vals 1 [.int .i32 48, .int .i32 57]), .agg (.vals 1 [.int .i32 768, .int .i32 879]), .agg (.vals 1 [.int .i32 8255, .int .i32 8256])] := rfl
  rw [hsp] at k
  have kb := begins_ct r
  unfold staB
  generalize begB r = B at *
  generalize inB r staL = X at *
  refine Fn.of_body Tryd.func77 rfl ?_
  cases h1 : r == 45 <;> cases h2 : r == 46 <;> cases h3 : r == 183 <;> cases B
  all_goals
    repeat (first | ((first | refine callK_at 76 ?_ | refine callK_at 85 ?_); refine callK_p ?_; simp (maxSteps := 1000000) (disch := refine hold_ ?_; first | (simp [h1, h2, h3, -List.getD_eq_getElem?_getD]; done) | omega) [h1, h2, h3, -List.getD_eq_getElem?_getD]; (first | ((with_reducible refine k1_at 76 ?_); refine callK1_of (Fn.ct kb Tryd.call76) ?_) | ((with_reducible refine k1_at 85 ?_); refine callK1_of (Fn.ct k Tryd.call85) ?_)); (try simp (maxSteps := 1000000) (disch := refine hold_ ?_; first | (simp [h1, h2, h3, -List.getD_eq_getElem?_getD]; done) | omega) [h1, h2, h3, -List.getD_eq_getElem?_getD]); try first | refine zZ ?_ | subst hK_) | ((first | refine zP fun K_ hK_ => ?_ | refine zQ fun K_ hK_ => ?_ | refine zR (by kernel_rfl) (by kernel_rfl) fun K_ hK_ => ?_ | refine zS (by kernel_rfl) (by kernel_rfl) fun K_ hK_ => ?_ | refine zT ?_); first | (simp (maxSteps := 1000000) (disch := refine hold_ ?_; first | (simp [h1, h2, h3, -List.getD_eq_getElem?_getD]; done) | omega) [h1, h2, h3, -List.getD_eq_getElem?_getD]; try first | refine zZ ?_ | subst hK_) | subst hK_) | refine zA ?_ | refine zB ?_ | refine zC ?_ | refine zD ?_ | refine zE ?_ | refine zF ?_ | refine zG ?_ | refine zH ?_ | refine zI ?_ | refine zJ ?_ | refine zK ?_ | refine zL ?_ | refine zM ?_ | refine zN ?_ | refine zO ?_ | refine yG (by decide) ?_ | refine AW.condT rfl ?_ | refine AW.condF rfl ?_)
    simp (maxSteps := 1000000) (disch := refine hold_ ?_; first | (simp [h1, h2, h3, -List.getD_eq_getElem?_getD]; done) | omega) [h1, h2, h3, -List.getD_eq_getElem?_getD]
set_option maxHeartbeats 40000000 in
set_option maxRecDepth 8000 in
theorem rstands_ct (r : Int) : Fn Tryd.prog 48 [.int .i32 r] [.p (.bool (staB r))] := by
  have k : ∀ a b : Int, Fn Tryd.prog 65 [.int .i32 r, .int .i32 a, .int .i32 b] [.p (.bool (decide (a ≤ r ∧ r ≤ b)))] := between_ct r
  have kb := rbegins_ct r
  have hr : r < 45 ∨ r = 45 ∨ r = 46 ∨ r = 47 ∨ (48 ≤ r ∧ r ≤ 57) ∨ (58 ≤ r ∧ r < 183) ∨ r = 183 ∨ (183 < r ∧ r < 768) ∨ (768 ≤ r ∧ r ≤ 879) ∨ (879 < r ∧ r < 8255) ∨ r = 8255 ∨ r = 8256 ∨ 8256 < r := by omega
  refine Fn.of_body Tryd.func48 rfl ?_
  rcases hr with hr | hr | hr | hr | hr | hr | hr | hr | hr | hr | hr | hr | hr
  all_goals
    (first | have f1 : (48 ≤ r) = True := eq_true (by omega) | have f1 : (48 ≤ r) = False := eq_false (by omega)); (first | have f2 : (r ≤ 57) = True := eq_true (by omega) | have f2 : (r ≤ 57) = False := eq_false (by omega)); (first | have f3 : (768 ≤ r) = True := eq_true (by omega) | have f3 : (768 ≤ r) = False := eq_false (by omega)); (first | have f4 : (r ≤ 879) = True := eq_true (by omega) | have f4 : (r ≤ 879) = False := eq_false (by omega)); (first | have f5 : (8255 ≤ r) = True := eq_true (by omega) | have f5 : (8255 ≤ r) = False := eq_false (by omega)); (first | have f6 : (r ≤ 8256) = True := eq_true (by omega) | have f6 : (r ≤ 8256) = False := eq_false (by omega)); (first | have f7 : (r == 45) = true := beq_iff_eq.2 (by omega) | have f7 : (r == 45) = false := beq_eq_false_iff_ne.2 (by omega)); (first | have f8 : (r == 46) = true := beq_iff_eq.2 (by omega) | have f8 : (r == 46) = false := beq_eq_false_iff_ne.2 (by omega)); (first | have f9 : (r == 183) = true := beq_iff_eq.2 (by omega) | have f9 : (r == 183) = false := beq_eq_false_iff_ne.2 (by omega)); (first | have f10 : (r == 8255) = true := beq_iff_eq.2 (by omega) | have f10 : (r == 8255) = false := beq_eq_false_iff_ne.2 (by omega)); (first | have f11 : (r == 8256) = true := beq_iff_eq.2 (by omega) | have f11 : (r == 8256) = false := beq_eq_false_iff_ne.2 (by omega))
    (first | have fx : (r == 45 || r == 46 || r == 183 || inB r staL) = true := by simp [inB, staL, f1, f2, f3, f4, f5, f6, f7, f8, f9, f10, f11] | have fx : (r == 45 || r == 46 || r == 183 || inB r staL) = false := by simp [inB, staL, f1, f2, f3, f4, f5, f6, f7, f8, f9, f10, f11])
    have fs : staB r = (begB r || (r == 45 || r == 46 || r == 183 || inB r staL)) := by unfold staB; simp only [Bool.or_assoc]
    rw [fs, fx]
    generalize begB r = B at *
    cases B
  all_goals
    repeat (first | ((first | refine callK_at 47 ?_ | refine callK_at 65 ?_); refine callK_p ?_; simp (maxSteps := 1000000) (disch := refine hold_ ?_; first | (simp [f1, f2, f3, f4, f5, f6, f7, f8, f9, f10, f11, -List.getD_eq_getElem?_getD]; done) | omega) [f1, f2, f3, f4, f5, f6, f7, f8, f9, f10, f11, -List.getD_eq_getElem?_getD]; (first | ((with_reducible refine k1_at 47 ?_); refine callK1_of (Fn.ct kb Tryd.call47) ?_) | ((with_reducible refine k1_at 65 ?_); refine callK1_of (Fn.ct (k _ _) Tryd.call65) ?_)); (try simp (maxSteps := 1000000) (disch := refine hold_ ?_; first | (simp [f1, f2, f3, f4, f5, f6, f7, f8, f9, f10, f11, -List.getD_eq_getElem?_getD]; done) | omega) [f1, f2, f3, f4, f5, f6, f7, f8, f9, f10, f11, -List.getD_eq_getElem?_getD]); try first | refine zZ ?_ | subst hK_) | ((first | refine zP fun K_ hK_ => ?_ | refine zQ fun K_ hK_ => ?_ | refine zR (by kernel_rfl) (by kernel_rfl) fun K_ hK_ => ?_ | refine zS (by kernel_rfl) (by kernel_rfl) fun K_ hK_ => ?_ | refine zT ?_); first | (simp (maxSteps := 1000000) (disch := refine hold_ ?_; first | (simp [f1, f2, f3, f4, f5, f6, f7, f8, f9, f10, f11, -List.getD_eq_getElem?_getD]; done) | omega) [f1, f2, f3, f4, f5, f6, f7, f8, f9, f10, f11, -List.getD_eq_getElem?_getD]; try first | refine zZ ?_ | subst hK_) | subst hK_) | refine zA ?_ | refine zB ?_ | refine zC ?_ | refine zD ?_ | refine zE ?_ | refine zF ?_ | refine zG ?_ | refine zH ?_ | refine zI ?_ | refine zJ ?_ | refine zK ?_ | refine zL ?_ | refine zM ?_ | refine zN ?_ | refine zO ?_ | refine yG (by decide) ?_ | refine AW.condT rfl ?_ | refine AW.condF rfl ?_)
    simp (maxSteps := 1000000) (disch := refine hold_ ?_; first | (simp [f1, f2, f3, f4, f5, f6, f7, f8, f9, f10, f11, -List.getD_eq_getElem?_getD]; done) | omega) [f1, f2, f3, f4, f5, f6, f7, f8, f9, f10, f11, -List.getD_eq_getElem?_getD]
end Go.Av.Doc
end
section
set_option linter.unusedSimpArgs false
set_option linter.unusedVariables false
set_option linter.unusedSectionVars false
open Go Go.Av Go.Proofs
namespace Go.Av.Doc
variable [ML]
end Go.Av.Doc
end
section
set_option linter.unusedSimpArgs false
set_option linter.unusedVariables false
set_option linter.unusedSectionVars false
open Go Go.Av Go.Proofs
namespace Go.Av.Doc
variable [ML]
theorem first_not (p : Int → Bool) : ∀ (l : List Int), ((∀ k, k < l.length → p (l.getD k 0) = true) ∧ l.all p = true) ∨ ((∃ n, n < l.length ∧ p (l.getD n 0) = false ∧ ∀ k, k < n → p (l.getD k 0) = true) ∧ l.all p = false)
  | [] => .inl ⟨fun k hk => by simp at hk, rfl⟩
  | r :: l => by
    by_cases hr : p r = true
    · rcases first_not p l with ⟨h, ha⟩ | ⟨⟨n, h1, h2, h3⟩, ha⟩
      · left
        refine ⟨fun k hk => ?_, by simp [hr, ha]⟩
        cases k with
        | zero => simpa using hr
        | succ k => simpa using h k (by simpa using hk)
      · right
        refine ⟨⟨n + 1, by simpa using h1, by simpa using h2, fun k hk => ?_⟩, by simp [ha]⟩
        cases k with
        | zero => simpa using hr
        | succ k => simpa using h3 k (by omega)
    · right
      exact ⟨⟨0, by simp, by simpa using hr, fun k hk => by omega⟩, by simp [hr]⟩
def nameC : List Int → Bool
  | [] => false
  | r :: t => begB r && (r :: t).all staB
def nameB (l : List (BitVec 8)) : Bool := match charsL l with
  | some c => nameC c
  | none => false
set_option maxHeartbeats 8000000 in
theorem is_ct (l : List (BitVec 8)) (hl : l.length ≤ 4000000) : Fn Tryd.prog 55 [.str (txt l)] [.p (.bool (nameB l))] := by
  cases hc : charsL l with
  | none =>
    have hn : nameB l = false := by unfold nameB; rw [hc]
    have k21 := uchars_bad false l hl hc
    rw [hn]
    refine Fn.of_body Tryd.func55 rfl ?_
    repeat (first | ((first | refine zP fun K_ hK_ => ?_ | refine zQ fun K_ hK_ => ?_ | refine zR (by kernel_rfl) (by kernel_rfl) fun K_ hK_ => ?_ | refine zS (by kernel_rfl) (by kernel_rfl) fun K_ hK_ => ?_ | refine zT ?_); first | (simp (maxSteps := 1000000) (disch := refine hold_ ?_; first | (simp [txt_bytes, txt_size, -List.getD_eq_getElem?_getD]; done) | omega) [txt_bytes, txt_size, -List.getD_eq_getElem?_getD]; try first | refine zZ ?_ | subst hK_) | subst hK_) | refine zA ?_ | refine zB ?_ | refine zC ?_ | refine zD ?_ | refine zE ?_ | refine zF ?_ | refine zG ?_ | refine zH ?_ | refine zI ?_ | refine zJ ?_ | refine zK ?_ | refine zL ?_ | refine zM ?_ | refine zN ?_ | refine zO ?_ | refine yG (by decide) ?_ | refine AW.condT rfl ?_ | refine AW.condF rfl ?_)
    (refine callK_p ?_; simp (maxSteps := 1000000) (disch := refine hold_ ?_; first | (simp [txt_bytes, -List.getD_eq_getElem?_getD]; done) | omega) [txt_bytes, -List.getD_eq_getElem?_getD]; refine callK1_of (Fn.ct k21 Tryd.call75) ?_; (try simp (maxSteps := 1000000) (disch := refine hold_ ?_; first | (simp [txt_bytes, -List.getD_eq_getElem?_getD]; done) | omega) [txt_bytes, -List.getD_eq_getElem?_getD]); first | refine zZ ?_ | subst hK_)
    repeat (first | ((first | refine zP fun K_ hK_ => ?_ | refine zQ fun K_ hK_ => ?_ | refine zR (by kernel_rfl) (by kernel_rfl) fun K_ hK_ => ?_ | refine zS (by kernel_rfl) (by kernel_rfl) fun K_ hK_ => ?_ | refine zT ?_); first | (simp (maxSteps := 1000000) (disch := refine hold_ ?_; first | (simp [-List.getD_eq_getElem?_getD]; done) | omega) [-List.getD_eq_getElem?_getD]; try first | refine zZ ?_ | subst hK_) | subst hK_) | refine zA ?_ | refine zB ?_ | refine zC ?_ | refine zD ?_ | refine zE ?_ | refine zF ?_ | refine zG ?_ | refine zH ?_ | refine zI ?_ | refine zJ ?_ | refine zK ?_ | refine zL ?_ | refine zM ?_ | refine zN ?_ | refine zO ?_ | refine yG (by decide) ?_ | refine AW.condT rfl ?_ | refine AW.condF rfl ?_)
    simp (maxSteps := 1000000) (disch := refine hold_ ?_; first | (simp [-List.getD_eq_getElem?_getD]; done) | omega) [-List.getD_eq_getElem?_getD]
  | some c =>
    have hcl := charsL_len hc
    have k21 := uchars_ok false l hl c hc
    have hn : nameB l = nameC c := by unfold nameB; rw [hc]
    rw [hn]
    cases c with
    | nil =>
      refine Fn.of_body Tryd.func55 rfl ?_
      repeat (first | ((first | refine zP fun K_ hK_ => ?_ | refine zQ fun K_ hK_ => ?_ | refine zR (by kernel_rfl) (by kernel_rfl) fun K_ hK_ => ?_ | refine zS (by kernel_rfl) (by kernel_rfl) fun K_ hK_ => ?_ | refine zT ?_); first | (simp (maxSteps := 1000000) (disch := refine hold_ ?_; first | (simp [txt_bytes, txt_size, -List.getD_eq_getElem?_getD]; done) | omega) [txt_bytes, txt_size, -List.getD_eq_getElem?_getD]; try first | refine zZ ?_ | subst hK_) | subst hK_) | refine zA ?_ | refine zB ?_ | refine zC ?_ | refine zD ?_ | refine zE ?_ | refine zF ?_ | refine zG ?_ | refine zH ?_ | refine zI ?_ | refine zJ ?_ | refine zK ?_ | refine zL ?_ | refine zM ?_ | refine zN ?_ | refine zO ?_ | refine yG (by decide) ?_ | refine AW.condT rfl ?_ | refine AW.condF rfl ?_)
      (refine callK_p ?_; simp (maxSteps := 1000000) (disch := refine hold_ ?_; first | (simp [txt_bytes, -List.getD_eq_getElem?_getD]; done) | omega) [txt_bytes, -List.getD_eq_getElem?_getD]; refine callK1_of (Fn.ct k21 Tryd.call75) ?_; (try simp (maxSteps := 1000000) (disch := refine hold_ ?_; first | (simp [txt_bytes, -List.getD_eq_getElem?_getD]; done) | omega) [txt_bytes, -List.getD_eq_getElem?_getD]); first | refine zZ ?_ | subst hK_)
      repeat (first | ((first | refine zP fun K_ hK_ => ?_ | refine zQ fun K_ hK_ => ?_ | refine zR (by kernel_rfl) (by kernel_rfl) fun K_ hK_ => ?_ | refine zS (by kernel_rfl) (by kernel_rfl) fun K_ hK_ => ?_ | refine zT ?_); first | (simp (maxSteps := 1000000) (disch := refine hold_ ?_; first | (simp [-List.getD_eq_getElem?_getD]; done) | omega) [-List.getD_eq_getElem?_getD]; try first | refine zZ ?_ | subst hK_) | subst hK_) | refine zA ?_ | refine zB ?_ | refine zC ?_ | refine zD ?_ | refine zE ?_ | refine zF ?_ | refine zG ?_ | refine zH ?_ | refine zI ?_ | refine zJ ?_ | refine zK ?_ | refine zL ?_ | refine zM ?_ | refine zN ?_ | refine zO ?_ | refine yG (by decide) ?_ | refine AW.condT rfl ?_ | refine AW.condF rfl ?_)
      simp (maxSteps := 1000000) (disch := refine hold_ ?_; first | (simp [nameC, -List.getD_eq_getElem?_getD]; done) | omega) [nameC, -List.getD_eq_getElem?_getD]
    | cons r t =>
      have kb := begins_ct r
      have hr0 : (r :: t).getD 0 0 = r := rfl
      have hne : (((r :: t).length : Int) == 0) = false := beq_eq_false_iff_ne.2 (by simp; omega)
      have h0 : 0 < (r :: t).length := by simp
      by_cases hb : begB r = true
      · have hN : nameC (r :: t) = (r :: t).all staB := by show (begB r && (r :: t).all staB) = _; rw [hb, Bool.true_and]
        rw [hN]
        rw [hb] at kb
        have hfn := first_not staB (r :: t)
        generalize hC : r :: t = C at *
        refine Fn.of_body Tryd.func55 rfl ?_
        repeat (first | ((first | refine zP fun K_ hK_ => ?_ | refine zQ fun K_ hK_ => ?_ | refine zR (by kernel_rfl) (by kernel_rfl) fun K_ hK_ => ?_ | refine zS (by kernel_rfl) (by kernel_rfl) fun K_ hK_ => ?_ | refine zT ?_); first | (simp (maxSteps := 1000000) (disch := refine hold_ ?_; first | (simp [txt_bytes, txt_size, -List.getD_eq_getElem?_getD]; done) | omega) [txt_bytes, txt_size, -List.getD_eq_getElem?_getD]; try first | refine zZ ?_ | subst hK_) | subst hK_) | refine zA ?_ | refine zB ?_ | refine zC ?_ | refine zD ?_ | refine zE ?_ | refine zF ?_ | refine zG ?_ | refine zH ?_ | refine zI ?_ | refine zJ ?_ | refine zK ?_ | refine zL ?_ | refine zM ?_ | refine zN ?_ | refine zO ?_ | refine yG (by decide) ?_ | refine AW.condT rfl ?_ | refine AW.condF rfl ?_)
        (refine callK_p ?_; simp (maxSteps := 1000000) (disch := refine hold_ ?_; first | (simp [txt_bytes, hne, -List.getD_eq_getElem?_getD]; done) | omega) [txt_bytes, hne, -List.getD_eq_getElem?_getD]; refine callK1_of (Fn.ct k21 Tryd.call75) ?_; (try simp (maxSteps := 1000000) (disch := refine hold_ ?_; first | (simp [txt_bytes, hne, -List.getD_eq_getElem?_getD]; done) | omega) [txt_bytes, hne, -List.getD_eq_getElem?_getD]); first | refine zZ ?_ | subst hK_)
        repeat (first | ((first | refine zP fun K_ hK_ => ?_ | refine zQ fun K_ hK_ => ?_ | refine zR (by kernel_rfl) (by kernel_rfl) fun K_ hK_ => ?_ | refine zS (by kernel_rfl) (by kernel_rfl) fun K_ hK_ => ?_ | refine zT ?_); first | (simp (maxSteps := 1000000) (disch := refine hold_ ?_; first | (simp [hne, h0, hr0, -List.getD_eq_getElem?_getD]; done) | omega) [hne, h0, hr0, -List.getD_eq_getElem?_getD]; try first | refine zZ ?_ | subst hK_) | subst hK_) | refine zA ?_ | refine zB ?_ | refine zC ?_ | refine zD ?_ | refine zE ?_ | refine zF ?_ | refine zG ?_ | refine zH ?_ | refine zI ?_ | refine zJ ?_ | refine zK ?_ | refine zL ?_ | refine zM ?_ | refine zN ?_ | refine zO ?_ | refine yG (by decide) ?_ | refine AW.condT rfl ?_ | refine AW.condF rfl ?_)
        (refine callK_p ?_; simp (maxSteps := 1000000) (disch := refine hold_ ?_; first | (simp [hne, h0, hr0, -List.getD_eq_getElem?_getD]; done) | omega) [hne, h0, hr0, -List.getD_eq_getElem?_getD]; refine callK1_of (Fn.ct kb Tryd.call76) ?_; (try simp (maxSteps := 1000000) (disch := refine hold_ ?_; first | (simp [hne, h0, hr0, -List.getD_eq_getElem?_getD]; done) | omega) [hne, h0, hr0, -List.getD_eq_getElem?_getD]); first | refine zZ ?_ | subst hK_)
        repeat (first | ((first | refine zP fun K_ hK_ => ?_ | refine zQ fun K_ hK_ => ?_ | refine zR (by kernel_rfl) (by kernel_rfl) fun K_ hK_ => ?_ | refine zS (by kernel_rfl) (by kernel_rfl) fun K_ hK_ => ?_ | refine zT ?_); first | (simp (maxSteps := 1000000) (disch := refine hold_ ?_; first | (simp [hne, h0, hr0, -List.getD_eq_getElem?_getD]; done) | omega) [hne, h0, hr0, -List.getD_eq_getElem?_getD]; try first | refine zZ ?_ | subst hK_) | subst hK_) | refine zA ?_ | refine zB ?_ | refine zC ?_ | refine zD ?_ | refine zE ?_ | refine zF ?_ | refine zG ?_ | refine zH ?_ | refine zI ?_ | refine zJ ?_ | refine zK ?_ | refine zL ?_ | refine zM ?_ | refine zN ?_ | refine zO ?_ | refine yG (by decide) ?_ | refine AW.condT rfl ?_ | refine AW.condF rfl ?_)
        rcases hfn with ⟨h1, ha⟩ | ⟨⟨n, h1, h2, h3⟩, ha⟩
        · rw [ha]
          refine AW.iter (false :: false :: false :: false :: false :: false :: false :: false :: false :: false :: false :: false :: false :: false :: false :: false :: false :: false :: false :: false :: false :: false :: false :: false :: false :: false :: false :: true :: true :: true :: false :: false :: false :: false :: false :: false :: false :: []) C.length (fun k => ⟨(V.junk :: V.junk :: V.junk :: V.junk :: V.junk :: V.junk :: V.junk :: V.junk :: V.junk :: V.junk :: V.junk :: V.junk :: V.junk :: V.junk :: V.junk :: V.junk :: V.junk :: V.junk :: V.junk :: V.junk :: V.junk :: V.junk :: V.junk :: V.junk :: V.junk :: V.junk :: V.junk :: .row (rl C) 0 0 (C.length == 0) :: .p (.int .i64 C.length) :: .p (.int .i64 k) :: V.junk :: V.junk :: V.junk :: V.junk :: V.junk :: V.junk :: V.junk :: []), ⟨[], [(0, 0)]⟩⟩) ?_ ?_
          · simp (maxSteps := 1000000) (disch := refine hold_ ?_; first | (simp [-List.getD_eq_getElem?_getD]; done) | omega) [-List.getD_eq_getElem?_getD]
          intro k hk
          have e1 : IntKind.i64.wrap ((k : Int) + 1) = k + 1 := wrap_i64 _ (by omega) (by omega)
          by_cases hkc : k < C.length
          · have hkz : (k : Int) < C.length := by omega
            have ks := stands_ct (C.getD k 0)
            rw [h1 k hkc] at ks
            generalize hR : C.getD k 0 = R at *
            repeat (first | ((first | refine callK_at 77 ?_); refine callK_p ?_; simp (maxSteps := 1000000) (disch := refine hold_ ?_; first | (simp [hkc, hkz, hR, e1, -List.getD_eq_getElem?_getD]; done) | omega) [hkc, hkz, hR, e1, -List.getD_eq_getElem?_getD]; (first | refine callK1_of (Fn.ct ks Tryd.call77) ?_); (try simp (maxSteps := 1000000) (disch := refine hold_ ?_; first | (simp [hkc, hkz, hR, e1, -List.getD_eq_getElem?_getD]; done) | omega) [hkc, hkz, hR, e1, -List.getD_eq_getElem?_getD]); try first | refine zZ ?_ | subst hK_) | ((first | refine zP fun K_ hK_ => ?_ | refine zQ fun K_ hK_ => ?_ | refine zR (by kernel_rfl) (by kernel_rfl) fun K_ hK_ => ?_ | refine zS (by kernel_rfl) (by kernel_rfl) fun K_ hK_ => ?_ | refine zT ?_); first | (simp (maxSteps := 1000000) (disch := refine hold_ ?_; first | (simp [hkc, hkz, hR, e1, -List.getD_eq_getElem?_getD]; done) | omega) [hkc, hkz, hR, e1, -List.getD_eq_getElem?_getD]; try first | refine zZ ?_ | subst hK_) | subst hK_) | refine zA ?_ | refine zB ?_ | refine zC ?_ | refine zD ?_ | refine zE ?_ | refine zF ?_ | refine zG ?_ | refine zH ?_ | refine zI ?_ | refine zJ ?_ | refine zK ?_ | refine zL ?_ | refine zM ?_ | refine zN ?_ | refine zO ?_ | refine yG (by decide) ?_ | refine AW.condT rfl ?_ | refine AW.condF rfl ?_)
            refine ⟨hkc, ?_⟩
            simp (maxSteps := 1000000) (disch := refine hold_ ?_; first | (simp [-List.getD_eq_getElem?_getD]; done) | omega) [-List.getD_eq_getElem?_getD]
          · have hkz : ¬ (k : Int) < C.length := by omega
            repeat (first | ((first | refine zP fun K_ hK_ => ?_ | refine zQ fun K_ hK_ => ?_ | refine zR (by kernel_rfl) (by kernel_rfl) fun K_ hK_ => ?_ | refine zS (by kernel_rfl) (by kernel_rfl) fun K_ hK_ => ?_ | refine zT ?_); first | (simp (maxSteps := 1000000) (disch := refine hold_ ?_; first | (simp [hkz, -List.getD_eq_getElem?_getD]; done) | omega) [hkz, -List.getD_eq_getElem?_getD]; try first | refine zZ ?_ | subst hK_) | subst hK_) | refine zA ?_ | refine zB ?_ | refine zC ?_ | refine zD ?_ | refine zE ?_ | refine zF ?_ | refine zG ?_ | refine zH ?_ | refine zI ?_ | refine zJ ?_ | refine zK ?_ | refine zL ?_ | refine zM ?_ | refine zN ?_ | refine zO ?_ | refine yG (by decide) ?_ | refine AW.condT rfl ?_ | refine AW.condF rfl ?_)
            simp (maxSteps := 1000000) (disch := refine hold_ ?_; first | (simp [-List.getD_eq_getElem?_getD]; done) | omega) [-List.getD_eq_getElem?_getD]
        · rw [ha]
          refine AW.iter (false :: false :: false :: false :: false :: false :: false :: false :: false :: false :: false :: false :: false :: false :: false :: false :: false :: false :: false :: false :: false :: false :: false :: false :: false :: false :: false :: true :: true :: true :: false :: false :: false :: false :: false :: false :: false :: []) n (fun k => ⟨(V.junk :: V.junk :: V.junk :: V.junk :: V.junk :: V.junk :: V.junk :: V.junk :: V.junk :: V.junk :: V.junk :: V.junk :: V.junk :: V.junk :: V.junk :: V.junk :: V.junk :: V.junk :: V.junk :: V.junk :: V.junk :: V.junk :: V.junk :: V.junk :: V.junk :: V.junk :: V.junk :: .row (rl C) 0 0 (C.length == 0) :: .p (.int .i64 C.length) :: .p (.int .i64 k) :: V.junk :: V.junk :: V.junk :: V.junk :: V.junk :: V.junk :: V.junk :: []), ⟨[], [(0, 0)]⟩⟩) ?_ ?_
          · simp (maxSteps := 1000000) (disch := refine hold_ ?_; first | (simp [-List.getD_eq_getElem?_getD]; done) | omega) [-List.getD_eq_getElem?_getD]
          intro k hk
          have e1 : IntKind.i64.wrap ((k : Int) + 1) = k + 1 := wrap_i64 _ (by omega) (by omega)
          have hkc : k < C.length := by omega
          have hkz : (k : Int) < C.length := by omega
          have ks := stands_ct (C.getD k 0)
          by_cases hkn : k < n
          · rw [h3 k hkn] at ks
            generalize hR : C.getD k 0 = R at *
            repeat (first | ((first | refine callK_at 77 ?_); refine callK_p ?_; simp (maxSteps := 1000000) (disch := refine hold_ ?_; first | (simp [hkc, hkz, hR, e1, -List.getD_eq_getElem?_getD]; done) | omega) [hkc, hkz, hR, e1, -List.getD_eq_getElem?_getD]; (first | refine callK1_of (Fn.ct ks Tryd.call77) ?_); (try simp (maxSteps := 1000000) (disch := refine hold_ ?_; first | (simp [hkc, hkz, hR, e1, -List.getD_eq_getElem?_getD]; done) | omega) [hkc, hkz, hR, e1, -List.getD_eq_getElem?_getD]); try first | refine zZ ?_ | subst hK_) | ((first | refine zP fun K_ hK_ => ?_ | refine zQ fun K_ hK_ => ?_ | refine zR (by kernel_rfl) (by kernel_rfl) fun K_ hK_ => ?_ | refine zS (by kernel_rfl) (by kernel_rfl) fun K_ hK_ => ?_ | refine zT ?_); first | (simp (maxSteps := 1000000) (disch := refine hold_ ?_; first | (simp [hkc, hkz, hR, e1, -List.getD_eq_getElem?_getD]; done) | omega) [hkc, hkz, hR, e1, -List.getD_eq_getElem?_getD]; try first | refine zZ ?_ | subst hK_) | subst hK_) | refine zA ?_ | refine zB ?_ | refine zC ?_ | refine zD ?_ | refine zE ?_ | refine zF ?_ | refine zG ?_ | refine zH ?_ | refine zI ?_ | refine zJ ?_ | refine zK ?_ | refine zL ?_ | refine zM ?_ | refine zN ?_ | refine zO ?_ | refine yG (by decide) ?_ | refine AW.condT rfl ?_ | refine AW.condF rfl ?_)
            refine ⟨hkn, ?_⟩
            simp (maxSteps := 1000000) (disch := refine hold_ ?_; first | (simp [-List.getD_eq_getElem?_getD]; done) | omega) [-List.getD_eq_getElem?_getD]
          · have hkn2 : k = n := by omega
            subst hkn2
            rw [h2] at ks
            generalize hR : C.getD k 0 = R at *
            repeat (first | ((first | refine callK_at 77 ?_); refine callK_p ?_; simp (maxSteps := 1000000) (disch := refine hold_ ?_; first | (simp [hkc, hkz, hR, -List.getD_eq_getElem?_getD]; done) | omega) [hkc, hkz, hR, -List.getD_eq_getElem?_getD]; (first | refine callK1_of (Fn.ct ks Tryd.call77) ?_); (try simp (maxSteps := 1000000) (disch := refine hold_ ?_; first | (simp [hkc, hkz, hR, -List.getD_eq_getElem?_getD]; done) | omega) [hkc, hkz, hR, -List.getD_eq_getElem?_getD]); try first | refine zZ ?_ | subst hK_) | ((first | refine zP fun K_ hK_ => ?_ | refine zQ fun K_ hK_ => ?_ | refine zR (by kernel_rfl) (by kernel_rfl) fun K_ hK_ => ?_ | refine zS (by kernel_rfl) (by kernel_rfl) fun K_ hK_ => ?_ | refine zT ?_); first | (simp (maxSteps := 1000000) (disch := refine hold_ ?_; first | (simp [hkc, hkz, hR, -List.getD_eq_getElem?_getD]; done) | omega) [hkc, hkz, hR, -List.getD_eq_getElem?_getD]; try first | refine zZ ?_ | subst hK_) | subst hK_) | refine zA ?_ | refine zB ?_ | refine zC ?_ | refine zD ?_ | refine zE ?_ | refine zF ?_ | refine zG ?_ | refine zH ?_ | refine zI ?_ | refine zJ ?_ | refine zK ?_ | refine zL ?_ | refine zM ?_ | refine zN ?_ | refine zO ?_ | refine yG (by decide) ?_ | refine AW.condT rfl ?_ | refine AW.condF rfl ?_)
            simp (maxSteps := 1000000) (disch := refine hold_ ?_; first | (simp [-List.getD_eq_getElem?_getD]; done) | omega) [-List.getD_eq_getElem?_getD]
      · have hb2 : begB r = false := by simpa using hb
        have hN : nameC (r :: t) = false := by show (begB r && (r :: t).all staB) = _; rw [hb2, Bool.false_and]
        rw [hN]
        rw [hb2] at kb
        generalize hC : r :: t = C at *
        refine Fn.of_body Tryd.func55 rfl ?_
        repeat (first | ((first | refine zP fun K_ hK_ => ?_ | refine zQ fun K_ hK_ => ?_ | refine zR (by kernel_rfl) (by kernel_rfl) fun K_ hK_ => ?_ | refine zS (by kernel_rfl) (by kernel_rfl) fun K_ hK_ => ?_ | refine zT ?_); first | (simp (maxSteps := 1000000) (disch := refine hold_ ?_; first | (simp [txt_bytes, txt_size, -List.getD_eq_getElem?_getD]; done) | omega) [txt_bytes, txt_size, -List.getD_eq_getElem?_getD]; try first | refine zZ ?_ | subst hK_) | subst hK_) | refine zA ?_ | refine zB ?_ | refine zC ?_ | refine zD ?_ | refine zE ?_ | refine zF ?_ | refine zG ?_ | refine zH ?_ | refine zI ?_ | refine zJ ?_ | refine zK ?_ | refine zL ?_ | refine zM ?_ | refine zN ?_ | refine zO ?_ | refine yG (by decide) ?_ | refine AW.condT rfl ?_ | refine AW.condF rfl ?_)
        (refine callK_p ?_; simp (maxSteps := 1000000) (disch := refine hold_ ?_; first | (simp [txt_bytes, hne, -List.getD_eq_getElem?_getD]; done) | omega) [txt_bytes, hne, -List.getD_eq_getElem?_getD]; refine callK1_of (Fn.ct k21 Tryd.call75) ?_; (try simp (maxSteps := 1000000) (disch := refine hold_ ?_; first | (simp [txt_bytes, hne, -List.getD_eq_getElem?_getD]; done) | omega) [txt_bytes, hne, -List.getD_eq_getElem?_getD]); first | refine zZ ?_ | subst hK_)
        repeat (first | ((first | refine zP fun K_ hK_ => ?_ | refine zQ fun K_ hK_ => ?_ | refine zR (by kernel_rfl) (by kernel_rfl) fun K_ hK_ => ?_ | refine zS (by kernel_rfl) (by kernel_rfl) fun K_ hK_ => ?_ | refine zT ?_); first | (simp (maxSteps := 1000000) (disch := refine hold_ ?_; first | (simp [hne, h0, hr0, -List.getD_eq_getElem?_getD]; done) | omega) [hne, h0, hr0, -List.getD_eq_getElem?_getD]; try first | refine zZ ?_ | subst hK_) | subst hK_) | refine zA ?_ | refine zB ?_ | refine zC ?_ | refine zD ?_ | refine zE ?_ | refine zF ?_ | refine zG ?_ | refine zH ?_ | refine zI ?_ | refine zJ ?_ | refine zK ?_ | refine zL ?_ | refine zM ?_ | refine zN ?_ | refine zO ?_ | refine yG (by decide) ?_ | refine AW.condT rfl ?_ | refine AW.condF rfl ?_)
        (refine callK_p ?_; simp (maxSteps := 1000000) (disch := refine hold_ ?_; first | (simp [hne, h0, hr0, -List.getD_eq_getElem?_getD]; done) | omega) [hne, h0, hr0, -List.getD_eq_getElem?_getD]; refine callK1_of (Fn.ct kb Tryd.call76) ?_; (try simp (maxSteps := 1000000) (disch := refine hold_ ?_; first | (simp [hne, h0, hr0, -List.getD_eq_getElem?_getD]; done) | omega) [hne, h0, hr0, -List.getD_eq_getElem?_getD]); first | refine zZ ?_ | subst hK_)
        repeat (first | ((first | refine zP fun K_ hK_ => ?_ | refine zQ fun K_ hK_ => ?_ | refine zR (by kernel_rfl) (by kernel_rfl) fun K_ hK_ => ?_ | refine zS (by kernel_rfl) (by kernel_rfl) fun K_ hK_ => ?_ | refine zT ?_); first | (simp (maxSteps := 1000000) (disch := refine hold_ ?_; first | (simp [-List.getD_eq_getElem?_getD]; done) | omega) [-List.getD_eq_getElem?_getD]; try first | refine zZ ?_ | subst hK_) | subst hK_) | refine zA ?_ | refine zB ?_ | refine zC ?_ | refine zD ?_ | refine zE ?_ | refine zF ?_ | refine zG ?_ | refine zH ?_ | refine zI ?_ | refine zJ ?_ | refine zK ?_ | refine zL ?_ | refine zM ?_ | refine zN ?_ | refine zO ?_ | refine yG (by decide) ?_ | refine AW.condT rfl ?_ | refine AW.condF rfl ?_)
        simp (maxSteps := 1000000) (disch := refine hold_ ?_; first | (simp [-List.getD_eq_getElem?_getD]; done) | omega) [-List.getD_eq_getElem?_getD]
end Go.Av.Doc
end
section
set_option linter.unusedSimpArgs false
set_option linter.unusedVariables false
set_option linter.unusedSectionVars false
open Go Go.Av Go.Proofs
namespace Go.Av.Doc
variable [ML]
def blankB (c : Int) : Bool := c == 32 || c == 9 || c == 10 || c == 13
theorem blank_ct (c : Int) : Fn Tryd.prog 54 [.int .u8 c] [.p (.bool (blankB c))] := by
  unfold blankB
  refine Fn.of_body Tryd.func54 rfl ?_
  cases h1 : c == 32 <;> cases h2 : c == 9 <;> cases h3 : c == 10
  all_goals
    repeat (first | ((first | refine zP fun K_ hK_ => ?_ | refine zQ fun K_ hK_ => ?_ | refine zR (by kernel_rfl) (by kernel_rfl) fun K_ hK_ => ?_ | refine zS (by kernel_rfl) (by kernel_rfl) fun K_ hK_ => ?_ | refine zT ?_); first | (simp (maxSteps := 1000000) (disch := refine hold_ ?_; first | (simp [h1, h2, h3, -List.getD_eq_getElem?_getD]; done) | omega) [h1, h2, h3, -List.getD_eq_getElem?_getD]; try first | refine zZ ?_ | subst hK_) | subst hK_) | refine zA ?_ | refine zB ?_ | refine zC ?_ | refine zD ?_ | refine zE ?_ | refine zF ?_ | refine zG ?_ | refine zH ?_ | refine zI ?_ | refine zJ ?_ | refine zK ?_ | refine zL ?_ | refine zM ?_ | refine zN ?_ | refine zO ?_ | refine yG (by decide) ?_ | refine AW.condT rfl ?_ | refine AW.condF rfl ?_)
    simp (maxSteps := 1000000) (disch := refine hold_ ?_; first | (simp [h1, h2, h3, -List.getD_eq_getElem?_getD]; done) | omega) [h1, h2, h3, -List.getD_eq_getElem?_getD]
theorem rblank_ct (c : Int) : Fn Tryd.prog 61 [.int .u8 c] [.p (.bool (blankB c))] := by
  unfold blankB
  refine Fn.of_body Tryd.func61 rfl ?_
  cases h1 : c == 32 <;> cases h2 : c == 9 <;> cases h3 : c == 10
  all_goals
    repeat (first | ((first | refine zP fun K_ hK_ => ?_ | refine zQ fun K_ hK_ => ?_ | refine zR (by kernel_rfl) (by kernel_rfl) fun K_ hK_ => ?_ | refine zS (by kernel_rfl) (by kernel_rfl) fun K_ hK_ => ?_ | refine zT ?_); first | (simp (maxSteps := 1000000) (disch := refine hold_ ?_; first | (simp [h1, h2, h3, -List.getD_eq_getElem?_getD]; done) | omega) [h1, h2, h3, -List.getD_eq_getElem?_getD]; try first | refine zZ ?_ | subst hK_) | subst hK_) | refine zA ?_ | refine zB ?_ | refine zC ?_ | refine zD ?_ | refine zE ?_ | refine zF ?_ | refine zG ?_ | refine zH ?_ | refine zI ?_ | refine zJ ?_ | refine zK ?_ | refine zL ?_ | refine zM ?_ | refine zN ?_ | refine zO ?_ | refine yG (by decide) ?_ | refine AW.condT rfl ?_ | refine AW.condF rfl ?_)
    simp (maxSteps := 1000000) (disch := refine hold_ ?_; first | (simp [h1, h2, h3, -List.getD_eq_getElem?_getD]; done) | omega) [h1, h2, h3, -List.getD_eq_getElem?_getD]
end Go.Av.Doc
end
section
set_option linter.unusedSimpArgs false
set_option linter.unusedVariables false
set_option linter.unusedSectionVars false
open Go Go.Av Go.Proofs
namespace Go.Av.Doc
variable [ML]
def longF (f : Bool) (l : List (BitVec 8)) : Nat :=
  if h : l.length = 0 then 0
  else if h2 : okS l = 0 then 0
  else if (f && !begB (runeN l)) || !staB (runeN l) then 0
  else okS l + longF false (l.drop (okS l))
termination_by l.length
decreasing_by simp; omega
theorem longF_nil (f : Bool) : longF f [] = 0 := by rw [longF]; simp
theorem longF_bad (f : Bool) (l : List (BitVec 8)) (h : l.length ≠ 0) (h2 : okS l = 0) : longF f l = 0 := by rw [longF]; simp [h, h2]
theorem longF_stop (f : Bool) (l : List (BitVec 8)) (h : l.length ≠ 0) (h2 : okS l ≠ 0) (h3 : ((f && !begB (runeN l)) || !staB (runeN l)) = true) : longF f l = 0 := by
  rw [longF, dif_neg h, dif_neg h2, if_pos h3]
theorem longF_step (f : Bool) (l : List (BitVec 8)) (h : l.length ≠ 0) (h2 : okS l ≠ 0) (h3 : ((f && !begB (runeN l)) || !staB (runeN l)) = false) : longF f l = okS l + longF false (l.drop (okS l)) := by
  rw [longF, dif_neg h, dif_neg h2, if_neg (by rw [h3]; simp)]
def goodB (f : Bool) : List Int → Bool
  | [] => true
  | r :: t => !((f && !begB r) || !staB r) && goodB false t
theorem goodB_all (t : List Int) : goodB false t = t.all staB := by
  induction t with
  | nil => rfl
  | cons r t ih => rw [goodB, ih]; simp
theorem longF_all : ∀ (n : Nat) (f : Bool) (l : List (BitVec 8)), l.length ≤ n → ((longF f l == l.length) = match charsL l with | some c => goodB f c | none => false)
  | n, f, l, hn => by
    by_cases h : l.length = 0
    · obtain rfl := List.eq_nil_of_length_eq_zero h; rw [longF_nil, charsL_nil]; rfl
    by_cases h2 : okS l = 0
    · rw [longF_bad f l h h2, charsL_bad l h h2]
      exact beq_eq_false_iff_ne.2 (by omega)
    have hle := okS_len l
    rw [charsL_step l h h2]
    cases h3 : ((f && !begB (runeN l)) || !staB (runeN l)) with
    | true =>
      rw [longF_stop f l h h2 h3]
      have : (0 == l.length) = false := beq_eq_false_iff_ne.2 (by omega)
      rw [this]
      cases charsL (l.drop (okS l)) with
      | none => rfl
      | some c => show false = goodB f (runeN l :: c); rw [goodB, h3]; rfl
    | false =>
      rw [longF_step f l h h2 h3]
      match n, hn with
      | 0, hn => omega
      | n + 1, hn =>
        have ih := longF_all n false (l.drop (okS l)) (by rw [List.length_drop]; omega)
        have e : (okS l + longF false (l.drop (okS l)) == l.length) = (longF false (l.drop (okS l)) == (l.drop (okS l)).length) := by
          rw [List.length_drop]
          by_cases hx : longF false (l.drop (okS l)) = l.length - okS l
          · rw [beq_iff_eq.2 hx]; exact beq_iff_eq.2 (by omega)
          · rw [beq_eq_false_iff_ne.2 hx]; exact beq_eq_false_iff_ne.2 (by omega)
        rw [e, ih]
        cases charsL (l.drop (okS l)) with
        | none => rfl
        | some c => show goodB false c = goodB f (runeN l :: c); rw [goodB, h3]; simp
theorem nameB_long (l : List (BitVec 8)) : nameB l = (!(l == []) && (longF true l == l.length)) := by
  rw [longF_all _ true l (Nat.le_refl _)]
  unfold nameB
  by_cases h : l = []
  · subst h; rw [charsL_nil]; rfl
  · have h1 : (l == []) = false := beq_eq_false_iff_ne.2 h
    rw [h1]
    cases hc : charsL l with
    | none => rfl
    | some c =>
      cases c with
      | nil =>
        exfalso
        have h0 : l.length ≠ 0 := fun e => h (List.eq_nil_of_length_eq_zero e)
        by_cases h2 : okS l = 0
        · rw [charsL_bad l h0 h2] at hc; simp at hc
        · rw [charsL_step l h0 h2] at hc; cases hx : charsL (l.drop (okS l)) <;> rw [hx] at hc <;> simp at hc
      | cons r t =>
        show nameC (r :: t) = (!false && goodB true (r :: t))
        show (begB r && (r :: t).all staB) = _
        rw [goodB, goodB_all]
        simp
        cases begB r <;> cases staB r <;> simp
end Go.Av.Doc
end
section
set_option linter.unusedSimpArgs false
set_option linter.unusedVariables false
set_option linter.unusedSectionVars false
open Go Go.Av Go.Proofs
namespace Go.Av.Doc
variable [ML]
set_option maxHeartbeats 8000000 in
set_option maxRecDepth 8000 in
theorem rlong_ct (l : List (BitVec 8)) (hl : l.length ≤ 4000000) : Fn Tryd.prog 35 [.str (txt l)] [.p (.int .i64 (longF true l : Nat))] := by
  have hsz := txt_size l
  generalize hA : longF true l = A
  refine Fn.of_body Tryd.func35 rfl ?_
  repeat (first | ((first | refine zP fun K_ hK_ => ?_ | refine zQ fun K_ hK_ => ?_ | refine zR (by kernel_rfl) (by kernel_rfl) fun K_ hK_ => ?_ | refine zS (by kernel_rfl) (by kernel_rfl) fun K_ hK_ => ?_ | refine zT ?_); first | (simp (maxSteps := 1000000) (disch := refine hold_ ?_; first | (simp [-List.getD_eq_getElem?_getD]; done) | omega) [-List.getD_eq_getElem?_getD]; try first | refine zZ ?_ | subst hK_) | subst hK_) | refine zA ?_ | refine zB ?_ | refine zC ?_ | refine zD ?_ | refine zE ?_ | refine zF ?_ | refine zG ?_ | refine zH ?_ | refine zI ?_ | refine zJ ?_ | refine zK ?_ | refine zL ?_ | refine zM ?_ | refine zN ?_ | refine zO ?_ | refine yG (by decide) ?_ | refine AW.condT rfl ?_ | refine AW.condF rfl ?_)
  refine AW.iterI (true :: false :: false :: true :: false :: false :: false :: false :: false :: false :: false :: false :: false :: false :: false :: false :: false :: false :: false :: false :: false :: false :: false :: false :: false :: false :: false :: false :: false :: false :: false :: false :: false :: false :: false :: false :: false :: false :: []) l.length (fun m σ => ∃ p, σ = (⟨(.p (.str (txt l)) :: V.junk :: V.junk :: .p (.int .i64 (p : Nat)) :: V.junk :: V.junk :: V.junk :: V.junk :: V.junk :: V.junk :: V.junk :: V.junk :: V.junk :: V.junk :: V.junk :: V.junk :: V.junk :: V.junk :: V.junk :: V.junk :: V.junk :: V.junk :: V.junk :: V.junk :: V.junk :: V.junk :: V.junk :: V.junk :: V.junk :: V.junk :: V.junk :: V.junk :: V.junk :: V.junk :: V.junk :: V.junk :: V.junk :: V.junk :: []), ⟨[], []⟩⟩ : St) ∧ m + p = l.length ∧ A = p + longF (p == 0) (l.drop p)) (τ := ⟨(.p (.str (txt l)) :: V.junk :: V.junk :: .p (.int .i64 0) :: V.junk :: V.junk :: V.junk :: V.junk :: V.junk :: V.junk :: V.junk :: V.junk :: V.junk :: V.junk :: V.junk :: V.junk :: V.junk :: V.junk :: V.junk :: V.junk :: V.junk :: V.junk :: V.junk :: V.junk :: V.junk :: V.junk :: V.junk :: V.junk :: V.junk :: V.junk :: V.junk :: V.junk :: V.junk :: V.junk :: V.junk :: V.junk :: V.junk :: V.junk :: []), ⟨[], []⟩⟩) ?_ ⟨0, rfl, by omega, by rw [← hA]; simp⟩ ?_
  · simp (maxSteps := 1000000) (disch := refine hold_ ?_; first | (simp [-List.getD_eq_getElem?_getD]; done) | omega) [-List.getD_eq_getElem?_getD]
  rintro m σ ⟨p, rfl, hm, hp⟩
  clear hA
  by_cases hpl : p < l.length
  · have hplz : (p : Int) < l.length := by omega
    have hp2 : p ≤ l.length := by omega
    have hne : (l.drop p).length ≠ 0 := by rw [List.length_drop]; omega
    have x1 : (txt l).extract p l.length = txt (l.drop p) := by rw [txt_extract, List.take_length]
    have k42 := first_ct false (l.drop p) (by rw [List.length_drop]; omega)
    have hle := okS_len (l.drop p)
    rw [List.length_drop] at hle
    have hds : (l.drop p).length = l.length - p := List.length_drop
    by_cases h2 : okS (l.drop p) = 0
    · rw [longF_bad _ _ hne h2] at hp
      rw [h2] at k42
      obtain rfl : A = p := by omega
      generalize l.drop A = D at *
      repeat (first | ((first | refine zP fun K_ hK_ => ?_ | refine zQ fun K_ hK_ => ?_ | refine zR (by kernel_rfl) (by kernel_rfl) fun K_ hK_ => ?_ | refine zS (by kernel_rfl) (by kernel_rfl) fun K_ hK_ => ?_ | refine zT ?_); first | (simp (maxSteps := 1000000) (disch := refine hold_ ?_; first | (simp [hplz, hp2, hsz, x1, txt_bytes, -List.getD_eq_getElem?_getD]; done) | omega) [hplz, hp2, hsz, x1, txt_bytes, -List.getD_eq_getElem?_getD]; try first | refine zZ ?_ | subst hK_) | subst hK_) | refine zA ?_ | refine zB ?_ | refine zC ?_ | refine zD ?_ | refine zE ?_ | refine zF ?_ | refine zG ?_ | refine zH ?_ | refine zI ?_ | refine zJ ?_ | refine zK ?_ | refine zL ?_ | refine zM ?_ | refine zN ?_ | refine zO ?_ | refine yG (by decide) ?_ | refine AW.condT rfl ?_ | refine AW.condF rfl ?_)
      (refine callK_p ?_; simp (maxSteps := 1000000) (disch := refine hold_ ?_; first | (simp [txt_bytes, x1, -List.getD_eq_getElem?_getD]; done) | omega) [txt_bytes, x1, -List.getD_eq_getElem?_getD]; refine callK1_of (Fn.ct k42 Tryd.call46) ?_; (try simp (maxSteps := 1000000) (disch := refine hold_ ?_; first | (simp [txt_bytes, x1, -List.getD_eq_getElem?_getD]; done) | omega) [txt_bytes, x1, -List.getD_eq_getElem?_getD]); first | refine zZ ?_ | subst hK_)
      repeat (first | ((first | refine zP fun K_ hK_ => ?_ | refine zQ fun K_ hK_ => ?_ | refine zR (by kernel_rfl) (by kernel_rfl) fun K_ hK_ => ?_ | refine zS (by kernel_rfl) (by kernel_rfl) fun K_ hK_ => ?_ | refine zT ?_); first | (simp (maxSteps := 1000000) (disch := refine hold_ ?_; first | (simp [-List.getD_eq_getElem?_getD]; done) | omega) [-List.getD_eq_getElem?_getD]; try first | refine zZ ?_ | subst hK_) | subst hK_) | refine zA ?_ | refine zB ?_ | refine zC ?_ | refine zD ?_ | refine zE ?_ | refine zF ?_ | refine zG ?_ | refine zH ?_ | refine zI ?_ | refine zJ ?_ | refine zK ?_ | refine zL ?_ | refine zM ?_ | refine zN ?_ | refine zO ?_ | refine yG (by decide) ?_ | refine AW.condT rfl ?_ | refine AW.condF rfl ?_)
      simp (maxSteps := 1000000) (disch := refine hold_ ?_; first | (simp [-List.getD_eq_getElem?_getD]; done) | omega) [-List.getD_eq_getElem?_getD]
    · rw [if_neg h2] at k42
      have hz : ((okS (l.drop p) : Int) == 0) = false := beq_eq_false_iff_ne.2 (by omega)
      have kb := rbegins_ct (runeN (l.drop p))
      have ks := rstands_ct (runeN (l.drop p))
      have hpz : ((p : Int) == 0) = (p == 0) := by cases p <;> rfl
      cases h3 : (((p == 0) && !begB (runeN (l.drop p))) || !staB (runeN (l.drop p))) with
      | true =>
        rw [longF_stop _ _ hne h2 h3] at hp
        obtain rfl : A = p := by omega
        generalize runeN (l.drop A) = R at *
        generalize okS (l.drop A) = n at *
        generalize l.drop A = D at *
        generalize hP : (A == 0) = P at *
        generalize begB R = X at *
        generalize staB R = Y at *
        cases P <;> cases X <;> cases Y <;> simp only [Bool.true_and, Bool.false_and, Bool.not_true, Bool.not_false, Bool.or_false, Bool.or_true, Bool.false_eq_true, reduceCtorEq] at h3
        all_goals
          repeat (first | ((first | refine zP fun K_ hK_ => ?_ | refine zQ fun K_ hK_ => ?_ | refine zR (by kernel_rfl) (by kernel_rfl) fun K_ hK_ => ?_ | refine zS (by kernel_rfl) (by kernel_rfl) fun K_ hK_ => ?_ | refine zT ?_); first | (simp (maxSteps := 1000000) (disch := refine hold_ ?_; first | (simp [hplz, hp2, hsz, x1, txt_bytes, -List.getD_eq_getElem?_getD]; done) | omega) [hplz, hp2, hsz, x1, txt_bytes, -List.getD_eq_getElem?_getD]; try first | refine zZ ?_ | subst hK_) | subst hK_) | refine zA ?_ | refine zB ?_ | refine zC ?_ | refine zD ?_ | refine zE ?_ | refine zF ?_ | refine zG ?_ | refine zH ?_ | refine zI ?_ | refine zJ ?_ | refine zK ?_ | refine zL ?_ | refine zM ?_ | refine zN ?_ | refine zO ?_ | refine yG (by decide) ?_ | refine AW.condT rfl ?_ | refine AW.condF rfl ?_)
          (refine callK_p ?_; simp (maxSteps := 1000000) (disch := refine hold_ ?_; first | (simp [txt_bytes, x1, hz, hpz, -List.getD_eq_getElem?_getD]; done) | omega) [txt_bytes, x1, hz, hpz, -List.getD_eq_getElem?_getD]; refine callK1_of (Fn.ct k42 Tryd.call46) ?_; (try simp (maxSteps := 1000000) (disch := refine hold_ ?_; first | (simp [txt_bytes, x1, hz, hpz, -List.getD_eq_getElem?_getD]; done) | omega) [txt_bytes, x1, hz, hpz, -List.getD_eq_getElem?_getD]); first | refine zZ ?_ | subst hK_)
          repeat (first | ((first | refine callK_at 47 ?_ | refine callK_at 48 ?_); refine callK_p ?_; simp (maxSteps := 1000000) (disch := refine hold_ ?_; first | (simp [hz, hpz, -List.getD_eq_getElem?_getD]; done) | omega) [hz, hpz, -List.getD_eq_getElem?_getD]; (first | ((with_reducible refine k1_at 47 ?_); refine callK1_of (Fn.ct kb Tryd.call47) ?_) | ((with_reducible refine k1_at 48 ?_); refine callK1_of (Fn.ct ks Tryd.call48) ?_)); (try simp (maxSteps := 1000000) (disch := refine hold_ ?_; first | (simp [hz, hpz, -List.getD_eq_getElem?_getD]; done) | omega) [hz, hpz, -List.getD_eq_getElem?_getD]); try first | refine zZ ?_ | subst hK_) | ((first | refine zP fun K_ hK_ => ?_ | refine zQ fun K_ hK_ => ?_ | refine zR (by kernel_rfl) (by kernel_rfl) fun K_ hK_ => ?_ | refine zS (by kernel_rfl) (by kernel_rfl) fun K_ hK_ => ?_ | refine zT ?_); first | (simp (maxSteps := 1000000) (disch := refine hold_ ?_; first | (simp [hz, hpz, -List.getD_eq_getElem?_getD]; done) | omega) [hz, hpz, -List.getD_eq_getElem?_getD]; try first | refine zZ ?_ | subst hK_) | subst hK_) | refine zA ?_ | refine zB ?_ | refine zC ?_ | refine zD ?_ | refine zE ?_ | refine zF ?_ | refine zG ?_ | refine zH ?_ | refine zI ?_ | refine zJ ?_ | refine zK ?_ | refine zL ?_ | refine zM ?_ | refine zN ?_ | refine zO ?_ | refine yG (by decide) ?_ | refine AW.condT rfl ?_ | refine AW.condF rfl ?_)
          simp (maxSteps := 1000000) (disch := refine hold_ ?_; first | (simp [-List.getD_eq_getElem?_getD]; done) | omega) [-List.getD_eq_getElem?_getD]
      | false =>
        rw [longF_step _ _ hne h2 h3, List.drop_drop] at hp
        have hpn : p + okS (l.drop p) ≤ l.length := by omega
        have hnext : ((p + okS (l.drop p) == 0)) = false := beq_eq_false_iff_ne.2 (by omega)
        have hp4 : A = (p + okS (l.drop p)) + longF (p + okS (l.drop p) == 0) (l.drop (p + okS (l.drop p))) := by rw [hnext]; omega
        have e1 : IntKind.i64.wrap ((p : Int) + (okS (l.drop p) : Nat)) = (p : Int) + (okS (l.drop p) : Nat) := wrap_i64 _ (by omega) (by omega)
        have hn0 : okS (l.drop p) ≠ 0 := h2
        clear hp hne
        generalize runeN (l.drop p) = R at *
        generalize okS (l.drop p) = n at *
        generalize hD : l.drop p = D at *
        generalize hP : (p == 0) = P at *
        generalize begB R = X at *
        generalize staB R = Y at *
        cases P <;> cases X <;> cases Y <;> simp only [Bool.true_and, Bool.false_and, Bool.not_true, Bool.not_false, Bool.or_false, Bool.or_true, Bool.false_eq_true, reduceCtorEq] at h3
        all_goals
          repeat (first | ((first | refine zP fun K_ hK_ => ?_ | refine zQ fun K_ hK_ => ?_ | refine zR (by kernel_rfl) (by kernel_rfl) fun K_ hK_ => ?_ | refine zS (by kernel_rfl) (by kernel_rfl) fun K_ hK_ => ?_ | refine zT ?_); first | (simp (maxSteps := 1000000) (disch := refine hold_ ?_; first | (simp [hplz, hp2, hsz, x1, txt_bytes, -List.getD_eq_getElem?_getD]; done) | omega) [hplz, hp2, hsz, x1, txt_bytes, -List.getD_eq_getElem?_getD]; try first | refine zZ ?_ | subst hK_) | subst hK_) | refine zA ?_ | refine zB ?_ | refine zC ?_ | refine zD ?_ | refine zE ?_ | refine zF ?_ | refine zG ?_ | refine zH ?_ | refine zI ?_ | refine zJ ?_ | refine zK ?_ | refine zL ?_ | refine zM ?_ | refine zN ?_ | refine zO ?_ | refine yG (by decide) ?_ | refine AW.condT rfl ?_ | refine AW.condF rfl ?_)
          (refine callK_p ?_; simp (maxSteps := 1000000) (disch := refine hold_ ?_; first | (simp [txt_bytes, x1, hz, hpz, -List.getD_eq_getElem?_getD]; done) | omega) [txt_bytes, x1, hz, hpz, -List.getD_eq_getElem?_getD]; refine callK1_of (Fn.ct k42 Tryd.call46) ?_; (try simp (maxSteps := 1000000) (disch := refine hold_ ?_; first | (simp [txt_bytes, x1, hz, hpz, -List.getD_eq_getElem?_getD]; done) | omega) [txt_bytes, x1, hz, hpz, -List.getD_eq_getElem?_getD]); first | refine zZ ?_ | subst hK_)
          repeat (first | ((first | refine callK_at 47 ?_ | refine callK_at 48 ?_); refine callK_p ?_; simp (maxSteps := 1000000) (disch := refine hold_ ?_; first | (simp [hz, hpz, e1, -List.getD_eq_getElem?_getD]; done) | omega) [hz, hpz, e1, -List.getD_eq_getElem?_getD]; (first | ((with_reducible refine k1_at 47 ?_); refine callK1_of (Fn.ct kb Tryd.call47) ?_) | ((with_reducible refine k1_at 48 ?_); refine callK1_of (Fn.ct ks Tryd.call48) ?_)); (try simp (maxSteps := 1000000) (disch := refine hold_ ?_; first | (simp [hz, hpz, e1, -List.getD_eq_getElem?_getD]; done) | omega) [hz, hpz, e1, -List.getD_eq_getElem?_getD]); try first | refine zZ ?_ | subst hK_) | ((first | refine zP fun K_ hK_ => ?_ | refine zQ fun K_ hK_ => ?_ | refine zR (by kernel_rfl) (by kernel_rfl) fun K_ hK_ => ?_ | refine zS (by kernel_rfl) (by kernel_rfl) fun K_ hK_ => ?_ | refine zT ?_); first | (simp (maxSteps := 1000000) (disch := refine hold_ ?_; first | (simp [hz, hpz, e1, -List.getD_eq_getElem?_getD]; done) | omega) [hz, hpz, e1, -List.getD_eq_getElem?_getD]; try first | refine zZ ?_ | subst hK_) | subst hK_) | refine zA ?_ | refine zB ?_ | refine zC ?_ | refine zD ?_ | refine zE ?_ | refine zF ?_ | refine zG ?_ | refine zH ?_ | refine zI ?_ | refine zJ ?_ | refine zK ?_ | refine zL ?_ | refine zM ?_ | refine zN ?_ | refine zO ?_ | refine yG (by decide) ?_ | refine AW.condT rfl ?_ | refine AW.condF rfl ?_)
          refine ⟨m - n, ⟨(.p (.str (txt l)) :: V.junk :: V.junk :: .p (.int .i64 (p + n : Nat)) :: V.junk :: V.junk :: V.junk :: V.junk :: V.junk :: V.junk :: V.junk :: V.junk :: V.junk :: V.junk :: V.junk :: V.junk :: V.junk :: V.junk :: V.junk :: V.junk :: V.junk :: V.junk :: V.junk :: V.junk :: V.junk :: V.junk :: V.junk :: V.junk :: V.junk :: V.junk :: V.junk :: V.junk :: V.junk :: V.junk :: V.junk :: V.junk :: V.junk :: V.junk :: []), ⟨[], []⟩⟩, by omega, ?_, p + n, rfl, by omega, hp4⟩
          simp (maxSteps := 1000000) (disch := refine hold_ ?_; first | (simp [-List.getD_eq_getElem?_getD]; done) | omega) [-List.getD_eq_getElem?_getD]
  · have hplz : ¬ (p : Int) < l.length := by omega
    have hd : l.drop p = [] := List.drop_eq_nil_of_le (by omega)
    rw [hd, longF_nil] at hp
    obtain rfl : A = p := by omega
    repeat (first | ((first | refine zP fun K_ hK_ => ?_ | refine zQ fun K_ hK_ => ?_ | refine zR (by kernel_rfl) (by kernel_rfl) fun K_ hK_ => ?_ | refine zS (by kernel_rfl) (by kernel_rfl) fun K_ hK_ => ?_ | refine zT ?_); first | (simp (maxSteps := 1000000) (disch := refine hold_ ?_; first | (simp [hplz, hsz, -List.getD_eq_getElem?_getD]; done) | omega) [hplz, hsz, -List.getD_eq_getElem?_getD]; try first | refine zZ ?_ | subst hK_) | subst hK_) | refine zA ?_ | refine zB ?_ | refine zC ?_ | refine zD ?_ | refine zE ?_ | refine zF ?_ | refine zG ?_ | refine zH ?_ | refine zI ?_ | refine zJ ?_ | refine zK ?_ | refine zL ?_ | refine zM ?_ | refine zN ?_ | refine zO ?_ | refine yG (by decide) ?_ | refine AW.condT rfl ?_ | refine AW.condF rfl ?_)
    simp (maxSteps := 1000000) (disch := refine hold_ ?_; first | (simp [-List.getD_eq_getElem?_getD]; done) | omega) [-List.getD_eq_getElem?_getD]
set_option maxRecDepth 8000 in
theorem ris_ct (l : List (BitVec 8)) (hl : l.length ≤ 4000000) : Fn Tryd.prog 16 [.str (txt l)] [.p (.bool (nameB l))] := by
  have k46 := rlong_ct l hl
  have hsz := txt_size l
  rw [nameB_long]
  have hq : strBin .neq (txt l) (ByteArray.mk #[]) = some (.bool (!(l == []))) := by rw [txt_nil, str_neq_txt]
  have hi : (((longF true l : Nat) : Int) == (l.length : Int)) = (longF true l == l.length) := by
    by_cases h : longF true l = l.length
    · rw [h]; simp
    · rw [beq_eq_false_iff_ne.2 h]; exact beq_eq_false_iff_ne.2 (by omega)
  generalize longF true l = n at *
  cases hl0 : l == []
  · rw [hl0] at hq
    refine Fn.of_body Tryd.func16 rfl ?_
    repeat (first | ((first | refine zP fun K_ hK_ => ?_ | refine zQ fun K_ hK_ => ?_ | refine zR (by kernel_rfl) (by kernel_rfl) fun K_ hK_ => ?_ | refine zS (by kernel_rfl) (by kernel_rfl) fun K_ hK_ => ?_ | refine zT ?_); first | (simp (maxSteps := 1000000) (disch := refine hold_ ?_; first | (simp [hq, -List.getD_eq_getElem?_getD]; done) | omega) [hq, -List.getD_eq_getElem?_getD]; try first | refine zZ ?_ | subst hK_) | subst hK_) | refine zA ?_ | refine zB ?_ | refine zC ?_ | refine zD ?_ | refine zE ?_ | refine zF ?_ | refine zG ?_ | refine zH ?_ | refine zI ?_ | refine zJ ?_ | refine zK ?_ | refine zL ?_ | refine zM ?_ | refine zN ?_ | refine zO ?_ | refine yG (by decide) ?_ | refine AW.condT rfl ?_ | refine AW.condF rfl ?_)
    (refine callK_p ?_; simp (maxSteps := 1000000) (disch := refine hold_ ?_; first | (simp [hsz, hi, -List.getD_eq_getElem?_getD]; done) | omega) [hsz, hi, -List.getD_eq_getElem?_getD]; refine callK1_of (Fn.ct k46 Tryd.call35) ?_; (try simp (maxSteps := 1000000) (disch := refine hold_ ?_; first | (simp [hsz, hi, -List.getD_eq_getElem?_getD]; done) | omega) [hsz, hi, -List.getD_eq_getElem?_getD]); first | refine zZ ?_ | subst hK_)
    repeat (first | ((first | refine zP fun K_ hK_ => ?_ | refine zQ fun K_ hK_ => ?_ | refine zR (by kernel_rfl) (by kernel_rfl) fun K_ hK_ => ?_ | refine zS (by kernel_rfl) (by kernel_rfl) fun K_ hK_ => ?_ | refine zT ?_); first | (simp (maxSteps := 1000000) (disch := refine hold_ ?_; first | (simp [hsz, hi, -List.getD_eq_getElem?_getD]; done) | omega) [hsz, hi, -List.getD_eq_getElem?_getD]; try first | refine zZ ?_ | subst hK_) | subst hK_) | refine zA ?_ | refine zB ?_ | refine zC ?_ | refine zD ?_ | refine zE ?_ | refine zF ?_ | refine zG ?_ | refine zH ?_ | refine zI ?_ | refine zJ ?_ | refine zK ?_ | refine zL ?_ | refine zM ?_ | refine zN ?_ | refine zO ?_ | refine yG (by decide) ?_ | refine AW.condT rfl ?_ | refine AW.condF rfl ?_)
    simp (maxSteps := 1000000) (disch := refine hold_ ?_; first | (simp [-List.getD_eq_getElem?_getD]; done) | omega) [-List.getD_eq_getElem?_getD]
  · rw [hl0] at hq
    refine Fn.of_body Tryd.func16 rfl ?_
    repeat (first | ((first | refine zP fun K_ hK_ => ?_ | refine zQ fun K_ hK_ => ?_ | refine zR (by kernel_rfl) (by kernel_rfl) fun K_ hK_ => ?_ | refine zS (by kernel_rfl) (by kernel_rfl) fun K_ hK_ => ?_ | refine zT ?_); first | (simp (maxSteps := 1000000) (disch := refine hold_ ?_; first | (simp [hq, -List.getD_eq_getElem?_getD]; done) | omega) [hq, -List.getD_eq_getElem?_getD]; try first | refine zZ ?_ | subst hK_) | subst hK_) | refine zA ?_ | refine zB ?_ | refine zC ?_ | refine zD ?_ | refine zE ?_ | refine zF ?_ | refine zG ?_ | refine zH ?_ | refine zI ?_ | refine zJ ?_ | refine zK ?_ | refine zL ?_ | refine zM ?_ | refine zN ?_ | refine zO ?_ | refine yG (by decide) ?_ | refine AW.condT rfl ?_ | refine AW.condF rfl ?_)
    simp (maxSteps := 1000000) (disch := refine hold_ ?_; first | (simp [-List.getD_eq_getElem?_getD]; done) | omega) [-List.getD_eq_getElem?_getD]
end Go.Av.Doc
end
