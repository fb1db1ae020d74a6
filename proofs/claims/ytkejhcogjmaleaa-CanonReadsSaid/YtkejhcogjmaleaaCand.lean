/- The walks of this seat's functions, and what is known of what they reckon (Cand). Conditions: those that each theorem names. -/
import Derived.Test.YtkejhcogjmaleaaCana

section
set_option linter.unusedSimpArgs false
set_option linter.unusedVariables false
open Go Go.Av Go.Proofs
namespace Go.Av.CanU
def charB (r : Int) : Bool := decide (0 ≤ r ∧ r ≤ 1114111 ∧ (r < 55296 ∨ 57343 < r))
def xmlB (r : Int) : Bool := decide (r = 9 ∨ r = 10 ∨ r = 13 ∨ (32 ≤ r ∧ r ≤ 55295) ∨ (57344 ≤ r ∧ r ≤ 65533) ∨ (65536 ≤ r ∧ r ≤ 1114111))
theorem charB_ct (r : Int) : Fn Try.prog 40 [.int .i32 r] [.p (.bool (charB r))] := by
  refine Fn.of_body Try.func40 rfl ?_
  have hr : r < 0 ∨ (0 ≤ r ∧ r < 55296) ∨ (55296 ≤ r ∧ r ≤ 57343) ∨ (57343 < r ∧ r ≤ 1114111) ∨ 1114111 < r := by omega
  rcases hr with hr | hr | hr | hr | hr
  all_goals
    (first | have f1 : (0 ≤ r) = True := eq_true (by omega) | have f1 : (0 ≤ r) = False := eq_false (by omega)); (first | have f2 : (r ≤ 1114111) = True := eq_true (by omega) | have f2 : (r ≤ 1114111) = False := eq_false (by omega)); (first | have f3 : (r < 55296) = True := eq_true (by omega) | have f3 : (r < 55296) = False := eq_false (by omega)); (first | have f4 : (57343 < r) = True := eq_true (by omega) | have f4 : (57343 < r) = False := eq_false (by omega))
    (first | have fx : charB r = true := by simp [charB, f1, f2, f3, f4] | have fx : charB r = false := by simp [charB, f1, f2, f3, f4])
    rw [fx]
    repeat (first | ((first | refine zP fun K_ hK_ => ?_ | refine zQ fun K_ hK_ => ?_ | refine zR (by kernel_rfl) (by kernel_rfl) fun K_ hK_ => ?_ | refine zS (by kernel_rfl) (by kernel_rfl) fun K_ hK_ => ?_ | refine zT ?_); first | (simp (maxSteps := 1000000) (disch := refine hold_ ?_; first | (simp [f1, f2, f3, f4, -List.getD_eq_getElem?_getD]; done) | omega) [f1, f2, f3, f4, -List.getD_eq_getElem?_getD]; try first | refine zZ ?_ | subst hK_) | subst hK_) | refine zA ?_ | refine zB ?_ | refine zC ?_ | refine zD ?_ | refine zE ?_ | refine zF ?_ | refine zG ?_ | refine zH ?_ | refine zI ?_ | refine zJ ?_ | refine zK ?_ | refine zL ?_ | refine zM ?_ | refine zN ?_ | refine zO ?_ | refine yG (by decide) ?_ | refine AW.condT rfl ?_ | refine AW.condF rfl ?_)
    simp (maxSteps := 1000000) (disch := refine hold_ ?_; first | (simp [f1, f2, f3, f4, -List.getD_eq_getElem?_getD]; done) | omega) [f1, f2, f3, f4, -List.getD_eq_getElem?_getD]
set_option maxHeartbeats 8000000 in
theorem rxml_ct (r : Int) : Fn Try.prog 28 [.int .i32 r] [.p (.bool (xmlB r))] := by
  refine Fn.of_body Try.func28 rfl ?_
  have hr : r < 0 ∨ (0 ≤ r ∧ r < 9) ∨ r = 9 ∨ r = 10 ∨ (10 < r ∧ r < 13) ∨ r = 13 ∨ (13 < r ∧ r < 32) ∨ (32 ≤ r ∧ r ≤ 55295) ∨ (55295 < r ∧ r < 57344) ∨ (57344 ≤ r ∧ r ≤ 65533) ∨ r = 65534 ∨ r = 65535 ∨ (65536 ≤ r ∧ r ≤ 1114111) ∨ 1114111 < r := by omega
  rcases hr with hr | hr | hr | hr | hr | hr | hr | hr | hr | hr | hr | hr | hr | hr
  all_goals
    (first | have f1 : (r == 9) = true := beq_iff_eq.2 (by omega) | have f1 : (r == 9) = false := beq_eq_false_iff_ne.2 (by omega)); (first | have f2 : (r == 10) = true := beq_iff_eq.2 (by omega) | have f2 : (r == 10) = false := beq_eq_false_iff_ne.2 (by omega)); (first | have f3 : (r == 13) = true := beq_iff_eq.2 (by omega) | have f3 : (r == 13) = false := beq_eq_false_iff_ne.2 (by omega)); (first | have f4 : (32 ≤ r) = True := eq_true (by omega) | have f4 : (32 ≤ r) = False := eq_false (by omega)); (first | have f5 : (r == 65534) = true := beq_iff_eq.2 (by omega) | have f5 : (r == 65534) = false := beq_eq_false_iff_ne.2 (by omega)); (first | have f6 : (r == 65535) = true := beq_iff_eq.2 (by omega) | have f6 : (r == 65535) = false := beq_eq_false_iff_ne.2 (by omega)); (first | have f7 : (0 ≤ r) = True := eq_true (by omega) | have f7 : (0 ≤ r) = False := eq_false (by omega)); (first | have f8 : (r ≤ 1114111) = True := eq_true (by omega) | have f8 : (r ≤ 1114111) = False := eq_false (by omega)); (first | have f9 : (r < 55296) = True := eq_true (by omega) | have f9 : (r < 55296) = False := eq_false (by omega)); (first | have f10 : (57343 < r) = True := eq_true (by omega) | have f10 : (57343 < r) = False := eq_false (by omega)); (first | have f11 : (r ≤ 55295) = True := eq_true (by omega) | have f11 : (r ≤ 55295) = False := eq_false (by omega)); (first | have f12 : (57344 ≤ r) = True := eq_true (by omega) | have f12 : (57344 ≤ r) = False := eq_false (by omega)); (first | have f13 : (r ≤ 65533) = True := eq_true (by omega) | have f13 : (r ≤ 65533) = False := eq_false (by omega)); (first | have f14 : (65536 ≤ r) = True := eq_true (by omega) | have f14 : (65536 ≤ r) = False := eq_false (by omega))
    (first | have g1 : (r = 9) = True := eq_true (by omega) | have g1 : (r = 9) = False := eq_false (by omega)); (first | have g2 : (r = 10) = True := eq_true (by omega) | have g2 : (r = 10) = False := eq_false (by omega)); (first | have g3 : (r = 13) = True := eq_true (by omega) | have g3 : (r = 13) = False := eq_false (by omega))
    (first | have fx : xmlB r = true := by simp [xmlB, f1, f2, f3, f4, f5, f6, f7, f8, f9, f10, f11, f12, f13, f14, g1, g2, g3] | have fx : xmlB r = false := by simp [xmlB, f1, f2, f3, f4, f5, f6, f7, f8, f9, f10, f11, f12, f13, f14, g1, g2, g3])
    (first | have fc : charB r = true := by simp [charB, f1, f2, f3, f4, f5, f6, f7, f8, f9, f10, f11, f12, f13, f14] | have fc : charB r = false := by simp [charB, f1, f2, f3, f4, f5, f6, f7, f8, f9, f10, f11, f12, f13, f14])
    have k := charB_ct r
    rw [fx]; rw [fc] at k
    repeat (first | ((first | refine callK_at 40 ?_); refine callK_p ?_; simp (maxSteps := 1000000) (disch := refine hold_ ?_; first | (simp [f1, f2, f3, f4, f5, f6, f7, f8, f9, f10, f11, f12, f13, f14, bne, -List.getD_eq_getElem?_getD]; done) | omega) [f1, f2, f3, f4, f5, f6, f7, f8, f9, f10, f11, f12, f13, f14, bne, -List.getD_eq_getElem?_getD]; (first | refine callK1_of (Fn.ct k Try.call40) ?_); (try simp (maxSteps := 1000000) (disch := refine hold_ ?_; first | (simp [f1, f2, f3, f4, f5, f6, f7, f8, f9, f10, f11, f12, f13, f14, bne, -List.getD_eq_getElem?_getD]; done) | omega) [f1, f2, f3, f4, f5, f6, f7, f8, f9, f10, f11, f12, f13, f14, bne, -List.getD_eq_getElem?_getD]); try first | refine zZ ?_ | subst hK_) | ((first | refine zP fun K_ hK_ => ?_ | refine zQ fun K_ hK_ => ?_ | refine zR (by kernel_rfl) (by kernel_rfl) fun K_ hK_ => ?_ | refine zS (by kernel_rfl) (by kernel_rfl) fun K_ hK_ => ?_ | refine zT ?_); first | (simp (maxSteps := 1000000) (disch := refine hold_ ?_; first | (simp [f1, f2, f3, f4, f5, f6, f7, f8, f9, f10, f11, f12, f13, f14, bne, -List.getD_eq_getElem?_getD]; done) | omega) [f1, f2, f3, f4, f5, f6, f7, f8, f9, f10, f11, f12, f13, f14, bne, -List.getD_eq_getElem?_getD]; try first | refine zZ ?_ | subst hK_) | subst hK_) | refine zA ?_ | refine zB ?_ | refine zC ?_ | refine zD ?_ | refine zE ?_ | refine zF ?_ | refine zG ?_ | refine zH ?_ | refine zI ?_ | refine zJ ?_ | refine zK ?_ | refine zL ?_ | refine zM ?_ | refine zN ?_ | refine zO ?_ | refine yG (by decide) ?_ | refine AW.condT rfl ?_ | refine AW.condF rfl ?_)
    simp (maxSteps := 1000000) (disch := refine hold_ ?_; first | (simp [f1, f2, f3, f4, f5, f6, f7, f8, f9, f10, f11, f12, f13, f14, bne, -List.getD_eq_getElem?_getD]; done) | omega) [f1, f2, f3, f4, f5, f6, f7, f8, f9, f10, f11, f12, f13, f14, bne, -List.getD_eq_getElem?_getD]
/-! ## A character's bytes -/
def byt (n : Int) : BitVec 8 := BitVec.ofInt 8 n
/-- The bytes of a character. -/
def encL (r : Int) : List (BitVec 8) :=
  if r < 128 then [byt r]
  else if r < 2048 then [byt (192 + r / 64), byt (128 + r % 64)]
  else if r < 65536 then [byt (224 + r / 4096), byt (128 + r / 64 % 64), byt (128 + r % 64)]
  else [byt (240 + r / 262144), byt (128 + r / 4096 % 64), byt (128 + r / 64 % 64), byt (128 + r % 64)]
theorem ub_byt (n : Int) (h0 : 0 ≤ n) (h : n < 256) : ub (byt n) = n := by simp [ub, byt, BitVec.toNat_ofInt]; omega
theorem ints_byt1 (a : Int) (h : 0 ≤ a ∧ a < 256) : (Row.ints .u8 [a] : Row PV) = bl [byt a] := by simp [bl, ub_byt, h]
theorem ints_byt2 (a b : Int) (h : 0 ≤ a ∧ a < 256) (h2 : 0 ≤ b ∧ b < 256) : (Row.ints .u8 [a, b] : Row PV) = bl [byt a, byt b] := by simp [bl, ub_byt, h, h2]
theorem ints_byt3 (a b c : Int) (h : 0 ≤ a ∧ a < 256) (h2 : 0 ≤ b ∧ b < 256) (h3 : 0 ≤ c ∧ c < 256) : (Row.ints .u8 [a, b, c] : Row PV) = bl [byt a, byt b, byt c] := by simp [bl, ub_byt, h, h2, h3]
theorem ints_byt4 (a b c d : Int) (h : 0 ≤ a ∧ a < 256) (h2 : 0 ≤ b ∧ b < 256) (h3 : 0 ≤ c ∧ c < 256) (h4 : 0 ≤ d ∧ d < 256) : (Row.ints .u8 [a, b, c, d] : Row PV) = bl [byt a, byt b, byt c, byt d] := by simp [bl, ub_byt, h, h2, h3, h4]
theorem wrap_u32 (n : Int) (h0 : 0 ≤ n) (h : n < 4294967296) : IntKind.u32.wrap n = n := by
  have : IntKind.u32.wrap n = n % 4294967296 := rfl
  rw [this]; omega
set_option maxHeartbeats 4000000 in
theorem one_ct (r : Int) (h0 : 0 ≤ r) (hn : r ≤ 1114111) : Fn Try.prog 47 [.int .i32 r] [.row (bl (encL r)) 0 0 false] 1 := by
  refine Fn.of_body Try.func47 rfl ?_
  have w0 : IntKind.u32.wrap r = r := wrap_u32 _ (by omega) (by omega)
  have d1 : r.tdiv 64 = r / 64 := Int.tdiv_eq_ediv_of_nonneg h0
  have d2 : r.tdiv 4096 = r / 4096 := Int.tdiv_eq_ediv_of_nonneg h0
  have d3 : r.tdiv 262144 = r / 262144 := Int.tdiv_eq_ediv_of_nonneg h0
  have m1 : r.tmod 64 = r % 64 := Int.tmod_eq_emod_of_nonneg h0
  have m2 : (r / 64).tmod 64 = r / 64 % 64 := Int.tmod_eq_emod_of_nonneg (by omega)
  have m3 : (r / 4096).tmod 64 = r / 4096 % 64 := Int.tmod_eq_emod_of_nonneg (by omega)
  have q1 : IntKind.u32.wrap (r / 64) = r / 64 := wrap_u32 _ (by omega) (by omega)
  have q2 : IntKind.u32.wrap (r / 4096) = r / 4096 := wrap_u32 _ (by omega) (by omega)
  have q3 : IntKind.u32.wrap (r / 262144) = r / 262144 := wrap_u32 _ (by omega) (by omega)
  have a1 : IntKind.u32.wrap (128 + r % 64) = 128 + r % 64 := wrap_u32 _ (by omega) (by omega)
  have a2 : IntKind.u32.wrap (128 + r / 64 % 64) = 128 + r / 64 % 64 := wrap_u32 _ (by omega) (by omega)
  have a3 : IntKind.u32.wrap (128 + r / 4096 % 64) = 128 + r / 4096 % 64 := wrap_u32 _ (by omega) (by omega)
  have b1 : IntKind.u8.wrap (128 + r % 64) = 128 + r % 64 := wrap_u8' _ (by omega) (by omega)
  have b2 : IntKind.u8.wrap (128 + r / 64 % 64) = 128 + r / 64 % 64 := wrap_u8' _ (by omega) (by omega)
  have b3 : IntKind.u8.wrap (128 + r / 4096 % 64) = 128 + r / 4096 % 64 := wrap_u8' _ (by omega) (by omega)
  have hr : r < 128 ∨ (128 ≤ r ∧ r < 2048) ∨ (2048 ≤ r ∧ r < 65536) ∨ 65536 ≤ r := by omega
  rcases hr with hr | hr | hr | hr
  all_goals (first | have f1 : (r < 128) = True := eq_true (by omega) | have f1 : (r < 128) = False := eq_false (by omega)); (first | have f2 : (r < 2048) = True := eq_true (by omega) | have f2 : (r < 2048) = False := eq_false (by omega)); (first | have f3 : (r < 65536) = True := eq_true (by omega) | have f3 : (r < 65536) = False := eq_false (by omega))
  · have c0 : IntKind.u8.wrap r = r := wrap_u8' _ (by omega) (by omega)
    have hE : encL r = [byt r] := by simp [encL, f1]
    have hB := ints_byt1 r (by omega)
    rw [hE]
    repeat (first | ((first | refine zP fun K_ hK_ => ?_ | refine zQ fun K_ hK_ => ?_ | refine zR (by kernel_rfl) (by kernel_rfl) fun K_ hK_ => ?_ | refine zS (by kernel_rfl) (by kernel_rfl) fun K_ hK_ => ?_ | refine zT ?_); first | (simp (maxSteps := 1000000) (disch := refine hold_ ?_; first | (simp [w0, c0, hB, f1, -List.getD_eq_getElem?_getD]; done) | omega) [w0, c0, hB, f1, -List.getD_eq_getElem?_getD]; try first | refine zZ ?_ | subst hK_) | subst hK_) | refine zA ?_ | refine zB ?_ | refine zC ?_ | refine zD ?_ | refine zE ?_ | refine zF ?_ | refine zG ?_ | refine zH ?_ | refine zI ?_ | refine zJ ?_ | refine zK ?_ | refine zL ?_ | refine zM ?_ | refine zN ?_ | refine zO ?_ | refine yG (by decide) ?_ | refine AW.condT rfl ?_ | refine AW.condF rfl ?_)
    simp (maxSteps := 1000000) (disch := refine hold_ ?_; first | (simp [w0, c0, hB, -List.getD_eq_getElem?_getD]; done) | omega) [w0, c0, hB, -List.getD_eq_getElem?_getD]
  · have hE : encL r = [byt (192 + r / 64), byt (128 + r % 64)] := by simp [encL, f1, f2]
    have e1 : IntKind.u32.wrap (192 + r / 64) = 192 + r / 64 := wrap_u32 _ (by omega) (by omega)
    have e2 : IntKind.u8.wrap (192 + r / 64) = 192 + r / 64 := wrap_u8' _ (by omega) (by omega)
    have hB := ints_byt2 (192 + r / 64) (128 + r % 64) (by omega) (by omega)
    rw [hE]
    repeat (first | ((first | refine zP fun K_ hK_ => ?_ | refine zQ fun K_ hK_ => ?_ | refine zR (by kernel_rfl) (by kernel_rfl) fun K_ hK_ => ?_ | refine zS (by kernel_rfl) (by kernel_rfl) fun K_ hK_ => ?_ | refine zT ?_); first | (simp (maxSteps := 1000000) (disch := refine hold_ ?_; first | (simp [w0, d1, m1, q1, a1, b1, e1, e2, hB, f1, f2, -List.getD_eq_getElem?_getD]; done) | omega) [w0, d1, m1, q1, a1, b1, e1, e2, hB, f1, f2, -List.getD_eq_getElem?_getD]; try first | refine zZ ?_ | subst hK_) | subst hK_) | refine zA ?_ | refine zB ?_ | refine zC ?_ | refine zD ?_ | refine zE ?_ | refine zF ?_ | refine zG ?_ | refine zH ?_ | refine zI ?_ | refine zJ ?_ | refine zK ?_ | refine zL ?_ | refine zM ?_ | refine zN ?_ | refine zO ?_ | refine yG (by decide) ?_ | refine AW.condT rfl ?_ | refine AW.condF rfl ?_)
    simp (maxSteps := 1000000) (disch := refine hold_ ?_; first | (simp [hB, -List.getD_eq_getElem?_getD]; done) | omega) [hB, -List.getD_eq_getElem?_getD]
  · have hE : encL r = [byt (224 + r / 4096), byt (128 + r / 64 % 64), byt (128 + r % 64)] := by simp [encL, f1, f2, f3]
    have e1 : IntKind.u32.wrap (224 + r / 4096) = 224 + r / 4096 := wrap_u32 _ (by omega) (by omega)
    have e2 : IntKind.u8.wrap (224 + r / 4096) = 224 + r / 4096 := wrap_u8' _ (by omega) (by omega)
    have hB := ints_byt3 (224 + r / 4096) (128 + r / 64 % 64) (128 + r % 64) (by omega) (by omega) (by omega)
    rw [hE]
    repeat (first | ((first | refine zP fun K_ hK_ => ?_ | refine zQ fun K_ hK_ => ?_ | refine zR (by kernel_rfl) (by kernel_rfl) fun K_ hK_ => ?_ | refine zS (by kernel_rfl) (by kernel_rfl) fun K_ hK_ => ?_ | refine zT ?_); first | (simp (maxSteps := 1000000) (disch := refine hold_ ?_; first | (simp [w0, d1, d2, m1, m2, q1, q2, a1, a2, b1, b2, e1, e2, hB, f1, f2, f3, -List.getD_eq_getElem?_getD]; done) | omega) [w0, d1, d2, m1, m2, q1, q2, a1, a2, b1, b2, e1, e2, hB, f1, f2, f3, -List.getD_eq_getElem?_getD]; try first | refine zZ ?_ | subst hK_) | subst hK_) | refine zA ?_ | refine zB ?_ | refine zC ?_ | refine zD ?_ | refine zE ?_ | refine zF ?_ | refine zG ?_ | refine zH ?_ | refine zI ?_ | refine zJ ?_ | refine zK ?_ | refine zL ?_ | refine zM ?_ | refine zN ?_ | refine zO ?_ | refine yG (by decide) ?_ | refine AW.condT rfl ?_ | refine AW.condF rfl ?_)
    simp (maxSteps := 1000000) (disch := refine hold_ ?_; first | (simp [hB, -List.getD_eq_getElem?_getD]; done) | omega) [hB, -List.getD_eq_getElem?_getD]
  · have hE : encL r = [byt (240 + r / 262144), byt (128 + r / 4096 % 64), byt (128 + r / 64 % 64), byt (128 + r % 64)] := by simp [encL, f1, f2, f3]
    have e1 : IntKind.u32.wrap (240 + r / 262144) = 240 + r / 262144 := wrap_u32 _ (by omega) (by omega)
    have e2 : IntKind.u8.wrap (240 + r / 262144) = 240 + r / 262144 := wrap_u8' _ (by omega) (by omega)
    have hB := ints_byt4 (240 + r / 262144) (128 + r / 4096 % 64) (128 + r / 64 % 64) (128 + r % 64) (by omega) (by omega) (by omega) (by omega)
    rw [hE]
    repeat (first | ((first | refine zP fun K_ hK_ => ?_ | refine zQ fun K_ hK_ => ?_ | refine zR (by kernel_rfl) (by kernel_rfl) fun K_ hK_ => ?_ | refine zS (by kernel_rfl) (by kernel_rfl) fun K_ hK_ => ?_ | refine zT ?_); first | (simp (maxSteps := 1000000) (disch := refine hold_ ?_; first | (simp [w0, d1, d2, d3, m1, m2, m3, q1, q2, q3, a1, a2, a3, b1, b2, b3, e1, e2, hB, f1, f2, f3, -List.getD_eq_getElem?_getD]; done) | omega) [w0, d1, d2, d3, m1, m2, m3, q1, q2, q3, a1, a2, a3, b1, b2, b3, e1, e2, hB, f1, f2, f3, -List.getD_eq_getElem?_getD]; try first | refine zZ ?_ | subst hK_) | subst hK_) | refine zA ?_ | refine zB ?_ | refine zC ?_ | refine zD ?_ | refine zE ?_ | refine zF ?_ | refine zG ?_ | refine zH ?_ | refine zI ?_ | refine zJ ?_ | refine zK ?_ | refine zL ?_ | refine zM ?_ | refine zN ?_ | refine zO ?_ | refine yG (by decide) ?_ | refine AW.condT rfl ?_ | refine AW.condF rfl ?_)
    simp (maxSteps := 1000000) (disch := refine hold_ ?_; first | (simp [hB, -List.getD_eq_getElem?_getD]; done) | omega) [hB, -List.getD_eq_getElem?_getD]
end Go.Av.CanU
end

section
set_option linter.unusedSimpArgs false
set_option linter.unusedVariables false
open Go Go.Av Go.Proofs
namespace Go.Av.CanU
def bt (l : List (BitVec 8)) (i : Nat) : Int := ub (l.getD i 0)
theorem bt_lt (l : List (BitVec 8)) (i : Nat) : 0 ≤ bt l i ∧ bt l i < 256 := by
  have := (l.getD i 0).isLt
  unfold bt ub; omega
def loB (b : Int) : Int := if b = 224 then 160 else if b = 240 then 144 else 128
def hiB (b : Int) : Int := if b = 237 then 159 else if b = 244 then 143 else 191
def okS (l : List (BitVec 8)) : Nat :=
  if l.length = 0 then 0
  else if bt l 0 < 128 then 1
  else if 194 ≤ bt l 0 ∧ bt l 0 < 224 then (if 2 ≤ l.length ∧ 128 ≤ bt l 1 ∧ bt l 1 ≤ 191 then 2 else 0)
  else if 224 ≤ bt l 0 ∧ bt l 0 < 240 then (if 3 ≤ l.length ∧ loB (bt l 0) ≤ bt l 1 ∧ bt l 1 ≤ hiB (bt l 0) ∧ 128 ≤ bt l 2 ∧ bt l 2 ≤ 191 then 3 else 0)
  else if 240 ≤ bt l 0 ∧ bt l 0 < 245 then (if 4 ≤ l.length ∧ loB (bt l 0) ≤ bt l 1 ∧ bt l 1 ≤ hiB (bt l 0) ∧ 128 ≤ bt l 2 ∧ bt l 2 ≤ 191 ∧ 128 ≤ bt l 3 ∧ bt l 3 ≤ 191 then 4 else 0)
  else 0
def runeN (l : List (BitVec 8)) : Int :=
  if bt l 0 < 128 then bt l 0
  else if bt l 0 < 224 then (bt l 0 - 192) * 64 + (bt l 1 - 128)
  else if bt l 0 < 240 then (bt l 0 - 224) * 4096 + (bt l 1 - 128) * 64 + (bt l 2 - 128)
  else (bt l 0 - 240) * 262144 + (bt l 1 - 128) * 4096 + (bt l 2 - 128) * 64 + (bt l 3 - 128)
theorem okS_len (l : List (BitVec 8)) : okS l ≤ l.length := by
  unfold okS
  (repeat' split) <;> omega
def charsL (l : List (BitVec 8)) : Option (List Int) :=
  if h : l.length = 0 then some []
  else if h2 : okS l = 0 then none
  else (charsL (l.drop (okS l))).map (runeN l :: ·)
termination_by l.length
decreasing_by simp; omega
theorem charsL_nil : charsL [] = some [] := by rw [charsL]; simp
theorem charsL_bad (l : List (BitVec 8)) (h : l.length ≠ 0) (h2 : okS l = 0) : charsL l = none := by rw [charsL]; simp [h, h2]
theorem charsL_step (l : List (BitVec 8)) (h : l.length ≠ 0) (h2 : okS l ≠ 0) : charsL l = (charsL (l.drop (okS l))).map (runeN l :: ·) := by
  rw [charsL]; simp only [h, h2, dif_neg, not_false_eq_true]
theorem bt_drop (l : List (BitVec 8)) (n i : Nat) : bt (l.drop n) i = bt l (n + i) := by simp [bt, List.getD_eq_getElem?_getD]
/-! ## the document's first character -/
def longN (b : Int) : Nat := if b < 128 then 1 else if 192 ≤ b ∧ b < 224 then 2 else if 224 ≤ b ∧ b < 240 then 3 else 4
theorem long_ct (b : Int) : Fn Try.prog 46 [.int .u8 b] [.p (.int .i64 (longN b : Nat))] := by
  refine Fn.of_body Try.func46 rfl ?_
  have hc : b < 128 ∨ (128 ≤ b ∧ b < 192) ∨ (192 ≤ b ∧ b < 224) ∨ (224 ≤ b ∧ b < 240) ∨ 240 ≤ b := by omega
  rcases hc with hc | hc | hc | hc | hc
  all_goals
    (first | have f1 : (b < 128) = True := eq_true (by omega) | have f1 : (b < 128) = False := eq_false (by omega)); (first | have f2 : (192 ≤ b) = True := eq_true (by omega) | have f2 : (192 ≤ b) = False := eq_false (by omega)); (first | have f3 : (b < 224) = True := eq_true (by omega) | have f3 : (b < 224) = False := eq_false (by omega)); (first | have f4 : (224 ≤ b) = True := eq_true (by omega) | have f4 : (224 ≤ b) = False := eq_false (by omega)); (first | have f5 : (b < 240) = True := eq_true (by omega) | have f5 : (b < 240) = False := eq_false (by omega))
    (first | have e : longN b = 1 := by simp [longN, f1, f2, f3, f4, f5] | have e : longN b = 2 := by simp [longN, f1, f2, f3, f4, f5] | have e : longN b = 3 := by simp [longN, f1, f2, f3, f4, f5] | have e : longN b = 4 := by simp [longN, f1, f2, f3, f4, f5])
    rw [e]
    repeat (first | ((first | refine zP fun K_ hK_ => ?_ | refine zQ fun K_ hK_ => ?_ | refine zR (by kernel_rfl) (by kernel_rfl) fun K_ hK_ => ?_ | refine zS (by kernel_rfl) (by kernel_rfl) fun K_ hK_ => ?_ | refine zT ?_); first | (simp (maxSteps := 1000000) (disch := refine hold_ ?_; first | (simp [f1, f2, f3, f4, f5, -List.getD_eq_getElem?_getD]; done) | omega) [f1, f2, f3, f4, f5, -List.getD_eq_getElem?_getD]; try first | refine zZ ?_ | subst hK_) | subst hK_) | refine zA ?_ | refine zB ?_ | refine zC ?_ | refine zD ?_ | refine zE ?_ | refine zF ?_ | refine zG ?_ | refine zH ?_ | refine zI ?_ | refine zJ ?_ | refine zK ?_ | refine zL ?_ | refine zM ?_ | refine zN ?_ | refine zO ?_ | refine yG (by decide) ?_ | refine AW.condT rfl ?_ | refine AW.condF rfl ?_)
    simp (maxSteps := 1000000) (disch := refine hold_ ?_; first | (simp [f1, f2, f3, f4, f5, -List.getD_eq_getElem?_getD]; done) | omega) [f1, f2, f3, f4, f5, -List.getD_eq_getElem?_getD]
def off (n : Nat) : Int := if n = 2 then 192 else if n = 3 then 224 else if n = 4 then 240 else 0
/-- What is reckoned of the first k + 1 bytes. -/
def rv (l : List (BitVec 8)) (n : Nat) : Nat → Int
  | 0 => bt l 0 - off n
  | k + 1 => rv l n k * 64 + bt l (k + 1) - 128
theorem ub_inj {a b : BitVec 8} (h : ub a = ub b) : a = b := by
  unfold ub at h; exact BitVec.eq_of_toNat_eq (by omega)
theorem byt_eq {r : Int} {a : BitVec 8} (h : 0 ≤ r ∧ r < 256) : byt r = a ↔ ub a = r := by
  constructor
  · rintro rfl; exact ub_byt r h.1 h.2
  · intro e; apply ub_inj; rw [ub_byt r h.1 h.2, e]
theorem encL_take (r : Int) (l : List (BitVec 8)) (n : Nat) (hr : 0 ≤ r ∧ r ≤ 1114111) (hn : n ≤ l.length) : encL r = l.take n ↔
    ((r < 128 ∧ n = 1 ∧ bt l 0 = r) ∨ (128 ≤ r ∧ r < 2048 ∧ n = 2 ∧ bt l 0 = 192 + r / 64 ∧ bt l 1 = 128 + r % 64) ∨
     (2048 ≤ r ∧ r < 65536 ∧ n = 3 ∧ bt l 0 = 224 + r / 4096 ∧ bt l 1 = 128 + r / 64 % 64 ∧ bt l 2 = 128 + r % 64) ∨
     (65536 ≤ r ∧ n = 4 ∧ bt l 0 = 240 + r / 262144 ∧ bt l 1 = 128 + r / 4096 % 64 ∧ bt l 2 = 128 + r / 64 % 64 ∧ bt l 3 = 128 + r % 64)) := by
  have hlen : (l.take n).length = n := by simp; omega
  have hlt := congrArg List.length (Eq.refl (encL r))
  unfold encL
  split
  · rename_i h
    constructor
    · intro e
      rw [← e] at hlen; simp only [List.length_cons, List.length_nil] at hlen; subst hlen
      match l, hn with
      | a :: l, _ => simp only [List.take_succ_cons, List.take_zero, List.cons.injEq, and_true] at e; left; exact ⟨h, rfl, (byt_eq (by omega)).1 e⟩
    · intro e
      rcases e with ⟨_, rfl, e⟩ | e | e | e
      · match l, hn with
        | a :: l, _ => simp only [List.take_succ_cons, List.take_zero, List.cons.injEq, and_true]; exact (byt_eq (by omega)).2 e
      all_goals omega
  · split
    · rename_i h h2
      constructor
      · intro e
        rw [← e] at hlen; simp only [List.length_cons, List.length_nil] at hlen; subst hlen
        match l, hn with
        | a :: b :: l, _ => 
          simp only [List.take_succ_cons, List.take_zero, List.cons.injEq, and_true] at e
          right; left; exact ⟨by omega, h2, rfl, (byt_eq (by omega)).1 e.1, (byt_eq (by omega)).1 e.2⟩
      · intro e
        rcases e with e | ⟨_, _, rfl, e1, e2⟩ | e | e
        · omega
        · match l, hn with
          | a :: b :: l, _ => simp only [List.take_succ_cons, List.take_zero, List.cons.injEq, and_true]; exact ⟨(byt_eq (by omega)).2 e1, (byt_eq (by omega)).2 e2⟩
        all_goals omega
    · split
      · rename_i h h2 h3
        constructor
        · intro e
          rw [← e] at hlen; simp only [List.length_cons, List.length_nil] at hlen; subst hlen
          match l, hn with
          | a :: b :: c :: l, _ => 
            simp only [List.take_succ_cons, List.take_zero, List.cons.injEq, and_true] at e
            right; right; left; exact ⟨by omega, h3, rfl, (byt_eq (by omega)).1 e.1, (byt_eq (by omega)).1 e.2.1, (byt_eq (by omega)).1 e.2.2⟩
        · intro e
          rcases e with e | e | ⟨_, _, rfl, e1, e2, e3⟩ | e
          · omega
          · omega
          · match l, hn with
            | a :: b :: c :: l, _ => simp only [List.take_succ_cons, List.take_zero, List.cons.injEq, and_true]; exact ⟨(byt_eq (by omega)).2 e1, (byt_eq (by omega)).2 e2, (byt_eq (by omega)).2 e3⟩
          · omega
      · rename_i h h2 h3
        constructor
        · intro e
          rw [← e] at hlen; simp only [List.length_cons, List.length_nil] at hlen; subst hlen
          match l, hn with
          | a :: b :: c :: d :: l, _ => 
            simp only [List.take_succ_cons, List.take_zero, List.cons.injEq, and_true] at e
            right; right; right; exact ⟨by omega, rfl, (byt_eq (by omega)).1 e.1, (byt_eq (by omega)).1 e.2.1, (byt_eq (by omega)).1 e.2.2.1, (byt_eq (by omega)).1 e.2.2.2⟩
        · intro e
          rcases e with e | e | e | ⟨_, rfl, e1, e2, e3, e4⟩
          · omega
          · omega
          · omega
          · match l, hn with
            | a :: b :: c :: d :: l, _ => simp only [List.take_succ_cons, List.take_zero, List.cons.injEq, and_true]; exact ⟨(byt_eq (by omega)).2 e1, (byt_eq (by omega)).2 e2, (byt_eq (by omega)).2 e3, (byt_eq (by omega)).2 e4⟩
/-- The document's test is the tables'. -/
theorem first_eq (l : List (BitVec 8)) (h0 : 0 < l.length) (n : Nat) (hn : longN (bt l 0) = n) (hle : n ≤ l.length) :
    ((charB (rv l n (n - 1)) = true ∧ encL (rv l n (n - 1)) = l.take n) → okS l = n ∧ runeN l = rv l n (n - 1)) ∧ (¬ (charB (rv l n (n - 1)) = true ∧ encL (rv l n (n - 1)) = l.take n) → okS l = 0) := by
  have b0 := bt_lt l 0; have b1 := bt_lt l 1; have b2 := bt_lt l 2; have b3 := bt_lt l 3
  have key : (charB (rv l n (n - 1)) = true ∧ encL (rv l n (n - 1)) = l.take n) ↔ ((0 ≤ rv l n (n - 1) ∧ rv l n (n - 1) ≤ 1114111 ∧ (rv l n (n - 1) < 55296 ∨ 57343 < rv l n (n - 1))) ∧ encL (rv l n (n - 1)) = l.take n) := by
    simp [charB]
  rw [key]
  have hcs : (n = 1 ∧ bt l 0 < 128) ∨ (n = 2 ∧ 192 ≤ bt l 0 ∧ bt l 0 < 224) ∨ (n = 3 ∧ 224 ≤ bt l 0 ∧ bt l 0 < 240) ∨ (n = 4 ∧ 128 ≤ bt l 0 ∧ (bt l 0 < 192 ∨ 240 ≤ bt l 0)) := by
    unfold longN at hn; (repeat' split at hn) <;> omega
  rcases hcs with ⟨rfl, h1⟩ | ⟨rfl, h1, h2⟩ | ⟨rfl, h1, h2⟩ | ⟨rfl, h1, h2⟩
  · have hr : rv l 1 (1 - 1) = bt l 0 := by simp [rv, off]
    generalize rv l 1 (1 - 1) = r at *
    subst hr
    constructor
    · intro _; exact ⟨by unfold okS; rw [if_neg (by omega), if_pos h1], by unfold runeN; rw [if_pos h1]⟩
    · intro hx; exact absurd ⟨by omega, (encL_take (bt l 0) l 1 (by omega) hle).2 (.inl ⟨h1, rfl, rfl⟩)⟩ hx
  · have hr : rv l 2 (2 - 1) = (bt l 0 - 192) * 64 + bt l 1 - 128 := by simp [rv, off]
    generalize rv l 2 (2 - 1) = r at *
    constructor
    · rintro ⟨ha, hb⟩
      rw [encL_take r l 2 (by omega) hle] at hb
      constructor
      · unfold okS; rw [if_neg (by omega), if_neg (by omega), if_pos (by omega), if_pos (by omega)]
      · unfold runeN; rw [if_neg (by omega), if_pos (by omega)]; omega
    · intro hx
      unfold okS; rw [if_neg (by omega), if_neg (by omega)]
      split
      · split
        · exact absurd ⟨by omega, (encL_take r l 2 (by omega) hle).2 (.inr (.inl ⟨by omega, by omega, rfl, by omega, by omega⟩))⟩ hx
        · rfl
      · rw [if_neg (by omega), if_neg (by omega)]
  · have hr : rv l 3 (3 - 1) = ((bt l 0 - 224) * 64 + bt l 1 - 128) * 64 + bt l 2 - 128 := by simp [rv, off]
    generalize rv l 3 (3 - 1) = r at *
    constructor
    · rintro ⟨ha, hb⟩
      rw [encL_take r l 3 (by omega) hle] at hb
      have hb2 : 2048 ≤ r ∧ r < 65536 ∧ bt l 0 = 224 + r / 4096 ∧ bt l 1 = 128 + r / 64 % 64 ∧ bt l 2 = 128 + r % 64 := by
        rcases hb with h | h | h | h
        · omega
        · omega
        · exact ⟨h.1, h.2.1, h.2.2.2.1, h.2.2.2.2.1, h.2.2.2.2.2⟩
        · omega
      clear hb key hn
      have l1 : loB (bt l 0) ≤ bt l 1 := by unfold loB; (repeat' split) <;> omega
      have l2 : bt l 1 ≤ hiB (bt l 0) := by unfold hiB; (repeat' split) <;> omega
      constructor
      · unfold okS; rw [if_neg (by omega), if_neg (by omega), if_neg (by omega), if_pos (by omega), if_pos (by omega)]
      · unfold runeN; rw [if_neg (by omega), if_neg (by omega), if_pos (by omega)]; omega
    · intro hx
      clear key hn
      unfold okS; rw [if_neg (by omega), if_neg (by omega), if_neg (by omega), if_pos (by omega)]
      split
      · rename_i hc
        obtain ⟨q0, q1, q2, q3, q4⟩ := hc
        have l1 : (bt l 0 = 224 → 160 ≤ bt l 1) ∧ 128 ≤ bt l 1 := by unfold loB at q1; (repeat' split at q1) <;> omega
        have l2 : (bt l 0 = 237 → bt l 1 ≤ 159) ∧ bt l 1 ≤ 191 := by unfold hiB at q2; (repeat' split at q2) <;> omega
        clear q1 q2
        refine absurd ⟨by omega, (encL_take r l 3 (by omega) hle).2 (.inr (.inr (.inl ⟨by omega, by omega, rfl, by omega, by omega, by omega⟩)))⟩ hx
      · rfl
  · have hr : rv l 4 (4 - 1) = (((bt l 0 - 240) * 64 + bt l 1 - 128) * 64 + bt l 2 - 128) * 64 + bt l 3 - 128 := by simp [rv, off]
    generalize rv l 4 (4 - 1) = r at *
    constructor
    · rintro ⟨ha, hb⟩
      rw [encL_take r l 4 (by omega) hle] at hb
      have hb2 : 65536 ≤ r ∧ bt l 0 = 240 + r / 262144 ∧ bt l 1 = 128 + r / 4096 % 64 ∧ bt l 2 = 128 + r / 64 % 64 ∧ bt l 3 = 128 + r % 64 := by
        rcases hb with h | h | h | h
        · omega
        · omega
        · omega
        · exact ⟨h.1, h.2.2.1, h.2.2.2.1, h.2.2.2.2.1, h.2.2.2.2.2⟩
      clear hb key hn
      have l1 : loB (bt l 0) ≤ bt l 1 := by unfold loB; (repeat' split) <;> omega
      have l2 : bt l 1 ≤ hiB (bt l 0) := by unfold hiB; (repeat' split) <;> omega
      constructor
      · unfold okS; rw [if_neg (by omega), if_neg (by omega), if_neg (by omega), if_neg (by omega), if_pos (by omega), if_pos (by omega)]
      · unfold runeN; rw [if_neg (by omega), if_neg (by omega), if_neg (by omega)]; omega
    · intro hx
      clear key hn
      unfold okS; rw [if_neg (by omega), if_neg (by omega), if_neg (by omega), if_neg (by omega)]
      split
      · split
        · rename_i hc
          obtain ⟨q0, q1, q2, q3, q4, q5, q6⟩ := hc
          have l1 : (bt l 0 = 240 → 144 ≤ bt l 1) ∧ 128 ≤ bt l 1 := by unfold loB at q1; (repeat' split at q1) <;> omega
          have l2 : (bt l 0 = 244 → bt l 1 ≤ 143) ∧ bt l 1 ≤ 191 := by unfold hiB at q2; (repeat' split at q2) <;> omega
          clear q1 q2
          refine absurd ⟨by omega, (encL_take r l 4 (by omega) hle).2 (.inr (.inr (.inr ⟨by omega, rfl, by omega, by omega, by omega, by omega⟩)))⟩ hx
        · rfl
      · rfl
/-! ### texts -/
theorem longN_le (b : Int) : 1 ≤ longN b ∧ longN b ≤ 4 := by unfold longN; (repeat' split) <;> omega
theorem rv_lt (l : List (BitVec 8)) (n k : Nat) (hk : k ≤ 3) : -134217728 ≤ rv l n k ∧ rv l n k < 134217728 := by
  have b0 := bt_lt l 0; have b1 := bt_lt l 1; have b2 := bt_lt l 2; have b3 := bt_lt l 3
  have ho : 0 ≤ off n ∧ off n ≤ 240 := by unfold off; (repeat' split) <;> omega
  have : k = 0 ∨ k = 1 ∨ k = 2 ∨ k = 3 := by omega
  rcases this with rfl | rfl | rfl | rfl <;> simp only [rv, Nat.zero_add, Nat.reduceAdd] <;> omega
theorem rv_lt2 (l : List (BitVec 8)) (n k : Nat) (hk : k ≤ 2) : -2097152 ≤ rv l n k ∧ rv l n k < 2097152 := by
  have b0 := bt_lt l 0; have b1 := bt_lt l 1; have b2 := bt_lt l 2
  have ho : 0 ≤ off n ∧ off n ≤ 240 := by unfold off; (repeat' split) <;> omega
  have : k = 0 ∨ k = 1 ∨ k = 2 := by omega
  rcases this with rfl | rfl | rfl <;> simp only [rv, Nat.zero_add, Nat.reduceAdd] <;> omega
set_option maxHeartbeats 8000000 in
theorem first_ct (nl : Bool) (l : List (BitVec 8)) (hl : l.length ≤ 4000000) : Fn Try.prog 39 [.sl (bl l) nl] [.p (.int .i32 (if okS l = 0 then 0 else runeN l)), .p (.int .i64 (okS l : Nat))] := by
  by_cases h0 : l.length = 0
  · have hok : okS l = 0 := by unfold okS; rw [if_pos h0]
    rw [hok]
    have h0' : ((l.length : Int) == 0) = true := by simp [h0]
    refine Fn.of_body Try.func39 rfl ?_
    repeat (first | ((first | refine zP fun K_ hK_ => ?_ | refine zQ fun K_ hK_ => ?_ | refine zR (by kernel_rfl) (by kernel_rfl) fun K_ hK_ => ?_ | refine zS (by kernel_rfl) (by kernel_rfl) fun K_ hK_ => ?_ | refine zT ?_); first | (simp (maxSteps := 1000000) (disch := refine hold_ ?_; first | (simp [h0', -List.getD_eq_getElem?_getD]; done) | omega) [h0', -List.getD_eq_getElem?_getD]; try first | refine zZ ?_ | subst hK_) | subst hK_) | refine zA ?_ | refine zB ?_ | refine zC ?_ | refine zD ?_ | refine zE ?_ | refine zF ?_ | refine zG ?_ | refine zH ?_ | refine zI ?_ | refine zJ ?_ | refine zK ?_ | refine zL ?_ | refine zM ?_ | refine zN ?_ | refine zO ?_ | refine yG (by decide) ?_ | refine AW.condT rfl ?_ | refine AW.condF rfl ?_)
    simp (maxSteps := 1000000) (disch := refine hold_ ?_; first | (simp [-List.getD_eq_getElem?_getD]; done) | omega) [-List.getD_eq_getElem?_getD]
  · have h1 : 0 < l.length := by omega
    have h0' : ((l.length : Int) == 0) = false := beq_eq_false_iff_ne.2 (by omega)
    have hE : ub (l.getD 0 0#8) = bt l 0 := rfl
    generalize hn : longN (bt l 0) = n
    have hnn := longN_le (bt l 0)
    rw [hn] at hnn
    have k50 := long_ct (bt l 0)
    rw [hn] at k50
    by_cases hle : n ≤ l.length
    · obtain ⟨e1, e2⟩ := first_eq l h1 n hn hle
      have f1 : ¬ (l.length : Int) < n := by omega
      have hb := bt_lt l 0
      have w0 : IntKind.i32.wrap (bt l 0) = bt l 0 := wrap_i32 _ (by omega) (by omega)
      have wo : IntKind.i32.wrap (bt l 0 - off n) = bt l 0 - off n := by
        have ho : 0 ≤ off n ∧ off n ≤ 240 := by unfold off; (repeat' split) <;> omega
        exact wrap_i32 _ (by omega) (by omega)
      refine Fn.of_body Try.func39 rfl ?_
      repeat (first | ((first | refine zP fun K_ hK_ => ?_ | refine zQ fun K_ hK_ => ?_ | refine zR (by kernel_rfl) (by kernel_rfl) fun K_ hK_ => ?_ | refine zS (by kernel_rfl) (by kernel_rfl) fun K_ hK_ => ?_ | refine zT ?_); first | (simp (maxSteps := 1000000) (disch := refine hold_ ?_; first | (simp [h0', h1, hE, -List.getD_eq_getElem?_getD]; done) | omega) [h0', h1, hE, -List.getD_eq_getElem?_getD]; try first | refine zZ ?_ | subst hK_) | subst hK_) | refine zA ?_ | refine zB ?_ | refine zC ?_ | refine zD ?_ | refine zE ?_ | refine zF ?_ | refine zG ?_ | refine zH ?_ | refine zI ?_ | refine zJ ?_ | refine zK ?_ | refine zL ?_ | refine zM ?_ | refine zN ?_ | refine zO ?_ | refine yG (by decide) ?_ | refine AW.condT rfl ?_ | refine AW.condF rfl ?_)
      (refine callK_p ?_; simp (maxSteps := 1000000) (disch := refine hold_ ?_; first | (simp [h0', h1, hE, -List.getD_eq_getElem?_getD]; done) | omega) [h0', h1, hE, -List.getD_eq_getElem?_getD]; refine callK1_of (Fn.ct k50 Try.call46) ?_; (try simp (maxSteps := 1000000) (disch := refine hold_ ?_; first | (simp [h0', h1, hE, -List.getD_eq_getElem?_getD]; done) | omega) [h0', h1, hE, -List.getD_eq_getElem?_getD]); first | refine zZ ?_ | subst hK_)
      have wa : IntKind.i32.wrap (bt l 0 - 192) = bt l 0 - 192 := wrap_i32 _ (by omega) (by omega)
      have wb : IntKind.i32.wrap (bt l 0 - 224) = bt l 0 - 224 := wrap_i32 _ (by omega) (by omega)
      have wc : IntKind.i32.wrap (bt l 0 - 240) = bt l 0 - 240 := wrap_i32 _ (by omega) (by omega)
      clear wo
      have hcs : n = 1 ∨ n = 2 ∨ n = 3 ∨ n = 4 := by omega
      rcases hcs with h | h | h | h
      all_goals
        (first | have g1 : ((n : Int) == 2) = true := beq_iff_eq.2 (by omega) | have g1 : ((n : Int) == 2) = false := beq_eq_false_iff_ne.2 (by omega)); (first | have g2 : ((n : Int) == 3) = true := beq_iff_eq.2 (by omega) | have g2 : ((n : Int) == 3) = false := beq_eq_false_iff_ne.2 (by omega)); (first | have g3 : ((n : Int) == 4) = true := beq_iff_eq.2 (by omega) | have g3 : ((n : Int) == 4) = false := beq_eq_false_iff_ne.2 (by omega))
        (first | have r0 : rv l n 0 = bt l 0 := (by subst h; show bt l 0 - 0 = _; omega) | have r0 : rv l n 0 = bt l 0 - 192 := (by subst h; rfl) | have r0 : rv l n 0 = bt l 0 - 224 := (by subst h; rfl) | have r0 : rv l n 0 = bt l 0 - 240 := (by subst h; rfl))
        repeat (first | ((first | refine zP fun K_ hK_ => ?_ | refine zQ fun K_ hK_ => ?_ | refine zR (by kernel_rfl) (by kernel_rfl) fun K_ hK_ => ?_ | refine zS (by kernel_rfl) (by kernel_rfl) fun K_ hK_ => ?_ | refine zT ?_); first | (simp (maxSteps := 1000000) (disch := refine hold_ ?_; first | (simp [f1, h1, hE, w0, wa, wb, wc, g1, g2, g3, -List.getD_eq_getElem?_getD]; done) | omega) [f1, h1, hE, w0, wa, wb, wc, g1, g2, g3, -List.getD_eq_getElem?_getD]; try first | refine zZ ?_ | subst hK_) | subst hK_) | refine zA ?_ | refine zB ?_ | refine zC ?_ | refine zD ?_ | refine zE ?_ | refine zF ?_ | refine zG ?_ | refine zH ?_ | refine zI ?_ | refine zJ ?_ | refine zK ?_ | refine zL ?_ | refine zM ?_ | refine zN ?_ | refine zO ?_ | refine yG (by decide) ?_ | refine AW.condT rfl ?_ | refine AW.condF rfl ?_)
        refine AW.iter (true :: false :: false :: false :: true :: true :: true :: false :: false :: false :: false :: false :: false :: false :: false :: false :: false :: false :: false :: false :: false :: false :: false :: false :: false :: false :: false :: false :: false :: false :: false :: false :: false :: false :: false :: false :: false :: false :: false :: false :: false :: false :: false :: false :: false :: false :: false :: false :: false :: false :: false :: false :: false :: false :: false :: false :: false :: false :: false :: false :: false :: false :: false :: false :: []) (n - 1) (fun k => ⟨(.p (.sl (bl l) nl) :: V.junk :: V.junk :: V.junk :: .p (.int .i64 n) :: .p (.int .i32 (rv l n k)) :: .p (.int .i64 (k + 1 : Nat)) :: V.junk :: V.junk :: V.junk :: V.junk :: V.junk :: V.junk :: V.junk :: V.junk :: V.junk :: V.junk :: V.junk :: V.junk :: V.junk :: V.junk :: V.junk :: V.junk :: V.junk :: V.junk :: V.junk :: V.junk :: V.junk :: V.junk :: V.junk :: V.junk :: V.junk :: V.junk :: V.junk :: V.junk :: V.junk :: V.junk :: V.junk :: V.junk :: V.junk :: V.junk :: V.junk :: V.junk :: V.junk :: V.junk :: V.junk :: V.junk :: V.junk :: V.junk :: V.junk :: V.junk :: V.junk :: V.junk :: V.junk :: V.junk :: V.junk :: V.junk :: V.junk :: V.junk :: V.junk :: V.junk :: V.junk :: V.junk :: V.junk :: []), ⟨[], []⟩⟩) ?_ ?_
        · simp (maxSteps := 1000000) (disch := refine hold_ ?_; first | (simp [r0, -List.getD_eq_getElem?_getD]; done) | omega) [r0, -List.getD_eq_getElem?_getD]
        clear r0 g1 g2 g3 wa wb wc
        intro k hk
        have tn : ((k : Int) + 1).toNat = k + 1 := by omega
        by_cases hkn : k < n - 1
        · have hkn2 : (k : Int) + 1 < n := by omega
          have hkl : k + 1 < l.length := by omega
          have hkl2 : (k : Int) + 1 < l.length := by omega
          have hR := rv_lt2 l n k (by omega)
          have hb1 := bt_lt l (k + 1)
          have hE1 : ub (l.getD (k + 1) 0#8) = bt l (k + 1) := rfl
          have hs : rv l n (k + 1) = rv l n k * 64 + bt l (k + 1) - 128 := rfl
          have e9 : IntKind.i64.wrap ((k : Int) + 1 + 1) = k + 1 + 1 := wrap_i64 _ (by omega) (by omega)
          generalize rv l n k = R at *
          generalize bt l (k + 1) = B at *
          have w1 : IntKind.i32.wrap (R * 64) = R * 64 := wrap_i32 _ (by omega) (by omega)
          have w2 : IntKind.i32.wrap B = B := wrap_i32 _ (by omega) (by omega)
          have w3 : IntKind.i32.wrap (R * 64 + B) = R * 64 + B := wrap_i32 _ (by omega) (by omega)
          have w4 : IntKind.i32.wrap (R * 64 + B - 128) = R * 64 + B - 128 := wrap_i32 _ (by omega) (by omega)
          repeat (first | ((first | refine zP fun K_ hK_ => ?_ | refine zQ fun K_ hK_ => ?_ | refine zR (by kernel_rfl) (by kernel_rfl) fun K_ hK_ => ?_ | refine zS (by kernel_rfl) (by kernel_rfl) fun K_ hK_ => ?_ | refine zT ?_); first | (simp (maxSteps := 1000000) (disch := refine hold_ ?_; first | (simp [tn, hkn2, hkl, hkl2, hE1, w1, w2, w3, w4, e9, -List.getD_eq_getElem?_getD]; done) | omega) [tn, hkn2, hkl, hkl2, hE1, w1, w2, w3, w4, e9, -List.getD_eq_getElem?_getD]; try first | refine zZ ?_ | subst hK_) | subst hK_) | refine zA ?_ | refine zB ?_ | refine zC ?_ | refine zD ?_ | refine zE ?_ | refine zF ?_ | refine zG ?_ | refine zH ?_ | refine zI ?_ | refine zJ ?_ | refine zK ?_ | refine zL ?_ | refine zM ?_ | refine zN ?_ | refine zO ?_ | refine yG (by decide) ?_ | refine AW.condT rfl ?_ | refine AW.condF rfl ?_)
          refine ⟨hkn, ?_⟩
          simp (maxSteps := 1000000) (disch := refine hold_ ?_; first | (simp [hs, -List.getD_eq_getElem?_getD]; done) | omega) [hs, -List.getD_eq_getElem?_getD]
        · have hk3 : n - 1 = k := by omega
          have hc6 : (k : Int) + 1 = n := by omega
          have hnl : (n : Int) ≤ l.length := by omega
          have hnn2 : ¬ (n : Int) < n := by omega
          rw [hk3] at e1 e2
          have k16 := charB_ct (rv l n k)
          by_cases hch : charB (rv l n k) = true
          · have hr2 : 0 ≤ rv l n k ∧ rv l n k ≤ 1114111 := by
              have : 0 ≤ rv l n k ∧ rv l n k ≤ 1114111 ∧ (rv l n k < 55296 ∨ 57343 < rv l n k) := by simpa [charB] using hch
              omega
            have k17 := one_ct (rv l n k) hr2.1 hr2.2
            rw [hch] at k16
            by_cases heq : encL (rv l n k) = l.take n
            · obtain ⟨o1, o2⟩ := e1 ⟨hch, heq⟩
              have ho : okS l ≠ 0 := by omega
              rw [if_neg ho, o2, o1]
              rw [heq] at k17
              generalize rv l n k = R at *
              clear e1 e2
              repeat (first | ((first | refine zP fun K_ hK_ => ?_ | refine zQ fun K_ hK_ => ?_ | refine zR (by kernel_rfl) (by kernel_rfl) fun K_ hK_ => ?_ | refine zS (by kernel_rfl) (by kernel_rfl) fun K_ hK_ => ?_ | refine zT ?_); first | (simp (maxSteps := 1000000) (disch := refine hold_ ?_; first | (simp [hc6, hnn2, -List.getD_eq_getElem?_getD]; done) | omega) [hc6, hnn2, -List.getD_eq_getElem?_getD]; try first | refine zZ ?_ | subst hK_) | subst hK_) | refine zA ?_ | refine zB ?_ | refine zC ?_ | refine zD ?_ | refine zE ?_ | refine zF ?_ | refine zG ?_ | refine zH ?_ | refine zI ?_ | refine zJ ?_ | refine zK ?_ | refine zL ?_ | refine zM ?_ | refine zN ?_ | refine zO ?_ | refine yG (by decide) ?_ | refine AW.condT rfl ?_ | refine AW.condF rfl ?_)
              (refine callK_p ?_; simp (maxSteps := 1000000) (disch := refine hold_ ?_; first | (simp [hc6, -List.getD_eq_getElem?_getD]; done) | omega) [hc6, -List.getD_eq_getElem?_getD]; refine callK1_of (Fn.ct k16 Try.call40) ?_; (try simp (maxSteps := 1000000) (disch := refine hold_ ?_; first | (simp [hc6, -List.getD_eq_getElem?_getD]; done) | omega) [hc6, -List.getD_eq_getElem?_getD]); first | refine zZ ?_ | subst hK_)
              repeat (first | ((first | refine zP fun K_ hK_ => ?_ | refine zQ fun K_ hK_ => ?_ | refine zR (by kernel_rfl) (by kernel_rfl) fun K_ hK_ => ?_ | refine zS (by kernel_rfl) (by kernel_rfl) fun K_ hK_ => ?_ | refine zT ?_); first | (simp (maxSteps := 1000000) (disch := refine hold_ ?_; first | (simp [hc6, -List.getD_eq_getElem?_getD]; done) | omega) [hc6, -List.getD_eq_getElem?_getD]; try first | refine zZ ?_ | subst hK_) | subst hK_) | refine zA ?_ | refine zB ?_ | refine zC ?_ | refine zD ?_ | refine zE ?_ | refine zF ?_ | refine zG ?_ | refine zH ?_ | refine zI ?_ | refine zJ ?_ | refine zK ?_ | refine zL ?_ | refine zM ?_ | refine zN ?_ | refine zO ?_ | refine yG (by decide) ?_ | refine AW.condT rfl ?_ | refine AW.condF rfl ?_)
              (refine callK_p ?_; simp (maxSteps := 1000000) (disch := refine hold_ ?_; first | (simp [hc6, hnl, hle, str_of, str_take, str_neq_txt, -List.getD_eq_getElem?_getD]; done) | omega) [hc6, hnl, hle, str_of, str_take, str_neq_txt, -List.getD_eq_getElem?_getD]; refine callK1_of (Fn.ct k17 Try.call47) ?_; (try simp (maxSteps := 1000000) (disch := refine hold_ ?_; first | (simp [hc6, hnl, hle, str_of, str_take, str_neq_txt, -List.getD_eq_getElem?_getD]; done) | omega) [hc6, hnl, hle, str_of, str_take, str_neq_txt, -List.getD_eq_getElem?_getD]); first | refine zZ ?_ | subst hK_)
              repeat (first | ((first | refine zP fun K_ hK_ => ?_ | refine zQ fun K_ hK_ => ?_ | refine zR (by kernel_rfl) (by kernel_rfl) fun K_ hK_ => ?_ | refine zS (by kernel_rfl) (by kernel_rfl) fun K_ hK_ => ?_ | refine zT ?_); first | (simp (maxSteps := 1000000) (disch := refine hold_ ?_; first | (simp [hnl, hle, str_of, str_take, str_neq_txt, -List.getD_eq_getElem?_getD]; done) | omega) [hnl, hle, str_of, str_take, str_neq_txt, -List.getD_eq_getElem?_getD]; try first | refine zZ ?_ | subst hK_) | subst hK_) | refine zA ?_ | refine zB ?_ | refine zC ?_ | refine zD ?_ | refine zE ?_ | refine zF ?_ | refine zG ?_ | refine zH ?_ | refine zI ?_ | refine zJ ?_ | refine zK ?_ | refine zL ?_ | refine zM ?_ | refine zN ?_ | refine zO ?_ | refine yG (by decide) ?_ | refine AW.condT rfl ?_ | refine AW.condF rfl ?_)
              simp (maxSteps := 1000000) (disch := refine hold_ ?_; first | (simp [-List.getD_eq_getElem?_getD]; done) | omega) [-List.getD_eq_getElem?_getD]
            · have hok : okS l = 0 := e2 fun e => heq e.2
              have hne : (encL (rv l n k) == l.take n) = false := beq_eq_false_iff_ne.2 heq
              rw [hok]
              generalize hW : encL (rv l n k) = W at *
              generalize rv l n k = R at *
              clear e1 e2
              repeat (first | ((first | refine zP fun K_ hK_ => ?_ | refine zQ fun K_ hK_ => ?_ | refine zR (by kernel_rfl) (by kernel_rfl) fun K_ hK_ => ?_ | refine zS (by kernel_rfl) (by kernel_rfl) fun K_ hK_ => ?_ | refine zT ?_); first | (simp (maxSteps := 1000000) (disch := refine hold_ ?_; first | (simp [hc6, hnn2, -List.getD_eq_getElem?_getD]; done) | omega) [hc6, hnn2, -List.getD_eq_getElem?_getD]; try first | refine zZ ?_ | subst hK_) | subst hK_) | refine zA ?_ | refine zB ?_ | refine zC ?_ | refine zD ?_ | refine zE ?_ | refine zF ?_ | refine zG ?_ | refine zH ?_ | refine zI ?_ | refine zJ ?_ | refine zK ?_ | refine zL ?_ | refine zM ?_ | refine zN ?_ | refine zO ?_ | refine yG (by decide) ?_ | refine AW.condT rfl ?_ | refine AW.condF rfl ?_)
              (refine callK_p ?_; simp (maxSteps := 1000000) (disch := refine hold_ ?_; first | (simp [hc6, -List.getD_eq_getElem?_getD]; done) | omega) [hc6, -List.getD_eq_getElem?_getD]; refine callK1_of (Fn.ct k16 Try.call40) ?_; (try simp (maxSteps := 1000000) (disch := refine hold_ ?_; first | (simp [hc6, -List.getD_eq_getElem?_getD]; done) | omega) [hc6, -List.getD_eq_getElem?_getD]); first | refine zZ ?_ | subst hK_)
              repeat (first | ((first | refine zP fun K_ hK_ => ?_ | refine zQ fun K_ hK_ => ?_ | refine zR (by kernel_rfl) (by kernel_rfl) fun K_ hK_ => ?_ | refine zS (by kernel_rfl) (by kernel_rfl) fun K_ hK_ => ?_ | refine zT ?_); first | (simp (maxSteps := 1000000) (disch := refine hold_ ?_; first | (simp [hc6, -List.getD_eq_getElem?_getD]; done) | omega) [hc6, -List.getD_eq_getElem?_getD]; try first | refine zZ ?_ | subst hK_) | subst hK_) | refine zA ?_ | refine zB ?_ | refine zC ?_ | refine zD ?_ | refine zE ?_ | refine zF ?_ | refine zG ?_ | refine zH ?_ | refine zI ?_ | refine zJ ?_ | refine zK ?_ | refine zL ?_ | refine zM ?_ | refine zN ?_ | refine zO ?_ | refine yG (by decide) ?_ | refine AW.condT rfl ?_ | refine AW.condF rfl ?_)
              (refine callK_p ?_; simp (maxSteps := 1000000) (disch := refine hold_ ?_; first | (simp [hc6, hnl, hle, str_of, str_take, str_neq_txt, hne, -List.getD_eq_getElem?_getD]; done) | omega) [hc6, hnl, hle, str_of, str_take, str_neq_txt, hne, -List.getD_eq_getElem?_getD]; refine callK1_of (Fn.ct k17 Try.call47) ?_; (try simp (maxSteps := 1000000) (disch := refine hold_ ?_; first | (simp [hc6, hnl, hle, str_of, str_take, str_neq_txt, hne, -List.getD_eq_getElem?_getD]; done) | omega) [hc6, hnl, hle, str_of, str_take, str_neq_txt, hne, -List.getD_eq_getElem?_getD]); first | refine zZ ?_ | subst hK_)
              repeat (first | ((first | refine zP fun K_ hK_ => ?_ | refine zQ fun K_ hK_ => ?_ | refine zR (by kernel_rfl) (by kernel_rfl) fun K_ hK_ => ?_ | refine zS (by kernel_rfl) (by kernel_rfl) fun K_ hK_ => ?_ | refine zT ?_); first | (simp (maxSteps := 1000000) (disch := refine hold_ ?_; first | (simp [hnl, hle, str_of, str_take, str_neq_txt, hne, -List.getD_eq_getElem?_getD]; done) | omega) [hnl, hle, str_of, str_take, str_neq_txt, hne, -List.getD_eq_getElem?_getD]; try first | refine zZ ?_ | subst hK_) | subst hK_) | refine zA ?_ | refine zB ?_ | refine zC ?_ | refine zD ?_ | refine zE ?_ | refine zF ?_ | refine zG ?_ | refine zH ?_ | refine zI ?_ | refine zJ ?_ | refine zK ?_ | refine zL ?_ | refine zM ?_ | refine zN ?_ | refine zO ?_ | refine yG (by decide) ?_ | refine AW.condT rfl ?_ | refine AW.condF rfl ?_)
              simp (maxSteps := 1000000) (disch := refine hold_ ?_; first | (simp [-List.getD_eq_getElem?_getD]; done) | omega) [-List.getD_eq_getElem?_getD]
          · have hok : okS l = 0 := e2 fun e => hch e.1
            have hch2 : charB (rv l n k) = false := by simpa using hch
            rw [hch2] at k16
            rw [hok]
            generalize rv l n k = R at *
            clear e1 e2
            repeat (first | ((first | refine zP fun K_ hK_ => ?_ | refine zQ fun K_ hK_ => ?_ | refine zR (by kernel_rfl) (by kernel_rfl) fun K_ hK_ => ?_ | refine zS (by kernel_rfl) (by kernel_rfl) fun K_ hK_ => ?_ | refine zT ?_); first | (simp (maxSteps := 1000000) (disch := refine hold_ ?_; first | (simp [hc6, hnn2, -List.getD_eq_getElem?_getD]; done) | omega) [hc6, hnn2, -List.getD_eq_getElem?_getD]; try first | refine zZ ?_ | subst hK_) | subst hK_) | refine zA ?_ | refine zB ?_ | refine zC ?_ | refine zD ?_ | refine zE ?_ | refine zF ?_ | refine zG ?_ | refine zH ?_ | refine zI ?_ | refine zJ ?_ | refine zK ?_ | refine zL ?_ | refine zM ?_ | refine zN ?_ | refine zO ?_ | refine yG (by decide) ?_ | refine AW.condT rfl ?_ | refine AW.condF rfl ?_)
            (refine callK_p ?_; simp (maxSteps := 1000000) (disch := refine hold_ ?_; first | (simp [hc6, -List.getD_eq_getElem?_getD]; done) | omega) [hc6, -List.getD_eq_getElem?_getD]; refine callK1_of (Fn.ct k16 Try.call40) ?_; (try simp (maxSteps := 1000000) (disch := refine hold_ ?_; first | (simp [hc6, -List.getD_eq_getElem?_getD]; done) | omega) [hc6, -List.getD_eq_getElem?_getD]); first | refine zZ ?_ | subst hK_)
            repeat (first | ((first | refine zP fun K_ hK_ => ?_ | refine zQ fun K_ hK_ => ?_ | refine zR (by kernel_rfl) (by kernel_rfl) fun K_ hK_ => ?_ | refine zS (by kernel_rfl) (by kernel_rfl) fun K_ hK_ => ?_ | refine zT ?_); first | (simp (maxSteps := 1000000) (disch := refine hold_ ?_; first | (simp [hc6, -List.getD_eq_getElem?_getD]; done) | omega) [hc6, -List.getD_eq_getElem?_getD]; try first | refine zZ ?_ | subst hK_) | subst hK_) | refine zA ?_ | refine zB ?_ | refine zC ?_ | refine zD ?_ | refine zE ?_ | refine zF ?_ | refine zG ?_ | refine zH ?_ | refine zI ?_ | refine zJ ?_ | refine zK ?_ | refine zL ?_ | refine zM ?_ | refine zN ?_ | refine zO ?_ | refine yG (by decide) ?_ | refine AW.condT rfl ?_ | refine AW.condF rfl ?_)
            simp (maxSteps := 1000000) (disch := refine hold_ ?_; first | (simp [-List.getD_eq_getElem?_getD]; done) | omega) [-List.getD_eq_getElem?_getD]
    · have hok : okS l = 0 := by
        have := okS_len l
        unfold okS; unfold longN at hn
        (repeat' split at hn) <;> (repeat' split) <;> omega
      rw [hok]
      have f1 : (l.length : Int) < n := by omega
      refine Fn.of_body Try.func39 rfl ?_
      repeat (first | ((first | refine zP fun K_ hK_ => ?_ | refine zQ fun K_ hK_ => ?_ | refine zR (by kernel_rfl) (by kernel_rfl) fun K_ hK_ => ?_ | refine zS (by kernel_rfl) (by kernel_rfl) fun K_ hK_ => ?_ | refine zT ?_); first | (simp (maxSteps := 1000000) (disch := refine hold_ ?_; first | (simp [h0', h1, hE, -List.getD_eq_getElem?_getD]; done) | omega) [h0', h1, hE, -List.getD_eq_getElem?_getD]; try first | refine zZ ?_ | subst hK_) | subst hK_) | refine zA ?_ | refine zB ?_ | refine zC ?_ | refine zD ?_ | refine zE ?_ | refine zF ?_ | refine zG ?_ | refine zH ?_ | refine zI ?_ | refine zJ ?_ | refine zK ?_ | refine zL ?_ | refine zM ?_ | refine zN ?_ | refine zO ?_ | refine yG (by decide) ?_ | refine AW.condT rfl ?_ | refine AW.condF rfl ?_)
      (refine callK_p ?_; simp (maxSteps := 1000000) (disch := refine hold_ ?_; first | (simp [h0', h1, hE, -List.getD_eq_getElem?_getD]; done) | omega) [h0', h1, hE, -List.getD_eq_getElem?_getD]; refine callK1_of (Fn.ct k50 Try.call46) ?_; (try simp (maxSteps := 1000000) (disch := refine hold_ ?_; first | (simp [h0', h1, hE, -List.getD_eq_getElem?_getD]; done) | omega) [h0', h1, hE, -List.getD_eq_getElem?_getD]); first | refine zZ ?_ | subst hK_)
      repeat (first | ((first | refine zP fun K_ hK_ => ?_ | refine zQ fun K_ hK_ => ?_ | refine zR (by kernel_rfl) (by kernel_rfl) fun K_ hK_ => ?_ | refine zS (by kernel_rfl) (by kernel_rfl) fun K_ hK_ => ?_ | refine zT ?_); first | (simp (maxSteps := 1000000) (disch := refine hold_ ?_; first | (simp [f1, -List.getD_eq_getElem?_getD]; done) | omega) [f1, -List.getD_eq_getElem?_getD]; try first | refine zZ ?_ | subst hK_) | subst hK_) | refine zA ?_ | refine zB ?_ | refine zC ?_ | refine zD ?_ | refine zE ?_ | refine zF ?_ | refine zG ?_ | refine zH ?_ | refine zI ?_ | refine zJ ?_ | refine zK ?_ | refine zL ?_ | refine zM ?_ | refine zN ?_ | refine zO ?_ | refine yG (by decide) ?_ | refine AW.condT rfl ?_ | refine AW.condF rfl ?_)
      simp (maxSteps := 1000000) (disch := refine hold_ ?_; first | (simp [-List.getD_eq_getElem?_getD]; done) | omega) [-List.getD_eq_getElem?_getD]
end Go.Av.CanU
end

section
set_option linter.unusedSimpArgs false
set_option linter.unusedVariables false
open Go Go.Av Go.Proofs
namespace Go.Av.CanU
def rl (l : List Int) : Row PV := .ints .i32 l
@[simp] theorem rl_len (l : List Int) : (rl l).len = l.length := rfl
@[simp] theorem rl_sz (l : List Int) : (rl l).sz = 1 := rfl
@[simp] theorem rl_elem (l : List Int) (i : Nat) : (rl l).elem i = .int .i32 (l.getD i 0) := rfl
@[simp] theorem rl_cell (l : List Int) (i j : Nat) : ((rl l).elem i).cell j = .int .i32 (l.getD i 0) := rfl
@[simp] theorem rl_cut (l : List Int) (i j : Nat) : (rl l).cut i j = rl ((l.take j).drop i) := rfl
@[simp] theorem app_rl (a : List Int) (n : Int) : appRow (rl a) (.ints .i32 [n]) = some (rl (a ++ [n])) := by simp [rl]
/-! ## the document's Chars -/
def rSt (nl : Bool) (t : List (BitVec 8)) (d : List Int) : St := ⟨(.p (.sl (bl t) nl) :: V.junk :: V.junk :: V.junk :: .row (rl d) 0 0 (d.length == 0) :: V.junk :: V.junk :: V.junk :: V.junk :: V.junk :: V.junk :: V.junk :: V.junk :: V.junk :: V.junk :: V.junk :: V.junk :: V.junk :: V.junk :: V.junk :: V.junk :: V.junk :: V.junk :: V.junk :: V.junk :: []), ⟨[], [(0, 0)]⟩⟩
set_option maxHeartbeats 8000000 in
theorem rchars_ct (nl : Bool) (l : List (BitVec 8)) (hl : l.length ≤ 4000000) :
    match charsL l with
    | some c => Fn Try.prog 27 [.sl (bl l) nl] [.row (rl c) 0 0 (c.length == 0), .p (.bool true)] 1
    | none => Fn Try.prog 27 [.sl (bl l) nl] [.p (.sl (.vals 1 []) true), .p (.bool false)] := by
  have walk : ∀ (res : List V) (n1 : Nat), (∀ c, charsL l = some c → res = [.row (rl c) 0 0 (c.length == 0), .p (.bool true)] ∧ n1 = 1) → (charsL l = none → res = [.p (.sl (.vals 1 []) true), .p (.bool false)] ∧ n1 = 0) → Fn Try.prog 27 [.sl (bl l) nl] res n1 := by
    intro res n1 hs hn
    refine Fn.of_body Try.func27 rfl ?_
    repeat (first | ((first | refine zP fun K_ hK_ => ?_ | refine zQ fun K_ hK_ => ?_ | refine zR (by kernel_rfl) (by kernel_rfl) fun K_ hK_ => ?_ | refine zS (by kernel_rfl) (by kernel_rfl) fun K_ hK_ => ?_ | refine zT ?_); first | (simp (maxSteps := 1000000) (disch := refine hold_ ?_; first | (simp [-List.getD_eq_getElem?_getD]; done) | omega) [-List.getD_eq_getElem?_getD]; try first | refine zZ ?_ | subst hK_) | subst hK_) | refine zA ?_ | refine zB ?_ | refine zC ?_ | refine zD ?_ | refine zE ?_ | refine zF ?_ | refine zG ?_ | refine zH ?_ | refine zI ?_ | refine zJ ?_ | refine zK ?_ | refine zL ?_ | refine zM ?_ | refine zN ?_ | refine zO ?_ | refine yG (by decide) ?_ | refine AW.condT rfl ?_ | refine AW.condF rfl ?_)
    refine AW.nilRow 4 (rl []) 4 _ rfl rfl ?_
    refine AW.iterI (true :: false :: false :: false :: true :: false :: false :: false :: false :: false :: false :: false :: false :: false :: false :: false :: false :: false :: false :: false :: false :: false :: false :: false :: false :: []) l.length (fun m σ => ∃ t d, σ = rSt nl t d ∧ t.length = m ∧ t.length + d.length ≤ l.length ∧ charsL l = (charsL t).map (d ++ ·)) (τ := rSt nl l []) ?_ ⟨l, [], rfl, rfl, by simp, by cases charsL l <;> rfl⟩ ?_
    · unfold rSt; simp (maxSteps := 1000000) (disch := refine hold_ ?_; first | (simp [-List.getD_eq_getElem?_getD]; done) | omega) [-List.getD_eq_getElem?_getD]
    rintro k σ ⟨t, d, rfl, rfl, hd, hch⟩
    unfold rSt
    repeat (first | ((first | refine zP fun K_ hK_ => ?_ | refine zQ fun K_ hK_ => ?_ | refine zR (by kernel_rfl) (by kernel_rfl) fun K_ hK_ => ?_ | refine zS (by kernel_rfl) (by kernel_rfl) fun K_ hK_ => ?_ | refine zT ?_); first | (simp (maxSteps := 1000000) (disch := refine hold_ ?_; first | (simp [-List.getD_eq_getElem?_getD]; done) | omega) [-List.getD_eq_getElem?_getD]; try first | refine zZ ?_ | subst hK_) | subst hK_) | refine zA ?_ | refine zB ?_ | refine zC ?_ | refine zD ?_ | refine zE ?_ | refine zF ?_ | refine zG ?_ | refine zH ?_ | refine zI ?_ | refine zJ ?_ | refine zK ?_ | refine zL ?_ | refine zM ?_ | refine zN ?_ | refine zO ?_ | refine yG (by decide) ?_ | refine AW.condT rfl ?_ | refine AW.condF rfl ?_)
    first | refine AW.condD rfl (fun hc => ?_) (fun hc => ?_) | refine AW.cond rfl (fun hc => ?_) (fun hc => ?_)
    · have hne : t.length ≠ 0 := by omega
      have k42 := first_ct nl t (by omega)
      have hle := okS_len t
      by_cases hok : okS t = 0
      · rw [charsL_bad t hne hok] at hch
        obtain ⟨rfl, rfl⟩ := hn hch
        rw [hok] at k42
        repeat (first | ((first | refine zP fun K_ hK_ => ?_ | refine zQ fun K_ hK_ => ?_ | refine zR (by kernel_rfl) (by kernel_rfl) fun K_ hK_ => ?_ | refine zS (by kernel_rfl) (by kernel_rfl) fun K_ hK_ => ?_ | refine zT ?_); first | (simp (maxSteps := 1000000) (disch := refine hold_ ?_; first | (simp [-List.getD_eq_getElem?_getD]; done) | omega) [-List.getD_eq_getElem?_getD]; try first | refine zZ ?_ | subst hK_) | subst hK_) | refine zA ?_ | refine zB ?_ | refine zC ?_ | refine zD ?_ | refine zE ?_ | refine zF ?_ | refine zG ?_ | refine zH ?_ | refine zI ?_ | refine zJ ?_ | refine zK ?_ | refine zL ?_ | refine zM ?_ | refine zN ?_ | refine zO ?_ | refine yG (by decide) ?_ | refine AW.condT rfl ?_ | refine AW.condF rfl ?_)
        (refine callK_p ?_; simp (maxSteps := 1000000) (disch := refine hold_ ?_; first | (simp [-List.getD_eq_getElem?_getD]; done) | omega) [-List.getD_eq_getElem?_getD]; refine callK1_of (Fn.ct k42 Try.call39) ?_; (try simp (maxSteps := 1000000) (disch := refine hold_ ?_; first | (simp [-List.getD_eq_getElem?_getD]; done) | omega) [-List.getD_eq_getElem?_getD]); first | refine zZ ?_ | subst hK_)
        repeat (first | ((first | refine zP fun K_ hK_ => ?_ | refine zQ fun K_ hK_ => ?_ | refine zR (by kernel_rfl) (by kernel_rfl) fun K_ hK_ => ?_ | refine zS (by kernel_rfl) (by kernel_rfl) fun K_ hK_ => ?_ | refine zT ?_); first | (simp (maxSteps := 1000000) (disch := refine hold_ ?_; first | (simp [-List.getD_eq_getElem?_getD]; done) | omega) [-List.getD_eq_getElem?_getD]; try first | refine zZ ?_ | subst hK_) | subst hK_) | refine zA ?_ | refine zB ?_ | refine zC ?_ | refine zD ?_ | refine zE ?_ | refine zF ?_ | refine zG ?_ | refine zH ?_ | refine zI ?_ | refine zJ ?_ | refine zK ?_ | refine zL ?_ | refine zM ?_ | refine zN ?_ | refine zO ?_ | refine yG (by decide) ?_ | refine AW.condT rfl ?_ | refine AW.condF rfl ?_)
        simp (maxSteps := 1000000) (disch := refine hold_ ?_; first | (simp [-List.getD_eq_getElem?_getD]; done) | omega) [-List.getD_eq_getElem?_getD]
      · rw [if_neg hok] at k42
        have hz : ((okS t : Int) == 0) = false := beq_eq_false_iff_ne.2 (by omega)
        rw [charsL_step t hne hok] at hch
        generalize runeN t = R at *
        generalize okS t = n at *
        have hdl : d.length ≤ 4000000 := by omega
        have l2 : (t.drop n).length + n = t.length := by simp; omega
        repeat (first | ((first | refine zP fun K_ hK_ => ?_ | refine zQ fun K_ hK_ => ?_ | refine zR (by kernel_rfl) (by kernel_rfl) fun K_ hK_ => ?_ | refine zS (by kernel_rfl) (by kernel_rfl) fun K_ hK_ => ?_ | refine zT ?_); first | (simp (maxSteps := 1000000) (disch := refine hold_ ?_; first | (simp [-List.getD_eq_getElem?_getD]; done) | omega) [-List.getD_eq_getElem?_getD]; try first | refine zZ ?_ | subst hK_) | subst hK_) | refine zA ?_ | refine zB ?_ | refine zC ?_ | refine zD ?_ | refine zE ?_ | refine zF ?_ | refine zG ?_ | refine zH ?_ | refine zI ?_ | refine zJ ?_ | refine zK ?_ | refine zL ?_ | refine zM ?_ | refine zN ?_ | refine zO ?_ | refine yG (by decide) ?_ | refine AW.condT rfl ?_ | refine AW.condF rfl ?_)
        (refine callK_p ?_; simp (maxSteps := 1000000) (disch := refine hold_ ?_; first | (simp [-List.getD_eq_getElem?_getD]; done) | omega) [-List.getD_eq_getElem?_getD]; refine callK1_of (Fn.ct k42 Try.call39) ?_; (try simp (maxSteps := 1000000) (disch := refine hold_ ?_; first | (simp [-List.getD_eq_getElem?_getD]; done) | omega) [-List.getD_eq_getElem?_getD]); first | refine zZ ?_ | subst hK_)
        repeat (first | ((first | refine zP fun K_ hK_ => ?_ | refine zQ fun K_ hK_ => ?_ | refine zR (by kernel_rfl) (by kernel_rfl) fun K_ hK_ => ?_ | refine zS (by kernel_rfl) (by kernel_rfl) fun K_ hK_ => ?_ | refine zT ?_); first | (simp (maxSteps := 1000000) (disch := refine hold_ ?_; first | (simp [hz, hdl, hle, -List.getD_eq_getElem?_getD]; done) | omega) [hz, hdl, hle, -List.getD_eq_getElem?_getD]; try first | refine zZ ?_ | subst hK_) | subst hK_) | refine zA ?_ | refine zB ?_ | refine zC ?_ | refine zD ?_ | refine zE ?_ | refine zF ?_ | refine zG ?_ | refine zH ?_ | refine zI ?_ | refine zJ ?_ | refine zK ?_ | refine zL ?_ | refine zM ?_ | refine zN ?_ | refine zO ?_ | refine yG (by decide) ?_ | refine AW.condT rfl ?_ | refine AW.condF rfl ?_)
        refine ⟨(t.drop n).length, rSt nl (t.drop n) (d ++ [R]), by omega, ?_, t.drop n, d ++ [R], rfl, rfl, by simp; omega, ?_⟩
        · unfold rSt; simp (maxSteps := 1000000) (disch := refine hold_ ?_; first | (simp [-List.getD_eq_getElem?_getD]; done) | omega) [-List.getD_eq_getElem?_getD]
        · rw [hch]; cases charsL (t.drop n) <;> simp
    · have ht : t = [] := List.eq_nil_of_length_eq_zero (by omega)
      subst ht
      rw [charsL_nil] at hch
      simp only [Option.map_some, List.append_nil] at hch
      obtain ⟨rfl, rfl⟩ := hs d hch
      repeat (first | ((first | refine zP fun K_ hK_ => ?_ | refine zQ fun K_ hK_ => ?_ | refine zR (by kernel_rfl) (by kernel_rfl) fun K_ hK_ => ?_ | refine zS (by kernel_rfl) (by kernel_rfl) fun K_ hK_ => ?_ | refine zT ?_); first | (simp (maxSteps := 1000000) (disch := refine hold_ ?_; first | (simp [-List.getD_eq_getElem?_getD]; done) | omega) [-List.getD_eq_getElem?_getD]; try first | refine zZ ?_ | subst hK_) | subst hK_) | refine zA ?_ | refine zB ?_ | refine zC ?_ | refine zD ?_ | refine zE ?_ | refine zF ?_ | refine zG ?_ | refine zH ?_ | refine zI ?_ | refine zJ ?_ | refine zK ?_ | refine zL ?_ | refine zM ?_ | refine zN ?_ | refine zO ?_ | refine yG (by decide) ?_ | refine AW.condT rfl ?_ | refine AW.condF rfl ?_)
      simp (maxSteps := 1000000) (disch := refine hold_ ?_; first | (simp [-List.getD_eq_getElem?_getD]; done) | omega) [-List.getD_eq_getElem?_getD]
  cases h : charsL l with
  | some c => exact walk _ _ (fun c' hc' => by rw [h] at hc'; simp only [Option.some.injEq] at hc'; subst hc'; exact ⟨rfl, rfl⟩) (fun hn => by rw [h] at hn; simp at hn)
  | none => exact walk _ _ (fun c' hc' => by rw [h] at hc'; simp at hc') (fun _ => ⟨rfl, rfl⟩)
theorem rchars_ok (nl : Bool) (l : List (BitVec 8)) (hl : l.length ≤ 4000000) (c : List Int) (hc : charsL l = some c) :
    Fn Try.prog 27 [.sl (bl l) nl] [.row (rl c) 0 0 (c.length == 0), .p (.bool true)] 1 := by
  have := rchars_ct nl l hl; rw [hc] at this; exact this
theorem rchars_bad (nl : Bool) (l : List (BitVec 8)) (hl : l.length ≤ 4000000) (hc : charsL l = none) :
    Fn Try.prog 27 [.sl (bl l) nl] [.p (.sl (.vals 1 []) true), .p (.bool false)] := by
  have := rchars_ct nl l hl; rw [hc] at this; exact this
theorem charsF_len : ∀ (n : Nat) (l : List (BitVec 8)) (c : List Int), l.length ≤ n → charsL l = some c → c.length ≤ l.length
  | n, l, c, hn, hc => by
    by_cases h0 : l.length = 0
    · obtain rfl := List.eq_nil_of_length_eq_zero h0; rw [charsL_nil] at hc; simp only [Option.some.injEq] at hc; subst hc; simp
    · by_cases hok : okS l = 0
      · rw [charsL_bad l h0 hok] at hc; simp at hc
      · rw [charsL_step l h0 hok] at hc
        simp only [Option.map_eq_some_iff] at hc
        obtain ⟨r, hr, rfl⟩ := hc
        have hle := okS_len l
        match n, hn with
        | 0, hn => omega
        | n + 1, hn =>
          have := charsF_len n (l.drop (okS l)) r (by simp; omega) hr
          simp only [List.length_drop] at this
          simp only [List.length_cons]; omega
theorem charsL_len {l : List (BitVec 8)} {c : List Int} (hc : charsL l = some c) : c.length ≤ l.length := charsF_len _ l c (Nat.le_refl _) hc
/-! ## Text -/
def textB (l : List (BitVec 8)) : Bool := match charsL l with
  | some c => c.all xmlB
  | none => false
set_option maxHeartbeats 8000000 in
theorem rtext_ct (nl : Bool) (l : List (BitVec 8)) (hl : l.length ≤ 4000000) : Fn Try.prog 9 [.sl (bl l) nl] [.p (.bool (textB l))] := by
  cases hcl0 : charsL l with
  | some c =>
    have hT : textB l = c.all xmlB := by unfold textB; rw [hcl0]
    have hcl := charsL_len hcl0
    have kc := rchars_ok nl l hl c hcl0
    rw [hT]
    refine Fn.of_body Try.func9 rfl ?_
    repeat (first | ((first | refine zP fun K_ hK_ => ?_ | refine zQ fun K_ hK_ => ?_ | refine zR (by kernel_rfl) (by kernel_rfl) fun K_ hK_ => ?_ | refine zS (by kernel_rfl) (by kernel_rfl) fun K_ hK_ => ?_ | refine zT ?_); first | (simp (maxSteps := 1000000) (disch := refine hold_ ?_; first | (simp [-List.getD_eq_getElem?_getD]; done) | omega) [-List.getD_eq_getElem?_getD]; try first | refine zZ ?_ | subst hK_) | subst hK_) | refine zA ?_ | refine zB ?_ | refine zC ?_ | refine zD ?_ | refine zE ?_ | refine zF ?_ | refine zG ?_ | refine zH ?_ | refine zI ?_ | refine zJ ?_ | refine zK ?_ | refine zL ?_ | refine zM ?_ | refine zN ?_ | refine zO ?_ | refine yG (by decide) ?_ | refine AW.condT rfl ?_ | refine AW.condF rfl ?_)
    (refine callK_p ?_; simp (maxSteps := 1000000) (disch := refine hold_ ?_; first | (simp [-List.getD_eq_getElem?_getD]; done) | omega) [-List.getD_eq_getElem?_getD]; refine callK1_of (Fn.ct kc Try.call27) ?_; (try simp (maxSteps := 1000000) (disch := refine hold_ ?_; first | (simp [-List.getD_eq_getElem?_getD]; done) | omega) [-List.getD_eq_getElem?_getD]); first | refine zZ ?_ | subst hK_)
    repeat (first | ((first | refine zP fun K_ hK_ => ?_ | refine zQ fun K_ hK_ => ?_ | refine zR (by kernel_rfl) (by kernel_rfl) fun K_ hK_ => ?_ | refine zS (by kernel_rfl) (by kernel_rfl) fun K_ hK_ => ?_ | refine zT ?_); first | (simp (maxSteps := 1000000) (disch := refine hold_ ?_; first | (simp [-List.getD_eq_getElem?_getD]; done) | omega) [-List.getD_eq_getElem?_getD]; try first | refine zZ ?_ | subst hK_) | subst hK_) | refine zA ?_ | refine zB ?_ | refine zC ?_ | refine zD ?_ | refine zE ?_ | refine zF ?_ | refine zG ?_ | refine zH ?_ | refine zI ?_ | refine zJ ?_ | refine zK ?_ | refine zL ?_ | refine zM ?_ | refine zN ?_ | refine zO ?_ | refine yG (by decide) ?_ | refine AW.condT rfl ?_ | refine AW.condF rfl ?_)
    refine AW.iter (false :: false :: false :: true :: true :: false :: false :: false :: false :: false :: false :: false :: true :: true :: false :: false :: false :: false :: false :: false :: false :: false :: false :: false :: false :: false :: []) c.length (fun k => ⟨(V.junk :: V.junk :: V.junk :: .row (rl c) 0 0 (c.length == 0) :: .p (.bool ((c.take k).all xmlB)) :: V.junk :: V.junk :: V.junk :: V.junk :: V.junk :: V.junk :: V.junk :: .p (.int .i64 c.length) :: .p (.int .i64 k) :: V.junk :: V.junk :: V.junk :: V.junk :: V.junk :: V.junk :: V.junk :: V.junk :: V.junk :: V.junk :: V.junk :: V.junk :: []), ⟨[], [(0, 0)]⟩⟩) ?_ ?_
    · simp (maxSteps := 1000000) (disch := refine hold_ ?_; first | (simp [-List.getD_eq_getElem?_getD]; done) | omega) [-List.getD_eq_getElem?_getD]
    intro k hk
    have e1 : IntKind.i64.wrap ((k : Int) + 1) = k + 1 := wrap_i64 _ (by omega) (by omega)
    by_cases hkc : k < c.length
    · have hs : (c.take (k + 1)).all xmlB = ((c.take k).all xmlB && xmlB (c.getD k 0)) := by
        have ht : c.take (k + 1) = c.take k ++ [c.getD k 0] := by
          rw [List.take_add_one, List.getElem?_eq_getElem hkc, List.getD_eq_getElem?_getD, List.getElem?_eq_getElem hkc]; rfl
        rw [ht, List.all_append]
        simp only [List.all_cons, List.all_nil, Bool.and_true]
      have kx := rxml_ct (c.getD k 0)
      have hkz : (k : Int) < c.length := by omega
      generalize hR : c.getD k 0 = R at *
      generalize hX : xmlB R = X at *
      generalize hA : (c.take k).all xmlB = A at *
      cases A
      · repeat (first | ((first | refine zP fun K_ hK_ => ?_ | refine zQ fun K_ hK_ => ?_ | refine zR (by kernel_rfl) (by kernel_rfl) fun K_ hK_ => ?_ | refine zS (by kernel_rfl) (by kernel_rfl) fun K_ hK_ => ?_ | refine zT ?_); first | (simp (maxSteps := 1000000) (disch := refine hold_ ?_; first | (simp [hkc, hkz, hR, e1, -List.getD_eq_getElem?_getD]; done) | omega) [hkc, hkz, hR, e1, -List.getD_eq_getElem?_getD]; try first | refine zZ ?_ | subst hK_) | subst hK_) | refine zA ?_ | refine zB ?_ | refine zC ?_ | refine zD ?_ | refine zE ?_ | refine zF ?_ | refine zG ?_ | refine zH ?_ | refine zI ?_ | refine zJ ?_ | refine zK ?_ | refine zL ?_ | refine zM ?_ | refine zN ?_ | refine zO ?_ | refine yG (by decide) ?_ | refine AW.condT rfl ?_ | refine AW.condF rfl ?_)
        refine ⟨hkc, ?_⟩
        simp (maxSteps := 1000000) (disch := refine hold_ ?_; first | (simp [hs, -List.getD_eq_getElem?_getD]; done) | omega) [hs, -List.getD_eq_getElem?_getD]
      · repeat (first | ((first | refine callK_at 28 ?_); refine callK_p ?_; simp (maxSteps := 1000000) (disch := refine hold_ ?_; first | (simp [hkc, hkz, hR, e1, -List.getD_eq_getElem?_getD]; done) | omega) [hkc, hkz, hR, e1, -List.getD_eq_getElem?_getD]; (first | refine callK1_of (Fn.ct kx Try.call28) ?_); (try simp (maxSteps := 1000000) (disch := refine hold_ ?_; first | (simp [hkc, hkz, hR, e1, -List.getD_eq_getElem?_getD]; done) | omega) [hkc, hkz, hR, e1, -List.getD_eq_getElem?_getD]); try first | refine zZ ?_ | subst hK_) | ((first | refine zP fun K_ hK_ => ?_ | refine zQ fun K_ hK_ => ?_ | refine zR (by kernel_rfl) (by kernel_rfl) fun K_ hK_ => ?_ | refine zS (by kernel_rfl) (by kernel_rfl) fun K_ hK_ => ?_ | refine zT ?_); first | (simp (maxSteps := 1000000) (disch := refine hold_ ?_; first | (simp [hkc, hkz, hR, e1, -List.getD_eq_getElem?_getD]; done) | omega) [hkc, hkz, hR, e1, -List.getD_eq_getElem?_getD]; try first | refine zZ ?_ | subst hK_) | subst hK_) | refine zA ?_ | refine zB ?_ | refine zC ?_ | refine zD ?_ | refine zE ?_ | refine zF ?_ | refine zG ?_ | refine zH ?_ | refine zI ?_ | refine zJ ?_ | refine zK ?_ | refine zL ?_ | refine zM ?_ | refine zN ?_ | refine zO ?_ | refine yG (by decide) ?_ | refine AW.condT rfl ?_ | refine AW.condF rfl ?_)
        refine ⟨hkc, ?_⟩
        simp (maxSteps := 1000000) (disch := refine hold_ ?_; first | (simp [hs, -List.getD_eq_getElem?_getD]; done) | omega) [hs, -List.getD_eq_getElem?_getD]
    · have hk2 : k = c.length := by omega
      subst hk2
      rw [List.take_length]
      generalize c.all xmlB = A at *
      repeat (first | ((first | refine zP fun K_ hK_ => ?_ | refine zQ fun K_ hK_ => ?_ | refine zR (by kernel_rfl) (by kernel_rfl) fun K_ hK_ => ?_ | refine zS (by kernel_rfl) (by kernel_rfl) fun K_ hK_ => ?_ | refine zT ?_); first | (simp (maxSteps := 1000000) (disch := refine hold_ ?_; first | (simp [-List.getD_eq_getElem?_getD]; done) | omega) [-List.getD_eq_getElem?_getD]; try first | refine zZ ?_ | subst hK_) | subst hK_) | refine zA ?_ | refine zB ?_ | refine zC ?_ | refine zD ?_ | refine zE ?_ | refine zF ?_ | refine zG ?_ | refine zH ?_ | refine zI ?_ | refine zJ ?_ | refine zK ?_ | refine zL ?_ | refine zM ?_ | refine zN ?_ | refine zO ?_ | refine yG (by decide) ?_ | refine AW.condT rfl ?_ | refine AW.condF rfl ?_)
      simp (maxSteps := 1000000) (disch := refine hold_ ?_; first | (simp [-List.getD_eq_getElem?_getD]; done) | omega) [-List.getD_eq_getElem?_getD]
  | none =>
    have hT : textB l = false := by unfold textB; rw [hcl0]
    have kc := rchars_bad nl l hl hcl0
    rw [hT]
    refine Fn.of_body Try.func9 rfl ?_
    repeat (first | ((first | refine zP fun K_ hK_ => ?_ | refine zQ fun K_ hK_ => ?_ | refine zR (by kernel_rfl) (by kernel_rfl) fun K_ hK_ => ?_ | refine zS (by kernel_rfl) (by kernel_rfl) fun K_ hK_ => ?_ | refine zT ?_); first | (simp (maxSteps := 1000000) (disch := refine hold_ ?_; first | (simp [-List.getD_eq_getElem?_getD]; done) | omega) [-List.getD_eq_getElem?_getD]; try first | refine zZ ?_ | subst hK_) | subst hK_) | refine zA ?_ | refine zB ?_ | refine zC ?_ | refine zD ?_ | refine zE ?_ | refine zF ?_ | refine zG ?_ | refine zH ?_ | refine zI ?_ | refine zJ ?_ | refine zK ?_ | refine zL ?_ | refine zM ?_ | refine zN ?_ | refine zO ?_ | refine yG (by decide) ?_ | refine AW.condT rfl ?_ | refine AW.condF rfl ?_)
    (refine callK_p ?_; simp (maxSteps := 1000000) (disch := refine hold_ ?_; first | (simp [-List.getD_eq_getElem?_getD]; done) | omega) [-List.getD_eq_getElem?_getD]; refine callK1_of (Fn.ct kc Try.call27) ?_; (try simp (maxSteps := 1000000) (disch := refine hold_ ?_; first | (simp [-List.getD_eq_getElem?_getD]; done) | omega) [-List.getD_eq_getElem?_getD]); first | refine zZ ?_ | subst hK_)
    repeat (first | ((first | refine zP fun K_ hK_ => ?_ | refine zQ fun K_ hK_ => ?_ | refine zR (by kernel_rfl) (by kernel_rfl) fun K_ hK_ => ?_ | refine zS (by kernel_rfl) (by kernel_rfl) fun K_ hK_ => ?_ | refine zT ?_); first | (simp (maxSteps := 1000000) (disch := refine hold_ ?_; first | (simp [-List.getD_eq_getElem?_getD]; done) | omega) [-List.getD_eq_getElem?_getD]; try first | refine zZ ?_ | subst hK_) | subst hK_) | refine zA ?_ | refine zB ?_ | refine zC ?_ | refine zD ?_ | refine zE ?_ | refine zF ?_ | refine zG ?_ | refine zH ?_ | refine zI ?_ | refine zJ ?_ | refine zK ?_ | refine zL ?_ | refine zM ?_ | refine zN ?_ | refine zO ?_ | refine yG (by decide) ?_ | refine AW.condT rfl ?_ | refine AW.condF rfl ?_)
    refine AW.iter (false :: false :: false :: true :: true :: false :: false :: false :: false :: false :: false :: false :: true :: true :: false :: false :: false :: false :: false :: false :: false :: false :: false :: false :: false :: false :: []) 0 (fun k => ⟨(V.junk :: V.junk :: V.junk :: .p (.sl (.vals 1 []) true) :: .p (.bool false) :: V.junk :: V.junk :: V.junk :: V.junk :: V.junk :: V.junk :: V.junk :: .p (.int .i64 0) :: .p (.int .i64 0) :: V.junk :: V.junk :: V.junk :: V.junk :: V.junk :: V.junk :: V.junk :: V.junk :: V.junk :: V.junk :: V.junk :: V.junk :: []), ⟨[], []⟩⟩) ?_ ?_
    · simp (maxSteps := 1000000) (disch := refine hold_ ?_; first | (simp [-List.getD_eq_getElem?_getD]; done) | omega) [-List.getD_eq_getElem?_getD]
    intro k hk
    repeat (first | ((first | refine zP fun K_ hK_ => ?_ | refine zQ fun K_ hK_ => ?_ | refine zR (by kernel_rfl) (by kernel_rfl) fun K_ hK_ => ?_ | refine zS (by kernel_rfl) (by kernel_rfl) fun K_ hK_ => ?_ | refine zT ?_); first | (simp (maxSteps := 1000000) (disch := refine hold_ ?_; first | (simp [-List.getD_eq_getElem?_getD]; done) | omega) [-List.getD_eq_getElem?_getD]; try first | refine zZ ?_ | subst hK_) | subst hK_) | refine zA ?_ | refine zB ?_ | refine zC ?_ | refine zD ?_ | refine zE ?_ | refine zF ?_ | refine zG ?_ | refine zH ?_ | refine zI ?_ | refine zJ ?_ | refine zK ?_ | refine zL ?_ | refine zM ?_ | refine zN ?_ | refine zO ?_ | refine yG (by decide) ?_ | refine AW.condT rfl ?_ | refine AW.condF rfl ?_)
    simp (maxSteps := 1000000) (disch := refine hold_ ?_; first | (simp [-List.getD_eq_getElem?_getD]; done) | omega) [-List.getD_eq_getElem?_getD]
end Go.Av.CanU
end
