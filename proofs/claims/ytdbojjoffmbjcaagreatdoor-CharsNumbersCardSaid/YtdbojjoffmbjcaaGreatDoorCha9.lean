/- The walks of this seat's functions, and what is known of what they reckon (Cha9). Conditions: those that each theorem names. -/
import Derived.Test.YtdbojjoffmbjcaaGreatDoorCha8
section
set_option linter.unusedSimpArgs false
set_option linter.unusedVariables false
set_option linter.unusedSectionVars false
open Go Go.Av Go.Proofs
namespace Go.Av.Cha
variable [ML]
def HX : List (BitVec 8) := [48#8, 49#8, 50#8, 51#8, 52#8, 53#8, 54#8, 55#8, 56#8, 57#8, 97#8, 98#8, 99#8, 100#8, 101#8, 102#8]
theorem kHX : (ByteArray.mk #[48, 49, 50, 51, 52, 53, 54, 55, 56, 57, 97, 98, 99, 100, 101, 102]) = txt HX := rfl
theorem HX_at (d : Nat) (h : d < 16) : (txt HX).extract d (d + 1) = txt [dg d] := by
  rw [txt_extract]
  have : (List.range 16).all (fun d => (HX.take (d + 1)).drop d == [dg d]) = true := by decide
  rw [beq_iff_eq.1 (List.all_eq_true.1 this d (List.mem_range.2 h))]
theorem kP1 : (ByteArray.mk #[38, 35]) = txt [38#8, 35#8] := rfl
theorem kP2 : (ByteArray.mk #[38, 35, 120]) = txt [38#8, 35#8, 120#8] := rfl
theorem k0 : (ByteArray.mk #[48]) = txt [48#8] := rfl
theorem rem_nat (k : IntKind) (a b : Nat) (hb : b ≠ 0) : intBin .rem k (a : Int) (b : Int) = some (.int k ((a % b : Nat) : Int)) := by
  have h0 : ¬ (b : Int) = 0 := by omega
  simp only [intBin]
  rw [if_neg (by simpa using h0), tmod_nat]
theorem quo_nat (k : IntKind) (a b : Nat) (hb : b ≠ 0) (hw : k.wrap ((a / b : Nat) : Int) = ((a / b : Nat) : Int)) : intBin .quo k (a : Int) (b : Int) = some (.int k ((a / b : Nat) : Int)) := by
  have h0 : ¬ (b : Int) = 0 := by omega
  simp only [intBin]
  rw [if_neg (by simpa using h0), tdiv_nat, hw]
theorem digs_short (b : Nat) (hb : 2 ≤ b) : ∀ (k n : Nat), n < b ^ k → (digs b n).length ≤ k
  | 0, n, h => by
    obtain rfl : n = 0 := by simpa using h
    simp [digs_zero]
  | k + 1, n, h => by
    by_cases h0 : n = 0
    · subst h0; simp [digs_zero]
    · have h1 : n / b < b ^ k := Nat.div_lt_of_lt_mul (by rw [Nat.mul_comm]; exact h)
      have := digs_short b hb k (n / b) h1
      rw [digs_step b n hb (by omega), List.length_append]
      simp; omega
def nuA (r q : Int) (m : Nat) (t : List (BitVec 8)) : St := ⟨(.p (.int .i32 r) :: .p (.int .u8 q) :: V.junk :: V.junk :: V.junk :: .p (.str (txt t)) :: .p (.str (txt [])) :: .p (.str (txt [])) :: .p (.int .i32 m) :: V.junk :: V.junk :: V.junk :: V.junk :: V.junk :: V.junk :: V.junk :: V.junk :: V.junk :: V.junk :: V.junk :: V.junk :: V.junk :: V.junk :: V.junk :: V.junk :: V.junk :: V.junk :: V.junk :: V.junk :: V.junk :: V.junk :: V.junk :: V.junk :: V.junk :: V.junk :: V.junk :: V.junk :: V.junk :: V.junk :: V.junk :: V.junk :: V.junk :: V.junk :: V.junk :: V.junk :: V.junk :: V.junk :: V.junk :: V.junk :: V.junk :: V.junk :: V.junk :: V.junk :: V.junk :: V.junk :: V.junk :: V.junk :: V.junk :: V.junk :: V.junk :: V.junk :: V.junk :: V.junk :: V.junk :: V.junk :: V.junk :: V.junk :: V.junk :: V.junk :: V.junk :: V.junk :: V.junk :: V.junk :: V.junk :: V.junk :: V.junk :: V.junk :: V.junk :: V.junk :: V.junk :: V.junk :: V.junk :: V.junk :: V.junk :: V.junk :: V.junk :: V.junk :: V.junk :: V.junk :: V.junk :: V.junk :: V.junk :: V.junk :: V.junk :: V.junk :: V.junk :: V.junk :: V.junk :: V.junk :: V.junk :: V.junk :: V.junk :: V.junk :: V.junk :: V.junk :: V.junk :: []), ⟨[], []⟩⟩
def nuB (r q : Int) (T : List (BitVec 8)) (m : Nat) (t : List (BitVec 8)) : St := ⟨(.p (.int .i32 r) :: .p (.int .u8 q) :: V.junk :: V.junk :: V.junk :: .p (.str (txt T)) :: .p (.str (txt t)) :: .p (.str (txt [])) :: V.junk :: .p (.int .i32 m) :: V.junk :: V.junk :: V.junk :: V.junk :: V.junk :: V.junk :: V.junk :: V.junk :: V.junk :: V.junk :: V.junk :: V.junk :: V.junk :: V.junk :: V.junk :: V.junk :: V.junk :: V.junk :: V.junk :: V.junk :: V.junk :: V.junk :: V.junk :: V.junk :: V.junk :: V.junk :: V.junk :: V.junk :: V.junk :: V.junk :: V.junk :: V.junk :: V.junk :: V.junk :: V.junk :: V.junk :: V.junk :: V.junk :: V.junk :: V.junk :: V.junk :: V.junk :: V.junk :: V.junk :: V.junk :: V.junk :: V.junk :: V.junk :: V.junk :: V.junk :: V.junk :: V.junk :: V.junk :: V.junk :: V.junk :: V.junk :: V.junk :: V.junk :: V.junk :: V.junk :: V.junk :: V.junk :: V.junk :: V.junk :: V.junk :: V.junk :: V.junk :: V.junk :: V.junk :: V.junk :: V.junk :: V.junk :: V.junk :: V.junk :: V.junk :: V.junk :: V.junk :: V.junk :: V.junk :: V.junk :: V.junk :: V.junk :: V.junk :: V.junk :: V.junk :: V.junk :: V.junk :: V.junk :: V.junk :: V.junk :: V.junk :: V.junk :: V.junk :: V.junk :: V.junk :: V.junk :: []), ⟨[], []⟩⟩
def nuI (b n : Nat) (S : Nat → List (BitVec 8) → St) (x : Nat) (σ : St) : Prop := ∃ (m : Nat) (t : List (BitVec 8)), x = m ∧ m ≤ n ∧ σ = S m t ∧ digs b n = digs b m ++ t
set_option maxRecDepth 10000 in
set_option maxHeartbeats 20000000 in
theorem numbers_ct (r q : Int) (hr : -2147483648 ≤ r ∧ r ≤ 2147483647) (hq : 0 ≤ q ∧ q < 256) : Fn Tryz.prog 5 [.int .i32 r, .int .u8 q] [.p (.bool true)] := by
  have cw := awake_ct
  refine Fn.of_body Tryz.func5 rfl ?_
  by_cases hc : r < 0
  · repeat (first | ((with_reducible first | refine callK_at 6 ?_); refine callK_p ?_; simp (maxSteps := 1000000) (disch := refine hold_ ?_; first | (simp [hc, -List.getD_eq_getElem?_getD]; done) | omega) [hc, -List.getD_eq_getElem?_getD]; (first | refine callK1_of (Fn.ct cw Tryz.call6) ?_); (try simp (maxSteps := 1000000) (disch := refine hold_ ?_; first | (simp [hc, -List.getD_eq_getElem?_getD]; done) | omega) [hc, -List.getD_eq_getElem?_getD]); try first | (with_reducible refine zZ ?_) | subst hK_) | ((first | (with_reducible first | refine zP fun K_ hK_ => ?_ | refine zQ fun K_ hK_ => ?_ | refine zT ?_ | refine zU ?_ | refine zV ?_ | refine zW ?_ | refine zX ?_ | refine zY ?_) | ((with_reducible first | refine zR ?_ ?_ fun K_ hK_ => ?_ | refine zS ?_ ?_ fun K_ hK_ => ?_); (focus kernel_rfl); (focus kernel_rfl))); first | (simp (maxSteps := 1000000) (disch := refine hold_ ?_; first | (simp [hc, -List.getD_eq_getElem?_getD]; done) | omega) [hc, -List.getD_eq_getElem?_getD]; try first | (with_reducible refine zZ ?_) | subst hK_) | subst hK_) | (with_reducible first | refine zA ?_ | refine zB ?_ | refine zC ?_ | refine zD ?_ | refine zE ?_ | refine zF ?_ | refine zG ?_ | refine zH ?_ | refine zI ?_ | refine zJ ?_ | refine zK ?_ | refine zL ?_ | refine zM ?_ | refine zN ?_ | refine zO ?_) | ((with_reducible refine yG ?_ ?_); (focus decide)) | ((with_reducible refine yA ?_); refine yB rfl ?_; (with_reducible first | refine yC ?_ | refine yD ?_)))
    all_goals simp (maxSteps := 1000000) (disch := refine hold_ ?_; first | (simp [-List.getD_eq_getElem?_getD]; done) | omega) [-List.getD_eq_getElem?_getD]
  obtain ⟨n, hn⟩ : ∃ n : Nat, r = n := ⟨r.toNat, by omega⟩
  have hnb : n ≤ 2147483647 := by omega
  have hL10 := digs_short 10 (by omega) 10 n (by omega)
  have hL16 := digs_short 16 (by omega) 8 n (by omega)
  repeat (first | ((with_reducible first | refine callK_at 6 ?_); refine callK_p ?_; simp (maxSteps := 1000000) (disch := refine hold_ ?_; first | (simp [hc, kNil, -List.getD_eq_getElem?_getD]; done) | omega) [hc, kNil, -List.getD_eq_getElem?_getD]; (first | refine callK1_of (Fn.ct cw Tryz.call6) ?_); (try simp (maxSteps := 1000000) (disch := refine hold_ ?_; first | (simp [hc, kNil, -List.getD_eq_getElem?_getD]; done) | omega) [hc, kNil, -List.getD_eq_getElem?_getD]); try first | (with_reducible refine zZ ?_) | subst hK_) | ((first | (with_reducible first | refine zP fun K_ hK_ => ?_ | refine zQ fun K_ hK_ => ?_ | refine zT ?_ | refine zU ?_ | refine zV ?_ | refine zW ?_ | refine zX ?_ | refine zY ?_) | ((with_reducible first | refine zR ?_ ?_ fun K_ hK_ => ?_ | refine zS ?_ ?_ fun K_ hK_ => ?_); (focus kernel_rfl); (focus kernel_rfl))); first | (simp (maxSteps := 1000000) (disch := refine hold_ ?_; first | (simp [hc, kNil, -List.getD_eq_getElem?_getD]; done) | omega) [hc, kNil, -List.getD_eq_getElem?_getD]; try first | (with_reducible refine zZ ?_) | subst hK_) | subst hK_) | (with_reducible first | refine zA ?_ | refine zB ?_ | refine zC ?_ | refine zD ?_ | refine zE ?_ | refine zF ?_ | refine zG ?_ | refine zH ?_ | refine zI ?_ | refine zJ ?_ | refine zK ?_ | refine zL ?_ | refine zM ?_ | refine zN ?_ | refine zO ?_) | ((with_reducible refine yG ?_ ?_); (focus decide)) | ((with_reducible refine yA ?_); refine yB rfl ?_; (with_reducible first | refine yC ?_ | refine yD ?_)))
  refine AW.iterI (true :: true :: false :: false :: false :: true :: true :: true :: true :: false :: false :: false :: false :: false :: false :: false :: false :: false :: false :: false :: false :: false :: false :: false :: false :: false :: false :: false :: false :: false :: false :: false :: false :: false :: false :: false :: false :: false :: false :: false :: false :: false :: false :: false :: false :: false :: false :: false :: false :: false :: false :: false :: false :: false :: false :: false :: false :: false :: false :: false :: false :: false :: false :: false :: false :: false :: false :: false :: false :: false :: false :: false :: false :: false :: false :: false :: false :: false :: false :: false :: false :: false :: false :: false :: false :: false :: false :: false :: false :: false :: false :: false :: false :: false :: false :: false :: false :: false :: false :: false :: false :: false :: false :: false :: false :: false :: []) n (nuI 10 n (nuA r q)) (τ := nuA r q n []) ?_ ⟨n, [], rfl, Nat.le_refl _, rfl, by simp⟩ ?_
  · unfold nuA
    simp (maxSteps := 1000000) (disch := refine hold_ ?_; first | (simp [hn, -List.getD_eq_getElem?_getD]; done) | omega) [hn, -List.getD_eq_getElem?_getD]
  rintro m σ ⟨_, t, rfl, hm, rfl, hI⟩
  by_cases hm0 : 0 < m
  · have hmz : (0 : Int) < m := by omega
    have hst := digs_step 10 m (by omega) hm0
    have hd16 : m % 10 < 10 := Nat.mod_lt _ (by omega)
    have hlt : m / 10 < m := Nat.div_lt_self hm0 (by omega)
    have q1 : intBin .rem .i32 (m : Int) 10 = some (.int .i32 ((m % 10 : Nat) : Int)) := rem_nat .i32 m 10 (by omega)
    have q2 : intBin .quo .i32 (m : Int) 10 = some (.int .i32 ((m / 10 : Nat) : Int)) := quo_nat .i32 m 10 (by omega) (wrap_i32 _ (by omega) (by omega))
    generalize m % 10 = d at *
    generalize m / 10 = m2 at *
    have w1 : IntKind.u8.wrap (d : Int) = d := by rw [wrap_u8]; omega
    have w2 : IntKind.u8.wrap (48 + (d : Int)) = ub (dg d) := by rw [dg_val d (by omega), if_pos hd16, wrap_u8]; omega
    have hI2 : digs 10 n = digs 10 m2 ++ (dg d :: t) := by rw [hI, hst]; simp
    have htl : t.length ≤ 10 := by have := congrArg List.length hI; rw [List.length_append] at this; omega
    clear hI hst
    generalize dg d = c at *
    have b1 : bytesOf (Row.ints IntKind.u8 [ub c]) = some [ub c] := bytesOf_bl [c]
    have b2 : strOfNums [ub c] = txt [c] := rfl
    have s1 : strBin .add (txt [c]) (txt t) = some (.str (txt (c :: t))) := txt_add [c] t (by simp; omega)
    unfold nuA
    repeat (first | ((first | (with_reducible first | refine zP fun K_ hK_ => ?_ | refine zQ fun K_ hK_ => ?_ | refine zT ?_ | refine zU ?_ | refine zV ?_ | refine zW ?_ | refine zX ?_ | refine zY ?_) | ((with_reducible first | refine zR ?_ ?_ fun K_ hK_ => ?_ | refine zS ?_ ?_ fun K_ hK_ => ?_); (focus kernel_rfl); (focus kernel_rfl))); first | (simp (maxSteps := 1000000) (disch := refine hold_ ?_; first | (simp [hmz, hm0, q1, q2, w1, w2, b1, b2, s1, -List.getD_eq_getElem?_getD]; done) | omega) [hmz, hm0, q1, q2, w1, w2, b1, b2, s1, -List.getD_eq_getElem?_getD]; try first | (with_reducible refine zZ ?_) | subst hK_) | subst hK_) | (with_reducible first | refine zA ?_ | refine zB ?_ | refine zC ?_ | refine zD ?_ | refine zE ?_ | refine zF ?_ | refine zG ?_ | refine zH ?_ | refine zI ?_ | refine zJ ?_ | refine zK ?_ | refine zL ?_ | refine zM ?_ | refine zN ?_ | refine zO ?_) | ((with_reducible refine yG ?_ ?_); (focus decide)) | ((with_reducible refine yA ?_); refine yB rfl ?_; (with_reducible first | refine yC ?_ | refine yD ?_)))
    refine ⟨m2, nuA r q m2 (c :: t), hlt, ?_, m2, c :: t, rfl, by omega, rfl, hI2⟩
    unfold nuA
    simp (maxSteps := 1000000) (disch := refine hold_ ?_; first | (simp [-List.getD_eq_getElem?_getD]; done) | omega) [-List.getD_eq_getElem?_getD]
  have hm2 : m = 0 := by omega
  subst hm2
  have hz0 : ¬ (0 : Int) < ((0 : Nat) : Int) := by omega
  rw [digs_zero, List.nil_append] at hI
  rw [← hI]
  clear hI t hm hm0
  generalize hT10 : digs 10 n = T10 at *
  unfold nuA
  repeat (first | ((first | (with_reducible first | refine zP fun K_ hK_ => ?_ | refine zQ fun K_ hK_ => ?_ | refine zT ?_ | refine zU ?_ | refine zV ?_ | refine zW ?_ | refine zX ?_ | refine zY ?_) | ((with_reducible first | refine zR ?_ ?_ fun K_ hK_ => ?_ | refine zS ?_ ?_ fun K_ hK_ => ?_); (focus kernel_rfl); (focus kernel_rfl))); first | (simp (maxSteps := 1000000) (disch := refine hold_ ?_; first | (simp [hz0, kNil, -List.getD_eq_getElem?_getD]; done) | omega) [hz0, kNil, -List.getD_eq_getElem?_getD]; try first | (with_reducible refine zZ ?_) | subst hK_) | subst hK_) | (with_reducible first | refine zA ?_ | refine zB ?_ | refine zC ?_ | refine zD ?_ | refine zE ?_ | refine zF ?_ | refine zG ?_ | refine zH ?_ | refine zI ?_ | refine zJ ?_ | refine zK ?_ | refine zL ?_ | refine zM ?_ | refine zN ?_ | refine zO ?_) | ((with_reducible refine yG ?_ ?_); (focus decide)) | ((with_reducible refine yA ?_); refine yB rfl ?_; (with_reducible first | refine yC ?_ | refine yD ?_)))
  refine AW.iterI (true :: true :: false :: false :: false :: true :: true :: true :: false :: true :: false :: false :: false :: false :: false :: false :: false :: false :: false :: false :: false :: false :: false :: false :: false :: false :: false :: false :: false :: false :: false :: false :: false :: false :: false :: false :: false :: false :: false :: false :: false :: false :: false :: false :: false :: false :: false :: false :: false :: false :: false :: false :: false :: false :: false :: false :: false :: false :: false :: false :: false :: false :: false :: false :: false :: false :: false :: false :: false :: false :: false :: false :: false :: false :: false :: false :: false :: false :: false :: false :: false :: false :: false :: false :: false :: false :: false :: false :: false :: false :: false :: false :: false :: false :: false :: false :: false :: false :: false :: false :: false :: false :: false :: false :: false :: false :: []) n (nuI 16 n (nuB r q T10)) (τ := nuB r q T10 n []) ?_ ⟨n, [], rfl, Nat.le_refl _, rfl, by simp⟩ ?_
  · unfold nuB
    simp (maxSteps := 1000000) (disch := refine hold_ ?_; first | (simp [hn, -List.getD_eq_getElem?_getD]; done) | omega) [hn, -List.getD_eq_getElem?_getD]
  rintro m σ ⟨_, t, rfl, hm, rfl, hI⟩
  by_cases hm0 : 0 < m
  · have hmz : (0 : Int) < m := by omega
    have hst := digs_step 16 m (by omega) hm0
    have hd16 : m % 16 < 16 := Nat.mod_lt _ (by omega)
    have hlt : m / 16 < m := Nat.div_lt_self hm0 (by omega)
    have q1 : intBin .rem .i32 (m : Int) 16 = some (.int .i32 ((m % 16 : Nat) : Int)) := rem_nat .i32 m 16 (by omega)
    have q2 : intBin .quo .i32 (m : Int) 16 = some (.int .i32 ((m / 16 : Nat) : Int)) := quo_nat .i32 m 16 (by omega) (wrap_i32 _ (by omega) (by omega))
    generalize m % 16 = d at *
    generalize m / 16 = m2 at *
    have w1 : IntKind.i32.wrap ((d : Int) + 1) = d + 1 := wrap_i32 _ (by omega) (by omega)
    have hsz : (txt HX).size = 16 := txt_size HX
    have hx := HX_at d hd16
    have t1 : ((d : Int) + 1).toNat = d + 1 := by omega
    have z1 : (d : Int) + 1 ≤ 16 := by omega
    have z2 : d + 1 ≤ 16 := by omega
    have z3 : (0 : Int) ≤ (d : Int) + 1 := by omega
    have hI2 : digs 16 n = digs 16 m2 ++ (dg d :: t) := by rw [hI, hst]; simp
    have htl : t.length ≤ 10 := by have := congrArg List.length hI; rw [List.length_append] at this; omega
    clear hI hst
    generalize dg d = c at *
    have s1 : strBin .add (txt [c]) (txt t) = some (.str (txt (c :: t))) := txt_add [c] t (by simp; omega)
    unfold nuB
    repeat (first | ((first | (with_reducible first | refine zP fun K_ hK_ => ?_ | refine zQ fun K_ hK_ => ?_ | refine zT ?_ | refine zU ?_ | refine zV ?_ | refine zW ?_ | refine zX ?_ | refine zY ?_) | ((with_reducible first | refine zR ?_ ?_ fun K_ hK_ => ?_ | refine zS ?_ ?_ fun K_ hK_ => ?_); (focus kernel_rfl); (focus kernel_rfl))); first | (simp (maxSteps := 1000000) (disch := refine hold_ ?_; first | (simp [hmz, hm0, q1, q2, w1, kHX, hsz, hx, t1, z1, z2, z3, s1, -List.getD_eq_getElem?_getD]; done) | omega) [hmz, hm0, q1, q2, w1, kHX, hsz, hx, t1, z1, z2, z3, s1, -List.getD_eq_getElem?_getD]; try first | (with_reducible refine zZ ?_) | subst hK_) | subst hK_) | (with_reducible first | refine zA ?_ | refine zB ?_ | refine zC ?_ | refine zD ?_ | refine zE ?_ | refine zF ?_ | refine zG ?_ | refine zH ?_ | refine zI ?_ | refine zJ ?_ | refine zK ?_ | refine zL ?_ | refine zM ?_ | refine zN ?_ | refine zO ?_) | ((with_reducible refine yG ?_ ?_); (focus decide)) | ((with_reducible refine yA ?_); refine yB rfl ?_; (with_reducible first | refine yC ?_ | refine yD ?_)))
    refine ⟨m2, nuB r q T10 m2 (c :: t), hlt, ?_, m2, c :: t, rfl, by omega, rfl, hI2⟩
    unfold nuB
    simp (maxSteps := 1000000) (disch := refine hold_ ?_; first | (simp [-List.getD_eq_getElem?_getD]; done) | omega) [-List.getD_eq_getElem?_getD]
  have hm2 : m = 0 := by omega
  subst hm2
  rw [digs_zero, List.nil_append] at hI
  rw [← hI]
  clear hI t hm hm0
  generalize hT16 : digs 16 n = T16 at *
  obtain ⟨qn, hqn⟩ : ∃ a : Nat, q = a := ⟨q.toNat, by omega⟩
  have q3 : intBin .rem .u8 q 5 = some (.int .u8 ((qn % 5 : Nat) : Int)) := by rw [hqn]; exact rem_nat .u8 qn 5 (by omega)
  have hp5 : qn % 5 < 5 := Nat.mod_lt _ (by omega)
  generalize qn % 5 = p at *
  obtain ⟨k, hk⟩ : ∃ k, k = p + 1 := ⟨_, rfl⟩
  have w3 : IntKind.u8.wrap ((p : Int) + 1) = k := by rw [wrap_u8]; omega
  unfold nuB
  repeat (first | ((first | (with_reducible first | refine zP fun K_ hK_ => ?_ | refine zQ fun K_ hK_ => ?_ | refine zT ?_ | refine zU ?_ | refine zV ?_ | refine zW ?_ | refine zX ?_ | refine zY ?_) | ((with_reducible first | refine zR ?_ ?_ fun K_ hK_ => ?_ | refine zS ?_ ?_ fun K_ hK_ => ?_); (focus kernel_rfl); (focus kernel_rfl))); first | (simp (maxSteps := 1000000) (disch := refine hold_ ?_; first | (simp [hz0, kNil, q3, w3, -List.getD_eq_getElem?_getD]; done) | omega) [hz0, kNil, q3, w3, -List.getD_eq_getElem?_getD]; try first | (with_reducible refine zZ ?_) | subst hK_) | subst hK_) | (with_reducible first | refine zA ?_ | refine zB ?_ | refine zC ?_ | refine zD ?_ | refine zE ?_ | refine zF ?_ | refine zG ?_ | refine zH ?_ | refine zI ?_ | refine zJ ?_ | refine zK ?_ | refine zL ?_ | refine zM ?_ | refine zN ?_ | refine zO ?_) | ((with_reducible refine yG ?_ ?_); (focus decide)) | ((with_reducible refine yA ?_); refine yB rfl ?_; (with_reducible first | refine yC ?_ | refine yD ?_)))
  refine AW.iter (true :: false :: false :: false :: false :: true :: true :: true :: false :: false :: false :: false :: false :: false :: false :: false :: false :: false :: false :: false :: false :: false :: false :: false :: false :: false :: false :: false :: false :: false :: false :: false :: false :: false :: false :: false :: false :: false :: false :: false :: false :: false :: false :: false :: false :: false :: false :: false :: false :: true :: true :: false :: false :: false :: false :: false :: false :: false :: false :: false :: false :: false :: false :: false :: false :: false :: false :: false :: false :: false :: false :: false :: false :: false :: false :: false :: false :: false :: false :: false :: false :: false :: false :: false :: false :: false :: false :: false :: false :: false :: false :: false :: false :: false :: false :: false :: false :: false :: false :: false :: false :: false :: false :: false :: false :: false :: []) k (fun j => ⟨(.p (.int .i32 r) :: V.junk :: V.junk :: V.junk :: V.junk :: .p (.str (txt T10)) :: .p (.str (txt T16)) :: .p (.str (txt (zs j))) :: V.junk :: V.junk :: V.junk :: V.junk :: V.junk :: V.junk :: V.junk :: V.junk :: V.junk :: V.junk :: V.junk :: V.junk :: V.junk :: V.junk :: V.junk :: V.junk :: V.junk :: V.junk :: V.junk :: V.junk :: V.junk :: V.junk :: V.junk :: V.junk :: V.junk :: V.junk :: V.junk :: V.junk :: V.junk :: V.junk :: V.junk :: V.junk :: V.junk :: V.junk :: V.junk :: V.junk :: V.junk :: V.junk :: V.junk :: V.junk :: V.junk :: .p (.int .u8 k) :: .p (.int .u8 j) :: V.junk :: V.junk :: V.junk :: V.junk :: V.junk :: V.junk :: V.junk :: V.junk :: V.junk :: V.junk :: V.junk :: V.junk :: V.junk :: V.junk :: V.junk :: V.junk :: V.junk :: V.junk :: V.junk :: V.junk :: V.junk :: V.junk :: V.junk :: V.junk :: V.junk :: V.junk :: V.junk :: V.junk :: V.junk :: V.junk :: V.junk :: V.junk :: V.junk :: V.junk :: V.junk :: V.junk :: V.junk :: V.junk :: V.junk :: V.junk :: V.junk :: V.junk :: V.junk :: V.junk :: V.junk :: V.junk :: V.junk :: V.junk :: V.junk :: V.junk :: V.junk :: V.junk :: V.junk :: V.junk :: V.junk :: []), ⟨[], []⟩⟩) ?_ ?_
  · simp (maxSteps := 1000000) (disch := refine hold_ ?_; first | (simp [show zs 0 = [] from rfl, -List.getD_eq_getElem?_getD]; done) | omega) [show zs 0 = [] from rfl, -List.getD_eq_getElem?_getD]
  intro j hj
  by_cases hjk : j < k
  · have hjz : (j : Int) < k := by omega
    have hzl : (zs j).length = j := List.length_replicate
    have s1 : strBin .add (txt (zs j)) (txt [48#8]) = some (.str (txt (zs (j + 1)))) := by rw [zs_succ]; exact txt_add _ _ (by rw [hzl]; simp; omega)
    have w4 : IntKind.u8.wrap ((j : Int) + 1) = j + 1 := by rw [wrap_u8]; omega
    generalize zs (j + 1) = Z2 at *
    generalize zs j = Z at *
    repeat (first | ((first | (with_reducible first | refine zP fun K_ hK_ => ?_ | refine zQ fun K_ hK_ => ?_ | refine zT ?_ | refine zU ?_ | refine zV ?_ | refine zW ?_ | refine zX ?_ | refine zY ?_) | ((with_reducible first | refine zR ?_ ?_ fun K_ hK_ => ?_ | refine zS ?_ ?_ fun K_ hK_ => ?_); (focus kernel_rfl); (focus kernel_rfl))); first | (simp (maxSteps := 1000000) (disch := refine hold_ ?_; first | (simp [hjz, k0, s1, w4, -List.getD_eq_getElem?_getD]; done) | omega) [hjz, k0, s1, w4, -List.getD_eq_getElem?_getD]; try first | (with_reducible refine zZ ?_) | subst hK_) | subst hK_) | (with_reducible first | refine zA ?_ | refine zB ?_ | refine zC ?_ | refine zD ?_ | refine zE ?_ | refine zF ?_ | refine zG ?_ | refine zH ?_ | refine zI ?_ | refine zJ ?_ | refine zK ?_ | refine zL ?_ | refine zM ?_ | refine zN ?_ | refine zO ?_) | ((with_reducible refine yG ?_ ?_); (focus decide)) | ((with_reducible refine yA ?_); refine yB rfl ?_; (with_reducible first | refine yC ?_ | refine yD ?_)))
    refine ⟨hjk, ?_⟩
    simp (maxSteps := 1000000) (disch := refine hold_ ?_; first | (simp [-List.getD_eq_getElem?_getD]; done) | omega) [-List.getD_eq_getElem?_getD]
  have hj2 : j = k := by omega
  subst hj2
  have hjz : ¬ (j : Int) < j := by omega
  have hzl : (zs j).length = j := List.length_replicate
  have c1 := content_num j n (by omega)
  have c2 := value_num j n (by omega)
  rw [hT10] at c1
  rw [hT16] at c2
  generalize zs j = Z at *
  obtain ⟨A1, hA1⟩ : ∃ X, X = [38#8, 35#8] ++ Z := ⟨_, rfl⟩
  obtain ⟨A2, hA2⟩ : ∃ X, X = A1 ++ T10 := ⟨_, rfl⟩
  obtain ⟨A3, hA3⟩ : ∃ X, X = A2 ++ [59#8] := ⟨_, rfl⟩
  obtain ⟨B1, hB1⟩ : ∃ X, X = [38#8, 35#8, 120#8] ++ Z := ⟨_, rfl⟩
  obtain ⟨B2, hB2⟩ : ∃ X, X = B1 ++ T16 := ⟨_, rfl⟩
  obtain ⟨B3, hB3⟩ : ∃ X, X = B2 ++ [59#8] := ⟨_, rfl⟩
  have la1 : A1.length = 2 + Z.length := by rw [hA1]; simp; omega
  have la2 : A2.length = A1.length + T10.length := by rw [hA2, List.length_append]
  have la3 : A3.length = A2.length + 1 := by rw [hA3, List.length_append]; rfl
  have lb1 : B1.length = 3 + Z.length := by rw [hB1]; simp; omega
  have lb2 : B2.length = B1.length + T16.length := by rw [hB2, List.length_append]
  have lb3 : B3.length = B2.length + 1 := by rw [hB3, List.length_append]; rfl
  have s1 : strBin .add (txt [38#8, 35#8]) (txt Z) = some (.str (txt A1)) := by rw [hA1]; exact txt_add _ _ (by simp; omega)
  have s2 : strBin .add (txt A1) (txt T10) = some (.str (txt A2)) := by rw [hA2]; exact txt_add _ _ (by omega)
  have s3 : strBin .add (txt A2) (txt [59#8]) = some (.str (txt A3)) := by rw [hA3]; exact txt_add _ _ (by simp; omega)
  have s4 : strBin .add (txt [38#8, 35#8, 120#8]) (txt Z) = some (.str (txt B1)) := by rw [hB1]; exact txt_add _ _ (by simp; omega)
  have s5 : strBin .add (txt B1) (txt T16) = some (.str (txt B2)) := by rw [hB2]; exact txt_add _ _ (by omega)
  have s6 : strBin .add (txt B2) (txt [59#8]) = some (.str (txt B3)) := by rw [hB3]; exact txt_add _ _ (by simp; omega)
  have eA : A3 = 38#8 :: ((35#8 :: (Z ++ T10)) ++ [59#8]) := by rw [hA3, hA2, hA1]; simp
  have eB : B3 = 38#8 :: ((35#8 :: 120#8 :: (Z ++ T16)) ++ [59#8]) := by rw [hB3, hB2, hB1]; simp
  rw [← eA] at c1
  rw [← eB] at c2
  have k1 := content_ct A3 (by omega)
  have k2 := value_ct B3 (by omega)
  rw [c1] at k1
  rw [c2] at k2
  have kx := rxml_ct r
  rw [hn] at kx
  cases hxm : xmlB (n : Int) with
  | false =>
    have hch : chV (n : Int) = none := by unfold chV; rw [hxm]; rfl
    rw [hch] at k1 k2
    rw [hxm] at kx
    clear eA eB hA1 hA2 hA3 hB1 hB2 hB3
    repeat (first | ((with_reducible first | refine callK_at 7 ?_ | refine callK_at 8 ?_ | refine callK_at 11 ?_); refine callK_p ?_; simp (maxSteps := 1000000) (disch := refine hold_ ?_; first | (simp [hn, hjz, kP1, kP2, vSemi, kNil, s1, s2, s3, s4, s5, s6, str_eql, resV, -List.getD_eq_getElem?_getD]; done) | omega) [hn, hjz, kP1, kP2, vSemi, kNil, s1, s2, s3, s4, s5, s6, str_eql, resV, -List.getD_eq_getElem?_getD]; (first | ((with_reducible refine k1_at 7 ?_); refine callK1_of (Fn.ct k1 Tryz.call7) ?_) | ((with_reducible refine k1_at 8 ?_); refine callK1_of (Fn.ct k2 Tryz.call8) ?_) | ((with_reducible refine k1_at 11 ?_); refine callK1_of (Fn.ct kx Tryz.call11) ?_)); (try simp (maxSteps := 1000000) (disch := refine hold_ ?_; first | (simp [hn, hjz, kP1, kP2, vSemi, kNil, s1, s2, s3, s4, s5, s6, str_eql, resV, -List.getD_eq_getElem?_getD]; done) | omega) [hn, hjz, kP1, kP2, vSemi, kNil, s1, s2, s3, s4, s5, s6, str_eql, resV, -List.getD_eq_getElem?_getD]); try first | (with_reducible refine zZ ?_) | subst hK_) | ((first | (with_reducible first | refine zP fun K_ hK_ => ?_ | refine zQ fun K_ hK_ => ?_ | refine zT ?_ | refine zU ?_ | refine zV ?_ | refine zW ?_ | refine zX ?_ | refine zY ?_) | ((with_reducible first | refine zR ?_ ?_ fun K_ hK_ => ?_ | refine zS ?_ ?_ fun K_ hK_ => ?_); (focus kernel_rfl); (focus kernel_rfl))); first | (simp (maxSteps := 1000000) (disch := refine hold_ ?_; first | (simp [hn, hjz, kP1, kP2, vSemi, kNil, s1, s2, s3, s4, s5, s6, str_eql, resV, -List.getD_eq_getElem?_getD]; done) | omega) [hn, hjz, kP1, kP2, vSemi, kNil, s1, s2, s3, s4, s5, s6, str_eql, resV, -List.getD_eq_getElem?_getD]; try first | (with_reducible refine zZ ?_) | subst hK_) | subst hK_) | (with_reducible first | refine zA ?_ | refine zB ?_ | refine zC ?_ | refine zD ?_ | refine zE ?_ | refine zF ?_ | refine zG ?_ | refine zH ?_ | refine zI ?_ | refine zJ ?_ | refine zK ?_ | refine zL ?_ | refine zM ?_ | refine zN ?_ | refine zO ?_) | ((with_reducible refine yG ?_ ?_); (focus decide)) | ((with_reducible refine yA ?_); refine yB rfl ?_; (with_reducible first | refine yC ?_ | refine yD ?_)))
    all_goals simp (maxSteps := 1000000) (disch := refine hold_ ?_; first | (simp [-List.getD_eq_getElem?_getD]; done) | omega) [-List.getD_eq_getElem?_getD]
  | true =>
    have hch : chV (n : Int) = some (encL n) := by unfold chV; rw [hxm]; rfl
    rw [hch] at k1 k2
    rw [hxm] at kx
    have hlo := xml_lo _ hxm
    have kone := one_ct (n : Int) hlo.1 hlo.2
    have hlp := encL_pos (n : Int)
    generalize encL (n : Int) = L at *
    have hso : strOfNums (List.map ub L) = txt L := str_of L
    clear eA eB hA1 hA2 hA3 hB1 hB2 hB3
    repeat (first | ((with_reducible first | refine callK_at 7 ?_ | refine callK_at 8 ?_ | refine callK_at 11 ?_ | refine callK_at 12 ?_); refine callK_p ?_; simp (maxSteps := 1000000) (disch := refine hold_ ?_; first | (simp [hn, hjz, kP1, kP2, vSemi, kNil, s1, s2, s3, s4, s5, s6, str_eql, resV, hlp, hso, -List.getD_eq_getElem?_getD]; done) | omega) [hn, hjz, kP1, kP2, vSemi, kNil, s1, s2, s3, s4, s5, s6, str_eql, resV, hlp, hso, -List.getD_eq_getElem?_getD]; (first | ((with_reducible refine k1_at 7 ?_); refine callK1_of (Fn.ct k1 Tryz.call7) ?_) | ((with_reducible refine k1_at 8 ?_); refine callK1_of (Fn.ct k2 Tryz.call8) ?_) | ((with_reducible refine k1_at 11 ?_); refine callK1_of (Fn.ct kx Tryz.call11) ?_) | ((with_reducible refine k1_at 12 ?_); refine callK1_of (Fn.ct kone Tryz.call12) ?_)); (try simp (maxSteps := 1000000) (disch := refine hold_ ?_; first | (simp [hn, hjz, kP1, kP2, vSemi, kNil, s1, s2, s3, s4, s5, s6, str_eql, resV, hlp, hso, -List.getD_eq_getElem?_getD]; done) | omega) [hn, hjz, kP1, kP2, vSemi, kNil, s1, s2, s3, s4, s5, s6, str_eql, resV, hlp, hso, -List.getD_eq_getElem?_getD]); try first | (with_reducible refine zZ ?_) | subst hK_) | ((first | (with_reducible first | refine zP fun K_ hK_ => ?_ | refine zQ fun K_ hK_ => ?_ | refine zT ?_ | refine zU ?_ | refine zV ?_ | refine zW ?_ | refine zX ?_ | refine zY ?_) | ((with_reducible first | refine zR ?_ ?_ fun K_ hK_ => ?_ | refine zS ?_ ?_ fun K_ hK_ => ?_); (focus kernel_rfl); (focus kernel_rfl))); first | (simp (maxSteps := 1000000) (disch := refine hold_ ?_; first | (simp [hn, hjz, kP1, kP2, vSemi, kNil, s1, s2, s3, s4, s5, s6, str_eql, resV, hlp, hso, -List.getD_eq_getElem?_getD]; done) | omega) [hn, hjz, kP1, kP2, vSemi, kNil, s1, s2, s3, s4, s5, s6, str_eql, resV, hlp, hso, -List.getD_eq_getElem?_getD]; try first | (with_reducible refine zZ ?_) | subst hK_) | subst hK_) | (with_reducible first | refine zA ?_ | refine zB ?_ | refine zC ?_ | refine zD ?_ | refine zE ?_ | refine zF ?_ | refine zG ?_ | refine zH ?_ | refine zI ?_ | refine zJ ?_ | refine zK ?_ | refine zL ?_ | refine zM ?_ | refine zN ?_ | refine zO ?_) | ((with_reducible refine yG ?_ ?_); (focus decide)) | ((with_reducible refine yA ?_); refine yB rfl ?_; (with_reducible first | refine yC ?_ | refine yD ?_)))
    all_goals simp (maxSteps := 1000000) (disch := refine hold_ ?_; first | (simp [-List.getD_eq_getElem?_getD]; done) | omega) [-List.getD_eq_getElem?_getD]
theorem numbers_law (r : Int) (h1 : (Lit.int .i32 r).wf = true) (q : Int) (h2 : (Lit.int .u8 q).wf = true) : Fn Tryz.prog 5 [.int .i32 r, .int .u8 q] [.p (.bool true)] := by
  have e1 : (Lit.int .i32 r).wf = (decide (-2147483648 ≤ r) && decide (r ≤ 2147483647)) := rfl
  have e2 : (Lit.int .u8 q).wf = (decide (0 ≤ q) && decide (q ≤ 255)) := rfl
  rw [e1, Bool.and_eq_true, decide_eq_true_eq, decide_eq_true_eq] at h1
  rw [e2, Bool.and_eq_true, decide_eq_true_eq, decide_eq_true_eq] at h2
  exact numbers_ct r q h1 ⟨h2.1, by omega⟩
end Go.Av.Cha
end
