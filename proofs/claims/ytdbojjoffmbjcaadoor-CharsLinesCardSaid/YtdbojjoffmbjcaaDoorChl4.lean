/- The walks of this seat's functions, and what is known of what they reckon (Chl4). Conditions: those that each theorem names. -/
import Derived.Test.YtdbojjoffmbjcaaDoorChl2
import Derived.Test.YtdbojjoffmbjcaaDoorChl3
section
set_option linter.unusedSimpArgs false
set_option linter.unusedVariables false
set_option linter.unusedSectionVars false
open Go Go.Av Go.Proofs
namespace Go.Av.Chl
variable [ML]
set_option maxRecDepth 100000 in
theorem and31F : ∀ x : Fin 256, IntKind.u8.wrap ((BitVec.ofInt IntKind.u8.bits ((x.val : Nat) : Int) &&& BitVec.ofInt IntKind.u8.bits 31).toNat : Nat) = ((x.val % 32 : Nat) : Int) := by decide
set_option maxRecDepth 100000 in
theorem and15F : ∀ x : Fin 256, IntKind.u8.wrap ((BitVec.ofInt IntKind.u8.bits ((x.val : Nat) : Int) &&& BitVec.ofInt IntKind.u8.bits 15).toNat : Nat) = ((x.val % 16 : Nat) : Int) := by decide
set_option maxRecDepth 100000 in
theorem and7F : ∀ x : Fin 256, IntKind.u8.wrap ((BitVec.ofInt IntKind.u8.bits ((x.val : Nat) : Int) &&& BitVec.ofInt IntKind.u8.bits 7).toNat : Nat) = ((x.val % 8 : Nat) : Int) := by decide
theorem and31 (x : Int) (h : 0 ≤ x ∧ x < 256) : intBin .and .u8 x 31 = some (.int .u8 (x % 32)) := by
  obtain ⟨n, rfl⟩ : ∃ n : Nat, x = n := ⟨x.toNat, by omega⟩
  have := and31F ⟨n, by omega⟩
  rw [ib_and, this]; simp
theorem and15 (x : Int) (h : 0 ≤ x ∧ x < 256) : intBin .and .u8 x 15 = some (.int .u8 (x % 16)) := by
  obtain ⟨n, rfl⟩ : ∃ n : Nat, x = n := ⟨x.toNat, by omega⟩
  have := and15F ⟨n, by omega⟩
  rw [ib_and, this]; simp
theorem and7 (x : Int) (h : 0 ≤ x ∧ x < 256) : intBin .and .u8 x 7 = some (.int .u8 (x % 8)) := by
  obtain ⟨n, rfl⟩ : ∃ n : Nat, x = n := ⟨x.toNat, by omega⟩
  have := and7F ⟨n, by omega⟩
  rw [ib_and, this]; simp
theorem shl_i32 (a : Int) (s : Nat) (m : Int) (h : 0 ≤ a) (hs : s ≤ 30) (hm : (2 : Int) ^ s = m) (hlt : a * m < 2147483648) : shiftBin .shl .i32 a (s : Int) = some (.int .i32 (a * m)) := by
  unfold shiftBin
  rw [if_neg (by omega)]
  have e : min ((s : Int)).toNat IntKind.i32.bits = s := by
    simp only [Int.toNat_natCast, show IntKind.i32.bits = 32 from rfl]; omega
  simp only [e, hm]
  have h0 : 0 < m := by rw [← hm]; exact Int.pow_pos (by omega)
  have h2 : 0 ≤ a * m := Int.mul_nonneg h (by omega)
  rw [wrap_i32 _ (by omega) (by omega)]
theorem or_i32 (X b : Int) (s : Nat) (m : Int) (hX : 0 ≤ X ∧ X % m = 0) (hb : 0 ≤ b ∧ b < m) (hm : (2 : Int) ^ s = m) (hlt : X + b < 2147483648) : intBin .or .i32 X b = some (.int .i32 (X + b)) := by
  obtain ⟨n, rfl⟩ : ∃ n : Nat, X = n := ⟨X.toNat, by omega⟩
  obtain ⟨c, rfl⟩ : ∃ c : Nat, b = c := ⟨b.toNat, by omega⟩
  have hm' : m = ((2 ^ s : Nat) : Int) := by rw [← hm]; simp
  rw [hm'] at hX hb
  have hc : c < 2 ^ s := by omega
  have hn : n % 2 ^ s = 0 := by omega
  obtain ⟨q, rfl⟩ : ∃ q, n = q * 2 ^ s := ⟨n / 2 ^ s, by have := Nat.div_add_mod n (2 ^ s); rw [hn, Nat.mul_comm] at this; omega⟩
  have hq : q * 2 ^ s + c < 2147483648 := by omega
  rw [ib_or]
  have e : (BitVec.ofInt IntKind.i32.bits ((q * 2 ^ s : Nat) : Int) ||| BitVec.ofInt IntKind.i32.bits (c : Int)).toNat = q * 2 ^ s + c := by
    rw [BitVec.toNat_or, show IntKind.i32.bits = 32 from rfl, BitVec.ofInt_natCast, BitVec.ofInt_natCast, BitVec.toNat_ofNat, BitVec.toNat_ofNat, Nat.mod_eq_of_lt (by omega), Nat.mod_eq_of_lt (by omega)]
    have := Nat.shiftLeft_add_eq_or_of_lt hc q
    rw [Nat.shiftLeft_eq] at this
    exact this.symm
  rw [e, wrap_i32 _ (by omega) (by omega)]
  simp
theorem okS_two (l : List (BitVec 8)) (h : okS l ≠ 0) (h1 : 194 ≤ bt l 0) (h2 : bt l 0 < 224) : okS l = 2 ∧ 2 ≤ l.length ∧ 128 ≤ bt l 1 ∧ bt l 1 ≤ 191 := by
  by_cases h0 : l.length = 0
  · exact absurd (by unfold okS; rw [if_pos h0]) h
  unfold okS at h ⊢
  rw [if_neg h0, if_neg (by omega), if_pos ⟨h1, h2⟩] at h ⊢
  split at h
  · rename_i hc; rw [if_pos hc]; exact ⟨rfl, hc⟩
  · exact absurd rfl h
theorem okS_three (l : List (BitVec 8)) (h : okS l ≠ 0) (h1 : 224 ≤ bt l 0) (h2 : bt l 0 < 240) : okS l = 3 ∧ 3 ≤ l.length ∧ loB (bt l 0) ≤ bt l 1 ∧ bt l 1 ≤ hiB (bt l 0) ∧ 128 ≤ bt l 2 ∧ bt l 2 ≤ 191 := by
  by_cases h0 : l.length = 0
  · exact absurd (by unfold okS; rw [if_pos h0]) h
  unfold okS at h ⊢
  rw [if_neg h0, if_neg (by omega), if_neg (by omega), if_pos ⟨h1, h2⟩] at h ⊢
  split at h
  · rename_i hc; rw [if_pos hc]; exact ⟨rfl, hc⟩
  · exact absurd rfl h
theorem okS_four (l : List (BitVec 8)) (h : okS l ≠ 0) (h1 : 240 ≤ bt l 0) (h2 : bt l 0 < 245) : okS l = 4 ∧ 4 ≤ l.length ∧ loB (bt l 0) ≤ bt l 1 ∧ bt l 1 ≤ hiB (bt l 0) ∧ 128 ≤ bt l 2 ∧ bt l 2 ≤ 191 ∧ 128 ≤ bt l 3 ∧ bt l 3 ≤ 191 := by
  by_cases h0 : l.length = 0
  · exact absurd (by unfold okS; rw [if_pos h0]) h
  unfold okS at h ⊢
  rw [if_neg h0, if_neg (by omega), if_neg (by omega), if_neg (by omega), if_pos ⟨h1, h2⟩] at h ⊢
  split at h
  · rename_i hc; rw [if_pos hc]; exact ⟨rfl, hc⟩
  · exact absurd rfl h
theorem okS_bad (l : List (BitVec 8)) (h1 : 128 ≤ bt l 0) (h2 : bt l 0 < 194 ∨ 245 ≤ bt l 0) : okS l = 0 := by
  unfold okS
  split
  · rfl
  · rw [if_neg (by omega), if_neg (by omega), if_neg (by omega), if_neg (by omega)]
theorem loB_ge (b : Int) : 128 ≤ loB b := by unfold loB; (repeat' split) <;> omega
theorem hiB_le (b : Int) : hiB b ≤ 191 := by unfold hiB; (repeat' split) <;> omega
end Go.Av.Chl
end
section
set_option linter.unusedSimpArgs false
set_option linter.unusedVariables false
set_option linter.unusedSectionVars false
open Go Go.Av Go.Proofs
namespace Go.Av.Chl
variable [ML]
set_option maxRecDepth 100000 in
set_option maxHeartbeats 8000000 in
theorem decSlow_ct (nl : Bool) (l : List (BitVec 8)) (hl : l.length ≤ 4000000) (hok : okS l ≠ 0) (hb : ¬ bt l 0 < 128) : Fn Tryd.prog 49 [.sl (bl l) nl] [.p (.int .i32 (runeN l)), .p (.int .i64 (okS l : Nat))] := by
  have b0 := bt_lt l 0; have b1 := bt_lt l 1; have b2 := bt_lt l 2; have b3 := bt_lt l 3
  have hlen := okS_len l
  obtain ⟨x, y, z, lo, hi, hF, h7, h4, y0, y16, hlo, hhi, lo0, lo1, hi0, hi1, hz, hx240, hcs⟩ := cls (bt l 0) (by omega)
  have hE : ub (l.getD 0 0#8) = bt l 0 := rfl
  have hE1 : ub (l.getD 1 0#8) = bt l 1 := rfl
  have hE2 : ub (l.getD 2 0#8) = bt l 2 := rfl
  have hE3 : ub (l.getD 3 0#8) = bt l 3 := rfl
  have hn : (bt l 0).toNat < 256 := by omega
  have g0 : [lo, hi].getD 0 0 = lo := rfl
  have g1 : [lo, hi].getD 1 0 = hi := rfl
  have h0 : 0 < l.length := by omega
  have h0' : ¬ (l.length : Int) < 1 := by omega
  have l1 := loB_ge (bt l 0)
  have l2 := hiB_le (bt l 0)
  rcases hcs with ⟨z1, hr⟩ | ⟨rfl, h1, h2, hlo2, hhi2⟩ | ⟨rfl, h1, h2, hlo2, hhi2⟩ | ⟨rfl, h1, h2, hlo2, hhi2⟩
  · exact absurd (okS_bad l (by omega) hr) hok
  · obtain ⟨ho, hk, q1, q2⟩ := okS_two l hok h1 h2
    clear l1 l2
    have hR : runeN l = (bt l 0 - 192) * 64 + (bt l 1 - 128) := by unfold runeN; rw [if_neg (by omega), if_pos (by omega)]
    rw [hR, ho]
    have x1 : ¬ 240 ≤ x := by omega
    have f1 : ¬ (l.length : Int) < 2 := by omega
    have f2 : ¬ bt l 1 < lo := by omega
    have f3 : ¬ hi < bt l 1 := by omega
    have m1 : intBin .and .u8 (bt l 0) 31 = some (.int .u8 (bt l 0 - 192)) := by rw [and31 _ b0]; congr 2; omega
    have m2 : intBin .and .u8 (bt l 1) 63 = some (.int .u8 (bt l 1 - 128)) := by rw [and63 _ b1]; congr 2; omega
    have w1 : IntKind.i32.wrap (bt l 0 - 192) = bt l 0 - 192 := wrap_i32 _ (by omega) (by omega)
    have w2 : IntKind.i32.wrap (bt l 1 - 128) = bt l 1 - 128 := wrap_i32 _ (by omega) (by omega)
    have s1 : shiftBin .shl .i32 (bt l 0 - 192) 6 = some (.int .i32 ((bt l 0 - 192) * 64)) := shl_i32 _ 6 64 (by omega) (by omega) (by decide) (by omega)
    have o1 : intBin .or .i32 ((bt l 0 - 192) * 64) (bt l 1 - 128) = some (.int .i32 ((bt l 0 - 192) * 64 + (bt l 1 - 128))) := or_i32 _ _ 6 64 (by omega) (by omega) (by decide) (by omega)
    refine Fn.of_body Tryd.func49 rfl ?_
    repeat (first | ((first | refine zP fun K_ hK_ => ?_ | refine zQ fun K_ hK_ => ?_ | refine zR (by kernel_rfl) (by kernel_rfl) fun K_ hK_ => ?_ | refine zS (by kernel_rfl) (by kernel_rfl) fun K_ hK_ => ?_ | refine zT ?_); first | (simp (maxSteps := 1000000) (disch := refine hold_ ?_; first | (simp [h0, h0', hE, hE1, hF, h7, h4, y0, y16, hlo, hhi, hz, hn, g0, g1, x1, hk, f1, f2, f3, m1, m2, w1, w2, s1, o1, -List.getD_eq_getElem?_getD]; done) | omega) [h0, h0', hE, hE1, hF, h7, h4, y0, y16, hlo, hhi, hz, hn, g0, g1, x1, hk, f1, f2, f3, m1, m2, w1, w2, s1, o1, -List.getD_eq_getElem?_getD]; try first | refine zZ ?_ | subst hK_) | subst hK_) | refine zA ?_ | refine zB ?_ | refine zC ?_ | refine zD ?_ | refine zE ?_ | refine zF ?_ | refine zG ?_ | refine zH ?_ | refine zI ?_ | refine zJ ?_ | refine zK ?_ | refine zL ?_ | refine zM ?_ | refine zN ?_ | refine zO ?_ | refine yG (by decide) ?_ | refine AW.condT rfl ?_ | refine AW.condF rfl ?_)
    simp (maxSteps := 1000000) (disch := refine hold_ ?_; first | (simp [-List.getD_eq_getElem?_getD]; done) | omega) [-List.getD_eq_getElem?_getD]
  · obtain ⟨ho, hk, q1, q2, q3, q4⟩ := okS_three l hok h1 h2
    have q5 : 128 ≤ bt l 1 ∧ bt l 1 ≤ 191 := by omega
    have hR : runeN l = (bt l 0 - 224) * 4096 + (bt l 1 - 128) * 64 + (bt l 2 - 128) := by unfold runeN; rw [if_neg (by omega), if_neg (by omega), if_pos (by omega)]
    rw [hR, ho]
    have x1 : ¬ 240 ≤ x := by omega
    have f1 : ¬ (l.length : Int) < 3 := by omega
    have f2 : ¬ bt l 1 < lo := by omega
    have f3 : ¬ hi < bt l 1 := by omega
    have f4 : ¬ bt l 2 < 128 := by omega
    have f5 : ¬ 191 < bt l 2 := by omega
    clear l1 l2 q1 q2 hlo2 hhi2
    have m1 : intBin .and .u8 (bt l 0) 15 = some (.int .u8 (bt l 0 - 224)) := by rw [and15 _ b0]; congr 2; omega
    have m2 : intBin .and .u8 (bt l 1) 63 = some (.int .u8 (bt l 1 - 128)) := by rw [and63 _ b1]; congr 2; omega
    have m3 : intBin .and .u8 (bt l 2) 63 = some (.int .u8 (bt l 2 - 128)) := by rw [and63 _ b2]; congr 2; omega
    have w1 : IntKind.i32.wrap (bt l 0 - 224) = bt l 0 - 224 := wrap_i32 _ (by omega) (by omega)
    have w2 : IntKind.i32.wrap (bt l 1 - 128) = bt l 1 - 128 := wrap_i32 _ (by omega) (by omega)
    have w3 : IntKind.i32.wrap (bt l 2 - 128) = bt l 2 - 128 := wrap_i32 _ (by omega) (by omega)
    have s1 : shiftBin .shl .i32 (bt l 0 - 224) 12 = some (.int .i32 ((bt l 0 - 224) * 4096)) := shl_i32 _ 12 4096 (by omega) (by omega) (by decide) (by omega)
    have s2 : shiftBin .shl .i32 (bt l 1 - 128) 6 = some (.int .i32 ((bt l 1 - 128) * 64)) := shl_i32 _ 6 64 (by omega) (by omega) (by decide) (by omega)
    have o1 : intBin .or .i32 ((bt l 0 - 224) * 4096) ((bt l 1 - 128) * 64) = some (.int .i32 ((bt l 0 - 224) * 4096 + (bt l 1 - 128) * 64)) := or_i32 _ _ 12 4096 (by omega) (by omega) (by decide) (by omega)
    have o2 : intBin .or .i32 ((bt l 0 - 224) * 4096 + (bt l 1 - 128) * 64) (bt l 2 - 128) = some (.int .i32 ((bt l 0 - 224) * 4096 + (bt l 1 - 128) * 64 + (bt l 2 - 128))) := or_i32 _ _ 6 64 (by omega) (by omega) (by decide) (by omega)
    refine Fn.of_body Tryd.func49 rfl ?_
    repeat (first | ((first | refine zP fun K_ hK_ => ?_ | refine zQ fun K_ hK_ => ?_ | refine zR (by kernel_rfl) (by kernel_rfl) fun K_ hK_ => ?_ | refine zS (by kernel_rfl) (by kernel_rfl) fun K_ hK_ => ?_ | refine zT ?_); first | (simp (maxSteps := 1000000) (disch := refine hold_ ?_; first | (simp [h0, h0', hE, hE1, hE2, hF, h7, h4, y0, y16, hlo, hhi, hz, hn, g0, g1, x1, hk, f1, f2, f3, f4, f5, m1, m2, m3, w1, w2, w3, s1, s2, o1, o2, -List.getD_eq_getElem?_getD]; done) | omega) [h0, h0', hE, hE1, hE2, hF, h7, h4, y0, y16, hlo, hhi, hz, hn, g0, g1, x1, hk, f1, f2, f3, f4, f5, m1, m2, m3, w1, w2, w3, s1, s2, o1, o2, -List.getD_eq_getElem?_getD]; try first | refine zZ ?_ | subst hK_) | subst hK_) | refine zA ?_ | refine zB ?_ | refine zC ?_ | refine zD ?_ | refine zE ?_ | refine zF ?_ | refine zG ?_ | refine zH ?_ | refine zI ?_ | refine zJ ?_ | refine zK ?_ | refine zL ?_ | refine zM ?_ | refine zN ?_ | refine zO ?_ | refine yG (by decide) ?_ | refine AW.condT rfl ?_ | refine AW.condF rfl ?_)
    simp (maxSteps := 1000000) (disch := refine hold_ ?_; first | (simp [-List.getD_eq_getElem?_getD]; done) | omega) [-List.getD_eq_getElem?_getD]
  · obtain ⟨ho, hk, q1, q2, q3, q4, q6, q7⟩ := okS_four l hok h1 h2
    have q5 : 128 ≤ bt l 1 ∧ bt l 1 ≤ 191 := by omega
    have hR : runeN l = (bt l 0 - 240) * 262144 + (bt l 1 - 128) * 4096 + (bt l 2 - 128) * 64 + (bt l 3 - 128) := by unfold runeN; rw [if_neg (by omega), if_neg (by omega), if_neg (by omega)]
    rw [hR, ho]
    have x1 : ¬ 240 ≤ x := by omega
    have f1 : ¬ (l.length : Int) < 4 := by omega
    have f2 : ¬ bt l 1 < lo := by omega
    have f3 : ¬ hi < bt l 1 := by omega
    have f4 : ¬ bt l 2 < 128 := by omega
    have f5 : ¬ 191 < bt l 2 := by omega
    have f6 : ¬ bt l 3 < 128 := by omega
    have f7 : ¬ 191 < bt l 3 := by omega
    clear l1 l2 q1 q2 hlo2 hhi2
    have m1 : intBin .and .u8 (bt l 0) 7 = some (.int .u8 (bt l 0 - 240)) := by rw [and7 _ b0]; congr 2; omega
    have m2 : intBin .and .u8 (bt l 1) 63 = some (.int .u8 (bt l 1 - 128)) := by rw [and63 _ b1]; congr 2; omega
    have m3 : intBin .and .u8 (bt l 2) 63 = some (.int .u8 (bt l 2 - 128)) := by rw [and63 _ b2]; congr 2; omega
    have m4 : intBin .and .u8 (bt l 3) 63 = some (.int .u8 (bt l 3 - 128)) := by rw [and63 _ b3]; congr 2; omega
    have w1 : IntKind.i32.wrap (bt l 0 - 240) = bt l 0 - 240 := wrap_i32 _ (by omega) (by omega)
    have w2 : IntKind.i32.wrap (bt l 1 - 128) = bt l 1 - 128 := wrap_i32 _ (by omega) (by omega)
    have w3 : IntKind.i32.wrap (bt l 2 - 128) = bt l 2 - 128 := wrap_i32 _ (by omega) (by omega)
    have w4 : IntKind.i32.wrap (bt l 3 - 128) = bt l 3 - 128 := wrap_i32 _ (by omega) (by omega)
    have s1 : shiftBin .shl .i32 (bt l 0 - 240) 18 = some (.int .i32 ((bt l 0 - 240) * 262144)) := shl_i32 _ 18 262144 (by omega) (by omega) (by decide) (by omega)
    have s2 : shiftBin .shl .i32 (bt l 1 - 128) 12 = some (.int .i32 ((bt l 1 - 128) * 4096)) := shl_i32 _ 12 4096 (by omega) (by omega) (by decide) (by omega)
    have s3 : shiftBin .shl .i32 (bt l 2 - 128) 6 = some (.int .i32 ((bt l 2 - 128) * 64)) := shl_i32 _ 6 64 (by omega) (by omega) (by decide) (by omega)
    have o1 : intBin .or .i32 ((bt l 0 - 240) * 262144) ((bt l 1 - 128) * 4096) = some (.int .i32 ((bt l 0 - 240) * 262144 + (bt l 1 - 128) * 4096)) := or_i32 _ _ 18 262144 (by omega) (by omega) (by decide) (by omega)
    have o2 : intBin .or .i32 ((bt l 0 - 240) * 262144 + (bt l 1 - 128) * 4096) ((bt l 2 - 128) * 64) = some (.int .i32 ((bt l 0 - 240) * 262144 + (bt l 1 - 128) * 4096 + (bt l 2 - 128) * 64)) := or_i32 _ _ 12 4096 (by omega) (by omega) (by decide) (by omega)
    have o3 : intBin .or .i32 ((bt l 0 - 240) * 262144 + (bt l 1 - 128) * 4096 + (bt l 2 - 128) * 64) (bt l 3 - 128) = some (.int .i32 ((bt l 0 - 240) * 262144 + (bt l 1 - 128) * 4096 + (bt l 2 - 128) * 64 + (bt l 3 - 128))) := or_i32 _ _ 6 64 (by omega) (by omega) (by decide) (by omega)
    refine Fn.of_body Tryd.func49 rfl ?_
    repeat (first | ((first | refine zP fun K_ hK_ => ?_ | refine zQ fun K_ hK_ => ?_ | refine zR (by kernel_rfl) (by kernel_rfl) fun K_ hK_ => ?_ | refine zS (by kernel_rfl) (by kernel_rfl) fun K_ hK_ => ?_ | refine zT ?_); first | (simp (maxSteps := 1000000) (disch := refine hold_ ?_; first | (simp [h0, h0', hE, hE1, hE2, hE3, hF, h7, h4, y0, y16, hlo, hhi, hz, hn, g0, g1, x1, hk, f1, f2, f3, f4, f5, f6, f7, m1, m2, m3, m4, w1, w2, w3, w4, s1, s2, s3, o1, o2, o3, -List.getD_eq_getElem?_getD]; done) | omega) [h0, h0', hE, hE1, hE2, hE3, hF, h7, h4, y0, y16, hlo, hhi, hz, hn, g0, g1, x1, hk, f1, f2, f3, f4, f5, f6, f7, m1, m2, m3, m4, w1, w2, w3, w4, s1, s2, s3, o1, o2, o3, -List.getD_eq_getElem?_getD]; try first | refine zZ ?_ | subst hK_) | subst hK_) | refine zA ?_ | refine zB ?_ | refine zC ?_ | refine zD ?_ | refine zE ?_ | refine zF ?_ | refine zG ?_ | refine zH ?_ | refine zI ?_ | refine zJ ?_ | refine zK ?_ | refine zL ?_ | refine zM ?_ | refine zN ?_ | refine zO ?_ | refine yG (by decide) ?_ | refine AW.condT rfl ?_ | refine AW.condF rfl ?_)
    simp (maxSteps := 1000000) (disch := refine hold_ ?_; first | (simp [-List.getD_eq_getElem?_getD]; done) | omega) [-List.getD_eq_getElem?_getD]
set_option maxHeartbeats 8000000 in
theorem dec_ct (nl : Bool) (l : List (BitVec 8)) (hl : l.length ≤ 4000000) (hok : okS l ≠ 0) : Fn Tryd.prog 40 [.sl (bl l) nl] [.p (.int .i32 (runeN l)), .p (.int .i64 (okS l : Nat))] := by
  have hlen := okS_len l
  have h0 : 0 < l.length := by omega
  have hE : ub (l.getD 0 0#8) = bt l 0 := rfl
  have b0 := bt_lt l 0
  by_cases hb : bt l 0 < 128
  · have ho : okS l = 1 := by unfold okS; rw [if_neg (by omega), if_pos hb]
    have hR : runeN l = bt l 0 := by unfold runeN; rw [if_pos hb]
    have w0 : IntKind.i32.wrap (bt l 0) = bt l 0 := wrap_i32 _ (by omega) (by omega)
    rw [ho, hR]
    refine Fn.of_body Tryd.func40 rfl ?_
    repeat (first | ((first | refine zP fun K_ hK_ => ?_ | refine zQ fun K_ hK_ => ?_ | refine zR (by kernel_rfl) (by kernel_rfl) fun K_ hK_ => ?_ | refine zS (by kernel_rfl) (by kernel_rfl) fun K_ hK_ => ?_ | refine zT ?_); first | (simp (maxSteps := 1000000) (disch := refine hold_ ?_; first | (simp [-List.getD_eq_getElem?_getD]; done) | omega) [-List.getD_eq_getElem?_getD]; try first | refine zZ ?_ | subst hK_) | subst hK_) | refine zA ?_ | refine zB ?_ | refine zC ?_ | refine zD ?_ | refine zE ?_ | refine zF ?_ | refine zG ?_ | refine zH ?_ | refine zI ?_ | refine zJ ?_ | refine zK ?_ | refine zL ?_ | refine zM ?_ | refine zN ?_ | refine zO ?_ | refine yG (by decide) ?_ | refine AW.condT rfl ?_ | refine AW.condF rfl ?_)
    refine AW.iter (true :: false :: false :: false :: false :: false :: true :: true :: true :: false :: false :: false :: false :: false :: false :: false :: false :: false :: false :: false :: false :: false :: []) 0 (fun k => ⟨(.p (.sl (bl l) nl) :: V.junk :: V.junk :: V.junk :: V.junk :: V.junk :: .p (.sl (bl l) nl) :: .p (.int .i64 l.length) :: .p (.int .i64 0) :: V.junk :: V.junk :: V.junk :: V.junk :: V.junk :: V.junk :: V.junk :: V.junk :: V.junk :: V.junk :: V.junk :: V.junk :: V.junk :: []), ⟨[], []⟩⟩) ?_ ?_
    · simp (maxSteps := 1000000) (disch := refine hold_ ?_; first | (simp [-List.getD_eq_getElem?_getD]; done) | omega) [-List.getD_eq_getElem?_getD]
    intro k hk
    repeat (first | ((first | refine zP fun K_ hK_ => ?_ | refine zQ fun K_ hK_ => ?_ | refine zR (by kernel_rfl) (by kernel_rfl) fun K_ hK_ => ?_ | refine zS (by kernel_rfl) (by kernel_rfl) fun K_ hK_ => ?_ | refine zT ?_); first | (simp (maxSteps := 1000000) (disch := refine hold_ ?_; first | (simp [h0, hE, hb, w0, -List.getD_eq_getElem?_getD]; done) | omega) [h0, hE, hb, w0, -List.getD_eq_getElem?_getD]; try first | refine zZ ?_ | subst hK_) | subst hK_) | refine zA ?_ | refine zB ?_ | refine zC ?_ | refine zD ?_ | refine zE ?_ | refine zF ?_ | refine zG ?_ | refine zH ?_ | refine zI ?_ | refine zJ ?_ | refine zK ?_ | refine zL ?_ | refine zM ?_ | refine zN ?_ | refine zO ?_ | refine yG (by decide) ?_ | refine AW.condT rfl ?_ | refine AW.condF rfl ?_)
    simp (maxSteps := 1000000) (disch := refine hold_ ?_; first | (simp [-List.getD_eq_getElem?_getD]; done) | omega) [-List.getD_eq_getElem?_getD]
  · have k49 := decSlow_ct nl l hl hok hb
    refine Fn.of_body Tryd.func40 rfl ?_
    repeat (first | ((first | refine zP fun K_ hK_ => ?_ | refine zQ fun K_ hK_ => ?_ | refine zR (by kernel_rfl) (by kernel_rfl) fun K_ hK_ => ?_ | refine zS (by kernel_rfl) (by kernel_rfl) fun K_ hK_ => ?_ | refine zT ?_); first | (simp (maxSteps := 1000000) (disch := refine hold_ ?_; first | (simp [-List.getD_eq_getElem?_getD]; done) | omega) [-List.getD_eq_getElem?_getD]; try first | refine zZ ?_ | subst hK_) | subst hK_) | refine zA ?_ | refine zB ?_ | refine zC ?_ | refine zD ?_ | refine zE ?_ | refine zF ?_ | refine zG ?_ | refine zH ?_ | refine zI ?_ | refine zJ ?_ | refine zK ?_ | refine zL ?_ | refine zM ?_ | refine zN ?_ | refine zO ?_ | refine yG (by decide) ?_ | refine AW.condT rfl ?_ | refine AW.condF rfl ?_)
    refine AW.iter (true :: false :: false :: false :: false :: false :: true :: true :: true :: false :: false :: false :: false :: false :: false :: false :: false :: false :: false :: false :: false :: false :: []) 0 (fun k => ⟨(.p (.sl (bl l) nl) :: V.junk :: V.junk :: V.junk :: V.junk :: V.junk :: .p (.sl (bl l) nl) :: .p (.int .i64 l.length) :: .p (.int .i64 0) :: V.junk :: V.junk :: V.junk :: V.junk :: V.junk :: V.junk :: V.junk :: V.junk :: V.junk :: V.junk :: V.junk :: V.junk :: V.junk :: []), ⟨[], []⟩⟩) ?_ ?_
    · simp (maxSteps := 1000000) (disch := refine hold_ ?_; first | (simp [-List.getD_eq_getElem?_getD]; done) | omega) [-List.getD_eq_getElem?_getD]
    intro k hk
    repeat (first | ((first | refine callK_at 49 ?_); refine callK_p ?_; simp (maxSteps := 1000000) (disch := refine hold_ ?_; first | (simp [h0, hE, hb, -List.getD_eq_getElem?_getD]; done) | omega) [h0, hE, hb, -List.getD_eq_getElem?_getD]; (first | refine callK1_of (Fn.ct k49 Tryd.call49) ?_); (try simp (maxSteps := 1000000) (disch := refine hold_ ?_; first | (simp [h0, hE, hb, -List.getD_eq_getElem?_getD]; done) | omega) [h0, hE, hb, -List.getD_eq_getElem?_getD]); try first | refine zZ ?_ | subst hK_) | ((first | refine zP fun K_ hK_ => ?_ | refine zQ fun K_ hK_ => ?_ | refine zR (by kernel_rfl) (by kernel_rfl) fun K_ hK_ => ?_ | refine zS (by kernel_rfl) (by kernel_rfl) fun K_ hK_ => ?_ | refine zT ?_); first | (simp (maxSteps := 1000000) (disch := refine hold_ ?_; first | (simp [h0, hE, hb, -List.getD_eq_getElem?_getD]; done) | omega) [h0, hE, hb, -List.getD_eq_getElem?_getD]; try first | refine zZ ?_ | subst hK_) | subst hK_) | refine zA ?_ | refine zB ?_ | refine zC ?_ | refine zD ?_ | refine zE ?_ | refine zF ?_ | refine zG ?_ | refine zH ?_ | refine zI ?_ | refine zJ ?_ | refine zK ?_ | refine zL ?_ | refine zM ?_ | refine zN ?_ | refine zO ?_ | refine yG (by decide) ?_ | refine AW.condT rfl ?_ | refine AW.condF rfl ?_)
    simp (maxSteps := 1000000) (disch := refine hold_ ?_; first | (simp [-List.getD_eq_getElem?_getD]; done) | omega) [-List.getD_eq_getElem?_getD]
end Go.Av.Chl
end
section
set_option linter.unusedSimpArgs false
set_option linter.unusedVariables false
set_option linter.unusedSectionVars false
open Go Go.Av Go.Proofs
namespace Go.Av.Chl
variable [ML]
theorem uvalid_ct (nl : Bool) (l : List (BitVec 8)) (hl : l.length ≤ 4000000) : Fn Tryd.prog 39 [.sl (bl l) nl] [.p (.bool (validB l))] := by
  have k := valid_ct nl l hl
  refine Fn.of_body Tryd.func39 rfl ?_
  repeat (first | ((first | refine callK_at 48 ?_); refine callK_p ?_; simp (maxSteps := 1000000) (disch := refine hold_ ?_; first | (simp [-List.getD_eq_getElem?_getD]; done) | omega) [-List.getD_eq_getElem?_getD]; (first | refine callK1_of (Fn.ct k Tryd.call48) ?_); (try simp (maxSteps := 1000000) (disch := refine hold_ ?_; first | (simp [-List.getD_eq_getElem?_getD]; done) | omega) [-List.getD_eq_getElem?_getD]); try first | refine zZ ?_ | subst hK_) | ((first | refine zP fun K_ hK_ => ?_ | refine zQ fun K_ hK_ => ?_ | refine zR (by kernel_rfl) (by kernel_rfl) fun K_ hK_ => ?_ | refine zS (by kernel_rfl) (by kernel_rfl) fun K_ hK_ => ?_ | refine zT ?_); first | (simp (maxSteps := 1000000) (disch := refine hold_ ?_; first | (simp [-List.getD_eq_getElem?_getD]; done) | omega) [-List.getD_eq_getElem?_getD]; try first | refine zZ ?_ | subst hK_) | subst hK_) | refine zA ?_ | refine zB ?_ | refine zC ?_ | refine zD ?_ | refine zE ?_ | refine zF ?_ | refine zG ?_ | refine zH ?_ | refine zI ?_ | refine zJ ?_ | refine zK ?_ | refine zL ?_ | refine zM ?_ | refine zN ?_ | refine zO ?_ | refine yG (by decide) ?_ | refine AW.condT rfl ?_ | refine AW.condF rfl ?_)
  simp (maxSteps := 1000000) (disch := refine hold_ ?_; first | (simp [-List.getD_eq_getElem?_getD]; done) | omega) [-List.getD_eq_getElem?_getD]
def cSt (nl : Bool) (l : List (BitVec 8)) (p : Nat) (d : List Int) : St := ⟨(.p (.sl (bl l) nl) :: V.junk :: V.junk :: V.junk :: .row (rl d) 0 0 (d.length == 0) :: .p (.int .i64 p) :: V.junk :: V.junk :: V.junk :: V.junk :: V.junk :: V.junk :: V.junk :: V.junk :: V.junk :: V.junk :: V.junk :: V.junk :: V.junk :: V.junk :: V.junk :: V.junk :: V.junk :: V.junk :: V.junk :: V.junk :: V.junk :: V.junk :: V.junk :: V.junk :: []), ⟨[], [(0, 0)]⟩⟩
set_option maxHeartbeats 8000000 in
theorem uchars_ok (nl : Bool) (l : List (BitVec 8)) (hl : l.length ≤ 4000000) (c : List Int) (hc : charsL l = some c) :
    Fn Tryd.prog 23 [.sl (bl l) nl] [.row (rl c) 0 0 (c.length == 0), .p (.bool true)] 1 := by
  have hv : validB l = true := by unfold validB; rw [hc]; rfl
  have k19 := uvalid_ct nl l hl
  rw [hv] at k19
  refine Fn.of_body Tryd.func23 rfl ?_
  repeat (first | ((first | refine zP fun K_ hK_ => ?_ | refine zQ fun K_ hK_ => ?_ | refine zR (by kernel_rfl) (by kernel_rfl) fun K_ hK_ => ?_ | refine zS (by kernel_rfl) (by kernel_rfl) fun K_ hK_ => ?_ | refine zT ?_); first | (simp (maxSteps := 1000000) (disch := refine hold_ ?_; first | (simp [-List.getD_eq_getElem?_getD]; done) | omega) [-List.getD_eq_getElem?_getD]; try first | refine zZ ?_ | subst hK_) | subst hK_) | refine zA ?_ | refine zB ?_ | refine zC ?_ | refine zD ?_ | refine zE ?_ | refine zF ?_ | refine zG ?_ | refine zH ?_ | refine zI ?_ | refine zJ ?_ | refine zK ?_ | refine zL ?_ | refine zM ?_ | refine zN ?_ | refine zO ?_ | refine yG (by decide) ?_ | refine AW.condT rfl ?_ | refine AW.condF rfl ?_)
  (refine callK_p ?_; simp (maxSteps := 1000000) (disch := refine hold_ ?_; first | (simp [-List.getD_eq_getElem?_getD]; done) | omega) [-List.getD_eq_getElem?_getD]; refine callK1_of (Fn.ct k19 Tryd.call39) ?_; (try simp (maxSteps := 1000000) (disch := refine hold_ ?_; first | (simp [-List.getD_eq_getElem?_getD]; done) | omega) [-List.getD_eq_getElem?_getD]); first | refine zZ ?_ | subst hK_)
  repeat (first | ((first | refine zP fun K_ hK_ => ?_ | refine zQ fun K_ hK_ => ?_ | refine zR (by kernel_rfl) (by kernel_rfl) fun K_ hK_ => ?_ | refine zS (by kernel_rfl) (by kernel_rfl) fun K_ hK_ => ?_ | refine zT ?_); first | (simp (maxSteps := 1000000) (disch := refine hold_ ?_; first | (simp [-List.getD_eq_getElem?_getD]; done) | omega) [-List.getD_eq_getElem?_getD]; try first | refine zZ ?_ | subst hK_) | subst hK_) | refine zA ?_ | refine zB ?_ | refine zC ?_ | refine zD ?_ | refine zE ?_ | refine zF ?_ | refine zG ?_ | refine zH ?_ | refine zI ?_ | refine zJ ?_ | refine zK ?_ | refine zL ?_ | refine zM ?_ | refine zN ?_ | refine zO ?_ | refine yG (by decide) ?_ | refine AW.condT rfl ?_ | refine AW.condF rfl ?_)
  refine AW.nilRow 4 (rl []) 4 _ rfl rfl ?_
  refine AW.iterI (true :: false :: false :: false :: true :: true :: false :: false :: false :: false :: false :: false :: false :: false :: false :: false :: false :: false :: false :: false :: false :: false :: false :: false :: false :: false :: false :: false :: false :: false :: []) l.length (fun m σ => ∃ p d r, σ = cSt nl l p d ∧ m = l.length - p ∧ p ≤ l.length ∧ charsL (l.drop p) = some r ∧ c = d ++ r ∧ d.length ≤ p) (τ := cSt nl l 0 []) ?_ ⟨0, [], c, rfl, by omega, by omega, by simpa using hc, rfl, by simp⟩ ?_
  · unfold cSt; simp (maxSteps := 1000000) (disch := refine hold_ ?_; first | (simp [-List.getD_eq_getElem?_getD]; done) | omega) [-List.getD_eq_getElem?_getD]
  rintro k σ ⟨p, d, r, rfl, rfl, hp, hr, rfl, hdp⟩
  unfold cSt
  repeat (first | ((first | refine zP fun K_ hK_ => ?_ | refine zQ fun K_ hK_ => ?_ | refine zR (by kernel_rfl) (by kernel_rfl) fun K_ hK_ => ?_ | refine zS (by kernel_rfl) (by kernel_rfl) fun K_ hK_ => ?_ | refine zT ?_); first | (simp (maxSteps := 1000000) (disch := refine hold_ ?_; first | (simp [-List.getD_eq_getElem?_getD]; done) | omega) [-List.getD_eq_getElem?_getD]; try first | refine zZ ?_ | subst hK_) | subst hK_) | refine zA ?_ | refine zB ?_ | refine zC ?_ | refine zD ?_ | refine zE ?_ | refine zF ?_ | refine zG ?_ | refine zH ?_ | refine zI ?_ | refine zJ ?_ | refine zK ?_ | refine zL ?_ | refine zM ?_ | refine zN ?_ | refine zO ?_ | refine yG (by decide) ?_ | refine AW.condT rfl ?_ | refine AW.condF rfl ?_)
  first | refine AW.condD rfl (fun hc => ?_) (fun hc => ?_) | refine AW.cond rfl (fun hc => ?_) (fun hc => ?_)
  · have hpl : p < l.length := by omega
    have hne : (l.drop p).length ≠ 0 := by simp; omega
    have hok : okS (l.drop p) ≠ 0 := by
      intro h; rw [charsL_bad _ hne h] at hr; simp at hr
    have k41 := dec_ct nl (l.drop p) (by simp; omega) hok
    have hst := charsL_step _ hne hok
    rw [hr, List.drop_drop] at hst
    have hle := okS_len (l.drop p)
    simp only [List.length_drop] at hle
    have hp2 : p ≤ l.length := by omega
    generalize runeN (l.drop p) = R at *
    generalize hn : okS (l.drop p) = n at *
    obtain ⟨r2, hr2, rfl⟩ : ∃ r2, charsL (l.drop (p + n)) = some r2 ∧ r = R :: r2 := by
      cases hx : charsL (l.drop (p + n)) with
      | none => rw [hx] at hst; simp at hst
      | some r2 => rw [hx] at hst; exact ⟨r2, rfl, by simpa using hst⟩
    have e1 : IntKind.i64.wrap ((p : Int) + n) = p + n := wrap_i64 _ (by omega) (by omega)
    have hdl : d.length ≤ 4000000 := by omega
    repeat (first | ((first | refine zP fun K_ hK_ => ?_ | refine zQ fun K_ hK_ => ?_ | refine zR (by kernel_rfl) (by kernel_rfl) fun K_ hK_ => ?_ | refine zS (by kernel_rfl) (by kernel_rfl) fun K_ hK_ => ?_ | refine zT ?_); first | (simp (maxSteps := 1000000) (disch := refine hold_ ?_; first | (simp [hp2, hpl, -List.getD_eq_getElem?_getD]; done) | omega) [hp2, hpl, -List.getD_eq_getElem?_getD]; try first | refine zZ ?_ | subst hK_) | subst hK_) | refine zA ?_ | refine zB ?_ | refine zC ?_ | refine zD ?_ | refine zE ?_ | refine zF ?_ | refine zG ?_ | refine zH ?_ | refine zI ?_ | refine zJ ?_ | refine zK ?_ | refine zL ?_ | refine zM ?_ | refine zN ?_ | refine zO ?_ | refine yG (by decide) ?_ | refine AW.condT rfl ?_ | refine AW.condF rfl ?_)
    (refine callK_p ?_; simp (maxSteps := 1000000) (disch := refine hold_ ?_; first | (simp [hp2, -List.getD_eq_getElem?_getD]; done) | omega) [hp2, -List.getD_eq_getElem?_getD]; refine callK1_of (Fn.ct k41 Tryd.call40) ?_; (try simp (maxSteps := 1000000) (disch := refine hold_ ?_; first | (simp [hp2, -List.getD_eq_getElem?_getD]; done) | omega) [hp2, -List.getD_eq_getElem?_getD]); first | refine zZ ?_ | subst hK_)
    repeat (first | ((first | refine zP fun K_ hK_ => ?_ | refine zQ fun K_ hK_ => ?_ | refine zR (by kernel_rfl) (by kernel_rfl) fun K_ hK_ => ?_ | refine zS (by kernel_rfl) (by kernel_rfl) fun K_ hK_ => ?_ | refine zT ?_); first | (simp (maxSteps := 1000000) (disch := refine hold_ ?_; first | (simp [hp2, e1, hdl, -List.getD_eq_getElem?_getD]; done) | omega) [hp2, e1, hdl, -List.getD_eq_getElem?_getD]; try first | refine zZ ?_ | subst hK_) | subst hK_) | refine zA ?_ | refine zB ?_ | refine zC ?_ | refine zD ?_ | refine zE ?_ | refine zF ?_ | refine zG ?_ | refine zH ?_ | refine zI ?_ | refine zJ ?_ | refine zK ?_ | refine zL ?_ | refine zM ?_ | refine zN ?_ | refine zO ?_ | refine yG (by decide) ?_ | refine AW.condT rfl ?_ | refine AW.condF rfl ?_)
    refine ⟨l.length - (p + n), cSt nl l (p + n) (d ++ [R]), by omega, ?_, p + n, d ++ [R], r2, rfl, rfl, by omega, hr2, by simp, by simp; omega⟩
    (unfold cSt; simp (maxSteps := 1000000) (disch := refine hold_ ?_; first | (simp [-List.getD_eq_getElem?_getD]; done) | omega) [-List.getD_eq_getElem?_getD])
  · have hpl : p = l.length := by omega
    subst hpl
    have : r = [] := by
      rw [List.drop_length, charsL_nil] at hr; simpa using hr.symm
    subst this
    repeat (first | ((first | refine zP fun K_ hK_ => ?_ | refine zQ fun K_ hK_ => ?_ | refine zR (by kernel_rfl) (by kernel_rfl) fun K_ hK_ => ?_ | refine zS (by kernel_rfl) (by kernel_rfl) fun K_ hK_ => ?_ | refine zT ?_); first | (simp (maxSteps := 1000000) (disch := refine hold_ ?_; first | (simp [-List.getD_eq_getElem?_getD]; done) | omega) [-List.getD_eq_getElem?_getD]; try first | refine zZ ?_ | subst hK_) | subst hK_) | refine zA ?_ | refine zB ?_ | refine zC ?_ | refine zD ?_ | refine zE ?_ | refine zF ?_ | refine zG ?_ | refine zH ?_ | refine zI ?_ | refine zJ ?_ | refine zK ?_ | refine zL ?_ | refine zM ?_ | refine zN ?_ | refine zO ?_ | refine yG (by decide) ?_ | refine AW.condT rfl ?_ | refine AW.condF rfl ?_)
    simp (maxSteps := 1000000) (disch := refine hold_ ?_; first | (simp [-List.getD_eq_getElem?_getD]; done) | omega) [-List.getD_eq_getElem?_getD]
theorem uchars_bad (nl : Bool) (l : List (BitVec 8)) (hl : l.length ≤ 4000000) (hc : charsL l = none) :
    Fn Tryd.prog 23 [.sl (bl l) nl] [.p (.sl (.vals 1 []) true), .p (.bool false)] := by
  have hv : validB l = false := by unfold validB; rw [hc]; rfl
  have k19 := uvalid_ct nl l hl
  rw [hv] at k19
  refine Fn.of_body Tryd.func23 rfl ?_
  repeat (first | ((first | refine callK_at 39 ?_); refine callK_p ?_; simp (maxSteps := 1000000) (disch := refine hold_ ?_; first | (simp [-List.getD_eq_getElem?_getD]; done) | omega) [-List.getD_eq_getElem?_getD]; (first | refine callK1_of (Fn.ct k19 Tryd.call39) ?_); (try simp (maxSteps := 1000000) (disch := refine hold_ ?_; first | (simp [-List.getD_eq_getElem?_getD]; done) | omega) [-List.getD_eq_getElem?_getD]); try first | refine zZ ?_ | subst hK_) | ((first | refine zP fun K_ hK_ => ?_ | refine zQ fun K_ hK_ => ?_ | refine zR (by kernel_rfl) (by kernel_rfl) fun K_ hK_ => ?_ | refine zS (by kernel_rfl) (by kernel_rfl) fun K_ hK_ => ?_ | refine zT ?_); first | (simp (maxSteps := 1000000) (disch := refine hold_ ?_; first | (simp [-List.getD_eq_getElem?_getD]; done) | omega) [-List.getD_eq_getElem?_getD]; try first | refine zZ ?_ | subst hK_) | subst hK_) | refine zA ?_ | refine zB ?_ | refine zC ?_ | refine zD ?_ | refine zE ?_ | refine zF ?_ | refine zG ?_ | refine zH ?_ | refine zI ?_ | refine zJ ?_ | refine zK ?_ | refine zL ?_ | refine zM ?_ | refine zN ?_ | refine zO ?_ | refine yG (by decide) ?_ | refine AW.condT rfl ?_ | refine AW.condF rfl ?_)
  simp (maxSteps := 1000000) (disch := refine hold_ ?_; first | (simp [-List.getD_eq_getElem?_getD]; done) | omega) [-List.getD_eq_getElem?_getD]
end Go.Av.Chl
end
section
set_option linter.unusedSimpArgs false
set_option linter.unusedVariables false
set_option linter.unusedSectionVars false
open Go Go.Av Go.Proofs
namespace Go.Av.Chl
variable [ML]
theorem charsF_len : ∀ (n : Nat) (l : List (BitVec 8)) (c : List Int), l.length ≤ n → charsL l = some c → c.length ≤ l.length
  | n, l, c, hn, hc => by
    by_cases h0 : l.length = 0
    · obtain rfl := List.eq_nil_of_length_eq_zero h0; rw [charsL_nil] at hc; simp only [Option.some.injEq] at hc; subst hc; simp
    · by_cases hok : okS l = 0
      · rw [charsL_bad l h0 hok] at hc; simp at hc
      · rw [charsL_step l h0 hok] at hc
        simp only [Option.map_eq_some_iff] at hc
        obtain ⟨r, hr, rfl⟩ := hc
        have hle := okS_len l
        match n, hn with
        | 0, hn => omega
        | n + 1, hn =>
          have := charsF_len n (l.drop (okS l)) r (by simp; omega) hr
          simp only [List.length_drop] at this
          simp only [List.length_cons]; omega
theorem charsL_len {l : List (BitVec 8)} {c : List Int} (hc : charsL l = some c) : c.length ≤ l.length := charsF_len _ l c (Nat.le_refl _) hc
def textB (l : List (BitVec 8)) : Bool := match charsL l with
  | some c => c.all xmlB
  | none => false
set_option maxHeartbeats 8000000 in
theorem utext_ct (nl : Bool) (l : List (BitVec 8)) (hl : l.length ≤ 4000000) : Fn Tryd.prog 14 [.sl (bl l) nl] [.p (.bool (textB l))] := by
  cases hcl0 : charsL l with
  | some c =>
    have hT : textB l = c.all xmlB := by unfold textB; rw [hcl0]
    have hcl := charsL_len hcl0
    have kc := uchars_ok nl l hl c hcl0
    rw [hT]
    refine Fn.of_body Tryd.func14 rfl ?_
    repeat (first | ((first | refine zP fun K_ hK_ => ?_ | refine zQ fun K_ hK_ => ?_ | refine zR (by kernel_rfl) (by kernel_rfl) fun K_ hK_ => ?_ | refine zS (by kernel_rfl) (by kernel_rfl) fun K_ hK_ => ?_ | refine zT ?_); first | (simp (maxSteps := 1000000) (disch := refine hold_ ?_; first | (simp [-List.getD_eq_getElem?_getD]; done) | omega) [-List.getD_eq_getElem?_getD]; try first | refine zZ ?_ | subst hK_) | subst hK_) | refine zA ?_ | refine zB ?_ | refine zC ?_ | refine zD ?_ | refine zE ?_ | refine zF ?_ | refine zG ?_ | refine zH ?_ | refine zI ?_ | refine zJ ?_ | refine zK ?_ | refine zL ?_ | refine zM ?_ | refine zN ?_ | refine zO ?_ | refine yG (by decide) ?_ | refine AW.condT rfl ?_ | refine AW.condF rfl ?_)
    (refine callK_p ?_; simp (maxSteps := 1000000) (disch := refine hold_ ?_; first | (simp [-List.getD_eq_getElem?_getD]; done) | omega) [-List.getD_eq_getElem?_getD]; refine callK1_of (Fn.ct kc Tryd.call23) ?_; (try simp (maxSteps := 1000000) (disch := refine hold_ ?_; first | (simp [-List.getD_eq_getElem?_getD]; done) | omega) [-List.getD_eq_getElem?_getD]); first | refine zZ ?_ | subst hK_)
    repeat (first | ((first | refine zP fun K_ hK_ => ?_ | refine zQ fun K_ hK_ => ?_ | refine zR (by kernel_rfl) (by kernel_rfl) fun K_ hK_ => ?_ | refine zS (by kernel_rfl) (by kernel_rfl) fun K_ hK_ => ?_ | refine zT ?_); first | (simp (maxSteps := 1000000) (disch := refine hold_ ?_; first | (simp [-List.getD_eq_getElem?_getD]; done) | omega) [-List.getD_eq_getElem?_getD]; try first | refine zZ ?_ | subst hK_) | subst hK_) | refine zA ?_ | refine zB ?_ | refine zC ?_ | refine zD ?_ | refine zE ?_ | refine zF ?_ | refine zG ?_ | refine zH ?_ | refine zI ?_ | refine zJ ?_ | refine zK ?_ | refine zL ?_ | refine zM ?_ | refine zN ?_ | refine zO ?_ | refine yG (by decide) ?_ | refine AW.condT rfl ?_ | refine AW.condF rfl ?_)
    refine AW.iter (false :: false :: false :: false :: true :: false :: false :: false :: false :: false :: false :: false :: true :: true :: true :: false :: false :: false :: false :: false :: false :: false :: false :: false :: false :: []) c.length (fun k => ⟨(V.junk :: V.junk :: V.junk :: V.junk :: .p (.bool ((c.take k).all xmlB)) :: V.junk :: V.junk :: V.junk :: V.junk :: V.junk :: V.junk :: V.junk :: .row (rl c) 0 0 (c.length == 0) :: .p (.int .i64 c.length) :: .p (.int .i64 k) :: V.junk :: V.junk :: V.junk :: V.junk :: V.junk :: V.junk :: V.junk :: V.junk :: V.junk :: V.junk :: []), ⟨[], [(0, 0)]⟩⟩) ?_ ?_
    · simp (maxSteps := 1000000) (disch := refine hold_ ?_; first | (simp [-List.getD_eq_getElem?_getD]; done) | omega) [-List.getD_eq_getElem?_getD]
    intro k hk
    have e1 : IntKind.i64.wrap ((k : Int) + 1) = k + 1 := wrap_i64 _ (by omega) (by omega)
    by_cases hkc : k < c.length
    · have hs : (c.take (k + 1)).all xmlB = ((c.take k).all xmlB && xmlB (c.getD k 0)) := by
        have ht : c.take (k + 1) = c.take k ++ [c.getD k 0] := by
          rw [List.take_add_one, List.getElem?_eq_getElem hkc, List.getD_eq_getElem?_getD, List.getElem?_eq_getElem hkc]; rfl
        rw [ht, List.all_append]
        simp only [List.all_cons, List.all_nil, Bool.and_true]
      have kx := xml_ct (c.getD k 0)
      have hkz : (k : Int) < c.length := by omega
      generalize hR : c.getD k 0 = R at *
      generalize hX : xmlB R = X at *
      generalize hA : (c.take k).all xmlB = A at *
      cases A
      · repeat (first | ((first | refine zP fun K_ hK_ => ?_ | refine zQ fun K_ hK_ => ?_ | refine zR (by kernel_rfl) (by kernel_rfl) fun K_ hK_ => ?_ | refine zS (by kernel_rfl) (by kernel_rfl) fun K_ hK_ => ?_ | refine zT ?_); first | (simp (maxSteps := 1000000) (disch := refine hold_ ?_; first | (simp [hkc, hkz, hR, e1, -List.getD_eq_getElem?_getD]; done) | omega) [hkc, hkz, hR, e1, -List.getD_eq_getElem?_getD]; try first | refine zZ ?_ | subst hK_) | subst hK_) | refine zA ?_ | refine zB ?_ | refine zC ?_ | refine zD ?_ | refine zE ?_ | refine zF ?_ | refine zG ?_ | refine zH ?_ | refine zI ?_ | refine zJ ?_ | refine zK ?_ | refine zL ?_ | refine zM ?_ | refine zN ?_ | refine zO ?_ | refine yG (by decide) ?_ | refine AW.condT rfl ?_ | refine AW.condF rfl ?_)
        refine ⟨hkc, ?_⟩
        simp (maxSteps := 1000000) (disch := refine hold_ ?_; first | (simp [hs, -List.getD_eq_getElem?_getD]; done) | omega) [hs, -List.getD_eq_getElem?_getD]
      · repeat (first | ((first | refine callK_at 24 ?_); refine callK_p ?_; simp (maxSteps := 1000000) (disch := refine hold_ ?_; first | (simp [hkc, hkz, hR, e1, -List.getD_eq_getElem?_getD]; done) | omega) [hkc, hkz, hR, e1, -List.getD_eq_getElem?_getD]; (first | refine callK1_of (Fn.ct kx Tryd.call24) ?_); (try simp (maxSteps := 1000000) (disch := refine hold_ ?_; first | (simp [hkc, hkz, hR, e1, -List.getD_eq_getElem?_getD]; done) | omega) [hkc, hkz, hR, e1, -List.getD_eq_getElem?_getD]); try first | refine zZ ?_ | subst hK_) | ((first | refine zP fun K_ hK_ => ?_ | refine zQ fun K_ hK_ => ?_ | refine zR (by kernel_rfl) (by kernel_rfl) fun K_ hK_ => ?_ | refine zS (by kernel_rfl) (by kernel_rfl) fun K_ hK_ => ?_ | refine zT ?_); first | (simp (maxSteps := 1000000) (disch := refine hold_ ?_; first | (simp [hkc, hkz, hR, e1, -List.getD_eq_getElem?_getD]; done) | omega) [hkc, hkz, hR, e1, -List.getD_eq_getElem?_getD]; try first | refine zZ ?_ | subst hK_) | subst hK_) | refine zA ?_ | refine zB ?_ | refine zC ?_ | refine zD ?_ | refine zE ?_ | refine zF ?_ | refine zG ?_ | refine zH ?_ | refine zI ?_ | refine zJ ?_ | refine zK ?_ | refine zL ?_ | refine zM ?_ | refine zN ?_ | refine zO ?_ | refine yG (by decide) ?_ | refine AW.condT rfl ?_ | refine AW.condF rfl ?_)
        refine ⟨hkc, ?_⟩
        simp (maxSteps := 1000000) (disch := refine hold_ ?_; first | (simp [hs, -List.getD_eq_getElem?_getD]; done) | omega) [hs, -List.getD_eq_getElem?_getD]
    · have hk2 : k = c.length := by omega
      subst hk2
      rw [List.take_length]
      generalize c.all xmlB = A at *
      repeat (first | ((first | refine zP fun K_ hK_ => ?_ | refine zQ fun K_ hK_ => ?_ | refine zR (by kernel_rfl) (by kernel_rfl) fun K_ hK_ => ?_ | refine zS (by kernel_rfl) (by kernel_rfl) fun K_ hK_ => ?_ | refine zT ?_); first | (simp (maxSteps := 1000000) (disch := refine hold_ ?_; first | (simp [-List.getD_eq_getElem?_getD]; done) | omega) [-List.getD_eq_getElem?_getD]; try first | refine zZ ?_ | subst hK_) | subst hK_) | refine zA ?_ | refine zB ?_ | refine zC ?_ | refine zD ?_ | refine zE ?_ | refine zF ?_ | refine zG ?_ | refine zH ?_ | refine zI ?_ | refine zJ ?_ | refine zK ?_ | refine zL ?_ | refine zM ?_ | refine zN ?_ | refine zO ?_ | refine yG (by decide) ?_ | refine AW.condT rfl ?_ | refine AW.condF rfl ?_)
      simp (maxSteps := 1000000) (disch := refine hold_ ?_; first | (simp [-List.getD_eq_getElem?_getD]; done) | omega) [-List.getD_eq_getElem?_getD]
  | none =>
    have hT : textB l = false := by unfold textB; rw [hcl0]
    have kc := uchars_bad nl l hl hcl0
    rw [hT]
    refine Fn.of_body Tryd.func14 rfl ?_
    repeat (first | ((first | refine zP fun K_ hK_ => ?_ | refine zQ fun K_ hK_ => ?_ | refine zR (by kernel_rfl) (by kernel_rfl) fun K_ hK_ => ?_ | refine zS (by kernel_rfl) (by kernel_rfl) fun K_ hK_ => ?_ | refine zT ?_); first | (simp (maxSteps := 1000000) (disch := refine hold_ ?_; first | (simp [-List.getD_eq_getElem?_getD]; done) | omega) [-List.getD_eq_getElem?_getD]; try first | refine zZ ?_ | subst hK_) | subst hK_) | refine zA ?_ | refine zB ?_ | refine zC ?_ | refine zD ?_ | refine zE ?_ | refine zF ?_ | refine zG ?_ | refine zH ?_ | refine zI ?_ | refine zJ ?_ | refine zK ?_ | refine zL ?_ | refine zM ?_ | refine zN ?_ | refine zO ?_ | refine yG (by decide) ?_ | refine AW.condT rfl ?_ | refine AW.condF rfl ?_)
    (refine callK_p ?_; simp (maxSteps := 1000000) (disch := refine hold_ ?_; first | (simp [-List.getD_eq_getElem?_getD]; done) | omega) [-List.getD_eq_getElem?_getD]; refine callK1_of (Fn.ct kc Tryd.call23) ?_; (try simp (maxSteps := 1000000) (disch := refine hold_ ?_; first | (simp [-List.getD_eq_getElem?_getD]; done) | omega) [-List.getD_eq_getElem?_getD]); first | refine zZ ?_ | subst hK_)
    repeat (first | ((first | refine zP fun K_ hK_ => ?_ | refine zQ fun K_ hK_ => ?_ | refine zR (by kernel_rfl) (by kernel_rfl) fun K_ hK_ => ?_ | refine zS (by kernel_rfl) (by kernel_rfl) fun K_ hK_ => ?_ | refine zT ?_); first | (simp (maxSteps := 1000000) (disch := refine hold_ ?_; first | (simp [-List.getD_eq_getElem?_getD]; done) | omega) [-List.getD_eq_getElem?_getD]; try first | refine zZ ?_ | subst hK_) | subst hK_) | refine zA ?_ | refine zB ?_ | refine zC ?_ | refine zD ?_ | refine zE ?_ | refine zF ?_ | refine zG ?_ | refine zH ?_ | refine zI ?_ | refine zJ ?_ | refine zK ?_ | refine zL ?_ | refine zM ?_ | refine zN ?_ | refine zO ?_ | refine yG (by decide) ?_ | refine AW.condT rfl ?_ | refine AW.condF rfl ?_)
    refine AW.iter (false :: false :: false :: false :: true :: false :: false :: false :: false :: false :: false :: false :: true :: true :: true :: false :: false :: false :: false :: false :: false :: false :: false :: false :: false :: []) 0 (fun k => ⟨(V.junk :: V.junk :: V.junk :: V.junk :: .p (.bool false) :: V.junk :: V.junk :: V.junk :: V.junk :: V.junk :: V.junk :: V.junk :: .p (.sl (.vals 1 []) true) :: .p (.int .i64 0) :: .p (.int .i64 0) :: V.junk :: V.junk :: V.junk :: V.junk :: V.junk :: V.junk :: V.junk :: V.junk :: V.junk :: V.junk :: []), ⟨[], []⟩⟩) ?_ ?_
    · simp (maxSteps := 1000000) (disch := refine hold_ ?_; first | (simp [-List.getD_eq_getElem?_getD]; done) | omega) [-List.getD_eq_getElem?_getD]
    intro k hk
    repeat (first | ((first | refine zP fun K_ hK_ => ?_ | refine zQ fun K_ hK_ => ?_ | refine zR (by kernel_rfl) (by kernel_rfl) fun K_ hK_ => ?_ | refine zS (by kernel_rfl) (by kernel_rfl) fun K_ hK_ => ?_ | refine zT ?_); first | (simp (maxSteps := 1000000) (disch := refine hold_ ?_; first | (simp [-List.getD_eq_getElem?_getD]; done) | omega) [-List.getD_eq_getElem?_getD]; try first | refine zZ ?_ | subst hK_) | subst hK_) | refine zA ?_ | refine zB ?_ | refine zC ?_ | refine zD ?_ | refine zE ?_ | refine zF ?_ | refine zG ?_ | refine zH ?_ | refine zI ?_ | refine zJ ?_ | refine zK ?_ | refine zL ?_ | refine zM ?_ | refine zN ?_ | refine zO ?_ | refine yG (by decide) ?_ | refine AW.condT rfl ?_ | refine AW.condF rfl ?_)
    simp (maxSteps := 1000000) (disch := refine hold_ ?_; first | (simp [-List.getD_eq_getElem?_getD]; done) | omega) [-List.getD_eq_getElem?_getD]
end Go.Av.Chl
end
section
set_option linter.unusedSimpArgs false
set_option linter.unusedVariables false
set_option linter.unusedSectionVars false
open Go Go.Av Go.Proofs
namespace Go.Av.Chl
variable [ML]
end Go.Av.Chl
end
