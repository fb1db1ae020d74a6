/- The walks of this seat's functions, and what is known of what they reckon (Cha3). Conditions: those that each theorem names. -/
import Derived.Test.YtdbojjoffmbjcaaGreatDoorCha1
section
set_option linter.unusedSimpArgs false
set_option linter.unusedVariables false
set_option linter.unusedSectionVars false
open Go Go.Av Go.Proofs
namespace Go.Av.Cha
variable [ML]
def longN (b : Int) : Nat := if b < 128 then 1 else if 192 ≤ b ∧ b < 224 then 2 else if 224 ≤ b ∧ b < 240 then 3 else 4
theorem long_ct (b : Int) : Fn Tryz.prog 83 [.int .u8 b] [.p (.int .i64 (longN b : Nat))] := by
  refine Fn.of_body Tryz.func83 rfl ?_
  have hc : b < 128 ∨ (128 ≤ b ∧ b < 192) ∨ (192 ≤ b ∧ b < 224) ∨ (224 ≤ b ∧ b < 240) ∨ 240 ≤ b := by omega
  rcases hc with hc | hc | hc | hc | hc
  all_goals
    (first | have f1 : (b < 128) = True := eq_true (by omega) | have f1 : (b < 128) = False := eq_false (by omega)); (first | have f2 : (192 ≤ b) = True := eq_true (by omega) | have f2 : (192 ≤ b) = False := eq_false (by omega)); (first | have f3 : (b < 224) = True := eq_true (by omega) | have f3 : (b < 224) = False := eq_false (by omega)); (first | have f4 : (224 ≤ b) = True := eq_true (by omega) | have f4 : (224 ≤ b) = False := eq_false (by omega)); (first | have f5 : (b < 240) = True := eq_true (by omega) | have f5 : (b < 240) = False := eq_false (by omega))
    (first | have e : longN b = 1 := by simp [longN, f1, f2, f3, f4, f5] | have e : longN b = 2 := by simp [longN, f1, f2, f3, f4, f5] | have e : longN b = 3 := by simp [longN, f1, f2, f3, f4, f5] | have e : longN b = 4 := by simp [longN, f1, f2, f3, f4, f5])
    rw [e]
    repeat (first | ((first | refine zP fun K_ hK_ => ?_ | refine zQ fun K_ hK_ => ?_ | refine zR (by kernel_rfl) (by kernel_rfl) fun K_ hK_ => ?_ | refine zS (by kernel_rfl) (by kernel_rfl) fun K_ hK_ => ?_ | refine zT ?_); first | (simp (maxSteps := 1000000) (disch := refine hold_ ?_; first | (simp [f1, f2, f3, f4, f5, -List.getD_eq_getElem?_getD]; done) | omega) [f1, f2, f3, f4, f5, -List.getD_eq_getElem?_getD]; try first | refine zZ ?_ | subst hK_) | subst hK_) | refine zA ?_ | refine zB ?_ | refine zC ?_ | refine zD ?_ | refine zE ?_ | refine zF ?_ | refine zG ?_ | refine zH ?_ | refine zI ?_ | refine zJ ?_ | refine zK ?_ | refine zL ?_ | refine zM ?_ | refine zN ?_ | refine zO ?_ | refine yG (by decide) ?_ | refine AW.condT rfl ?_ | refine AW.condF rfl ?_)
    simp (maxSteps := 1000000) (disch := refine hold_ ?_; first | (simp [f1, f2, f3, f4, f5, -List.getD_eq_getElem?_getD]; done) | omega) [f1, f2, f3, f4, f5, -List.getD_eq_getElem?_getD]
def off (n : Nat) : Int := if n = 2 then 192 else if n = 3 then 224 else if n = 4 then 240 else 0
def rv (l : List (BitVec 8)) (n : Nat) : Nat → Int
  | 0 => bt l 0 - off n
  | k + 1 => rv l n k * 64 + bt l (k + 1) - 128
theorem ub_inj {a b : BitVec 8} (h : ub a = ub b) : a = b := by
  unfold ub at h; exact BitVec.eq_of_toNat_eq (by omega)
theorem byt_eq {r : Int} {a : BitVec 8} (h : 0 ≤ r ∧ r < 256) : byt r = a ↔ ub a = r := by
  constructor
  · rintro rfl; exact ub_byt r h.1 h.2
  · intro e; apply ub_inj; rw [ub_byt r h.1 h.2, e]
theorem encL_take (r : Int) (l : List (BitVec 8)) (n : Nat) (hr : 0 ≤ r ∧ r ≤ 1114111) (hn : n ≤ l.length) : encL r = l.take n ↔
    ((r < 128 ∧ n = 1 ∧ bt l 0 = r) ∨ (128 ≤ r ∧ r < 2048 ∧ n = 2 ∧ bt l 0 = 192 + r / 64 ∧ bt l 1 = 128 + r % 64) ∨
     (2048 ≤ r ∧ r < 65536 ∧ n = 3 ∧ bt l 0 = 224 + r / 4096 ∧ bt l 1 = 128 + r / 64 % 64 ∧ bt l 2 = 128 + r % 64) ∨
     (65536 ≤ r ∧ n = 4 ∧ bt l 0 = 240 + r / 262144 ∧ bt l 1 = 128 + r / 4096 % 64 ∧ bt l 2 = 128 + r / 64 % 64 ∧ bt l 3 = 128 + r % 64)) := by
  have hlen : (l.take n).length = n := by simp; omega
  have hlt := congrArg List.length (Eq.refl (encL r))
  unfold encL
  split
  · rename_i h
    constructor
    · intro e
      rw [← e] at hlen; simp only [List.length_cons, List.length_nil] at hlen; subst hlen
      match l, hn with
      | a :: l, _ => simp only [List.take_succ_cons, List.take_zero, List.cons.injEq, and_true] at e; left; exact ⟨h, rfl, (byt_eq (by omega)).1 e⟩
    · intro e
      rcases e with ⟨_, rfl, e⟩ | e | e | e
      · match l, hn with
        | a :: l, _ => simp only [List.take_succ_cons, List.take_zero, List.cons.injEq, and_true]; exact (byt_eq (by omega)).2 e
      all_goals omega
  · split
    · rename_i h h2
      constructor
      · intro e
        rw [← e] at hlen; simp only [List.length_cons, List.length_nil] at hlen; subst hlen
        match l, hn with
        | a :: b :: l, _ =>
          simp only [List.take_succ_cons, List.take_zero, List.cons.injEq, and_true] at e
          right; left; exact ⟨by omega, h2, rfl, (byt_eq (by omega)).1 e.1, (byt_eq (by omega)).1 e.2⟩
      · intro e
        rcases e with e | ⟨_, _, rfl, e1, e2⟩ | e | e
        · omega
        · match l, hn with
          | a :: b :: l, _ => simp only [List.take_succ_cons, List.take_zero, List.cons.injEq, and_true]; exact ⟨(byt_eq (by omega)).2 e1, (byt_eq (by omega)).2 e2⟩
        all_goals omega
    · split
      · rename_i h h2 h3
        constructor
        · intro e
          rw [← e] at hlen; simp only [List.length_cons, List.length_nil] at hlen; subst hlen
          match l, hn with
          | a :: b :: c :: l, _ =>
            simp only [List.take_succ_cons, List.take_zero, List.cons.injEq, and_true] at e
            right; right; left; exact ⟨by omega, h3, rfl, (byt_eq (by omega)).1 e.1, (byt_eq (by omega)).1 e.2.1, (byt_eq (by omega)).1 e.2.2⟩
        · intro e
          rcases e with e | e | ⟨_, _, rfl, e1, e2, e3⟩ | e
          · omega
          · omega
          · match l, hn with
            | a :: b :: c :: l, _ => simp only [List.take_succ_cons, List.take_zero, List.cons.injEq, and_true]; exact ⟨(byt_eq (by omega)).2 e1, (byt_eq (by omega)).2 e2, (byt_eq (by omega)).2 e3⟩
          · omega
      · rename_i h h2 h3
        constructor
        · intro e
          rw [← e] at hlen; simp only [List.length_cons, List.length_nil] at hlen; subst hlen
          match l, hn with
          | a :: b :: c :: d :: l, _ =>
            simp only [List.take_succ_cons, List.take_zero, List.cons.injEq, and_true] at e
            right; right; right; exact ⟨by omega, rfl, (byt_eq (by omega)).1 e.1, (byt_eq (by omega)).1 e.2.1, (byt_eq (by omega)).1 e.2.2.1, (byt_eq (by omega)).1 e.2.2.2⟩
        · intro e
          rcases e with e | e | e | ⟨_, rfl, e1, e2, e3, e4⟩
          · omega
          · omega
          · omega
          · match l, hn with
            | a :: b :: c :: d :: l, _ => simp only [List.take_succ_cons, List.take_zero, List.cons.injEq, and_true]; exact ⟨(byt_eq (by omega)).2 e1, (byt_eq (by omega)).2 e2, (byt_eq (by omega)).2 e3, (byt_eq (by omega)).2 e4⟩
theorem first_eq (l : List (BitVec 8)) (h0 : 0 < l.length) (n : Nat) (hn : longN (bt l 0) = n) (hle : n ≤ l.length) :
    ((charB (rv l n (n - 1)) = true ∧ encL (rv l n (n - 1)) = l.take n) → okS l = n ∧ runeN l = rv l n (n - 1)) ∧ (¬ (charB (rv l n (n - 1)) = true ∧ encL (rv l n (n - 1)) = l.take n) → okS l = 0) := by
  have b0 := bt_lt l 0; have b1 := bt_lt l 1; have b2 := bt_lt l 2; have b3 := bt_lt l 3
  have key : (charB (rv l n (n - 1)) = true ∧ encL (rv l n (n - 1)) = l.take n) ↔ ((0 ≤ rv l n (n - 1) ∧ rv l n (n - 1) ≤ 1114111 ∧ (rv l n (n - 1) < 55296 ∨ 57343 < rv l n (n - 1))) ∧ encL (rv l n (n - 1)) = l.take n) := by
    simp [charB]
  rw [key]
  have hcs : (n = 1 ∧ bt l 0 < 128) ∨ (n = 2 ∧ 192 ≤ bt l 0 ∧ bt l 0 < 224) ∨ (n = 3 ∧ 224 ≤ bt l 0 ∧ bt l 0 < 240) ∨ (n = 4 ∧ 128 ≤ bt l 0 ∧ (bt l 0 < 192 ∨ 240 ≤ bt l 0)) := by
    unfold longN at hn; (repeat' split at hn) <;> omega
  rcases hcs with ⟨rfl, h1⟩ | ⟨rfl, h1, h2⟩ | ⟨rfl, h1, h2⟩ | ⟨rfl, h1, h2⟩
  · have hr : rv l 1 (1 - 1) = bt l 0 := by simp [rv, off]
    generalize rv l 1 (1 - 1) = r at *
    subst hr
    constructor
    · intro _; exact ⟨by unfold okS; rw [if_neg (by omega), if_pos h1], by unfold runeN; rw [if_pos h1]⟩
    · intro hx; exact absurd ⟨by omega, (encL_take (bt l 0) l 1 (by omega) hle).2 (.inl ⟨h1, rfl, rfl⟩)⟩ hx
  · have hr : rv l 2 (2 - 1) = (bt l 0 - 192) * 64 + bt l 1 - 128 := by simp [rv, off]
    generalize rv l 2 (2 - 1) = r at *
    constructor
    · rintro ⟨ha, hb⟩
      rw [encL_take r l 2 (by omega) hle] at hb
      constructor
      · unfold okS; rw [if_neg (by omega), if_neg (by omega), if_pos (by omega), if_pos (by omega)]
      · unfold runeN; rw [if_neg (by omega), if_pos (by omega)]; omega
    · intro hx
      unfold okS; rw [if_neg (by omega), if_neg (by omega)]
      split
      · split
        · exact absurd ⟨by omega, (encL_take r l 2 (by omega) hle).2 (.inr (.inl ⟨by omega, by omega, rfl, by omega, by omega⟩))⟩ hx
        · rfl
      · rw [if_neg (by omega), if_neg (by omega)]
  · have hr : rv l 3 (3 - 1) = ((bt l 0 - 224) * 64 + bt l 1 - 128) * 64 + bt l 2 - 128 := by simp [rv, off]
    generalize rv l 3 (3 - 1) = r at *
    constructor
    · rintro ⟨ha, hb⟩
      rw [encL_take r l 3 (by omega) hle] at hb
      have hb2 : 2048 ≤ r ∧ r < 65536 ∧ bt l 0 = 224 + r / 4096 ∧ bt l 1 = 128 + r / 64 % 64 ∧ bt l 2 = 128 + r % 64 := by
        rcases hb with h | h | h | h
        · omega
        · omega
        · exact ⟨h.1, h.2.1, h.2.2.2.1, h.2.2.2.2.1, h.2.2.2.2.2⟩
        · omega
      clear hb key hn
      have l1 : loB (bt l 0) ≤ bt l 1 := by unfold loB; (repeat' split) <;> omega
      have l2 : bt l 1 ≤ hiB (bt l 0) := by unfold hiB; (repeat' split) <;> omega
      constructor
      · unfold okS; rw [if_neg (by omega), if_neg (by omega), if_neg (by omega), if_pos (by omega), if_pos (by omega)]
      · unfold runeN; rw [if_neg (by omega), if_neg (by omega), if_pos (by omega)]; omega
    · intro hx
      clear key hn
      unfold okS; rw [if_neg (by omega), if_neg (by omega), if_neg (by omega), if_pos (by omega)]
      split
      · rename_i hc
        obtain ⟨q0, q1, q2, q3, q4⟩ := hc
        have l1 : (bt l 0 = 224 → 160 ≤ bt l 1) ∧ 128 ≤ bt l 1 := by unfold loB at q1; (repeat' split at q1) <;> omega
        have l2 : (bt l 0 = 237 → bt l 1 ≤ 159) ∧ bt l 1 ≤ 191 := by unfold hiB at q2; (repeat' split at q2) <;> omega
        clear q1 q2
        refine absurd ⟨by omega, (encL_take r l 3 (by omega) hle).2 (.inr (.inr (.inl ⟨by omega, by omega, rfl, by omega, by omega, by omega⟩)))⟩ hx
      · rfl
  · have hr : rv l 4 (4 - 1) = (((bt l 0 - 240) * 64 + bt l 1 - 128) * 64 + bt l 2 - 128) * 64 + bt l 3 - 128 := by simp [rv, off]
    generalize rv l 4 (4 - 1) = r at *
    constructor
    · rintro ⟨ha, hb⟩
      rw [encL_take r l 4 (by omega) hle] at hb
      have hb2 : 65536 ≤ r ∧ bt l 0 = 240 + r / 262144 ∧ bt l 1 = 128 + r / 4096 % 64 ∧ bt l 2 = 128 + r / 64 % 64 ∧ bt l 3 = 128 + r % 64 := by
        rcases hb with h | h | h | h
        · omega
        · omega
        · omega
        · exact ⟨h.1, h.2.2.1, h.2.2.2.1, h.2.2.2.2.1, h.2.2.2.2.2⟩
      clear hb key hn
      have l1 : loB (bt l 0) ≤ bt l 1 := by unfold loB; (repeat' split) <;> omega
      have l2 : bt l 1 ≤ hiB (bt l 0) := by unfold hiB; (repeat' split) <;> omega
      constructor
      · unfold okS; rw [if_neg (by omega), if_neg (by omega), if_neg (by omega), if_neg (by omega), if_pos (by omega), if_pos (by omega)]
      · unfold runeN; rw [if_neg (by omega), if_neg (by omega), if_neg (by omega)]; omega
    · intro hx
      clear key hn
      unfold okS; rw [if_neg (by omega), if_neg (by omega), if_neg (by omega), if_neg (by omega)]
      split
      · split
        · rename_i hc
          obtain ⟨q0, q1, q2, q3, q4, q5, q6⟩ := hc
          have l1 : (bt l 0 = 240 → 144 ≤ bt l 1) ∧ 128 ≤ bt l 1 := by unfold loB at q1; (repeat' split at q1) <;> omega
          have l2 : (bt l 0 = 244 → bt l 1 ≤ 143) ∧ bt l 1 ≤ 191 := by unfold hiB at q2; (repeat' split at q2) <;> omega
          clear q1 q2
          refine absurd ⟨by omega, (encL_take r l 4 (by omega) hle).2 (.inr (.inr (.inr ⟨by omega, rfl, by omega, by omega, by omega, by omega⟩)))⟩ hx
        · rfl
      · rfl
theorem longN_le (b : Int) : 1 ≤ longN b ∧ longN b ≤ 4 := by unfold longN; (repeat' split) <;> omega
theorem rv_lt2 (l : List (BitVec 8)) (n k : Nat) (hk : k ≤ 2) : -2097152 ≤ rv l n k ∧ rv l n k < 2097152 := by
  have b0 := bt_lt l 0; have b1 := bt_lt l 1; have b2 := bt_lt l 2
  have ho : 0 ≤ off n ∧ off n ≤ 240 := by unfold off; (repeat' split) <;> omega
  have : k = 0 ∨ k = 1 ∨ k = 2 := by omega
  rcases this with rfl | rfl | rfl <;> simp only [rv, Nat.zero_add, Nat.reduceAdd] <;> omega
set_option maxHeartbeats 8000000 in
theorem first_ct (nl : Bool) (l : List (BitVec 8)) (hl : l.length ≤ 4000000) : Fn Tryz.prog 66 [.sl (bl l) nl] [.p (.int .i32 (if okS l = 0 then 0 else runeN l)), .p (.int .i64 (okS l : Nat))] := by
  by_cases h0 : l.length = 0
  · have hok : okS l = 0 := by unfold okS; rw [if_pos h0]
    rw [hok]
    have h0' : ((l.length : Int) == 0) = true := by simp [h0]
    refine Fn.of_body Tryz.func66 rfl ?_
    repeat (first | ((first | refine zP fun K_ hK_ => ?_ | refine zQ fun K_ hK_ => ?_ | refine zR (by kernel_rfl) (by kernel_rfl) fun K_ hK_ => ?_ | refine zS (by kernel_rfl) (by kernel_rfl) fun K_ hK_ => ?_ | refine zT ?_); first | (simp (maxSteps := 1000000) (disch := refine hold_ ?_; first | (simp [h0', -List.getD_eq_getElem?_getD]; done) | omega) [h0', -List.getD_eq_getElem?_getD]; try first | refine zZ ?_ | subst hK_) | subst hK_) | refine zA ?_ | refine zB ?_ | refine zC ?_ | refine zD ?_ | refine zE ?_ | refine zF ?_ | refine zG ?_ | refine zH ?_ | refine zI ?_ | refine zJ ?_ | refine zK ?_ | refine zL ?_ | refine zM ?_ | refine zN ?_ | refine zO ?_ | refine yG (by decide) ?_ | refine AW.condT rfl ?_ | refine AW.condF rfl ?_)
    simp (maxSteps := 1000000) (disch := refine hold_ ?_; first | (simp [-List.getD_eq_getElem?_getD]; done) | omega) [-List.getD_eq_getElem?_getD]
  · have h1 : 0 < l.length := by omega
    have h0' : ((l.length : Int) == 0) = false := beq_eq_false_iff_ne.2 (by omega)
    have hE : ub (l.getD 0 0#8) = bt l 0 := rfl
    generalize hn : longN (bt l 0) = n
    have hnn := longN_le (bt l 0)
    rw [hn] at hnn
    have k50 := long_ct (bt l 0)
    rw [hn] at k50
    by_cases hle : n ≤ l.length
    · obtain ⟨e1, e2⟩ := first_eq l h1 n hn hle
      have f1 : ¬ (l.length : Int) < n := by omega
      have hb := bt_lt l 0
      have w0 : IntKind.i32.wrap (bt l 0) = bt l 0 := wrap_i32 _ (by omega) (by omega)
      have wo : IntKind.i32.wrap (bt l 0 - off n) = bt l 0 - off n := by
        have ho : 0 ≤ off n ∧ off n ≤ 240 := by unfold off; (repeat' split) <;> omega
        exact wrap_i32 _ (by omega) (by omega)
      refine Fn.of_body Tryz.func66 rfl ?_
      repeat (first | ((first | refine zP fun K_ hK_ => ?_ | refine zQ fun K_ hK_ => ?_ | refine zR (by kernel_rfl) (by kernel_rfl) fun K_ hK_ => ?_ | refine zS (by kernel_rfl) (by kernel_rfl) fun K_ hK_ => ?_ | refine zT ?_); first | (simp (maxSteps := 1000000) (disch := refine hold_ ?_; first | (simp [h0', h1, hE, -List.getD_eq_getElem?_getD]; done) | omega) [h0', h1, hE, -List.getD_eq_getElem?_getD]; try first | refine zZ ?_ | subst hK_) | subst hK_) | refine zA ?_ | refine zB ?_ | refine zC ?_ | refine zD ?_ | refine zE ?_ | refine zF ?_ | refine zG ?_ | refine zH ?_ | refine zI ?_ | refine zJ ?_ | refine zK ?_ | refine zL ?_ | refine zM ?_ | refine zN ?_ | refine zO ?_ | refine yG (by decide) ?_ | refine AW.condT rfl ?_ | refine AW.condF rfl ?_)
      (refine callK_p ?_; simp (maxSteps := 1000000) (disch := refine hold_ ?_; first | (simp [h0', h1, hE, -List.getD_eq_getElem?_getD]; done) | omega) [h0', h1, hE, -List.getD_eq_getElem?_getD]; refine callK1_of (Fn.ct k50 Tryz.call83) ?_; (try simp (maxSteps := 1000000) (disch := refine hold_ ?_; first | (simp [h0', h1, hE, -List.getD_eq_getElem?_getD]; done) | omega) [h0', h1, hE, -List.getD_eq_getElem?_getD]); first | refine zZ ?_ | subst hK_)
      have wa : IntKind.i32.wrap (bt l 0 - 192) = bt l 0 - 192 := wrap_i32 _ (by omega) (by omega)
      have wb : IntKind.i32.wrap (bt l 0 - 224) = bt l 0 - 224 := wrap_i32 _ (by omega) (by omega)
      have wc : IntKind.i32.wrap (bt l 0 - 240) = bt l 0 - 240 := wrap_i32 _ (by omega) (by omega)
      clear wo
      have hcs : n = 1 ∨ n = 2 ∨ n = 3 ∨ n = 4 := by omega
      rcases hcs with h | h | h | h
      all_goals
        (first | have g1 : ((n : Int) == 2) = true := beq_iff_eq.2 (by omega) | have g1 : ((n : Int) == 2) = false := beq_eq_false_iff_ne.2 (by omega)); (first | have g2 : ((n : Int) == 3) = true := beq_iff_eq.2 (by omega) | have g2 : ((n : Int) == 3) = false := beq_eq_false_iff_ne.2 (by omega)); (first | have g3 : ((n : Int) == 4) = true := beq_iff_eq.2 (by omega) | have g3 : ((n : Int) == 4) = false := beq_eq_false_iff_ne.2 (by omega))
        (first | have r0 : rv l n 0 = bt l 0 := (by subst h; show bt l 0 - 0 = _; omega) | have r0 : rv l n 0 = bt l 0 - 192 := (by subst h; rfl) | have r0 : rv l n 0 = bt l 0 - 224 := (by subst h; rfl) | have r0 : rv l n 0 = bt l 0 - 240 := (by subst h; rfl))
        repeat (first | ((first | refine zP fun K_ hK_ => ?_ | refine zQ fun K_ hK_ => ?_ | refine zR (by kernel_rfl) (by kernel_rfl) fun K_ hK_ => ?_ | refine zS (by kernel_rfl) (by kernel_rfl) fun K_ hK_ => ?_ | refine zT ?_); first | (simp (maxSteps := 1000000) (disch := refine hold_ ?_; first | (simp [f1, h1, hE, w0, wa, wb, wc, g1, g2, g3, -List.getD_eq_getElem?_getD]; done) | omega) [f1, h1, hE, w0, wa, wb, wc, g1, g2, g3, -List.getD_eq_getElem?_getD]; try first | refine zZ ?_ | subst hK_) | subst hK_) | refine zA ?_ | refine zB ?_ | refine zC ?_ | refine zD ?_ | refine zE ?_ | refine zF ?_ | refine zG ?_ | refine zH ?_ | refine zI ?_ | refine zJ ?_ | refine zK ?_ | refine zL ?_ | refine zM ?_ | refine zN ?_ | refine zO ?_ | refine yG (by decide) ?_ | refine AW.condT rfl ?_ | refine AW.condF rfl ?_)
        refine AW.iter (true :: false :: false :: false :: true :: true :: true :: false :: false :: false :: false :: false :: false :: false :: false :: false :: false :: false :: false :: false :: false :: false :: false :: false :: false :: false :: false :: false :: false :: false :: false :: false :: false :: false :: false :: false :: false :: false :: false :: false :: false :: false :: false :: false :: false :: false :: false :: false :: false :: false :: false :: false :: false :: false :: false :: false :: false :: false :: false :: false :: false :: false :: false :: false :: []) (n - 1) (fun k => ⟨(.p (.sl (bl l) nl) :: V.junk :: V.junk :: V.junk :: .p (.int .i64 n) :: .p (.int .i32 (rv l n k)) :: .p (.int .i64 (k + 1 : Nat)) :: V.junk :: V.junk :: V.junk :: V.junk :: V.junk :: V.junk :: V.junk :: V.junk :: V.junk :: V.junk :: V.junk :: V.junk :: V.junk :: V.junk :: V.junk :: V.junk :: V.junk :: V.junk :: V.junk :: V.junk :: V.junk :: V.junk :: V.junk :: V.junk :: V.junk :: V.junk :: V.junk :: V.junk :: V.junk :: V.junk :: V.junk :: V.junk :: V.junk :: V.junk :: V.junk :: V.junk :: V.junk :: V.junk :: V.junk :: V.junk :: V.junk :: V.junk :: V.junk :: V.junk :: V.junk :: V.junk :: V.junk :: V.junk :: V.junk :: V.junk :: V.junk :: V.junk :: V.junk :: V.junk :: V.junk :: V.junk :: V.junk :: []), ⟨[], []⟩⟩) ?_ ?_
        · simp (maxSteps := 1000000) (disch := refine hold_ ?_; first | (simp [r0, -List.getD_eq_getElem?_getD]; done) | omega) [r0, -List.getD_eq_getElem?_getD]
        clear r0 g1 g2 g3 wa wb wc
        intro k hk
        have tn : ((k : Int) + 1).toNat = k + 1 := by omega
        by_cases hkn : k < n - 1
        · have hkn2 : (k : Int) + 1 < n := by omega
          have hkl : k + 1 < l.length := by omega
          have hkl2 : (k : Int) + 1 < l.length := by omega
          have hR := rv_lt2 l n k (by omega)
          have hb1 := bt_lt l (k + 1)
          have hE1 : ub (l.getD (k + 1) 0#8) = bt l (k + 1) := rfl
          have hs : rv l n (k + 1) = rv l n k * 64 + bt l (k + 1) - 128 := rfl
          have e9 : IntKind.i64.wrap ((k : Int) + 1 + 1) = k + 1 + 1 := wrap_i64 _ (by omega) (by omega)
          generalize rv l n k = R at *
          generalize bt l (k + 1) = B at *
          have w1 : IntKind.i32.wrap (R * 64) = R * 64 := wrap_i32 _ (by omega) (by omega)
          have w2 : IntKind.i32.wrap B = B := wrap_i32 _ (by omega) (by omega)
          have w3 : IntKind.i32.wrap (R * 64 + B) = R * 64 + B := wrap_i32 _ (by omega) (by omega)
          have w4 : IntKind.i32.wrap (R * 64 + B - 128) = R * 64 + B - 128 := wrap_i32 _ (by omega) (by omega)
          repeat (first | ((first | refine zP fun K_ hK_ => ?_ | refine zQ fun K_ hK_ => ?_ | refine zR (by kernel_rfl) (by kernel_rfl) fun K_ hK_ => ?_ | refine zS (by kernel_rfl) (by kernel_rfl) fun K_ hK_ => ?_ | refine zT ?_); first | (simp (maxSteps := 1000000) (disch := refine hold_ ?_; first | (simp [tn, hkn2, hkl, hkl2, hE1, w1, w2, w3, w4, e9, -List.getD_eq_getElem?_getD]; done) | omega) [tn, hkn2, hkl, hkl2, hE1, w1, w2, w3, w4, e9, -List.getD_eq_getElem?_getD]; try first | refine zZ ?_ | subst hK_) | subst hK_) | refine zA ?_ | refine zB ?_ | refine zC ?_ | refine zD ?_ | refine zE ?_ | refine zF ?_ | refine zG ?_ | refine zH ?_ | refine zI ?_ | refine zJ ?_ | refine zK ?_ | refine zL ?_ | refine zM ?_ | refine zN ?_ | refine zO ?_ | refine yG (by decide) ?_ | refine AW.condT rfl ?_ | refine AW.condF rfl ?_)
          refine ⟨hkn, ?_⟩
          simp (maxSteps := 1000000) (disch := refine hold_ ?_; first | (simp [hs, -List.getD_eq_getElem?_getD]; done) | omega) [hs, -List.getD_eq_getElem?_getD]
        · have hk3 : n - 1 = k := by omega
          have hc6 : (k : Int) + 1 = n := by omega
          have hnl : (n : Int) ≤ l.length := by omega
          have hnn2 : ¬ (n : Int) < n := by omega
          rw [hk3] at e1 e2
          have k16 := charB_ct (rv l n k)
          by_cases hch : charB (rv l n k) = true
          · have hr2 : 0 ≤ rv l n k ∧ rv l n k ≤ 1114111 := by
              have : 0 ≤ rv l n k ∧ rv l n k ≤ 1114111 ∧ (rv l n k < 55296 ∨ 57343 < rv l n k) := by simpa [charB] using hch
              omega
            have k17 := one_ct (rv l n k) hr2.1 hr2.2
            rw [hch] at k16
            by_cases heq : encL (rv l n k) = l.take n
            · obtain ⟨o1, o2⟩ := e1 ⟨hch, heq⟩
              have ho : okS l ≠ 0 := by omega
              rw [if_neg ho, o2, o1]
              rw [heq] at k17
              generalize rv l n k = R at *
              clear e1 e2
              repeat (first | ((first | refine zP fun K_ hK_ => ?_ | refine zQ fun K_ hK_ => ?_ | refine zR (by kernel_rfl) (by kernel_rfl) fun K_ hK_ => ?_ | refine zS (by kernel_rfl) (by kernel_rfl) fun K_ hK_ => ?_ | refine zT ?_); first | (simp (maxSteps := 1000000) (disch := refine hold_ ?_; first | (simp [hc6, hnn2, -List.getD_eq_getElem?_getD]; done) | omega) [hc6, hnn2, -List.getD_eq_getElem?_getD]; try first | refine zZ ?_ | subst hK_) | subst hK_) | refine zA ?_ | refine zB ?_ | refine zC ?_ | refine zD ?_ | refine zE ?_ | refine zF ?_ | refine zG ?_ | refine zH ?_ | refine zI ?_ | refine zJ ?_ | refine zK ?_ | refine zL ?_ | refine zM ?_ | refine zN ?_ | refine zO ?_ | refine yG (by decide) ?_ | refine AW.condT rfl ?_ | refine AW.condF rfl ?_)
              (refine callK_p ?_; simp (maxSteps := 1000000) (disch := refine hold_ ?_; first | (simp [hc6, -List.getD_eq_getElem?_getD]; done) | omega) [hc6, -List.getD_eq_getElem?_getD]; refine callK1_of (Fn.ct k16 Tryz.call20) ?_; (try simp (maxSteps := 1000000) (disch := refine hold_ ?_; first | (simp [hc6, -List.getD_eq_getElem?_getD]; done) | omega) [hc6, -List.getD_eq_getElem?_getD]); first | refine zZ ?_ | subst hK_)
              repeat (first | ((first | refine zP fun K_ hK_ => ?_ | refine zQ fun K_ hK_ => ?_ | refine zR (by kernel_rfl) (by kernel_rfl) fun K_ hK_ => ?_ | refine zS (by kernel_rfl) (by kernel_rfl) fun K_ hK_ => ?_ | refine zT ?_); first | (simp (maxSteps := 1000000) (disch := refine hold_ ?_; first | (simp [hc6, -List.getD_eq_getElem?_getD]; done) | omega) [hc6, -List.getD_eq_getElem?_getD]; try first | refine zZ ?_ | subst hK_) | subst hK_) | refine zA ?_ | refine zB ?_ | refine zC ?_ | refine zD ?_ | refine zE ?_ | refine zF ?_ | refine zG ?_ | refine zH ?_ | refine zI ?_ | refine zJ ?_ | refine zK ?_ | refine zL ?_ | refine zM ?_ | refine zN ?_ | refine zO ?_ | refine yG (by decide) ?_ | refine AW.condT rfl ?_ | refine AW.condF rfl ?_)
              (refine callK_p ?_; simp (maxSteps := 1000000) (disch := refine hold_ ?_; first | (simp [hc6, hnl, hle, str_of, str_take, str_neq_txt, -List.getD_eq_getElem?_getD]; done) | omega) [hc6, hnl, hle, str_of, str_take, str_neq_txt, -List.getD_eq_getElem?_getD]; refine callK1_of (Fn.ct k17 Tryz.call12) ?_; (try simp (maxSteps := 1000000) (disch := refine hold_ ?_; first | (simp [hc6, hnl, hle, str_of, str_take, str_neq_txt, -List.getD_eq_getElem?_getD]; done) | omega) [hc6, hnl, hle, str_of, str_take, str_neq_txt, -List.getD_eq_getElem?_getD]); first | refine zZ ?_ | subst hK_)
              repeat (first | ((first | refine zP fun K_ hK_ => ?_ | refine zQ fun K_ hK_ => ?_ | refine zR (by kernel_rfl) (by kernel_rfl) fun K_ hK_ => ?_ | refine zS (by kernel_rfl) (by kernel_rfl) fun K_ hK_ => ?_ | refine zT ?_); first | (simp (maxSteps := 1000000) (disch := refine hold_ ?_; first | (simp [hnl, hle, str_of, str_take, str_neq_txt, -List.getD_eq_getElem?_getD]; done) | omega) [hnl, hle, str_of, str_take, str_neq_txt, -List.getD_eq_getElem?_getD]; try first | refine zZ ?_ | subst hK_) | subst hK_) | refine zA ?_ | refine zB ?_ | refine zC ?_ | refine zD ?_ | refine zE ?_ | refine zF ?_ | refine zG ?_ | refine zH ?_ | refine zI ?_ | refine zJ ?_ | refine zK ?_ | refine zL ?_ | refine zM ?_ | refine zN ?_ | refine zO ?_ | refine yG (by decide) ?_ | refine AW.condT rfl ?_ | refine AW.condF rfl ?_)
              simp (maxSteps := 1000000) (disch := refine hold_ ?_; first | (simp [-List.getD_eq_getElem?_getD]; done) | omega) [-List.getD_eq_getElem?_getD]
            · have hok : okS l = 0 := e2 fun e => heq e.2
              have hne : (encL (rv l n k) == l.take n) = false := beq_eq_false_iff_ne.2 heq
              rw [hok]
              generalize hW : encL (rv l n k) = W at *
              generalize rv l n k = R at *
              clear e1 e2
              repeat (first | ((first | refine zP fun K_ hK_ => ?_ | refine zQ fun K_ hK_ => ?_ | refine zR (by kernel_rfl) (by kernel_rfl) fun K_ hK_ => ?_ | refine zS (by kernel_rfl) (by kernel_rfl) fun K_ hK_ => ?_ | refine zT ?_); first | (simp (maxSteps := 1000000) (disch := refine hold_ ?_; first | (simp [hc6, hnn2, -List.getD_eq_getElem?_getD]; done) | omega) [hc6, hnn2, -List.getD_eq_getElem?_getD]; try first | refine zZ ?_ | subst hK_) | subst hK_) | refine zA ?_ | refine zB ?_ | refine zC ?_ | refine zD ?_ | refine zE ?_ | refine zF ?_ | refine zG ?_ | refine zH ?_ | refine zI ?_ | refine zJ ?_ | refine zK ?_ | refine zL ?_ | refine zM ?_ | refine zN ?_ | refine zO ?_ | refine yG (by decide) ?_ | refine AW.condT rfl ?_ | refine AW.condF rfl ?_)
              (refine callK_p ?_; simp (maxSteps := 1000000) (disch := refine hold_ ?_; first | (simp [hc6, -List.getD_eq_getElem?_getD]; done) | omega) [hc6, -List.getD_eq_getElem?_getD]; refine callK1_of (Fn.ct k16 Tryz.call20) ?_; (try simp (maxSteps := 1000000) (disch := refine hold_ ?_; first | (simp [hc6, -List.getD_eq_getElem?_getD]; done) | omega) [hc6, -List.getD_eq_getElem?_getD]); first | refine zZ ?_ | subst hK_)
              repeat (first | ((first | refine zP fun K_ hK_ => ?_ | refine zQ fun K_ hK_ => ?_ | refine zR (by kernel_rfl) (by kernel_rfl) fun K_ hK_ => ?_ | refine zS (by kernel_rfl) (by kernel_rfl) fun K_ hK_ => ?_ | refine zT ?_); first | (simp (maxSteps := 1000000) (disch := refine hold_ ?_; first | (simp [hc6, -List.getD_eq_getElem?_getD]; done) | omega) [hc6, -List.getD_eq_getElem?_getD]; try first | refine zZ ?_ | subst hK_) | subst hK_) | refine zA ?_ | refine zB ?_ | refine zC ?_ | refine zD ?_ | refine zE ?_ | refine zF ?_ | refine zG ?_ | refine zH ?_ | refine zI ?_ | refine zJ ?_ | refine zK ?_ | refine zL ?_ | refine zM ?_ | refine zN ?_ | refine zO ?_ | refine yG (by decide) ?_ | refine AW.condT rfl ?_ | refine AW.condF rfl ?_)
              (refine callK_p ?_; simp (maxSteps := 1000000) (disch := refine hold_ ?_; first | (simp [hc6, hnl, hle, str_of, str_take, str_neq_txt, hne, -List.getD_eq_getElem?_getD]; done) | omega) [hc6, hnl, hle, str_of, str_take, str_neq_txt, hne, -List.getD_eq_getElem?_getD]; refine callK1_of (Fn.ct k17 Tryz.call12) ?_; (try simp (maxSteps := 1000000) (disch := refine hold_ ?_; first | (simp [hc6, hnl, hle, str_of, str_take, str_neq_txt, hne, -List.getD_eq_getElem?_getD]; done) | omega) [hc6, hnl, hle, str_of, str_take, str_neq_txt, hne, -List.getD_eq_getElem?_getD]); first | refine zZ ?_ | subst hK_)
              repeat (first | ((first | refine zP fun K_ hK_ => ?_ | refine zQ fun K_ hK_ => ?_ | refine zR (by kernel_rfl) (by kernel_rfl) fun K_ hK_ => ?_ | refine zS (by kernel_rfl) (by kernel_rfl) fun K_ hK_ => ?_ | refine zT ?_); first | (simp (maxSteps := 1000000) (disch := refine hold_ ?_; first | (simp [hnl, hle, str_of, str_take, str_neq_txt, hne, -List.getD_eq_getElem?_getD]; done) | omega) [hnl, hle, str_of, str_take, str_neq_txt, hne, -List.getD_eq_getElem?_getD]; try first | refine zZ ?_ | subst hK_) | subst hK_) | refine zA ?_ | refine zB ?_ | refine zC ?_ | refine zD ?_ | refine zE ?_ | refine zF ?_ | refine zG ?_ | refine zH ?_ | refine zI ?_ | refine zJ ?_ | refine zK ?_ | refine zL ?_ | refine zM ?_ | refine zN ?_ | refine zO ?_ | refine yG (by decide) ?_ | refine AW.condT rfl ?_ | refine AW.condF rfl ?_)
              simp (maxSteps := 1000000) (disch := refine hold_ ?_; first | (simp [-List.getD_eq_getElem?_getD]; done) | omega) [-List.getD_eq_getElem?_getD]
          · have hok : okS l = 0 := e2 fun e => hch e.1
            have hch2 : charB (rv l n k) = false := by simpa using hch
            rw [hch2] at k16
            rw [hok]
            generalize rv l n k = R at *
            clear e1 e2
            repeat (first | ((first | refine zP fun K_ hK_ => ?_ | refine zQ fun K_ hK_ => ?_ | refine zR (by kernel_rfl) (by kernel_rfl) fun K_ hK_ => ?_ | refine zS (by kernel_rfl) (by kernel_rfl) fun K_ hK_ => ?_ | refine zT ?_); first | (simp (maxSteps := 1000000) (disch := refine hold_ ?_; first | (simp [hc6, hnn2, -List.getD_eq_getElem?_getD]; done) | omega) [hc6, hnn2, -List.getD_eq_getElem?_getD]; try first | refine zZ ?_ | subst hK_) | subst hK_) | refine zA ?_ | refine zB ?_ | refine zC ?_ | refine zD ?_ | refine zE ?_ | refine zF ?_ | refine zG ?_ | refine zH ?_ | refine zI ?_ | refine zJ ?_ | refine zK ?_ | refine zL ?_ | refine zM ?_ | refine zN ?_ | refine zO ?_ | refine yG (by decide) ?_ | refine AW.condT rfl ?_ | refine AW.condF rfl ?_)
            (refine callK_p ?_; simp (maxSteps := 1000000) (disch := refine hold_ ?_; first | (simp [hc6, -List.getD_eq_getElem?_getD]; done) | omega) [hc6, -List.getD_eq_getElem?_getD]; refine callK1_of (Fn.ct k16 Tryz.call20) ?_; (try simp (maxSteps := 1000000) (disch := refine hold_ ?_; first | (simp [hc6, -List.getD_eq_getElem?_getD]; done) | omega) [hc6, -List.getD_eq_getElem?_getD]); first | refine zZ ?_ | subst hK_)
            repeat (first | ((first | refine zP fun K_ hK_ => ?_ | refine zQ fun K_ hK_ => ?_ | refine zR (by kernel_rfl) (by kernel_rfl) fun K_ hK_ => ?_ | refine zS (by kernel_rfl) (by kernel_rfl) fun K_ hK_ => ?_ | refine zT ?_); first | (simp (maxSteps := 1000000) (disch := refine hold_ ?_; first | (simp [hc6, -List.getD_eq_getElem?_getD]; done) | omega) [hc6, -List.getD_eq_getElem?_getD]; try first | refine zZ ?_ | subst hK_) | subst hK_) | refine zA ?_ | refine zB ?_ | refine zC ?_ | refine zD ?_ | refine zE ?_ | refine zF ?_ | refine zG ?_ | refine zH ?_ | refine zI ?_ | refine zJ ?_ | refine zK ?_ | refine zL ?_ | refine zM ?_ | refine zN ?_ | refine zO ?_ | refine yG (by decide) ?_ | refine AW.condT rfl ?_ | refine AW.condF rfl ?_)
            simp (maxSteps := 1000000) (disch := refine hold_ ?_; first | (simp [-List.getD_eq_getElem?_getD]; done) | omega) [-List.getD_eq_getElem?_getD]
    · have hok : okS l = 0 := by
        have := okS_len l
        unfold okS; unfold longN at hn
        (repeat' split at hn) <;> (repeat' split) <;> omega
      rw [hok]
      have f1 : (l.length : Int) < n := by omega
      refine Fn.of_body Tryz.func66 rfl ?_
      repeat (first | ((first | refine zP fun K_ hK_ => ?_ | refine zQ fun K_ hK_ => ?_ | refine zR (by kernel_rfl) (by kernel_rfl) fun K_ hK_ => ?_ | refine zS (by kernel_rfl) (by kernel_rfl) fun K_ hK_ => ?_ | refine zT ?_); first | (simp (maxSteps := 1000000) (disch := refine hold_ ?_; first | (simp [h0', h1, hE, -List.getD_eq_getElem?_getD]; done) | omega) [h0', h1, hE, -List.getD_eq_getElem?_getD]; try first | refine zZ ?_ | subst hK_) | subst hK_) | refine zA ?_ | refine zB ?_ | refine zC ?_ | refine zD ?_ | refine zE ?_ | refine zF ?_ | refine zG ?_ | refine zH ?_ | refine zI ?_ | refine zJ ?_ | refine zK ?_ | refine zL ?_ | refine zM ?_ | refine zN ?_ | refine zO ?_ | refine yG (by decide) ?_ | refine AW.condT rfl ?_ | refine AW.condF rfl ?_)
      (refine callK_p ?_; simp (maxSteps := 1000000) (disch := refine hold_ ?_; first | (simp [h0', h1, hE, -List.getD_eq_getElem?_getD]; done) | omega) [h0', h1, hE, -List.getD_eq_getElem?_getD]; refine callK1_of (Fn.ct k50 Tryz.call83) ?_; (try simp (maxSteps := 1000000) (disch := refine hold_ ?_; first | (simp [h0', h1, hE, -List.getD_eq_getElem?_getD]; done) | omega) [h0', h1, hE, -List.getD_eq_getElem?_getD]); first | refine zZ ?_ | subst hK_)
      repeat (first | ((first | refine zP fun K_ hK_ => ?_ | refine zQ fun K_ hK_ => ?_ | refine zR (by kernel_rfl) (by kernel_rfl) fun K_ hK_ => ?_ | refine zS (by kernel_rfl) (by kernel_rfl) fun K_ hK_ => ?_ | refine zT ?_); first | (simp (maxSteps := 1000000) (disch := refine hold_ ?_; first | (simp [f1, -List.getD_eq_getElem?_getD]; done) | omega) [f1, -List.getD_eq_getElem?_getD]; try first | refine zZ ?_ | subst hK_) | subst hK_) | refine zA ?_ | refine zB ?_ | refine zC ?_ | refine zD ?_ | refine zE ?_ | refine zF ?_ | refine zG ?_ | refine zH ?_ | refine zI ?_ | refine zJ ?_ | refine zK ?_ | refine zL ?_ | refine zM ?_ | refine zN ?_ | refine zO ?_ | refine yG (by decide) ?_ | refine AW.condT rfl ?_ | refine AW.condF rfl ?_)
      simp (maxSteps := 1000000) (disch := refine hold_ ?_; first | (simp [-List.getD_eq_getElem?_getD]; done) | omega) [-List.getD_eq_getElem?_getD]
end Go.Av.Cha
end
