/- The walks of this seat's functions, and what is known of what they reckon (Lex9). Conditions: those that each theorem names. -/
import Derived.Test.YtieloaedeiiibaaDoorLex6
section
set_option linter.unusedSimpArgs false
set_option linter.unusedVariables false
open Go Go.Av Go.Proofs
namespace Go.Av.Lex
inductive BR : Bool → List (BitVec 8) → List (BitVec 8) → Prop
  | nil (f : Bool) : BR f [] []
  | cons (f : Bool) (c : BitVec 8) {x y : List (BitVec 8)} (h : BR (bd c) x y) : BR f (c :: x) (c :: y)
  | ins {d : BitVec 8} {x y : List (BitVec 8)} (hd : bd d = true) (h : BR true x y) : BR true x (d :: y)
theorem bd_true {c : BitVec 8} (h : bd c = true) : c = 32#8 ∨ c = 9#8 ∨ c = 10#8 ∨ c = 13#8 := by
  revert c; decide
theorem bd_big {c : BitVec 8} (h : 128 ≤ c.toNat) : bd c = false := by
  revert c; decide
theorem skL_nil : skL [] = [] := rfl
theorem skL_t {c : BitVec 8} {x : List (BitVec 8)} (h : bd c = true) : skL (c :: x) = skL x := by simp [skL, h]
theorem skL_f {c : BitVec 8} {x : List (BitVec 8)} (h : bd c = false) : skL (c :: x) = c :: x := by simp [skL, h]
theorem br_sk {f : Bool} {x y : List (BitVec 8)} (h : BR f x y) : BR false (skL x) (skL y) := by
  induction h with
  | nil f => exact .nil _
  | cons f c h ih =>
    cases hc : bd c with
    | true => rw [skL_t hc, skL_t hc]; exact ih
    | false => rw [skL_f hc, skL_f hc]; exact .cons _ _ h
  | ins hd h ih => rw [skL_t hd]; exact ih
theorem br_inv {x y : List (BitVec 8)} (h : BR false x y) : (x = [] ∧ y = []) ∨ ∃ c x' y', x = c :: x' ∧ y = c :: y' ∧ BR (bd c) x' y' := by
  cases h with
  | nil => exact .inl ⟨rfl, rfl⟩
  | cons _ c h => exact .inr ⟨c, _, _, rfl, rfl, h⟩
theorem br_appL : ∀ (p x y : List (BitVec 8)), (∀ c ∈ p, bd c = false) → BR false (p ++ x) y → ∃ y', y = p ++ y' ∧ BR false x y'
  | [], x, y, _, h => ⟨y, rfl, h⟩
  | c :: p, x, y, hp, h => by
    rcases br_inv h with ⟨h1, _⟩ | ⟨c', x', y', h1, rfl, h3⟩
    · cases h1
    · cases h1
      rw [hp c (by simp)] at h3
      obtain ⟨z, rfl, hz⟩ := br_appL p x y' (fun d hd => hp d (by simp [hd])) h3
      exact ⟨z, rfl, hz⟩
theorem br_appR : ∀ (p x y : List (BitVec 8)), (∀ c ∈ p, bd c = false) → BR false x (p ++ y) → ∃ x', x = p ++ x' ∧ BR false x' y
  | [], x, y, _, h => ⟨x, rfl, h⟩
  | c :: p, x, y, hp, h => by
    rcases br_inv h with ⟨_, h1⟩ | ⟨c', x', y', rfl, h1, h3⟩
    · cases h1
    · cases h1
      rw [hp c (by simp)] at h3
      obtain ⟨z, rfl, hz⟩ := br_appR p x' y (fun d hd => hp d (by simp [hd])) h3
      exact ⟨z, rfl, hz⟩
theorem preB_app (p z : List (BitVec 8)) : preB (p ++ z) p = true := by simp [preB]
theorem preB_eq {S p : List (BitVec 8)} (h : preB S p = true) : ∃ z, S = p ++ z := by
  obtain ⟨_, h2⟩ := preB_cons h
  refine ⟨S.drop p.length, ?_⟩
  have e := List.take_append_drop p.length S
  rw [h2] at e; exact e.symm
theorem br_pre {x y : List (BitVec 8)} (h : BR false x y) (p : List (BitVec 8)) (hp : ∀ c ∈ p, bd c = false) :
    preB x p = preB y p ∧ (preB x p = true → BR false (x.drop p.length) (y.drop p.length)) := by
  cases hx : preB x p with
  | true =>
    obtain ⟨x', rfl⟩ := preB_eq hx
    obtain ⟨y', rfl, h'⟩ := br_appL p x' y hp h
    exact ⟨(preB_app p y').symm, fun _ => by simpa using h'⟩
  | false =>
    refine ⟨?_, fun h => by cases h⟩
    cases hy : preB y p with
    | false => rfl
    | true =>
      obtain ⟨y', rfl⟩ := preB_eq hy
      obtain ⟨x', rfl, _⟩ := br_appR p x y' hp h
      rw [preB_app] at hx; cases hx
theorem bt_take (l : List (BitVec 8)) (n i : Nat) (h : i < n) : bt (l.take n) i = bt l i := by
  unfold bt
  rw [List.getD_eq_getElem?_getD, List.getElem?_take, if_pos h, List.getD_eq_getElem?_getD]
theorem okS_take (l : List (BitVec 8)) (h : okS l ≠ 0) : okS (l.take (okS l)) = okS l := by
  have hl := okS_len l
  have h0 : l.length ≠ 0 := okS_pos h
  have hln : (l.take (okS l)).length = okS l := by rw [List.length_take]; omega
  generalize hn : okS l = n at *
  have b0 : bt (l.take n) 0 = bt l 0 := bt_take l n 0 (by omega)
  have b1 : 2 ≤ n → bt (l.take n) 1 = bt l 1 := fun h => bt_take l n 1 (by omega)
  have b2 : 3 ≤ n → bt (l.take n) 2 = bt l 2 := fun h => bt_take l n 2 (by omega)
  have b3 : 4 ≤ n → bt (l.take n) 3 = bt l 3 := fun h => bt_take l n 3 (by omega)
  unfold okS at hn ⊢
  rw [hln, b0]
  rw [if_neg h0] at hn
  rw [if_neg h]
  by_cases c1 : bt l 0 < 128
  · rw [if_pos c1] at hn ⊢; exact hn
  rw [if_neg c1] at hn ⊢
  by_cases c2 : 194 ≤ bt l 0 ∧ bt l 0 < 224
  · rw [if_pos c2] at hn ⊢
    split at hn
    · subst hn; rename_i c; rw [b1 (by omega), if_pos ⟨by omega, c.2⟩]
    · omega
  rw [if_neg c2] at hn ⊢
  by_cases c3 : 224 ≤ bt l 0 ∧ bt l 0 < 240
  · rw [if_pos c3] at hn ⊢
    split at hn
    · subst hn; rename_i c; rw [b1 (by omega), b2 (by omega), if_pos ⟨by omega, c.2⟩]
    · omega
  rw [if_neg c3] at hn ⊢
  by_cases c4 : 240 ≤ bt l 0 ∧ bt l 0 < 245
  · rw [if_pos c4] at hn ⊢
    split at hn
    · subst hn; rename_i c; rw [b1 (by omega), b2 (by omega), b3 (by omega), if_pos ⟨by omega, c.2⟩]
    · omega
  rw [if_neg c4] at hn
  omega
theorem okS_big (l : List (BitVec 8)) (h : 2 ≤ okS l) (i : Nat) (hi : i < okS l) : 128 ≤ bt l i := by
  have hlo := loB_ge (bt l 0)
  generalize hn : okS l = n at *
  unfold okS at hn
  split at hn
  · omega
  split at hn
  · omega
  split at hn
  · split at hn
    · rename_i c1 c2 c3 c; subst hn
      match i, hi with
      | 0, _ => omega
      | 1, _ => exact c.2.1
    · omega
  split at hn
  · split at hn
    · rename_i c1 c2 c3 c4 c; subst hn
      match i, hi with
      | 0, _ => omega
      | 1, _ => omega
      | 2, _ => omega
    · omega
  split at hn
  · split at hn
    · rename_i c1 c2 c3 c4 c5 c; subst hn
      match i, hi with
      | 0, _ => omega
      | 1, _ => omega
      | 2, _ => omega
      | 3, _ => omega
    · omega
  · omega
theorem char_nb (c : BitVec 8) (x : List (BitVec 8)) (hc : bd c = false) : ∀ d ∈ (c :: x).take (okS (c :: x)), bd d = false := by
  intro d hd
  by_cases h2 : 2 ≤ okS (c :: x)
  · obtain ⟨i, hi, rfl⟩ := List.mem_iff_getElem.1 hd
    have hi' : i < okS (c :: x) := by rw [List.length_take] at hi; omega
    have := okS_big (c :: x) h2 i hi'
    have hlt : i < (c :: x).length := by rw [List.length_take] at hi; omega
    rw [List.getElem_take]
    apply bd_big
    have e : bt (c :: x) i = ub ((c :: x)[i]) := by
      unfold bt; rw [List.getD_eq_getElem?_getD, List.getElem?_eq_getElem hlt]; rfl
    rw [e] at this
    unfold ub at this; omega
  · have : (c :: x).take (okS (c :: x)) = [] ∨ (c :: x).take (okS (c :: x)) = [c] := by
      rcases Nat.lt_or_ge (okS (c :: x)) 1 with h | h
      · left; rw [show okS (c :: x) = 0 by omega]; rfl
      · right; rw [show okS (c :: x) = 1 by omega]; rfl
    rcases this with h | h
    · rw [h] at hd; cases hd
    · rw [h] at hd; simp at hd; rw [hd]; exact hc
theorem br_char {c : BitVec 8} {x y : List (BitVec 8)} (hc : bd c = false) (h : BR false (c :: x) (c :: y)) :
    okS (c :: x) = okS (c :: y) ∧ (okS (c :: x) ≠ 0 → runeN (c :: x) = runeN (c :: y) ∧ (c :: x).take (okS (c :: x)) = (c :: y).take (okS (c :: x)) ∧ BR false ((c :: x).drop (okS (c :: x))) ((c :: y).drop (okS (c :: x)))) := by
  have fwd : okS (c :: x) ≠ 0 → okS (c :: y) = okS (c :: x) ∧ runeN (c :: x) = runeN (c :: y) ∧ (c :: x).take (okS (c :: x)) = (c :: y).take (okS (c :: x)) ∧ BR false ((c :: x).drop (okS (c :: x))) ((c :: y).drop (okS (c :: x))) := by
    intro hk
    have nb := char_nb c x hc
    have e := List.take_append_drop (okS (c :: x)) (c :: x)
    have et := okS_take (c :: x) hk
    have hln : ((c :: x).take (okS (c :: x))).length = okS (c :: x) := by have := okS_len (c :: x); rw [List.length_take]; omega
    have h0 := h
    rw [← e] at h0
    obtain ⟨y', hy, h'⟩ := br_appL _ _ _ nb h0
    have a1 := okS_append ((c :: x).take (okS (c :: x))) ((c :: x).drop (okS (c :: x))) (by rw [et]; exact hk)
    have a2 := okS_append ((c :: x).take (okS (c :: x))) y' (by rw [et]; exact hk)
    rw [← hy, et] at a2
    rw [e] at a1
    refine ⟨a2.1, a1.2.trans a2.2.symm, ?_, ?_⟩
    · rw [hy, List.take_left' hln]
    · have : (c :: y).drop (okS (c :: x)) = y' := by rw [hy, List.drop_left' hln]
      rw [this]; exact h'
  by_cases hk : okS (c :: x) = 0
  · refine ⟨?_, fun h => absurd hk h⟩
    rw [hk]
    rcases Nat.eq_zero_or_pos (okS (c :: y)) with h0 | h0
    · exact h0.symm
    · exfalso
      have nb := char_nb c y hc
      have e := List.take_append_drop (okS (c :: y)) (c :: y)
      have et := okS_take (c :: y) (by omega)
      have h0' := h
      rw [← e] at h0'
      obtain ⟨x', hx, h'⟩ := br_appR _ _ _ nb h0'
      have a2 := okS_append ((c :: y).take (okS (c :: y))) x' (by rw [et]; omega)
      rw [← hx, et] at a2
      omega
  · obtain ⟨e1, e2⟩ := fwd hk
    exact ⟨e1.symm, fun _ => e2⟩
end Go.Av.Lex
end
section
set_option linter.unusedSimpArgs false
set_option linter.unusedVariables false
open Go Go.Av Go.Proofs
namespace Go.Av.Lex
theorem bd_sta {c : BitVec 8} (h : bd c = true) : c.toNat < 128 ∧ staB (ub c) = false ∧ xmlB (ub c) = true := by
  rcases bd_true h with rfl | rfl | rfl | rfl <;> decide
theorem br_word : ∀ (n : Nat) (f : Bool) (x y : List (BitVec 8)), x.length ≤ n → okB x → BR false x y →
    longF f x = longF f y ∧ x.take (longF f x) = y.take (longF f x) ∧ BR false (x.drop (longF f x)) (y.drop (longF f x))
  | n, f, x, y, hn, hok, h => by
    rcases br_inv h with ⟨rfl, rfl⟩ | ⟨c, x', y', rfl, rfl, h3⟩
    · rw [longF_nil]; exact ⟨rfl, rfl, h⟩
    have stop : ∀ l : List (BitVec 8), (l.take 0 = ([] : List (BitVec 8))) := fun l => rfl
    cases hc : bd c with
    | true =>
      obtain ⟨h1, h2, _⟩ := bd_sta hc
      have ax := okS_asc c x' h1
      have ay := okS_asc c y' h1
      have ex : longF f (c :: x') = 0 := longF_stop f _ (by simp) (by omega) (by rw [ax.2, h2]; simp)
      have ey : longF f (c :: y') = 0 := longF_stop f _ (by simp) (by omega) (by rw [ay.2, h2]; simp)
      rw [ex, ey]; exact ⟨rfl, rfl, h⟩
    | false =>
      obtain ⟨hk, hok'⟩ := okB_cons hok (by simp)
      obtain ⟨e1, e2⟩ := br_char hc h
      obtain ⟨e3, e4, e5⟩ := e2 hk
      cases h3 : ((f && !begB (runeN (c :: x'))) || !staB (runeN (c :: x'))) with
      | true =>
        rw [longF_stop f _ (by simp) hk h3, longF_stop f (c :: y') (by simp) (by omega) (by rw [← e3]; exact h3)]
        exact ⟨rfl, rfl, h⟩
      | false =>
        rw [longF_step f _ (by simp) hk h3, longF_step f (c :: y') (by simp) (by omega) (by rw [← e3]; exact h3), ← e1]
        have hle := okS_len (c :: x')
        match n, hn with
        | 0, hn => simp at hn
        | n + 1, hn =>
          obtain ⟨i1, i2, i3⟩ := br_word n false _ _ (by rw [List.length_drop]; simp at hn ⊢; omega) hok' e5
          refine ⟨by rw [i1], ?_, ?_⟩
          · rw [List.take_add, List.take_add, e4, i2]
          · rw [← List.drop_drop, ← List.drop_drop]; exact i3
theorem br_wordL {x y : List (BitVec 8)} (hok : okB x) (h : BR false x y) : wordL x = wordL y ∧ BR false (x.drop (wordL x).length) (y.drop (wordL x).length) := by
  obtain ⟨h1, h2, h3⟩ := br_word _ true x y (Nat.le_refl _) hok h
  refine ⟨?_, ?_⟩
  · unfold wordL; rw [← h1, h2]
  · rw [wordL_len]; exact h3
theorem br_cut (d : BitVec 8) (hd : bd d = false) {f : Bool} {x y : List (BitVec 8)} (h : BR f x y) :
    (cutB d x = none ∧ cutB d y = none) ∨ ∃ p q p' q', cutB d x = some (p, q) ∧ cutB d y = some (p', q') ∧ BR false q q' := by
  induction h with
  | nil f => exact .inl ⟨rfl, rfl⟩
  | cons f c h ih =>
    by_cases hc : c = d
    · subst hc
      rw [hd] at h
      exact .inr ⟨[], _, [], _, by simp [cutB], by simp [cutB], h⟩
    · rcases ih with ⟨h1, h2⟩ | ⟨p, q, p', q', h1, h2, h3⟩
      · left; simp [cutB, hc, h1, h2]
      · right; exact ⟨c :: p, q, c :: p', q', by simp [cutB, hc, h1], by simp [cutB, hc, h2], h3⟩
  | @ins e x y he h ih =>
    have hne : ¬ e = d := fun hh => by rw [hh, hd] at he; cases he
    rcases ih with ⟨h1, h2⟩ | ⟨p, q, p', q', h1, h2, h3⟩
    · left; simp [cutB, hne, h1, h2]
    · right; exact ⟨p, q, e :: p', q', h1, by simp [cutB, hne, h2], h3⟩
theorem dig_nb {c : BitVec 8} (h : digB c = true) : bd c = false := by revert c; decide
theorem br_dig : ∀ (x y : List (BitVec 8)), BR false x y → x.takeWhile digB = y.takeWhile digB ∧ BR false (x.drop (digs x)) (y.drop (digs x))
  | x, y, h => by
    rcases br_inv h with ⟨rfl, rfl⟩ | ⟨c, x', y', rfl, rfl, h3⟩
    · exact ⟨rfl, h⟩
    · cases hc : digB c with
      | true =>
        rw [dig_nb hc] at h3
        obtain ⟨h1, h2⟩ := br_dig x' y' h3
        refine ⟨by simp [hc, h1], ?_⟩
        have : digs (c :: x') = digs x' + 1 := by simp [digs, hc]
        rw [this]; simpa using h2
      | false =>
        have : digs (c :: x') = 0 := by simp [digs, hc]
        rw [this]; exact ⟨by simp [hc], h⟩
def tkey (t : Tok) : Nat × Nat × List (BitVec 8) := (t.kind, t.n, if t.kind = 2 then [] else t.text)
def lkey (q : Nat × Nat × List (BitVec 8)) : Bool := q.1 != 1 && (q.1 != 0 || !(lookL.contains q.2.2))
theorem lookT_key (t : Tok) : lookT t = lkey (tkey t) := by
  unfold lookT lkey tkey
  by_cases h : t.kind = 2
  · simp [h]
  · simp [h]
theorem lookB_key {T T' : List Tok} (h : T.map tkey = T'.map tkey) : lookB T = lookB T' := by
  have e : ∀ T : List Tok, lookB T = match (T.map tkey).getLast? with | none => false | some q => lkey q := by
    intro T
    unfold lookB
    rw [List.getLast?_map]
    cases T.getLast? with
    | none => rfl
    | some t => exact lookT_key t
  rw [e, e, h]
theorem key_app {T T' : List Tok} (h : T.map tkey = T'.map tkey) (t t' : Tok) (h2 : tkey t = tkey t') : (T ++ [t]).map tkey = (T' ++ [t']).map tkey := by
  rw [List.map_append, List.map_append, h]; simp [h2]
theorem takeL_br {x y : List (BitVec 8)} (h : BR false x y) : ∀ (ps : List (List (BitVec 8))), (∀ p ∈ ps, ∀ c ∈ p, bd c = false) → takeL ps x = takeL ps y
  | [], _ => rfl
  | p :: ps, hp => by
    have h1 := (br_pre h p (hp p (by simp))).1
    have h2 := takeL_br h ps (fun q hq => hp q (by simp [hq]))
    unfold takeL at h2 ⊢
    rw [List.find?_cons, List.find?_cons, h1, h2]
theorem signs_nb : ∀ x ∈ marksL ++ opsL, ∀ c ∈ x, bd c = false := by decide
theorem signL_br {x y : List (BitVec 8)} (h : BR false x y) : signL x = signL y := by
  unfold signL
  rw [takeL_br h marksL (fun p hp => signs_nb p (List.mem_append_left _ hp)), takeL_br h opsL (fun p hp => signs_nb p (List.mem_append_right _ hp))]
theorem signL_nb {S : List (BitVec 8)} {q : Nat × List (BitVec 8)} (h : signL S = some q) : ∀ c ∈ q.2, bd c = false := by
  unfold signL at h
  split at h
  · rename_i x hx
    cases h
    exact signs_nb x (List.mem_append_left _ (takeL_some hx).1)
  · cases hx : takeL opsL S with
    | none => rw [hx] at h; cases h
    | some x =>
      rw [hx] at h; cases h
      exact signs_nb x (List.mem_append_right _ (takeL_some hx).1)
def stOk (R R' : Int × List (BitVec 8) × List Tok × Bool) : Prop := R.1 = R'.1 ∧ (R.1 = 0 → BR false R.2.1 R'.2.1 ∧ R.2.2.1.map tkey = R'.2.2.1.map tkey)
theorem br_num {x y : List (BitVec 8)} (h : BR false x y) {T T' : List Tok} (hT : T.map tkey = T'.map tkey) (nl nl' : Bool) :
    stOk ((numR x T nl).1, x.drop (digs x), (numR x T nl).2.1, (numR x T nl).2.2) ((numR y T' nl').1, y.drop (digs y), (numR y T' nl').2.1, (numR y T' nl').2.2) := by
  obtain ⟨e1, e2⟩ := br_dig x y h
  have e3 : digs y = digs x := by unfold digs; rw [e1]
  have e4 := (br_pre e2 [46#8] (by decide)).1
  unfold numR
  rw [← e1, e3, ← e4]
  split
  · exact ⟨rfl, fun h => by cases h⟩
  split
  · exact ⟨rfl, fun h => by cases h⟩
  · exact ⟨rfl, fun _ => ⟨e2, key_app hT _ _ rfl⟩⟩
theorem br_op {x y : List (BitVec 8)} (hok : okB x) (h : BR false x y) {T T' : List Tok} (hT : T.map tkey = T'.map tkey) (nl nl' : Bool) :
    stOk (if (opR x T nl).1 then 0 else 4, (opR x T nl).2.1, (opR x T nl).2.2.1, (opR x T nl).2.2.2) (if (opR y T' nl').1 then 0 else 4, (opR y T' nl').2.1, (opR y T' nl').2.2.1, (opR y T' nl').2.2.2) := by
  obtain ⟨e1, e2⟩ := br_wordL hok h
  have e4 := (br_pre e2 [58#8] (by decide)).1
  have e5 := (br_pre e2 [58#8, 58#8] (by decide)).1
  have eo : opB x = opB y := by unfold opB; rw [← e1, e4, e5]
  unfold opR
  rw [← eo, ← e1]
  cases opB x with
  | false => exact ⟨rfl, fun h => by simp at h⟩
  | true => exact ⟨rfl, fun _ => ⟨e2, key_app hT _ _ rfl⟩⟩
theorem br_namedT {S S' rest rest' : List (BitVec 8)} (w : List (BitVec 8)) (h : BR false rest rest') {T T' : List Tok} (hT : T.map tkey = T'.map tkey) (nl nl' : Bool) :
    stOk (if (namedT S w rest T nl).1 then 0 else 4, (namedT S w rest T nl).2.1, (namedT S w rest T nl).2.2.1, (namedT S w rest T nl).2.2.2) (if (namedT S' w rest' T' nl').1 then 0 else 4, (namedT S' w rest' T' nl').2.1, (namedT S' w rest' T' nl').2.2.1, (namedT S' w rest' T' nl').2.2.2) := by
  have hs := br_sk h
  have e4 := (br_pre hs [58#8, 58#8] (by decide)).1
  have e5 := (br_pre hs [40#8] (by decide)).1
  have ek : kindN w (skL rest) = kindN w (skL rest') := by unfold kindN; rw [e4, e5]
  unfold namedT
  rw [← ek]
  cases kindN w (skL rest) with
  | none => exact ⟨rfl, fun h => by simp at h⟩
  | some k => exact ⟨rfl, fun _ => ⟨h, key_app hT _ _ rfl⟩⟩
theorem drop_full (x w v : List (BitVec 8)) : x.drop (w ++ 58#8 :: v).length = ((x.drop w.length).drop 1).drop v.length := by
  rw [List.drop_drop, List.drop_drop]; congr 1; simp; omega
theorem br_named {x y : List (BitVec 8)} (hok : okB x) (h : BR false x y) {T T' : List Tok} (hT : T.map tkey = T'.map tkey) (nl nl' : Bool) :
    stOk (if (namedR x T nl).1 then 0 else 4, (namedR x T nl).2.1, (namedR x T nl).2.2.1, (namedR x T nl).2.2.2) (if (namedR y T' nl').1 then 0 else 4, (namedR y T' nl').2.1, (namedR y T' nl').2.2.1, (namedR y T' nl').2.2.2) := by
  obtain ⟨e1, e2⟩ := br_wordL hok h
  have ok2 := okB_word hok
  have e4 := br_pre e2 [58#8, 42#8] (by decide)
  have e5 := br_pre e2 [58#8] (by decide)
  unfold namedR
  rw [← e1, ← e4.1]
  split
  · exact ⟨rfl, fun h => by simp at h⟩
  split
  · rename_i h1 h2
    exact ⟨rfl, fun _ => ⟨e4.2 h2, key_app hT _ _ rfl⟩⟩
  · cases h1 : preB (x.drop (wordL x).length) [58#8] with
    | false =>
      have f1 : fullB (x.drop (wordL x).length) = false := by unfold fullB; rw [h1]; rfl
      have f2 : fullB (y.drop (wordL x).length) = false := by unfold fullB; rw [← e5.1, h1]; rfl
      rw [f1, f2]
      exact br_namedT _ e2 hT nl nl'
    | true =>
      have b1 := e5.2 h1
      have ok3 := okB_pre1 ok2 h1 (by decide)
      obtain ⟨g1, g2⟩ := br_wordL ok3 b1
      have f1 : fullB (x.drop (wordL x).length) = fullB (y.drop (wordL x).length) := by unfold fullB; rw [← e5.1, g1]; rfl
      rw [← f1]
      cases fullB (x.drop (wordL x).length) with
      | false => exact br_namedT _ e2 hT nl nl'
      | true =>
        have g1' : wordL (List.drop 1 (List.drop (wordL x).length y)) = wordL (List.drop 1 (List.drop (wordL x).length x)) := g1.symm
        rw [g1', drop_full, drop_full]
        exact br_namedT _ g2 hT nl nl'
theorem br_step {x y : List (BitVec 8)} (hx : x ≠ []) (hok : okB x) (h : BR false x y) {T T' : List Tok} (hT : T.map tkey = T'.map tkey) (nl nl' : Bool) : stOk (stepR x T nl) (stepR y T' nl') := by
  have hl := lookB_key hT
  have hs := signL_br h
  have hb := fun p hp => br_pre h p hp
  have h1 := br_num h hT nl nl'
  have h2 := br_op hok h hT nl nl'
  have h3 := br_named hok h hT nl nl'
  rcases br_inv h with ⟨rfl, _⟩ | ⟨c, x', y', rfl, rfl, h4⟩
  · exact absurd rfl hx
  unfold stepR
  have gx : (c :: x').getD 0 0#8 = c := rfl
  have gy : (c :: y').getD 0 0#8 = c := rfl
  rw [gx, gy]
  split
  · exact h1
  split
  · rename_i hq
    have hd : bd c = false := by rcases hq with rfl | rfl <;> decide
    have lx : ∀ (z : List (BitVec 8)) (T : List Tok), litL (c :: z) T = match cutB c z with | some q => (true, q.2, T ++ [⟨2, q.1, 0⟩]) | none => (false, [], T ++ [⟨2, z, 0⟩]) := fun z T => rfl
    rw [lx, lx]
    rcases br_cut c hd h4 with ⟨c1, c2⟩ | ⟨p, q, p', q', c1, c2, c3⟩
    · rw [c1, c2]; exact ⟨rfl, fun h => by simp at h⟩
    · rw [c1, c2]; exact ⟨rfl, fun _ => ⟨c3, key_app hT _ _ rfl⟩⟩
  split
  · rename_i hq
    have hd : bd c = false := by rw [hq]; decide
    rw [hd] at h4
    rw [← hl]
    exact ⟨rfl, fun _ => ⟨h4, key_app hT _ _ rfl⟩⟩
  rw [← hs]
  cases hq : signL (c :: x') with
  | some q =>
    have b := hb q.2 (signL_nb hq)
    exact ⟨rfl, fun _ => ⟨b.2 (signL_some hq).1, key_app hT _ _ rfl⟩⟩
  | none =>
    dsimp only
    rw [← hl]
    cases lookB T with
    | true => exact h2
    | false => exact h3
end Go.Av.Lex
end
section
set_option linter.unusedSimpArgs false
set_option linter.unusedVariables false
open Go Go.Av Go.Proofs
namespace Go.Av.Lex
theorem br_lexG : ∀ (n m : Nat) (x y : List (BitVec 8)) (T T' : List Tok) (nl nl' : Bool), x.length ≤ n → y.length ≤ m → okB x → okB y → BR false x y → T.map tkey = T'.map tkey →
    (lexG n x T nl).1 = (lexG m y T' nl').1 ∧ (lexG n x T nl).2.1.map tkey = (lexG m y T' nl').2.1.map tkey
  | n, m, x, y, T, T', nl, nl', hn, hm, hx, hy, h, hT => by
    by_cases h0 : x = []
    · subst h0
      have h1 : y = [] := by rcases br_inv h with ⟨_, h⟩ | ⟨c, a, b, h, _⟩; exact h; cases h
      subst h1
      rw [lexG_nil, lexG_nil]; exact ⟨rfl, hT⟩
    have h1 : y ≠ [] := by
      rintro rfl
      rcases br_inv h with ⟨h, _⟩ | ⟨c, a, b, _, h, _⟩
      · exact h0 h
      · cases h
    have lx : 0 < x.length := List.length_pos_iff.2 h0
    have ly : 0 < y.length := List.length_pos_iff.2 h1
    match n, m, hn, hm with
    | 0, _, hn, _ => omega
    | _, 0, _, hm => omega
    | n + 1, m + 1, hn, hm =>
      have hs := br_step h0 hx h hT nl nl'
      have bx : (x == []) = false := by cases x with | nil => exact absurd rfl h0 | cons c t => rfl
      have by' : (y == []) = false := by cases y with | nil => exact absurd rfl h1 | cons c t => rfl
      unfold lexG
      rw [bx, by']
      simp only [Bool.false_eq_true, if_false]
      obtain ⟨s1, s2⟩ := hs
      by_cases he : (stepR x T nl).1 = 0
      · have he' : (stepR y T' nl').1 = 0 := by rw [← s1]; exact he
        rw [if_pos he, if_pos he']
        obtain ⟨s3, s4⟩ := s2 he
        have l1 := step_less x T nl lx hx he
        have l2 := step_less y T' nl' ly hy he'
        have k1 := skL_len (stepR x T nl).2.1
        have k2 := skL_len (stepR y T' nl').2.1
        exact br_lexG n m _ _ _ _ _ _ (by omega) (by omega) (okB_skL l1.2.1) (okB_skL l2.2.1) (br_sk s3) s4
      · have he' : ¬ (stepR y T' nl').1 = 0 := by rw [← s1]; exact he
        rw [if_neg he, if_neg he']
        exact ⟨s1, rfl⟩
theorem textB_bad (l : List (BitVec 8)) (h : l.length ≠ 0) (h2 : okS l = 0) : textB l = false := by unfold textB; rw [charsL_bad l h h2]
theorem textB_blank (c : BitVec 8) (l : List (BitVec 8)) (h : bd c = true) : textB (c :: l) = textB l := by
  obtain ⟨h1, _, h3⟩ := bd_sta h
  obtain ⟨a1, a2⟩ := okS_asc c l h1
  rw [textB_step _ (by simp) (by omega), a1, a2, h3]; rfl
theorem br_text : ∀ (n : Nat) (f : Bool) (x y : List (BitVec 8)), x.length + y.length ≤ n → BR f x y → textB x = textB y
  | n, f, x, y, hn, h => by
    cases h with
    | nil => rfl
    | @ins d x y hd h =>
      rw [textB_blank d y hd]
      match n, hn with
      | 0, hn => simp at hn
      | n + 1, hn => exact br_text n true _ _ (by simp at hn; omega) h
    | @cons _ c x y h =>
      match n, hn with
      | 0, hn => simp at hn
      | n + 1, hn =>
        cases hc : bd c with
        | true =>
          rw [textB_blank c x hc, textB_blank c y hc]
          rw [hc] at h
          exact br_text n true _ _ (by simp at hn; omega) h
        | false =>
          obtain ⟨e1, e2⟩ := br_char hc (.cons false c h)
          by_cases hk : okS (c :: x) = 0
          · rw [textB_bad _ (by simp) hk, textB_bad _ (by simp) (by omega)]
          · obtain ⟨e3, e4, e5⟩ := e2 hk
            rw [textB_step (c :: x) (by simp) hk, textB_step (c :: y) (by simp) (by omega), ← e1, e3]
            have l1 := okS_len (c :: x)
            exact congrArg (fun b => xmlB (runeN (c :: y)) && b) (br_text n false _ _ (by simp only [List.length_drop, List.length_cons] at hn l1 ⊢; omega) e5)
theorem br_lex {x y : List (BitVec 8)} (h : BR true x y) (hx : x.length ≤ 1000) (hy : y.length ≤ 1000) :
    (lexL x).1 = (lexL y).1 ∧ (lexL x).2.1.map tkey = (lexL y).2.1.map tkey := by
  have ht := br_text _ true x y (Nat.le_refl _) h
  unfold lexL
  rw [if_neg (by omega : ¬ x.length > 1000), if_neg (by omega : ¬ y.length > 1000), ← ht]
  cases hb : textB x with
  | false => exact ⟨rfl, rfl⟩
  | true =>
    have k1 := skL_len x
    have k2 := skL_len y
    exact br_lexG _ _ _ _ _ _ _ _ k1 k2 (okB_skL (textB_ok hb)) (okB_skL (textB_ok (by rw [← ht]; exact hb))) (br_sk h) rfl
theorem br_piece : ∀ (u : List (BitVec 8)) (f : Bool) {x y : List (BitVec 8)}, BR true x y → BR f (u ++ 32#8 :: x) (u ++ 32#8 :: y)
  | [], f, x, y, h => .cons f _ h
  | c :: u, f, x, y, h => .cons f c (br_piece u _ h)
def aT (l : List (List (BitVec 8))) : List (BitVec 8) := (l.map (· ++ [32#8])).flatten
def bT (sep : List (BitVec 8)) (l : List (List (BitVec 8))) : List (BitVec 8) := (l.map (fun u => sep ++ u ++ [32#8])).flatten
theorem br_seps : ∀ (s : List (BitVec 8)) {x y : List (BitVec 8)}, (∀ c ∈ s, bd c = true) → BR true x y → BR true x (s ++ y)
  | [], x, y, _, h => h
  | c :: s, x, y, hs, h => .ins (hs c (by simp)) (br_seps s (fun d hd => hs d (by simp [hd])) h)
theorem br_ab (sep : List (BitVec 8)) (hs : ∀ c ∈ sep, bd c = true) : ∀ l : List (List (BitVec 8)), BR true (aT l) (bT sep l)
  | [] => .nil _
  | u :: l => by
    have h := br_ab sep hs l
    have e1 : aT (u :: l) = u ++ 32#8 :: aT l := by simp [aT]
    have e2 : bT sep (u :: l) = sep ++ (u ++ 32#8 :: bT sep l) := by simp [bT]
    rw [e1, e2]
    exact br_seps sep hs (br_piece u true h)
end Go.Av.Lex
end
section
set_option linter.unusedSimpArgs false
set_option linter.unusedVariables false
open Go Go.Av Go.Proofs
namespace Go.Av.Lex
theorem nb_long {l : List (BitVec 8)} (h : nameB l = true) : l ≠ [] ∧ longF true l = l.length := by
  rw [nameB_long] at h
  simp at h
  exact h
theorem nb_ok {l : List (BitVec 8)} (h : nameB l = true) : okB l := by
  obtain ⟨_, h2⟩ := nb_long h
  have := longF_all _ true l (Nat.le_refl _)
  rw [h2] at this
  simp only [beq_self_eq_true] at this
  cases hc : charsL l with
  | none => rw [hc] at this; cases this
  | some c => exact ⟨c, hc⟩
theorem longF_mark (d : BitVec 8) (hd : d.toNat < 128) (hs : staB (ub d) = false) : ∀ (n : Nat) (f : Bool) (t u : List (BitVec 8)), t.length ≤ n → okB t → longF f (t ++ d :: u) = longF f t
  | n, f, [], u, hn, hok => by
    obtain ⟨a1, a2⟩ := okS_asc d u hd
    rw [longF_nil, List.nil_append]
    exact longF_stop f _ (by simp) (by omega) (by rw [a2, hs]; simp)
  | n, f, c :: t, u, hn, hok => by
    obtain ⟨hk, hok'⟩ := okB_cons hok (by simp)
    obtain ⟨e1, e2⟩ := okS_append (c :: t) (d :: u) hk
    have hle := okS_len (c :: t)
    cases h3 : ((f && !begB (runeN (c :: t))) || !staB (runeN (c :: t))) with
    | true => rw [longF_stop f (c :: t) (by simp) hk h3, longF_stop f (c :: t ++ d :: u) (by simp) (by omega) (by rw [e2]; exact h3)]
    | false =>
      rw [longF_step f (c :: t) (by simp) hk h3, longF_step f (c :: t ++ d :: u) (by simp) (by omega) (by rw [e2]; exact h3), e1]
      rw [List.drop_append_of_le_length hle]
      match n, hn with
      | 0, hn => simp at hn
      | n + 1, hn => rw [longF_mark d hd hs n false _ u (by rw [List.length_drop]; simp at hn ⊢; omega) hok']
theorem word_name {l : List (BitVec 8)} (h : nameB l = true) : wordL l = l := by
  obtain ⟨_, h2⟩ := nb_long h
  unfold wordL; rw [h2, List.take_length]
theorem word_mark {l : List (BitVec 8)} (h : nameB l = true) (d : BitVec 8) (u : List (BitVec 8)) (hd : d.toNat < 128) (hs : staB (ub d) = false) : wordL (l ++ d :: u) = l := by
  obtain ⟨_, h2⟩ := nb_long h
  unfold wordL
  rw [longF_mark d hd hs _ true l u (Nat.le_refl _) (nb_ok h), h2]
  simp
theorem first_no : ∀ c : BitVec 8, (begB (ub c) = true ∨ 128 ≤ c.toNat) → digB c = false ∧ c ≠ 34#8 ∧ c ≠ 39#8 ∧ c ≠ 42#8 ∧ bd c = false ∧ c ≠ 58#8 ∧ c ≠ 40#8 ∧ ∀ x ∈ marksL ++ opsL, x.head? ≠ some c := by decide +kernel
theorem first_name {l : List (BitVec 8)} (h : nameB l = true) : ∃ c t, l = c :: t ∧ (begB (ub c) = true ∨ 128 ≤ c.toNat) := by
  obtain ⟨h1, h2⟩ := nb_long h
  cases l with
  | nil => exact absurd rfl h1
  | cons c t =>
    refine ⟨c, t, rfl, ?_⟩
    rcases Nat.lt_or_ge c.toNat 128 with hc | hc
    · left
      obtain ⟨a1, a2⟩ := okS_asc c t hc
      cases hb : begB (ub c) with
      | true => rfl
      | false =>
        have := longF_stop true (c :: t) (by simp) (by omega) (by rw [a2, hb]; rfl)
        rw [this] at h2; simp at h2
    · exact .inr hc
theorem preB_ne {c d : BitVec 8} (x p : List (BitVec 8)) (h : c ≠ d) : preB (c :: x) (d :: p) = false := by
  simp [preB, h]
theorem signL_none {c : BitVec 8} (t : List (BitVec 8)) (h : ∀ x ∈ marksL ++ opsL, x.head? ≠ some c) : signL (c :: t) = none := by
  have k : ∀ ps : List (List (BitVec 8)), (∀ x ∈ ps, x ≠ [] ∧ x.head? ≠ some c) → takeL ps (c :: t) = none := by
    intro ps
    induction ps with
    | nil => intro _; rfl
    | cons p ps ih =>
      intro hp
      have h1 : preB (c :: t) p = false := by
        obtain ⟨g1, g2⟩ := hp p (by simp)
        cases p with
        | nil => exact absurd rfl g1
        | cons d p => exact preB_ne t p (fun e => g2 (by rw [e]; rfl))
      have h2 := ih (fun x hx => hp x (by simp [hx]))
      unfold takeL at h2 ⊢
      rw [List.find?_cons, h1]; exact h2
  have ne : ∀ x ∈ marksL ++ opsL, x ≠ [] := fun x hx e => by have := (signs_asc x hx).1; rw [e] at this; simp at this
  unfold signL
  rw [k marksL (fun x hx => ⟨ne x (List.mem_append_left _ hx), h x (List.mem_append_left _ hx)⟩), k opsL (fun x hx => ⟨ne x (List.mem_append_right _ hx), h x (List.mem_append_right _ hx)⟩)]
  rfl
theorem step_name {c : BitVec 8} (t : List (BitVec 8)) (hc : begB (ub c) = true ∨ 128 ≤ c.toNat) (nl : Bool) :
    stepR (c :: t) [] nl = (if (namedR (c :: t) [] nl).1 then 0 else 4, (namedR (c :: t) [] nl).2.1, (namedR (c :: t) [] nl).2.2.1, (namedR (c :: t) [] nl).2.2.2) := by
  obtain ⟨g1, g2, g3, g4, _, _, _, g5⟩ := first_no c hc
  have gx : (c :: t).getD 0 0#8 = c := rfl
  unfold stepR
  rw [gx, g1, signL_none t g5]
  simp [g2, g3, g4, lookB]
theorem types_nocol : ∀ x ∈ typesL, ¬ 58#8 ∈ x := by decide
end Go.Av.Lex
end
section
set_option linter.unusedSimpArgs false
set_option linter.unusedVariables false
open Go Go.Av Go.Proofs
namespace Go.Av.Lex
theorem sta_xml (r : Int) (h : staB r = true) : xmlB r = true := by
  simp [staB, begB, inB, begL, staL] at h
  simp only [xmlB, decide_eq_true_eq]
  omega
theorem good_sta : ∀ (c : List Int) (f : Bool), goodB f c = true → c.all xmlB = true
  | [], _, _ => rfl
  | r :: c, f, h => by
    rw [goodB] at h
    simp at h
    rw [List.all_cons, sta_xml r h.1.2, good_sta c false h.2]; rfl
theorem text_app {l : List (BitVec 8)} (h : nameB l = true) (b : List (BitVec 8)) : textB (l ++ b) = textB b := by
  obtain ⟨_, h2⟩ := nb_long h
  have h3 := longF_all _ true l (Nat.le_refl _)
  rw [h2] at h3
  simp only [beq_self_eq_true] at h3
  obtain ⟨c, hc⟩ := nb_ok h
  rw [hc] at h3
  have hx := good_sta c true h3.symm
  unfold textB
  rw [charsL_append _ l c b (Nat.le_refl _) hc]
  cases charsL b with
  | none => rfl
  | some d => simp only [Option.map_some, List.all_append, hx, Bool.true_and]
theorem text_asc (c : BitVec 8) (b : List (BitVec 8)) (h : c.toNat < 128) (hx : xmlB (ub c) = true) : textB (c :: b) = textB b := by
  obtain ⟨a1, a2⟩ := okS_asc c b h
  rw [textB_step _ (by simp) (by omega), a1, a2, hx]; rfl
def nmS (p l : List (BitVec 8)) : List (BitVec 8) := if p = [] then l else p ++ 58#8 :: l
theorem named_one {l : List (BitVec 8)} (hl : nameB l = true) (r : List (BitVec 8)) (nl : Bool) (hw : wordL (l ++ r) = l) (h1 : preB r [58#8, 42#8] = false) (h2 : fullB r = false) :
    namedR (l ++ r) [] nl = namedT (l ++ r) l r [] nl := by
  obtain ⟨hne, _⟩ := nb_long hl
  have hb : (l == []) = false := by cases l with | nil => exact absurd rfl hne | cons c t => rfl
  unfold namedR
  rw [hw, hb, List.drop_left, h1, h2]
  rfl
theorem named_two {p l : List (BitVec 8)} (hp : nameB p = true) (hl : nameB l = true) (r : List (BitVec 8)) (nl : Bool) (hw : wordL (l ++ r) = l) :
    namedR ((p ++ 58#8 :: l) ++ r) [] nl = namedT ((p ++ 58#8 :: l) ++ r) (p ++ 58#8 :: l) r [] nl := by
  obtain ⟨hne, _⟩ := nb_long hp
  have hb : (p == []) = false := by cases p with | nil => exact absurd rfl hne | cons c t => rfl
  obtain ⟨hnl, _⟩ := nb_long hl
  have hbl : (l == []) = false := by cases l with | nil => exact absurd rfl hnl | cons c t => rfl
  have e : (p ++ 58#8 :: l) ++ r = p ++ 58#8 :: (l ++ r) := by simp
  have hw1 : wordL (p ++ 58#8 :: (l ++ r)) = p := word_mark hp 58#8 (l ++ r) (by decide) (by decide)
  obtain ⟨c, t, rfl, hc⟩ := first_name hl
  have h42 := (first_no c hc).2.2.2.1
  have q1 : preB (58#8 :: (c :: t ++ r)) [58#8, 42#8] = false := by simp [preB, h42]
  have q2 : preB (58#8 :: (c :: t ++ r)) [58#8] = true := by simp [preB]
  have q3 : fullB (58#8 :: (c :: t ++ r)) = true := by
    unfold fullB
    rw [q2, show (58#8 :: (c :: t ++ r)).drop 1 = c :: t ++ r from rfl, hw, hbl]; rfl
  unfold namedR
  rw [e, hw1, hb, List.drop_left, q1, q3]
  simp only [Bool.false_eq_true, if_false, if_true]
  rw [show (58#8 :: (c :: t ++ r)).drop 1 = c :: t ++ r from rfl, hw, ← e, List.drop_left]
theorem lexG_tok {n : Nat} {c : BitVec 8} {t : List (BitVec 8)} {T : List Tok} {nl : Bool} {R : List (BitVec 8)} {T' : List Tok} {nl' : Bool} (h : stepR (c :: t) T nl = (0, R, T', nl')) : lexG (n + 1) (c :: t) T nl = lexG n (skL R) T' nl' := by
  rw [lexG, h]; rfl
theorem lexG_err {n : Nat} {c : BitVec 8} {t : List (BitVec 8)} {T : List Tok} {nl : Bool} {R : List (BitVec 8)} {T' : List Tok} {nl' : Bool} (h : stepR (c :: t) T nl = (4, R, T', nl')) : lexG (n + 1) (c :: t) T nl = (4, [], true) := by
  rw [lexG, h]; rfl
theorem step_par (T : List Tok) (nl : Bool) : stepR [40#8] T nl = (0, [], T ++ [⟨0, [40#8], 0⟩], false) := rfl
theorem step_col (T : List Tok) (nl : Bool) : stepR [58#8, 58#8] T nl = (0, [], T ++ [⟨0, [58#8, 58#8], 0⟩], false) := rfl
theorem nocol {l : List (BitVec 8)} (hl : nameB l = true) : l.contains 58#8 = false := by
  have h := longF_nocol _ true l (Nat.le_refl _)
  rw [(nb_long hl).2, List.take_length] at h
  simpa using h
theorem lex_name {p l : List (BitVec 8)} (hp : p = [] ∨ nameB p = true) (hl : nameB l = true) (hlen : p.length + l.length ≤ 300) :
    lexL (nmS p l) = (0, [⟨9, nmS p l, 0⟩], false) ∧
    (∃ k, (k = 6 ∨ (k = 7 ∧ p = [])) ∧ lexL (nmS p l ++ [32#8, 40#8]) = (0, [⟨k, nmS p l, 0⟩, ⟨0, [40#8], 0⟩], false)) ∧
    (p = [] → lexL (nmS p l ++ [58#8, 58#8]) = (0, [⟨8, nmS p l, 0⟩, ⟨0, [58#8, 58#8], 0⟩], false)) ∧
    (p ≠ [] → lexL (nmS p l ++ [58#8, 58#8]) = (4, [], true)) := by
  have w1 : wordL (l ++ []) = l := by rw [List.append_nil]; exact word_name hl
  have w2 : wordL (l ++ [32#8, 40#8]) = l := word_mark hl _ _ (by decide) (by decide)
  have w3 : wordL (l ++ [58#8, 58#8]) = l := word_mark hl _ _ (by decide) (by decide)
  have wc : wordL [58#8] = [] := by
    unfold wordL
    have : longF true [58#8] = 0 := longF_stop true _ (by simp) (by decide) (by decide)
    rw [this]; rfl
  have f1 : fullB [] = false := rfl
  have f2 : fullB [32#8, 40#8] = false := rfl
  have f3 : fullB [58#8, 58#8] = false := by unfold fullB; rw [show ([58#8, 58#8] : List (BitVec 8)).drop 1 = [58#8] from rfl, wc]; rfl
  have nm : ∀ r nl, (r = [] ∨ r = [32#8, 40#8] ∨ r = [58#8, 58#8]) → namedR (nmS p l ++ r) [] nl = namedT (nmS p l ++ r) (nmS p l) r [] nl := by
    intro r nl hr
    unfold nmS
    rcases hp with rfl | hp
    · rw [if_pos rfl]
      rcases hr with rfl | rfl | rfl
      · exact named_one hl _ nl w1 rfl f1
      · exact named_one hl _ nl w2 rfl f2
      · exact named_one hl _ nl w3 rfl f3
    · rw [if_neg (nb_long hp).1]
      rcases hr with rfl | rfl | rfl
      · exact named_two hp hl _ nl w1
      · exact named_two hp hl _ nl w2
      · exact named_two hp hl _ nl w3
  have fst : ∃ c t, nmS p l = c :: t ∧ (begB (ub c) = true ∨ 128 ≤ c.toNat) := by
    unfold nmS
    rcases hp with rfl | hp
    · rw [if_pos rfl]; exact first_name hl
    · obtain ⟨c, t, e, hc⟩ := first_name hp
      rw [if_neg (nb_long hp).1, e]; exact ⟨c, t ++ 58#8 :: l, rfl, hc⟩
  have tx : ∀ r, textB r = true → textB (nmS p l ++ r) = true := by
    intro r hr
    unfold nmS
    rcases hp with rfl | hp
    · rw [if_pos rfl, text_app hl]; exact hr
    · rw [if_neg (nb_long hp).1, List.append_assoc, text_app hp, List.cons_append, text_asc _ _ (by decide) (by decide), text_app hl]; exact hr
  have t1 : textB [] = true := textB_nil
  have t2 : textB [32#8, 40#8] = true := by rw [text_asc _ _ (by decide) (by decide), text_asc _ _ (by decide) (by decide)]; exact textB_nil
  have t3 : textB [58#8, 58#8] = true := by rw [text_asc _ _ (by decide) (by decide), text_asc _ _ (by decide) (by decide)]; exact textB_nil
  have hn : (nmS p l).length ≤ 301 := by
    unfold nmS
    split
    · omega
    · simp; omega
  have hcol : p ≠ [] → (nmS p l).contains 58#8 = true := by
    intro h; unfold nmS; rw [if_neg h]; simp
  have hnc : p = [] → (nmS p l).contains 58#8 = false := by
    intro h; unfold nmS; rw [if_pos h]; exact nocol hl
  have hty : p ≠ [] → typesL.contains (nmS p l) = false := by
    intro h
    cases ht : typesL.contains (nmS p l) with
    | false => rfl
    | true =>
      have hm : nmS p l ∈ typesL := by simpa using ht
      have := types_nocol _ hm
      have hc := hcol h
      exact absurd (by simpa using hc) this
  have go : ∀ r, (r = [] ∨ r = [32#8, 40#8] ∨ r = [58#8, 58#8]) → lexL (nmS p l ++ r) = match kindN (nmS p l) (skL r) with
      | some k => lexG ((nmS p l).length - 1 + r.length) (skL r) [⟨k, nmS p l, 0⟩] false
      | none => (4, [], true) := by
    intro r hr
    have hrl : r.length ≤ 2 := by rcases hr with rfl | rfl | rfl <;> simp
    have htr : textB r = true := by rcases hr with rfl | rfl | rfl; exact t1; exact t2; exact t3
    have hN := nm r true hr
    obtain ⟨c, t, e, hc⟩ := fst
    have hd := (first_no c hc).2.2.2.2.1
    have hS := step_name (t ++ r) hc true
    have hT := tx r htr
    unfold lexL
    rw [if_neg (by simp; omega), hT, if_pos rfl]
    rw [e] at hN ⊢
    rw [List.cons_append] at hN ⊢
    rw [skL_f hd]
    rw [hN] at hS
    have hl2 : (c :: (t ++ r)).length = ((c :: t).length - 1 + r.length) + 1 := by simp
    rw [hl2]
    unfold namedT at hS
    cases hk : kindN (c :: t) (skL r) with
    | none => rw [hk] at hS; exact lexG_err hS
    | some k => rw [hk] at hS; exact lexG_tok hS
  refine ⟨?_, ?_, ?_, ?_⟩
  · have g := go [] (.inl rfl)
    rw [List.append_nil] at g
    rw [g, skL_nil]
    have : kindN (nmS p l) [] = some 9 := rfl
    rw [this]
    exact lexG_nil _ _ _
  · have g := go [32#8, 40#8] (.inr (.inl rfl))
    have hs : skL [32#8, 40#8] = [40#8] := rfl
    rw [hs] at g
    have hk : kindN (nmS p l) [40#8] = some (if typesL.contains (nmS p l) then 7 else 6) := rfl
    rw [hk] at g
    refine ⟨if typesL.contains (nmS p l) then 7 else 6, ?_, ?_⟩
    · by_cases h : p = []
      · by_cases h2 : typesL.contains (nmS p l) = true
        · rw [if_pos h2]; exact .inr ⟨rfl, h⟩
        · rw [if_neg h2]; exact .inl rfl
      · rw [hty h]; exact .inl rfl
    · rw [g]
      have : (nmS p l).length - 1 + [32#8, 40#8].length = ((nmS p l).length) + 1 := by
        obtain ⟨c, t, e, _⟩ := fst
        rw [e]; simp
      dsimp only
      rw [this, lexG_tok (step_par _ _), skL_nil, lexG_nil]; rfl
  · intro h
    have g := go [58#8, 58#8] (.inr (.inr rfl))
    have hs : skL [58#8, 58#8] = [58#8, 58#8] := rfl
    have hk : kindN (nmS p l) [58#8, 58#8] = some 8 := by
      unfold kindN
      rw [hnc h]; rfl
    rw [hs, hk] at g
    rw [g]
    have : (nmS p l).length - 1 + [58#8, 58#8].length = ((nmS p l).length) + 1 := by
      obtain ⟨c, t, e, _⟩ := fst
      rw [e]; simp
    dsimp only
    rw [this, lexG_tok (step_col _ _), skL_nil, lexG_nil]; rfl
  · intro h
    have g := go [58#8, 58#8] (.inr (.inr rfl))
    have hs : skL [58#8, 58#8] = [58#8, 58#8] := rfl
    have hk : kindN (nmS p l) [58#8, 58#8] = none := by
      unfold kindN
      rw [hcol h]; rfl
    rw [hs, hk] at g
    exact g
end Go.Av.Lex
end
section
set_option linter.unusedSimpArgs false
set_option linter.unusedVariables false
open Go Go.Av Go.Proofs
namespace Go.Av.Lex
set_option maxHeartbeats 4000000 in
theorem lxlong_ct (b : BitVec 8) (m : Nat) (hm : m < 256) : Fn Tryd.prog 5 [.int .u8 (ub b), .int .u8 m] [.p (.bool true)] := by
  have e0 : IntKind.i64.wrap (m : Int) = m := wrap_i64 _ (by omega) (by omega)
  have e2 : IntKind.i64.wrap (1001 + (m : Int)) = ((1001 + m : Nat) : Int) := by rw [wrap_i64 _ (by omega) (by omega)]; simp
  generalize hp : 1001 + m = p at *
  refine Fn.of_body Tryd.func5 rfl ?_
  repeat (first | ((first | (with_reducible first | refine zP fun K_ hK_ => ?_ | refine zQ fun K_ hK_ => ?_ | refine zT ?_ | refine zU ?_ | refine zV ?_ | refine zW ?_ | refine zX ?_ | refine zY ?_) | ((with_reducible first | refine zR ?_ ?_ fun K_ hK_ => ?_ | refine zS ?_ ?_ fun K_ hK_ => ?_); (focus kernel_rfl); (focus kernel_rfl))); first | (simp (maxSteps := 1000000) (disch := refine hold_ ?_; first | (simp [-List.getD_eq_getElem?_getD]; done) | omega) [-List.getD_eq_getElem?_getD]; try first | (with_reducible refine zZ ?_) | subst hK_) | subst hK_) | (with_reducible first | refine zA ?_ | refine zB ?_ | refine zC ?_ | refine zD ?_ | refine zE ?_ | refine zF ?_ | refine zG ?_ | refine zH ?_ | refine zI ?_ | refine zJ ?_ | refine zK ?_ | refine zL ?_ | refine zM ?_ | refine zN ?_ | refine zO ?_) | ((with_reducible refine yG ?_ ?_); (focus decide)) | ((with_reducible refine yA ?_); refine yB rfl ?_; (with_reducible first | refine yC ?_ | refine yD ?_)))
  (refine callK_p ?_; simp (maxSteps := 1000000) (disch := refine hold_ ?_; first | (simp [-List.getD_eq_getElem?_getD]; done) | omega) [-List.getD_eq_getElem?_getD]; refine callK1_of (Fn.ct awake_ct Tryd.call7) ?_; (try simp (maxSteps := 1000000) (disch := refine hold_ ?_; first | (simp [-List.getD_eq_getElem?_getD]; done) | omega) [-List.getD_eq_getElem?_getD]); first | refine zZ ?_ | subst hK_)
  repeat (first | ((first | (with_reducible first | refine zP fun K_ hK_ => ?_ | refine zQ fun K_ hK_ => ?_ | refine zT ?_ | refine zU ?_ | refine zV ?_ | refine zW ?_ | refine zX ?_ | refine zY ?_) | ((with_reducible first | refine zR ?_ ?_ fun K_ hK_ => ?_ | refine zS ?_ ?_ fun K_ hK_ => ?_); (focus kernel_rfl); (focus kernel_rfl))); first | (simp (maxSteps := 1000000) (disch := refine hold_ ?_; first | (simp [e0, e2, -List.getD_eq_getElem?_getD]; done) | omega) [e0, e2, -List.getD_eq_getElem?_getD]; try first | (with_reducible refine zZ ?_) | subst hK_) | subst hK_) | (with_reducible first | refine zA ?_ | refine zB ?_ | refine zC ?_ | refine zD ?_ | refine zE ?_ | refine zF ?_ | refine zG ?_ | refine zH ?_ | refine zI ?_ | refine zJ ?_ | refine zK ?_ | refine zL ?_ | refine zM ?_ | refine zN ?_ | refine zO ?_) | ((with_reducible refine yG ?_ ?_); (focus decide)) | ((with_reducible refine yA ?_); refine yB rfl ?_; (with_reducible first | refine yC ?_ | refine yD ?_)))
  refine AW.nilRow 5 (bl []) 5 _ rfl rfl ?_
  refine AW.iter (true :: false :: false :: false :: false :: true :: false :: false :: false :: false :: false :: false :: true :: true :: false :: false :: false :: false :: false :: false :: false :: false :: false :: false :: false :: false :: false :: false :: false :: false :: false :: false :: false :: []) p (fun k => ⟨(.p (.int .u8 (ub b)) :: V.junk :: V.junk :: V.junk :: V.junk :: .row (bl (List.replicate k b)) 0 0 (k == 0) :: V.junk :: V.junk :: V.junk :: V.junk :: V.junk :: V.junk :: .p (.int .i64 p) :: .p (.int .i64 k) :: V.junk :: V.junk :: V.junk :: V.junk :: V.junk :: V.junk :: V.junk :: V.junk :: V.junk :: V.junk :: V.junk :: V.junk :: V.junk :: V.junk :: V.junk :: V.junk :: V.junk :: V.junk :: V.junk :: []), ⟨[], [(0, 0)]⟩⟩) ?_ ?_
  · simp (maxSteps := 1000000) (disch := refine hold_ ?_; first | (simp [-List.getD_eq_getElem?_getD]; done) | omega) [-List.getD_eq_getElem?_getD]
  intro k hk
  have e1 : IntKind.i64.wrap ((k : Int) + 1) = k + 1 := wrap_i64 _ (by omega) (by omega)
  repeat (first | ((first | (with_reducible first | refine zP fun K_ hK_ => ?_ | refine zQ fun K_ hK_ => ?_ | refine zT ?_ | refine zU ?_ | refine zV ?_ | refine zW ?_ | refine zX ?_ | refine zY ?_) | ((with_reducible first | refine zR ?_ ?_ fun K_ hK_ => ?_ | refine zS ?_ ?_ fun K_ hK_ => ?_); (focus kernel_rfl); (focus kernel_rfl))); first | (simp (maxSteps := 1000000) (disch := refine hold_ ?_; first | (simp [-List.getD_eq_getElem?_getD]; done) | omega) [-List.getD_eq_getElem?_getD]; try first | (with_reducible refine zZ ?_) | subst hK_) | subst hK_) | (with_reducible first | refine zA ?_ | refine zB ?_ | refine zC ?_ | refine zD ?_ | refine zE ?_ | refine zF ?_ | refine zG ?_ | refine zH ?_ | refine zI ?_ | refine zJ ?_ | refine zK ?_ | refine zL ?_ | refine zM ?_ | refine zN ?_ | refine zO ?_) | ((with_reducible refine yG ?_ ?_); (focus decide)) | ((with_reducible refine yA ?_); refine yB rfl ?_; (with_reducible first | refine yC ?_ | refine yD ?_)))
  first | refine AW.condD rfl (fun hc => ?_) (fun hc => ?_) | refine AW.cond rfl (fun hc => ?_) (fun hc => ?_)
  · have hk2 : k < p := by omega
    repeat (first | ((first | (with_reducible first | refine zP fun K_ hK_ => ?_ | refine zQ fun K_ hK_ => ?_ | refine zT ?_ | refine zU ?_ | refine zV ?_ | refine zW ?_ | refine zX ?_ | refine zY ?_) | ((with_reducible first | refine zR ?_ ?_ fun K_ hK_ => ?_ | refine zS ?_ ?_ fun K_ hK_ => ?_); (focus kernel_rfl); (focus kernel_rfl))); first | (simp (maxSteps := 1000000) (disch := refine hold_ ?_; first | (simp [e1, hk2, -List.getD_eq_getElem?_getD]; done) | omega) [e1, hk2, -List.getD_eq_getElem?_getD]; try first | (with_reducible refine zZ ?_) | subst hK_) | subst hK_) | (with_reducible first | refine zA ?_ | refine zB ?_ | refine zC ?_ | refine zD ?_ | refine zE ?_ | refine zF ?_ | refine zG ?_ | refine zH ?_ | refine zI ?_ | refine zJ ?_ | refine zK ?_ | refine zL ?_ | refine zM ?_ | refine zN ?_ | refine zO ?_) | ((with_reducible refine yG ?_ ?_); (focus decide)) | ((with_reducible refine yA ?_); refine yB rfl ?_; (with_reducible first | refine yC ?_ | refine yD ?_)))
    refine ⟨hk2, ?_⟩
    simp (maxSteps := 1000000) (disch := refine hold_ ?_; first | (simp [List.replicate_succ', -List.getD_eq_getElem?_getD]; done) | omega) [List.replicate_succ', -List.getD_eq_getElem?_getD]
  · have hk2 : k = p := by omega
    subst hk2
    have hl : (List.replicate k b).length = k := by simp
    have k8 : Fn Tryd.prog 8 [.str (txt (List.replicate k b))] [.p (.sl (.vals 1 []) true), .p (.int .i64 3)] := by
      have h := lex_ct (List.replicate k b) (by omega)
      have hL : lexL (List.replicate k b) = (3, [], true) := by unfold lexL; rw [if_pos (by omega)]
      rw [hL] at h; exact h
    generalize List.replicate k b = c at *
    repeat (first | ((first | (with_reducible first | refine zP fun K_ hK_ => ?_ | refine zQ fun K_ hK_ => ?_ | refine zT ?_ | refine zU ?_ | refine zV ?_ | refine zW ?_ | refine zX ?_ | refine zY ?_) | ((with_reducible first | refine zR ?_ ?_ fun K_ hK_ => ?_ | refine zS ?_ ?_ fun K_ hK_ => ?_); (focus kernel_rfl); (focus kernel_rfl))); first | (simp (maxSteps := 1000000) (disch := refine hold_ ?_; first | (simp [hl, -List.getD_eq_getElem?_getD]; done) | omega) [hl, -List.getD_eq_getElem?_getD]; try first | (with_reducible refine zZ ?_) | subst hK_) | subst hK_) | (with_reducible first | refine zA ?_ | refine zB ?_ | refine zC ?_ | refine zD ?_ | refine zE ?_ | refine zF ?_ | refine zG ?_ | refine zH ?_ | refine zI ?_ | refine zJ ?_ | refine zK ?_ | refine zL ?_ | refine zM ?_ | refine zN ?_ | refine zO ?_) | ((with_reducible refine yG ?_ ?_); (focus decide)) | ((with_reducible refine yA ?_); refine yB rfl ?_; (with_reducible first | refine yC ?_ | refine yD ?_)))
    repeat (first | ((with_reducible first | refine callK_at 8 ?_); refine callK_p ?_; simp (maxSteps := 1000000) (disch := refine hold_ ?_; first | (simp [hl, -List.getD_eq_getElem?_getD]; done) | omega) [hl, -List.getD_eq_getElem?_getD]; (first | refine callK1_of (Fn.ct k8 Tryd.call8) ?_); (try simp (maxSteps := 1000000) (disch := refine hold_ ?_; first | (simp [hl, -List.getD_eq_getElem?_getD]; done) | omega) [hl, -List.getD_eq_getElem?_getD]); first | (with_reducible refine zZ ?_) | subst hK_) | ((first | (with_reducible first | refine zP fun K_ hK_ => ?_ | refine zQ fun K_ hK_ => ?_ | refine zT ?_ | refine zU ?_ | refine zV ?_ | refine zW ?_ | refine zX ?_ | refine zY ?_) | ((with_reducible first | refine zR ?_ ?_ fun K_ hK_ => ?_ | refine zS ?_ ?_ fun K_ hK_ => ?_); (focus kernel_rfl); (focus kernel_rfl))); first | (simp (maxSteps := 1000000) (disch := refine hold_ ?_; first | (simp [hl, -List.getD_eq_getElem?_getD]; done) | omega) [hl, -List.getD_eq_getElem?_getD]; try first | (with_reducible refine zZ ?_) | subst hK_) | subst hK_) | (with_reducible first | refine zA ?_ | refine zB ?_ | refine zC ?_ | refine zD ?_ | refine zE ?_ | refine zF ?_ | refine zG ?_ | refine zH ?_ | refine zI ?_ | refine zJ ?_ | refine zK ?_ | refine zL ?_ | refine zM ?_ | refine zN ?_ | refine zO ?_) | ((with_reducible refine yG ?_ ?_); (focus decide)) | ((with_reducible refine yA ?_); refine yB rfl ?_; (with_reducible first | refine yC ?_ | refine yD ?_)))
    all_goals simp (maxSteps := 1000000) (disch := refine hold_ ?_; first | (simp [-List.getD_eq_getElem?_getD]; done) | omega) [-List.getD_eq_getElem?_getD]
theorem wf_u8 {n : Int} (w : (Lit.int .u8 n).wf = true) : 0 ≤ n ∧ n < 256 := by
  have e : (Lit.int .u8 n).wf = (decide (0 ≤ n) && decide (n ≤ 255)) := rfl
  rw [e] at w; simp at w; omega
theorem long_law (b : Int) (wb : (Lit.int .u8 b).wf = true) (x : Int) (wx : (Lit.int .u8 x).wf = true) : Fn Tryd.prog 5 [.int .u8 b, .int .u8 x] [.p (.bool true)] := by
  have hx := wf_u8 wx
  obtain ⟨m, rfl⟩ := Int.eq_ofNat_of_zero_le hx.1
  have h := lxlong_ct (BitVec.ofInt 8 b) m (by omega)
  have hb := wf_u8 wb
  have e : ub (BitVec.ofInt 8 b) = b := by simp [ub, BitVec.toNat_ofInt]; omega
  rw [e] at h; exact h
end Go.Av.Lex
end
section
set_option linter.unusedSimpArgs false
set_option linter.unusedVariables false
open Go Go.Av Go.Proofs
namespace Go.Av.Lex
set_option maxHeartbeats 16000000 in
set_option maxRecDepth 8000 in
theorem names_ct (p l : List (BitVec 8)) (hp : p.length ≤ 200000000000000) (hl : l.length ≤ 200000000000000) : Fn Tryd.prog 6 [.str (txt p), .str (txt l)] [.p (.bool true)] := by
  have sp := txt_size p
  have sl := txt_size l
  have w : IntKind.i64.wrap ((p.length : Int) + l.length) = p.length + l.length := wrap_i64 _ (by omega) (by omega)
  have hq : strBin .neq (txt p) (ByteArray.mk #[]) = some (.bool (!(p == []))) := by rw [txt_nil, str_neq_txt]
  by_cases h1 : p.length + l.length ≤ 300
  · have hz : ¬ (300 : Int) < p.length + l.length := by omega
    have kp := ris_ct p (by omega)
    have kl := ris_ct l (by omega)
    cases hnl : nameB l with
    | false =>
      rw [hnl] at kl
      refine Fn.of_body Tryd.func6 rfl ?_
      repeat (first | ((with_reducible first | refine callK_at 7 ?_ | refine callK_at 10 ?_); refine callK_p ?_; simp (maxSteps := 1000000) (disch := refine hold_ ?_; first | (simp [sp, sl, w, hz, -List.getD_eq_getElem?_getD]; done) | omega) [sp, sl, w, hz, -List.getD_eq_getElem?_getD]; (first | refine callK1_of (Fn.ct awake_ct Tryd.call7) ?_ | refine callK1_of (Fn.ct kl Tryd.call10) ?_ | refine callK1_of (Fn.ct awake_ct Tryd.call7) ?_); (try simp (maxSteps := 1000000) (disch := refine hold_ ?_; first | (simp [sp, sl, w, hz, -List.getD_eq_getElem?_getD]; done) | omega) [sp, sl, w, hz, -List.getD_eq_getElem?_getD]); first | (with_reducible refine zZ ?_) | subst hK_) | ((first | (with_reducible first | refine zP fun K_ hK_ => ?_ | refine zQ fun K_ hK_ => ?_ | refine zT ?_ | refine zU ?_ | refine zV ?_ | refine zW ?_ | refine zX ?_ | refine zY ?_) | ((with_reducible first | refine zR ?_ ?_ fun K_ hK_ => ?_ | refine zS ?_ ?_ fun K_ hK_ => ?_); (focus kernel_rfl); (focus kernel_rfl))); first | (simp (maxSteps := 1000000) (disch := refine hold_ ?_; first | (simp [sp, sl, w, hz, -List.getD_eq_getElem?_getD]; done) | omega) [sp, sl, w, hz, -List.getD_eq_getElem?_getD]; try first | (with_reducible refine zZ ?_) | subst hK_) | subst hK_) | (with_reducible first | refine zA ?_ | refine zB ?_ | refine zC ?_ | refine zD ?_ | refine zE ?_ | refine zF ?_ | refine zG ?_ | refine zH ?_ | refine zI ?_ | refine zJ ?_ | refine zK ?_ | refine zL ?_ | refine zM ?_ | refine zN ?_ | refine zO ?_) | ((with_reducible refine yG ?_ ?_); (focus decide)) | ((with_reducible refine yA ?_); refine yB rfl ?_; (with_reducible first | refine yC ?_ | refine yD ?_)))
      all_goals first | done | simp (maxSteps := 1000000) (disch := refine hold_ ?_; first | (simp [-List.getD_eq_getElem?_getD]; done) | omega) [-List.getD_eq_getElem?_getD]
    | true =>
      rw [hnl] at kl
      have main : (p = [] ∨ nameB p = true) → _ := fun h => lex_name h hnl h1
      have add1 : strBin .add (txt (nmS p l)) (ByteArray.mk #[32, 40]) = some (.str (txt (nmS p l ++ [32#8, 40#8]))) := txt_add _ [32#8, 40#8] (by unfold nmS; split <;> simp at * <;> omega)
      have add2 : strBin .add (txt (nmS p l)) (ByteArray.mk #[58, 58]) = some (.str (txt (nmS p l ++ [58#8, 58#8]))) := txt_add _ [58#8, 58#8] (by unfold nmS; split <;> simp at * <;> omega)
      have ne : strBin .neq (txt (nmS p l)) (txt (nmS p l)) = some (.bool false) := by rw [str_neq_txt]; simp
      have be : (txt (nmS p l) == txt (nmS p l)) = true := by rw [txt_beq']; simp
      have len1 : (nmS p l ++ [32#8, 40#8]).length ≤ 4000000 := by unfold nmS; split <;> simp <;> omega
      have len2 : (nmS p l ++ [58#8, 58#8]).length ≤ 4000000 := by unfold nmS; split <;> simp <;> omega
      have len0 : (nmS p l).length ≤ 4000000 := by rw [List.length_append] at len1; omega
      by_cases hpe : p = []
      · subst hpe
        obtain ⟨m1, ⟨k, hk, m2⟩, m3, _⟩ := main (.inl rfl)
        have m3 := m3 rfl
        have k8a := lex_ct (nmS [] l) len0
        have k8b := lex_ct (nmS [] l ++ [32#8, 40#8]) len1
        have k8c := lex_ct (nmS [] l ++ [58#8, 58#8]) len2
        rw [m1] at k8a; rw [m2] at k8b; rw [m3] at k8c
        change Fn Tryd.prog 8 _ [.row (.vals 3 [.agg (.vals 1 [.int .i64 9, .str (txt (nmS [] l)), .int .i64 0])]) 0 0 false, .p (.int .i64 0)] 1 at k8a
        change Fn Tryd.prog 8 _ [.row (.vals 3 [.agg (.vals 1 [.int .i64 k, .str (txt (nmS [] l)), .int .i64 0]), .agg (.vals 1 [.int .i64 0, .str (txt [40#8]), .int .i64 0])]) 0 0 false, .p (.int .i64 0)] 1 at k8b
        change Fn Tryd.prog 8 _ [.row (.vals 3 [.agg (.vals 1 [.int .i64 8, .str (txt (nmS [] l)), .int .i64 0]), .agg (.vals 1 [.int .i64 0, .str (txt [58#8, 58#8]), .int .i64 0])]) 0 0 false, .p (.int .i64 0)] 1 at k8c
        have el : nmS [] l = l := by unfold nmS; rw [if_pos rfl]
        rw [el] at k8a k8b k8c add1 add2 ne be
        have w0 : IntKind.i64.wrap (l.length : Int) = l.length := wrap_i64 _ (by omega) (by simp at h1; omega)
        have hz0 : ¬ (300 : Int) < l.length := by simp at h1; omega
        have hq0 : strBin .neq (txt []) (ByteArray.mk #[]) = some (.bool false) := hq
        have hk2 : k = 6 ∨ k = 7 := by rcases hk with rfl | ⟨rfl, _⟩ <;> simp
        clear main m1 m2 m3 hq hk
        generalize txt (l ++ [32#8, 40#8]) = X1 at *
        generalize txt (l ++ [58#8, 58#8]) = X2 at *
        generalize txt l = X0 at *
        generalize txt ([] : List (BitVec 8)) = E0 at *
        rcases hk2 with rfl | rfl
        · refine Fn.of_body Tryd.func6 rfl ?_
          repeat (first | ((with_reducible first | refine callK_at 7 ?_ | refine callK_at 10 ?_ | refine callK_at 8 ?_); refine callK_p ?_; simp (maxSteps := 1000000) (disch := refine hold_ ?_; first | (simp [sp, sl, w0, hz0, hq0, add1, add2, ne, be, -List.getD_eq_getElem?_getD]; done) | omega) [sp, sl, w0, hz0, hq0, add1, add2, ne, be, -List.getD_eq_getElem?_getD]; (first | refine callK1_of (Fn.ct awake_ct Tryd.call7) ?_ | refine callK1_of (Fn.ct kl Tryd.call10) ?_ | refine callK1_of (Fn.ct k8a Tryd.call8) ?_ | refine callK1_of (Fn.ct k8b Tryd.call8) ?_ | refine callK1_of (Fn.ct k8c Tryd.call8) ?_); (try simp (maxSteps := 1000000) (disch := refine hold_ ?_; first | (simp [sp, sl, w0, hz0, hq0, add1, add2, ne, be, -List.getD_eq_getElem?_getD]; done) | omega) [sp, sl, w0, hz0, hq0, add1, add2, ne, be, -List.getD_eq_getElem?_getD]); first | (with_reducible refine zZ ?_) | subst hK_) | ((first | (with_reducible first | refine zP fun K_ hK_ => ?_ | refine zQ fun K_ hK_ => ?_ | refine zT ?_ | refine zU ?_ | refine zV ?_ | refine zW ?_ | refine zX ?_ | refine zY ?_) | ((with_reducible first | refine zR ?_ ?_ fun K_ hK_ => ?_ | refine zS ?_ ?_ fun K_ hK_ => ?_); (focus kernel_rfl); (focus kernel_rfl))); first | (simp (maxSteps := 1000000) (disch := refine hold_ ?_; first | (simp [sp, sl, w0, hz0, hq0, add1, add2, ne, be, -List.getD_eq_getElem?_getD]; done) | omega) [sp, sl, w0, hz0, hq0, add1, add2, ne, be, -List.getD_eq_getElem?_getD]; try first | (with_reducible refine zZ ?_) | subst hK_) | subst hK_) | (with_reducible first | refine zA ?_ | refine zB ?_ | refine zC ?_ | refine zD ?_ | refine zE ?_ | refine zF ?_ | refine zG ?_ | refine zH ?_ | refine zI ?_ | refine zJ ?_ | refine zK ?_ | refine zL ?_ | refine zM ?_ | refine zN ?_ | refine zO ?_) | ((with_reducible refine yG ?_ ?_); (focus decide)) | ((with_reducible refine yA ?_); refine yB rfl ?_; (with_reducible first | refine yC ?_ | refine yD ?_)))
          all_goals first | done | simp (maxSteps := 1000000) (disch := refine hold_ ?_; first | (simp [-List.getD_eq_getElem?_getD]; done) | omega) [-List.getD_eq_getElem?_getD]
        · refine Fn.of_body Tryd.func6 rfl ?_
          repeat (first | ((with_reducible first | refine callK_at 7 ?_ | refine callK_at 10 ?_ | refine callK_at 8 ?_); refine callK_p ?_; simp (maxSteps := 1000000) (disch := refine hold_ ?_; first | (simp [sp, sl, w0, hz0, hq0, add1, add2, ne, be, -List.getD_eq_getElem?_getD]; done) | omega) [sp, sl, w0, hz0, hq0, add1, add2, ne, be, -List.getD_eq_getElem?_getD]; (first | refine callK1_of (Fn.ct awake_ct Tryd.call7) ?_ | refine callK1_of (Fn.ct kl Tryd.call10) ?_ | refine callK1_of (Fn.ct k8a Tryd.call8) ?_ | refine callK1_of (Fn.ct k8b Tryd.call8) ?_ | refine callK1_of (Fn.ct k8c Tryd.call8) ?_); (try simp (maxSteps := 1000000) (disch := refine hold_ ?_; first | (simp [sp, sl, w0, hz0, hq0, add1, add2, ne, be, -List.getD_eq_getElem?_getD]; done) | omega) [sp, sl, w0, hz0, hq0, add1, add2, ne, be, -List.getD_eq_getElem?_getD]); first | (with_reducible refine zZ ?_) | subst hK_) | ((first | (with_reducible first | refine zP fun K_ hK_ => ?_ | refine zQ fun K_ hK_ => ?_ | refine zT ?_ | refine zU ?_ | refine zV ?_ | refine zW ?_ | refine zX ?_ | refine zY ?_) | ((with_reducible first | refine zR ?_ ?_ fun K_ hK_ => ?_ | refine zS ?_ ?_ fun K_ hK_ => ?_); (focus kernel_rfl); (focus kernel_rfl))); first | (simp (maxSteps := 1000000) (disch := refine hold_ ?_; first | (simp [sp, sl, w0, hz0, hq0, add1, add2, ne, be, -List.getD_eq_getElem?_getD]; done) | omega) [sp, sl, w0, hz0, hq0, add1, add2, ne, be, -List.getD_eq_getElem?_getD]; try first | (with_reducible refine zZ ?_) | subst hK_) | subst hK_) | (with_reducible first | refine zA ?_ | refine zB ?_ | refine zC ?_ | refine zD ?_ | refine zE ?_ | refine zF ?_ | refine zG ?_ | refine zH ?_ | refine zI ?_ | refine zJ ?_ | refine zK ?_ | refine zL ?_ | refine zM ?_ | refine zN ?_ | refine zO ?_) | ((with_reducible refine yG ?_ ?_); (focus decide)) | ((with_reducible refine yA ?_); refine yB rfl ?_; (with_reducible first | refine yC ?_ | refine yD ?_)))
          all_goals first | done | simp (maxSteps := 1000000) (disch := refine hold_ ?_; first | (simp [-List.getD_eq_getElem?_getD]; done) | omega) [-List.getD_eq_getElem?_getD]
      · have hb : (p == []) = false := by cases p with | nil => exact absurd rfl hpe | cons c t => rfl
        rw [hb] at hq
        cases hnp : nameB p with
        | false =>
          rw [hnp] at kp
          clear main add1 add2 ne be
          refine Fn.of_body Tryd.func6 rfl ?_
          repeat (first | ((with_reducible first | refine callK_at 7 ?_ | refine callK_at 10 ?_); refine callK_p ?_; simp (maxSteps := 1000000) (disch := refine hold_ ?_; first | (simp [sp, sl, w, hz, hq, -List.getD_eq_getElem?_getD]; done) | omega) [sp, sl, w, hz, hq, -List.getD_eq_getElem?_getD]; (first | refine callK1_of (Fn.ct awake_ct Tryd.call7) ?_ | refine callK1_of (Fn.ct kl Tryd.call10) ?_ | refine callK1_of (Fn.ct kp Tryd.call10) ?_ | refine callK1_of (Fn.ct awake_ct Tryd.call7) ?_); (try simp (maxSteps := 1000000) (disch := refine hold_ ?_; first | (simp [sp, sl, w, hz, hq, -List.getD_eq_getElem?_getD]; done) | omega) [sp, sl, w, hz, hq, -List.getD_eq_getElem?_getD]); first | (with_reducible refine zZ ?_) | subst hK_) | ((first | (with_reducible first | refine zP fun K_ hK_ => ?_ | refine zQ fun K_ hK_ => ?_ | refine zT ?_ | refine zU ?_ | refine zV ?_ | refine zW ?_ | refine zX ?_ | refine zY ?_) | ((with_reducible first | refine zR ?_ ?_ fun K_ hK_ => ?_ | refine zS ?_ ?_ fun K_ hK_ => ?_); (focus kernel_rfl); (focus kernel_rfl))); first | (simp (maxSteps := 1000000) (disch := refine hold_ ?_; first | (simp [sp, sl, w, hz, hq, -List.getD_eq_getElem?_getD]; done) | omega) [sp, sl, w, hz, hq, -List.getD_eq_getElem?_getD]; try first | (with_reducible refine zZ ?_) | subst hK_) | subst hK_) | (with_reducible first | refine zA ?_ | refine zB ?_ | refine zC ?_ | refine zD ?_ | refine zE ?_ | refine zF ?_ | refine zG ?_ | refine zH ?_ | refine zI ?_ | refine zJ ?_ | refine zK ?_ | refine zL ?_ | refine zM ?_ | refine zN ?_ | refine zO ?_) | ((with_reducible refine yG ?_ ?_); (focus decide)) | ((with_reducible refine yA ?_); refine yB rfl ?_; (with_reducible first | refine yC ?_ | refine yD ?_)))
          all_goals first | done | simp (maxSteps := 1000000) (disch := refine hold_ ?_; first | (simp [-List.getD_eq_getElem?_getD]; done) | omega) [-List.getD_eq_getElem?_getD]
        | true =>
          rw [hnp] at kp
          obtain ⟨m1, ⟨k, hk, m2⟩, _, m3⟩ := main (.inr hnp)
          have m3 := m3 hpe
          have hk6 : k = 6 := by rcases hk with rfl | ⟨_, h⟩; rfl; exact absurd h hpe
          subst hk6
          have k8a := lex_ct (nmS p l) len0
          have k8b := lex_ct (nmS p l ++ [32#8, 40#8]) len1
          have k8c := lex_ct (nmS p l ++ [58#8, 58#8]) len2
          rw [m1] at k8a; rw [m2] at k8b; rw [m3] at k8c
          change Fn Tryd.prog 8 _ [.row (.vals 3 [.agg (.vals 1 [.int .i64 9, .str (txt (nmS p l)), .int .i64 0])]) 0 0 false, .p (.int .i64 0)] 1 at k8a
          change Fn Tryd.prog 8 _ [.row (.vals 3 [.agg (.vals 1 [.int .i64 6, .str (txt (nmS p l)), .int .i64 0]), .agg (.vals 1 [.int .i64 0, .str (txt [40#8]), .int .i64 0])]) 0 0 false, .p (.int .i64 0)] 1 at k8b
          change Fn Tryd.prog 8 _ [.p (.sl (.vals 1 []) true), .p (.int .i64 4)] 0 at k8c
          have el : nmS p l = p ++ 58#8 :: l := by unfold nmS; rw [if_neg hpe]
          have a0 : strBin .add (txt p) (ByteArray.mk #[58]) = some (.str (txt (p ++ [58#8]))) := txt_add p [58#8] (by simp; omega)
          have a1 : strBin .add (txt (p ++ [58#8])) (txt l) = some (.str (txt (nmS p l))) := by
            have := txt_add (p ++ [58#8]) l (by simp; omega)
            rw [el]; simpa using this
          clear main m1 m2 m3 hk
          generalize txt (nmS p l ++ [32#8, 40#8]) = X1 at *
          generalize txt (nmS p l ++ [58#8, 58#8]) = X2 at *
          generalize txt (nmS p l) = X0 at *
          generalize txt (p ++ [58#8]) = X3 at *
          refine Fn.of_body Tryd.func6 rfl ?_
          repeat (first | ((with_reducible first | refine callK_at 7 ?_ | refine callK_at 10 ?_ | refine callK_at 8 ?_); refine callK_p ?_; simp (maxSteps := 1000000) (disch := refine hold_ ?_; first | (simp [sp, sl, w, hz, hq, a0, a1, add1, add2, ne, be, -List.getD_eq_getElem?_getD]; done) | omega) [sp, sl, w, hz, hq, a0, a1, add1, add2, ne, be, -List.getD_eq_getElem?_getD]; (first | refine callK1_of (Fn.ct awake_ct Tryd.call7) ?_ | refine callK1_of (Fn.ct kl Tryd.call10) ?_ | refine callK1_of (Fn.ct kp Tryd.call10) ?_ | refine callK1_of (Fn.ct k8a Tryd.call8) ?_ | refine callK1_of (Fn.ct k8b Tryd.call8) ?_ | refine callK1_of (Fn.ct k8c Tryd.call8) ?_); (try simp (maxSteps := 1000000) (disch := refine hold_ ?_; first | (simp [sp, sl, w, hz, hq, a0, a1, add1, add2, ne, be, -List.getD_eq_getElem?_getD]; done) | omega) [sp, sl, w, hz, hq, a0, a1, add1, add2, ne, be, -List.getD_eq_getElem?_getD]); first | (with_reducible refine zZ ?_) | subst hK_) | ((first | (with_reducible first | refine zP fun K_ hK_ => ?_ | refine zQ fun K_ hK_ => ?_ | refine zT ?_ | refine zU ?_ | refine zV ?_ | refine zW ?_ | refine zX ?_ | refine zY ?_) | ((with_reducible first | refine zR ?_ ?_ fun K_ hK_ => ?_ | refine zS ?_ ?_ fun K_ hK_ => ?_); (focus kernel_rfl); (focus kernel_rfl))); first | (simp (maxSteps := 1000000) (disch := refine hold_ ?_; first | (simp [sp, sl, w, hz, hq, a0, a1, add1, add2, ne, be, -List.getD_eq_getElem?_getD]; done) | omega) [sp, sl, w, hz, hq, a0, a1, add1, add2, ne, be, -List.getD_eq_getElem?_getD]; try first | (with_reducible refine zZ ?_) | subst hK_) | subst hK_) | (with_reducible first | refine zA ?_ | refine zB ?_ | refine zC ?_ | refine zD ?_ | refine zE ?_ | refine zF ?_ | refine zG ?_ | refine zH ?_ | refine zI ?_ | refine zJ ?_ | refine zK ?_ | refine zL ?_ | refine zM ?_ | refine zN ?_ | refine zO ?_) | ((with_reducible refine yG ?_ ?_); (focus decide)) | ((with_reducible refine yA ?_); refine yB rfl ?_; (with_reducible first | refine yC ?_ | refine yD ?_)))
          all_goals first | done | simp (maxSteps := 1000000) (disch := refine hold_ ?_; first | (simp [-List.getD_eq_getElem?_getD]; done) | omega) [-List.getD_eq_getElem?_getD]
  · have hz : (300 : Int) < p.length + l.length := by omega
    refine Fn.of_body Tryd.func6 rfl ?_
    repeat (first | ((with_reducible first | refine callK_at 7 ?_); refine callK_p ?_; simp (maxSteps := 1000000) (disch := refine hold_ ?_; first | (simp [sp, sl, w, hz, -List.getD_eq_getElem?_getD]; done) | omega) [sp, sl, w, hz, -List.getD_eq_getElem?_getD]; (first | refine callK1_of (Fn.ct awake_ct Tryd.call7) ?_ | refine callK1_of (Fn.ct awake_ct Tryd.call7) ?_); (try simp (maxSteps := 1000000) (disch := refine hold_ ?_; first | (simp [sp, sl, w, hz, -List.getD_eq_getElem?_getD]; done) | omega) [sp, sl, w, hz, -List.getD_eq_getElem?_getD]); first | (with_reducible refine zZ ?_) | subst hK_) | ((first | (with_reducible first | refine zP fun K_ hK_ => ?_ | refine zQ fun K_ hK_ => ?_ | refine zT ?_ | refine zU ?_ | refine zV ?_ | refine zW ?_ | refine zX ?_ | refine zY ?_) | ((with_reducible first | refine zR ?_ ?_ fun K_ hK_ => ?_ | refine zS ?_ ?_ fun K_ hK_ => ?_); (focus kernel_rfl); (focus kernel_rfl))); first | (simp (maxSteps := 1000000) (disch := refine hold_ ?_; first | (simp [sp, sl, w, hz, -List.getD_eq_getElem?_getD]; done) | omega) [sp, sl, w, hz, -List.getD_eq_getElem?_getD]; try first | (with_reducible refine zZ ?_) | subst hK_) | subst hK_) | (with_reducible first | refine zA ?_ | refine zB ?_ | refine zC ?_ | refine zD ?_ | refine zE ?_ | refine zF ?_ | refine zG ?_ | refine zH ?_ | refine zI ?_ | refine zJ ?_ | refine zK ?_ | refine zL ?_ | refine zM ?_ | refine zN ?_ | refine zO ?_) | ((with_reducible refine yG ?_ ?_); (focus decide)) | ((with_reducible refine yA ?_); refine yB rfl ?_; (with_reducible first | refine yC ?_ | refine yD ?_)))
    all_goals first | done | simp (maxSteps := 1000000) (disch := refine hold_ ?_; first | (simp [-List.getD_eq_getElem?_getD]; done) | omega) [-List.getD_eq_getElem?_getD]
theorem names_law (s : ByteArray) (h : s.size ≤ reachBytes) (t : ByteArray) (ht : t.size ≤ reachBytes) : Fn Tryd.prog 6 [.str s, .str t] [.p (.bool true)] := by
  obtain ⟨p, rfl, hp⟩ := txt_room h
  obtain ⟨l, rfl, hl⟩ := txt_room ht
  exact names_ct p l hp hl
end Go.Av.Lex
end
