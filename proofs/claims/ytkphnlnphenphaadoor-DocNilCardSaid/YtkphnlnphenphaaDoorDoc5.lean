/- The walks of this seat's functions, and what is known of what they reckon (Doc5). Conditions: those that each theorem names. -/
import Derived.Test.YtkphnlnphenphaaDoorDoc4
import Derived.Lib.Bytealg
section
set_option linter.unusedSimpArgs false
set_option linter.unusedVariables false
set_option linter.unusedSectionVars false
open Go Go.Av Go.Proofs
namespace Go.Av.Doc
variable [ML]
set_option maxHeartbeats 40000000 in
set_option maxRecDepth 8000 in
theorem stands_ct (r : Int) : Fn Tryd.prog 77 [.int .i32 r] [.p (.bool (staB r))] := by
  have k := in_ct r false staL (by decide)
  have hsp : spR staL = .vals 2 [.agg (.vals 1 [.int .i32 48, .int .i32 57]), .agg (.vals 1 [.int .i32 768, .int .i32 879]), .agg (.vals 1 [.int .i32 8255, .int .i32 8256])] := rfl
  rw [hsp] at k
  have kb := begins_ct r
  unfold staB
  generalize begB r = B at *
  generalize inB r staL = X at *
  refine Fn.of_body Tryd.func77 rfl ?_
  cases h1 : r == 45 <;> cases h2 : r == 46 <;> cases h3 : r == 183 <;> cases B
  all_goals
    repeat (first | ((first | refine callK_at 76 ?_ | refine callK_at 85 ?_); refine callK_p ?_; simp (maxSteps := 1000000) (disch := refine hold_ ?_; first | (simp [h1, h2, h3, -List.getD_eq_getElem?_getD]; done) | omega) [h1, h2, h3, -List.getD_eq_getElem?_getD]; (first | ((with_reducible refine k1_at 76 ?_); refine callK1_of (Fn.ct kb Tryd.call76) ?_) | ((with_reducible refine k1_at 85 ?_); refine callK1_of (Fn.ct k Tryd.call85) ?_)); (try simp (maxSteps := 1000000) (disch := refine hold_ ?_; first | (simp [h1, h2, h3, -List.getD_eq_getElem?_getD]; done) | omega) [h1, h2, h3, -List.getD_eq_getElem?_getD]); try first | refine zZ ?_ | subst hK_) | ((first | refine zP fun K_ hK_ => ?_ | refine zQ fun K_ hK_ => ?_ | refine zR (by kernel_rfl) (by kernel_rfl) fun K_ hK_ => ?_ | refine zS (by kernel_rfl) (by kernel_rfl) fun K_ hK_ => ?_ | refine zT ?_); first | (simp (maxSteps := 1000000) (disch := refine hold_ ?_; first | (simp [h1, h2, h3, -List.getD_eq_getElem?_getD]; done) | omega) [h1, h2, h3, -List.getD_eq_getElem?_getD]; try first | refine zZ ?_ | subst hK_) | subst hK_) | refine zA ?_ | refine zB ?_ | refine zC ?_ | refine zD ?_ | refine zE ?_ | refine zF ?_ | refine zG ?_ | refine zH ?_ | refine zI ?_ | refine zJ ?_ | refine zK ?_ | refine zL ?_ | refine zM ?_ | refine zN ?_ | refine zO ?_ | refine yG (by decide) ?_ | refine AW.condT rfl ?_ | refine AW.condF rfl ?_)
    simp (maxSteps := 1000000) (disch := refine hold_ ?_; first | (simp [h1, h2, h3, -List.getD_eq_getElem?_getD]; done) | omega) [h1, h2, h3, -List.getD_eq_getElem?_getD]
end Go.Av.Doc
end
section
set_option linter.unusedSimpArgs false
set_option linter.unusedVariables false
set_option linter.unusedSectionVars false
open Go Go.Av Go.Proofs
namespace Go.Av.Doc
variable [ML]
end Go.Av.Doc
end
section
set_option linter.unusedSimpArgs false
set_option linter.unusedVariables false
set_option linter.unusedSectionVars false
open Go Go.Av Go.Proofs
namespace Go.Av.Doc
variable [ML]
theorem first_not (p : Int → Bool) : ∀ (l : List Int), ((∀ k, k < l.length → p (l.getD k 0) = true) ∧ l.all p = true) ∨ ((∃ n, n < l.length ∧ p (l.getD n 0) = false ∧ ∀ k, k < n → p (l.getD k 0) = true) ∧ l.all p = false)
  | [] => .inl ⟨fun k hk => by simp at hk, rfl⟩
  | r :: l => by
    by_cases hr : p r = true
    · rcases first_not p l with ⟨h, ha⟩ | ⟨⟨n, h1, h2, h3⟩, ha⟩
      · left
        refine ⟨fun k hk => ?_, by simp [hr, ha]⟩
        cases k with
        | zero => simpa using hr
        | succ k => simpa using h k (by simpa using hk)
      · right
        refine ⟨⟨n + 1, by simpa using h1, by simpa using h2, fun k hk => ?_⟩, by simp [ha]⟩
        cases k with
        | zero => simpa using hr
        | succ k => simpa using h3 k (by omega)
    · right
      exact ⟨⟨0, by simp, by simpa using hr, fun k hk => by omega⟩, by simp [hr]⟩
def nameC : List Int → Bool
  | [] => false
  | r :: t => begB r && (r :: t).all staB
def nameB (l : List (BitVec 8)) : Bool := match charsL l with
  | some c => nameC c
  | none => false
set_option maxHeartbeats 8000000 in
theorem is_ct (l : List (BitVec 8)) (hl : l.length ≤ 4000000) : Fn Tryd.prog 55 [.str (txt l)] [.p (.bool (nameB l))] := by
  cases hc : charsL l with
  | none =>
    have hn : nameB l = false := by unfold nameB; rw [hc]
    have k21 := uchars_bad false l hl hc
    rw [hn]
    refine Fn.of_body Tryd.func55 rfl ?_
    repeat (first | ((first | refine zP fun K_ hK_ => ?_ | refine zQ fun K_ hK_ => ?_ | refine zR (by kernel_rfl) (by kernel_rfl) fun K_ hK_ => ?_ | refine zS (by kernel_rfl) (by kernel_rfl) fun K_ hK_ => ?_ | refine zT ?_); first | (simp (maxSteps := 1000000) (disch := refine hold_ ?_; first | (simp [txt_bytes, txt_size, -List.getD_eq_getElem?_getD]; done) | omega) [txt_bytes, txt_size, -List.getD_eq_getElem?_getD]; try first | refine zZ ?_ | subst hK_) | subst hK_) | refine zA ?_ | refine zB ?_ | refine zC ?_ | refine zD ?_ | refine zE ?_ | refine zF ?_ | refine zG ?_ | refine zH ?_ | refine zI ?_ | refine zJ ?_ | refine zK ?_ | refine zL ?_ | refine zM ?_ | refine zN ?_ | refine zO ?_ | refine yG (by decide) ?_ | refine AW.condT rfl ?_ | refine AW.condF rfl ?_)
    (refine callK_p ?_; simp (maxSteps := 1000000) (disch := refine hold_ ?_; first | (simp [txt_bytes, -List.getD_eq_getElem?_getD]; done) | omega) [txt_bytes, -List.getD_eq_getElem?_getD]; refine callK1_of (Fn.ct k21 Tryd.call75) ?_; (try simp (maxSteps := 1000000) (disch := refine hold_ ?_; first | (simp [txt_bytes, -List.getD_eq_getElem?_getD]; done) | omega) [txt_bytes, -List.getD_eq_getElem?_getD]); first | refine zZ ?_ | subst hK_)
    repeat (first | ((first | refine zP fun K_ hK_ => ?_ | refine zQ fun K_ hK_ => ?_ | refine zR (by kernel_rfl) (by kernel_rfl) fun K_ hK_ => ?_ | refine zS (by kernel_rfl) (by kernel_rfl) fun K_ hK_ => ?_ | refine zT ?_); first | (simp (maxSteps := 1000000) (disch := refine hold_ ?_; first | (simp [-List.getD_eq_getElem?_getD]; done) | omega) [-List.getD_eq_getElem?_getD]; try first | refine zZ ?_ | subst hK_) | subst hK_) | refine zA ?_ | refine zB ?_ | refine zC ?_ | refine zD ?_ | refine zE ?_ | refine zF ?_ | refine zG ?_ | refine zH ?_ | refine zI ?_ | refine zJ ?_ | refine zK ?_ | refine zL ?_ | refine zM ?_ | refine zN ?_ | refine zO ?_ | refine yG (by decide) ?_ | refine AW.condT rfl ?_ | refine AW.condF rfl ?_)
    simp (maxSteps := 1000000) (disch := refine hold_ ?_; first | (simp [-List.getD_eq_getElem?_getD]; done) | omega) [-List.getD_eq_getElem?_getD]
  | some c =>
    have hcl := charsL_len hc
    have k21 := uchars_ok false l hl c hc
    have hn : nameB l = nameC c := by unfold nameB; rw [hc]
    rw [hn]
    cases c with
    | nil =>
      refine Fn.of_body Tryd.func55 rfl ?_
      repeat (first | ((first | refine zP fun K_ hK_ => ?_ | refine zQ fun K_ hK_ => ?_ | refine zR (by kernel_rfl) (by kernel_rfl) fun K_ hK_ => ?_ | refine zS (by kernel_rfl) (by kernel_rfl) fun K_ hK_ => ?_ | refine zT ?_); first | (simp (maxSteps := 1000000) (disch := refine hold_ ?_; first | (simp [txt_bytes, txt_size, -List.getD_eq_getElem?_getD]; done) | omega) [txt_bytes, txt_size, -List.getD_eq_getElem?_getD]; try first | refine zZ ?_ | subst hK_) | subst hK_) | refine zA ?_ | refine zB ?_ | refine zC ?_ | refine zD ?_ | refine zE ?_ | refine zF ?_ | refine zG ?_ | refine zH ?_ | refine zI ?_ | refine zJ ?_ | refine zK ?_ | refine zL ?_ | refine zM ?_ | refine zN ?_ | refine zO ?_ | refine yG (by decide) ?_ | refine AW.condT rfl ?_ | refine AW.condF rfl ?_)
      (refine callK_p ?_; simp (maxSteps := 1000000) (disch := refine hold_ ?_; first | (simp [txt_bytes, -List.getD_eq_getElem?_getD]; done) | omega) [txt_bytes, -List.getD_eq_getElem?_getD]; refine callK1_of (Fn.ct k21 Tryd.call75) ?_; (try simp (maxSteps := 1000000) (disch := refine hold_ ?_; first | (simp [txt_bytes, -List.getD_eq_getElem?_getD]; done) | omega) [txt_bytes, -List.getD_eq_getElem?_getD]); first | refine zZ ?_ | subst hK_)
      repeat (first | ((first | refine zP fun K_ hK_ => ?_ | refine zQ fun K_ hK_ => ?_ | refine zR (by kernel_rfl) (by kernel_rfl) fun K_ hK_ => ?_ | refine zS (by kernel_rfl) (by kernel_rfl) fun K_ hK_ => ?_ | refine zT ?_); first | (simp (maxSteps := 1000000) (disch := refine hold_ ?_; first | (simp [-List.getD_eq_getElem?_getD]; done) | omega) [-List.getD_eq_getElem?_getD]; try first | refine zZ ?_ | subst hK_) | subst hK_) | refine zA ?_ | refine zB ?_ | refine zC ?_ | refine zD ?_ | refine zE ?_ | refine zF ?_ | refine zG ?_ | refine zH ?_ | refine zI ?_ | refine zJ ?_ | refine zK ?_ | refine zL ?_ | refine zM ?_ | refine zN ?_ | refine zO ?_ | refine yG (by decide) ?_ | refine AW.condT rfl ?_ | refine AW.condF rfl ?_)
      simp (maxSteps := 1000000) (disch := refine hold_ ?_; first | (simp [nameC, -List.getD_eq_getElem?_getD]; done) | omega) [nameC, -List.getD_eq_getElem?_getD]
    | cons r t =>
      have kb := begins_ct r
      have hr0 : (r :: t).getD 0 0 = r := rfl
      have hne : (((r :: t).length : Int) == 0) = false := beq_eq_false_iff_ne.2 (by simp; omega)
      have h0 : 0 < (r :: t).length := by simp
      by_cases hb : begB r = true
      · have hN : nameC (r :: t) = (r :: t).all staB := by show (begB r && (r :: t).all staB) = _; rw [hb, Bool.true_and]
        rw [hN]
        rw [hb] at kb
        have hfn := first_not staB (r :: t)
        generalize hC : r :: t = C at *
        refine Fn.of_body Tryd.func55 rfl ?_
        repeat (first | ((first | refine zP fun K_ hK_ => ?_ | refine zQ fun K_ hK_ => ?_ | refine zR (by kernel_rfl) (by kernel_rfl) fun K_ hK_ => ?_ | refine zS (by kernel_rfl) (by kernel_rfl) fun K_ hK_ => ?_ | refine zT ?_); first | (simp (maxSteps := 1000000) (disch := refine hold_ ?_; first | (simp [txt_bytes, txt_size, -List.getD_eq_getElem?_getD]; done) | omega) [txt_bytes, txt_size, -List.getD_eq_getElem?_getD]; try first | refine zZ ?_ | subst hK_) | subst hK_) | refine zA ?_ | refine zB ?_ | refine zC ?_ | refine zD ?_ | refine zE ?_ | refine zF ?_ | refine zG ?_ | refine zH ?_ | refine zI ?_ | refine zJ ?_ | refine zK ?_ | refine zL ?_ | refine zM ?_ | refine zN ?_ | refine zO ?_ | refine yG (by decide) ?_ | refine AW.condT rfl ?_ | refine AW.condF rfl ?_)
        (refine callK_p ?_; simp (maxSteps := 1000000) (disch := refine hold_ ?_; first | (simp [txt_bytes, hne, -List.getD_eq_getElem?_getD]; done) | omega) [txt_bytes, hne, -List.getD_eq_getElem?_getD]; refine callK1_of (Fn.ct k21 Tryd.call75) ?_; (try simp (maxSteps := 1000000) (disch := refine hold_ ?_; first | (simp [txt_bytes, hne, -List.getD_eq_getElem?_getD]; done) | omega) [txt_bytes, hne, -List.getD_eq_getElem?_getD]); first | refine zZ ?_ | subst hK_)
        repeat (first | ((first | refine zP fun K_ hK_ => ?_ | refine zQ fun K_ hK_ => ?_ | refine zR (by kernel_rfl) (by kernel_rfl) fun K_ hK_ => ?_ | refine zS (by kernel_rfl) (by kernel_rfl) fun K_ hK_ => ?_ | refine zT ?_); first | (simp (maxSteps := 1000000) (disch := refine hold_ ?_; first | (simp [hne, h0, hr0, -List.getD_eq_getElem?_getD]; done) | omega) [hne, h0, hr0, -List.getD_eq_getElem?_getD]; try first | refine zZ ?_ | subst hK_) | subst hK_) | refine zA ?_ | refine zB ?_ | refine zC ?_ | refine zD ?_ | refine zE ?_ | refine zF ?_ | refine zG ?_ | refine zH ?_ | refine zI ?_ | refine zJ ?_ | refine zK ?_ | refine zL ?_ | refine zM ?_ | refine zN ?_ | refine zO ?_ | refine yG (by decide) ?_ | refine AW.condT rfl ?_ | refine AW.condF rfl ?_)
        (refine callK_p ?_; simp (maxSteps := 1000000) (disch := refine hold_ ?_; first | (simp [hne, h0, hr0, -List.getD_eq_getElem?_getD]; done) | omega) [hne, h0, hr0, -List.getD_eq_getElem?_getD]; refine callK1_of (Fn.ct kb Tryd.call76) ?_; (try simp (maxSteps := 1000000) (disch := refine hold_ ?_; first | (simp [hne, h0, hr0, -List.getD_eq_getElem?_getD]; done) | omega) [hne, h0, hr0, -List.getD_eq_getElem?_getD]); first | refine zZ ?_ | subst hK_)
        repeat (first | ((first | refine zP fun K_ hK_ => ?_ | refine zQ fun K_ hK_ => ?_ | refine zR (by kernel_rfl) (by kernel_rfl) fun K_ hK_ => ?_ | refine zS (by kernel_rfl) (by kernel_rfl) fun K_ hK_ => ?_ | refine zT ?_); first | (simp (maxSteps := 1000000) (disch := refine hold_ ?_; first | (simp [hne, h0, hr0, -List.getD_eq_getElem?_getD]; done) | omega) [hne, h0, hr0, -List.getD_eq_getElem?_getD]; try first | refine zZ ?_ | subst hK_) | subst hK_) | refine zA ?_ | refine zB ?_ | refine zC ?_ | refine zD ?_ | refine zE ?_ | refine zF ?_ | refine zG ?_ | refine zH ?_ | refine zI ?_ | refine zJ ?_ | refine zK ?_ | refine zL ?_ | refine zM ?_ | refine zN ?_ | refine zO ?_ | refine yG (by decide) ?_ | refine AW.condT rfl ?_ | refine AW.condF rfl ?_)
        rcases hfn with ⟨h1, ha⟩ | ⟨⟨n, h1, h2, h3⟩, ha⟩
        · rw [ha]
          refine AW.iter (false :: false :: false :: false :: false :: false :: false :: false :: false :: false :: false :: false :: false :: false :: false :: false :: false :: false :: false :: false :: false :: false :: false :: false :: false :: false :: false :: true :: true :: true :: false :: false :: false :: false :: false :: false :: false :: []) C.length (fun k => ⟨(V.junk :: V.junk :: V.junk :: V.junk :: V.junk :: V.junk :: V.junk :: V.junk :: V.junk :: V.junk :: V.junk :: V.junk :: V.junk :: V.junk :: V.junk :: V.junk :: V.junk :: V.junk :: V.junk :: V.junk :: V.junk :: V.junk :: V.junk :: V.junk :: V.junk :: V.junk :: V.junk :: .row (rl C) 0 0 (C.length == 0) :: .p (.int .i64 C.length) :: .p (.int .i64 k) :: V.junk :: V.junk :: V.junk :: V.junk :: V.junk :: V.junk :: V.junk :: []), ⟨[], [(0, 0)]⟩⟩) ?_ ?_
          · simp (maxSteps := 1000000) (disch := refine hold_ ?_; first | (simp [-List.getD_eq_getElem?_getD]; done) | omega) [-List.getD_eq_getElem?_getD]
          intro k hk
          have e1 : IntKind.i64.wrap ((k : Int) + 1) = k + 1 := wrap_i64 _ (by omega) (by omega)
          by_cases hkc : k < C.length
          · have hkz : (k : Int) < C.length := by omega
            have ks := stands_ct (C.getD k 0)
            rw [h1 k hkc] at ks
            generalize hR : C.getD k 0 = R at *
            repeat (first | ((first | refine callK_at 77 ?_); refine callK_p ?_; simp (maxSteps := 1000000) (disch := refine hold_ ?_; first | (simp [hkc, hkz, hR, e1, -List.getD_eq_getElem?_getD]; done) | omega) [hkc, hkz, hR, e1, -List.getD_eq_getElem?_getD]; (first | refine callK1_of (Fn.ct ks Tryd.call77) ?_); (try simp (maxSteps := 1000000) (disch := refine hold_ ?_; first | (simp [hkc, hkz, hR, e1, -List.getD_eq_getElem?_getD]; done) | omega) [hkc, hkz, hR, e1, -List.getD_eq_getElem?_getD]); try first | refine zZ ?_ | subst hK_) | ((first | refine zP fun K_ hK_ => ?_ | refine zQ fun K_ hK_ => ?_ | refine zR (by kernel_rfl) (by kernel_rfl) fun K_ hK_ => ?_ | refine zS (by kernel_rfl) (by kernel_rfl) fun K_ hK_ => ?_ | refine zT ?_); first | (simp (maxSteps := 1000000) (disch := refine hold_ ?_; first | (simp [hkc, hkz, hR, e1, -List.getD_eq_getElem?_getD]; done) | omega) [hkc, hkz, hR, e1, -List.getD_eq_getElem?_getD]; try first | refine zZ ?_ | subst hK_) | subst hK_) | refine zA ?_ | refine zB ?_ | refine zC ?_ | refine zD ?_ | refine zE ?_ | refine zF ?_ | refine zG ?_ | refine zH ?_ | refine zI ?_ | refine zJ ?_ | refine zK ?_ | refine zL ?_ | refine zM ?_ | refine zN ?_ | refine zO ?_ | refine yG (by decide) ?_ | refine AW.condT rfl ?_ | refine AW.condF rfl ?_)
            refine ⟨hkc, ?_⟩
            simp (maxSteps := 1000000) (disch := refine hold_ ?_; first | (simp [-List.getD_eq_getElem?_getD]; done) | omega) [-List.getD_eq_getElem?_getD]
          · have hkz : ¬ (k : Int) < C.length := by omega
            repeat (first | ((first | refine zP fun K_ hK_ => ?_ | refine zQ fun K_ hK_ => ?_ | refine zR (by kernel_rfl) (by kernel_rfl) fun K_ hK_ => ?_ | refine zS (by kernel_rfl) (by kernel_rfl) fun K_ hK_ => ?_ | refine zT ?_); first | (simp (maxSteps := 1000000) (disch := refine hold_ ?_; first | (simp [hkz, -List.getD_eq_getElem?_getD]; done) | omega) [hkz, -List.getD_eq_getElem?_getD]; try first | refine zZ ?_ | subst hK_) | subst hK_) | refine zA ?_ | refine zB ?_ | refine zC ?_ | refine zD ?_ | refine zE ?_ | refine zF ?_ | refine zG ?_ | refine zH ?_ | refine zI ?_ | refine zJ ?_ | refine zK ?_ | refine zL ?_ | refine zM ?_ | refine zN ?_ | refine zO ?_ | refine yG (by decide) ?_ | refine AW.condT rfl ?_ | refine AW.condF rfl ?_)
            simp (maxSteps := 1000000) (disch := refine hold_ ?_; first | (simp [-List.getD_eq_getElem?_getD]; done) | omega) [-List.getD_eq_getElem?_getD]
        · rw [ha]
          refine AW.iter (false :: false :: false :: false :: false :: false :: false :: false :: false :: false :: false :: false :: false :: false :: false :: false :: false :: false :: false :: false :: false :: false :: false :: false :: false :: false :: false :: true :: true :: true :: false :: false :: false :: false :: false :: false :: false :: []) n (fun k => ⟨(V.junk :: V.junk :: V.junk :: V.junk :: V.junk :: V.junk :: V.junk :: V.junk :: V.junk :: V.junk :: V.junk :: V.junk :: V.junk :: V.junk :: V.junk :: V.junk :: V.junk :: V.junk :: V.junk :: V.junk :: V.junk :: V.junk :: V.junk :: V.junk :: V.junk :: V.junk :: V.junk :: .row (rl C) 0 0 (C.length == 0) :: .p (.int .i64 C.length) :: .p (.int .i64 k) :: V.junk :: V.junk :: V.junk :: V.junk :: V.junk :: V.junk :: V.junk :: []), ⟨[], [(0, 0)]⟩⟩) ?_ ?_
          · simp (maxSteps := 1000000) (disch := refine hold_ ?_; first | (simp [-List.getD_eq_getElem?_getD]; done) | omega) [-List.getD_eq_getElem?_getD]
          intro k hk
          have e1 : IntKind.i64.wrap ((k : Int) + 1) = k + 1 := wrap_i64 _ (by omega) (by omega)
          have hkc : k < C.length := by omega
          have hkz : (k : Int) < C.length := by omega
          have ks := stands_ct (C.getD k 0)
          by_cases hkn : k < n
          · rw [h3 k hkn] at ks
            generalize hR : C.getD k 0 = R at *
            repeat (first | ((first | refine callK_at 77 ?_); refine callK_p ?_; simp (maxSteps := 1000000) (disch := refine hold_ ?_; first | (simp [hkc, hkz, hR, e1, -List.getD_eq_getElem?_getD]; done) | omega) [hkc, hkz, hR, e1, -List.getD_eq_getElem?_getD]; (first | refine callK1_of (Fn.ct ks Tryd.call77) ?_); (try simp (maxSteps := 1000000) (disch := refine hold_ ?_; first | (simp [hkc, hkz, hR, e1, -List.getD_eq_getElem?_getD]; done) | omega) [hkc, hkz, hR, e1, -List.getD_eq_getElem?_getD]); try first | refine zZ ?_ | subst hK_) | ((first | refine zP fun K_ hK_ => ?_ | refine zQ fun K_ hK_ => ?_ | refine zR (by kernel_rfl) (by kernel_rfl) fun K_ hK_ => ?_ | refine zS (by kernel_rfl) (by kernel_rfl) fun K_ hK_ => ?_ | refine zT ?_); first | (simp (maxSteps := 1000000) (disch := refine hold_ ?_; first | (simp [hkc, hkz, hR, e1, -List.getD_eq_getElem?_getD]; done) | omega) [hkc, hkz, hR, e1, -List.getD_eq_getElem?_getD]; try first | refine zZ ?_ | subst hK_) | subst hK_) | refine zA ?_ | refine zB ?_ | refine zC ?_ | refine zD ?_ | refine zE ?_ | refine zF ?_ | refine zG ?_ | refine zH ?_ | refine zI ?_ | refine zJ ?_ | refine zK ?_ | refine zL ?_ | refine zM ?_ | refine zN ?_ | refine zO ?_ | refine yG (by decide) ?_ | refine AW.condT rfl ?_ | refine AW.condF rfl ?_)
            refine ⟨hkn, ?_⟩
            simp (maxSteps := 1000000) (disch := refine hold_ ?_; first | (simp [-List.getD_eq_getElem?_getD]; done) | omega) [-List.getD_eq_getElem?_getD]
          · have hkn2 : k = n := by omega
            subst hkn2
            rw [h2] at ks
            generalize hR : C.getD k 0 = R at *
            repeat (first | ((first | refine callK_at 77 ?_); refine callK_p ?_; simp (maxSteps := 1000000) (disch := refine hold_ ?_; first | (simp [hkc, hkz, hR, -List.getD_eq_getElem?_getD]; done) | omega) [hkc, hkz, hR, -List.getD_eq_getElem?_getD]; (first | refine callK1_of (Fn.ct ks Tryd.call77) ?_); (try simp (maxSteps := 1000000) (disch := refine hold_ ?_; first | (simp [hkc, hkz, hR, -List.getD_eq_getElem?_getD]; done) | omega) [hkc, hkz, hR, -List.getD_eq_getElem?_getD]); try first | refine zZ ?_ | subst hK_) | ((first | refine zP fun K_ hK_ => ?_ | refine zQ fun K_ hK_ => ?_ | refine zR (by kernel_rfl) (by kernel_rfl) fun K_ hK_ => ?_ | refine zS (by kernel_rfl) (by kernel_rfl) fun K_ hK_ => ?_ | refine zT ?_); first | (simp (maxSteps := 1000000) (disch := refine hold_ ?_; first | (simp [hkc, hkz, hR, -List.getD_eq_getElem?_getD]; done) | omega) [hkc, hkz, hR, -List.getD_eq_getElem?_getD]; try first | refine zZ ?_ | subst hK_) | subst hK_) | refine zA ?_ | refine zB ?_ | refine zC ?_ | refine zD ?_ | refine zE ?_ | refine zF ?_ | refine zG ?_ | refine zH ?_ | refine zI ?_ | refine zJ ?_ | refine zK ?_ | refine zL ?_ | refine zM ?_ | refine zN ?_ | refine zO ?_ | refine yG (by decide) ?_ | refine AW.condT rfl ?_ | refine AW.condF rfl ?_)
            simp (maxSteps := 1000000) (disch := refine hold_ ?_; first | (simp [-List.getD_eq_getElem?_getD]; done) | omega) [-List.getD_eq_getElem?_getD]
      · have hb2 : begB r = false := by simpa using hb
        have hN : nameC (r :: t) = false := by show (begB r && (r :: t).all staB) = _; rw [hb2, Bool.false_and]
        rw [hN]
        rw [hb2] at kb
        generalize hC : r :: t = C at *
        refine Fn.of_body Tryd.func55 rfl ?_
        repeat (first | ((first | refine zP fun K_ hK_ => ?_ | refine zQ fun K_ hK_ => ?_ | refine zR (by kernel_rfl) (by kernel_rfl) fun K_ hK_ => ?_ | refine zS (by kernel_rfl) (by kernel_rfl) fun K_ hK_ => ?_ | refine zT ?_); first | (simp (maxSteps := 1000000) (disch := refine hold_ ?_; first | (simp [txt_bytes, txt_size, -List.getD_eq_getElem?_getD]; done) | omega) [txt_bytes, txt_size, -List.getD_eq_getElem?_getD]; try first | refine zZ ?_ | subst hK_) | subst hK_) | refine zA ?_ | refine zB ?_ | refine zC ?_ | refine zD ?_ | refine zE ?_ | refine zF ?_ | refine zG ?_ | refine zH ?_ | refine zI ?_ | refine zJ ?_ | refine zK ?_ | refine zL ?_ | refine zM ?_ | refine zN ?_ | refine zO ?_ | refine yG (by decide) ?_ | refine AW.condT rfl ?_ | refine AW.condF rfl ?_)
        (refine callK_p ?_; simp (maxSteps := 1000000) (disch := refine hold_ ?_; first | (simp [txt_bytes, hne, -List.getD_eq_getElem?_getD]; done) | omega) [txt_bytes, hne, -List.getD_eq_getElem?_getD]; refine callK1_of (Fn.ct k21 Tryd.call75) ?_; (try simp (maxSteps := 1000000) (disch := refine hold_ ?_; first | (simp [txt_bytes, hne, -List.getD_eq_getElem?_getD]; done) | omega) [txt_bytes, hne, -List.getD_eq_getElem?_getD]); first | refine zZ ?_ | subst hK_)
        repeat (first | ((first | refine zP fun K_ hK_ => ?_ | refine zQ fun K_ hK_ => ?_ | refine zR (by kernel_rfl) (by kernel_rfl) fun K_ hK_ => ?_ | refine zS (by kernel_rfl) (by kernel_rfl) fun K_ hK_ => ?_ | refine zT ?_); first | (simp (maxSteps := 1000000) (disch := refine hold_ ?_; first | (simp [hne, h0, hr0, -List.getD_eq_getElem?_getD]; done) | omega) [hne, h0, hr0, -List.getD_eq_getElem?_getD]; try first | refine zZ ?_ | subst hK_) | subst hK_) | refine zA ?_ | refine zB ?_ | refine zC ?_ | refine zD ?_ | refine zE ?_ | refine zF ?_ | refine zG ?_ | refine zH ?_ | refine zI ?_ | refine zJ ?_ | refine zK ?_ | refine zL ?_ | refine zM ?_ | refine zN ?_ | refine zO ?_ | refine yG (by decide) ?_ | refine AW.condT rfl ?_ | refine AW.condF rfl ?_)
        (refine callK_p ?_; simp (maxSteps := 1000000) (disch := refine hold_ ?_; first | (simp [hne, h0, hr0, -List.getD_eq_getElem?_getD]; done) | omega) [hne, h0, hr0, -List.getD_eq_getElem?_getD]; refine callK1_of (Fn.ct kb Tryd.call76) ?_; (try simp (maxSteps := 1000000) (disch := refine hold_ ?_; first | (simp [hne, h0, hr0, -List.getD_eq_getElem?_getD]; done) | omega) [hne, h0, hr0, -List.getD_eq_getElem?_getD]); first | refine zZ ?_ | subst hK_)
        repeat (first | ((first | refine zP fun K_ hK_ => ?_ | refine zQ fun K_ hK_ => ?_ | refine zR (by kernel_rfl) (by kernel_rfl) fun K_ hK_ => ?_ | refine zS (by kernel_rfl) (by kernel_rfl) fun K_ hK_ => ?_ | refine zT ?_); first | (simp (maxSteps := 1000000) (disch := refine hold_ ?_; first | (simp [-List.getD_eq_getElem?_getD]; done) | omega) [-List.getD_eq_getElem?_getD]; try first | refine zZ ?_ | subst hK_) | subst hK_) | refine zA ?_ | refine zB ?_ | refine zC ?_ | refine zD ?_ | refine zE ?_ | refine zF ?_ | refine zG ?_ | refine zH ?_ | refine zI ?_ | refine zJ ?_ | refine zK ?_ | refine zL ?_ | refine zM ?_ | refine zN ?_ | refine zO ?_ | refine yG (by decide) ?_ | refine AW.condT rfl ?_ | refine AW.condF rfl ?_)
        simp (maxSteps := 1000000) (disch := refine hold_ ?_; first | (simp [-List.getD_eq_getElem?_getD]; done) | omega) [-List.getD_eq_getElem?_getD]
end Go.Av.Doc
end
section
set_option linter.unusedSimpArgs false
set_option linter.unusedVariables false
set_option linter.unusedSectionVars false
open Go Go.Av Go.Proofs
namespace Go.Av.Doc
variable [ML]
def blankB (c : Int) : Bool := c == 32 || c == 9 || c == 10 || c == 13
theorem blank_ct (c : Int) : Fn Tryd.prog 54 [.int .u8 c] [.p (.bool (blankB c))] := by
  unfold blankB
  refine Fn.of_body Tryd.func54 rfl ?_
  cases h1 : c == 32 <;> cases h2 : c == 9 <;> cases h3 : c == 10
  all_goals
    repeat (first | ((first | refine zP fun K_ hK_ => ?_ | refine zQ fun K_ hK_ => ?_ | refine zR (by kernel_rfl) (by kernel_rfl) fun K_ hK_ => ?_ | refine zS (by kernel_rfl) (by kernel_rfl) fun K_ hK_ => ?_ | refine zT ?_); first | (simp (maxSteps := 1000000) (disch := refine hold_ ?_; first | (simp [h1, h2, h3, -List.getD_eq_getElem?_getD]; done) | omega) [h1, h2, h3, -List.getD_eq_getElem?_getD]; try first | refine zZ ?_ | subst hK_) | subst hK_) | refine zA ?_ | refine zB ?_ | refine zC ?_ | refine zD ?_ | refine zE ?_ | refine zF ?_ | refine zG ?_ | refine zH ?_ | refine zI ?_ | refine zJ ?_ | refine zK ?_ | refine zL ?_ | refine zM ?_ | refine zN ?_ | refine zO ?_ | refine yG (by decide) ?_ | refine AW.condT rfl ?_ | refine AW.condF rfl ?_)
    simp (maxSteps := 1000000) (disch := refine hold_ ?_; first | (simp [h1, h2, h3, -List.getD_eq_getElem?_getD]; done) | omega) [h1, h2, h3, -List.getD_eq_getElem?_getD]
end Go.Av.Doc
end
section
set_option linter.unusedSimpArgs false
set_option linter.unusedVariables false
set_option linter.unusedSectionVars false
open Go Go.Av Go.Proofs
namespace Go.Av.Doc
variable [ML]
end Go.Av.Doc
end
section
set_option linter.unusedSimpArgs false
set_option linter.unusedVariables false
set_option linter.unusedSectionVars false
open Go Go.Av Go.Proofs
namespace Go.Av.Doc
variable [ML]
end Go.Av.Doc
end
