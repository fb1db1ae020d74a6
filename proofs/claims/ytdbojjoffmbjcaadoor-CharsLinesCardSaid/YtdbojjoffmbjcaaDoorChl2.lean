/- The walks of this seat's functions, and what is known of what they reckon (Chl2). Conditions: those that each theorem names. -/
import Derived.Test.YtdbojjoffmbjcaaDoorChl1
section
set_option linter.unusedSimpArgs false
set_option linter.unusedVariables false
set_option linter.unusedSectionVars false
open Go Go.Av Go.Proofs
namespace Go.Av.Chl
variable [ML]
theorem cls (b : Int) (h : 128 ≤ b ∧ b < 256) : ∃ (x y z lo hi : Int), firstL.getD b.toNat 0 = x ∧ intBin .and .u8 x 7 = some (.int .u8 z) ∧ shiftBin .shr .u8 x 4 = some (.int .u8 y) ∧ 0 ≤ y ∧ y < 16 ∧
    accL.getD (y.toNat * 2) 0 = lo ∧ accL.getD (y.toNat * 2 + 1) 0 = hi ∧ 0 ≤ lo ∧ lo < 256 ∧ 0 ≤ hi ∧ hi < 256 ∧ IntKind.i64.wrap z = z ∧ (x < 240 ↔ z ≠ 1) ∧
    ((z = 1 ∧ (b < 194 ∨ 245 ≤ b)) ∨ (z = 2 ∧ 194 ≤ b ∧ b < 224 ∧ lo = 128 ∧ hi = 191) ∨ (z = 3 ∧ 224 ≤ b ∧ b < 240 ∧ lo = loB b ∧ hi = hiB b) ∨ (z = 4 ∧ 240 ≤ b ∧ b < 245 ∧ lo = loB b ∧ hi = hiB b)) := by
  rw [first_get _ (by omega)]
  obtain ⟨n, rfl⟩ : ∃ n : Nat, b = n := ⟨b.toNat, by omega⟩
  simp only [Int.toNat_natCast]
  have hc : (n < 194 ∧ firstF n = 241) ∨ (194 ≤ n ∧ n < 224 ∧ firstF n = 2) ∨ (n = 224 ∧ firstF n = 19) ∨ (n = 237 ∧ firstF n = 35) ∨ (224 < n ∧ n < 240 ∧ n ≠ 237 ∧ firstF n = 3) ∨ (n = 240 ∧ firstF n = 52) ∨ (240 < n ∧ n < 244 ∧ firstF n = 4) ∨ (n = 244 ∧ firstF n = 68) ∨ (244 < n ∧ firstF n = 241) := by
    unfold firstF
    (repeat' split) <;> omega
  rcases hc with ⟨h1, e⟩ | ⟨h1, h2, e⟩ | ⟨h1, e⟩ | ⟨h1, e⟩ | ⟨h1, h2, h3, e⟩ | ⟨h1, e⟩ | ⟨h1, h2, e⟩ | ⟨h1, e⟩ | ⟨h1, e⟩ <;> rw [e]
  · exact ⟨241, 15, 1, 0, 0, rfl, rfl, rfl, by omega, by omega, rfl, rfl, by omega, by omega, by omega, by omega, rfl, by omega, .inl ⟨rfl, by omega⟩⟩
  · exact ⟨2, 0, 2, 128, 191, rfl, rfl, rfl, by omega, by omega, rfl, rfl, by omega, by omega, by omega, by omega, rfl, by omega, .inr (.inl ⟨rfl, by omega, by omega, rfl, rfl⟩)⟩
  · subst h1; exact ⟨19, 1, 3, 160, 191, rfl, rfl, rfl, by omega, by omega, rfl, rfl, by omega, by omega, by omega, by omega, rfl, by omega, .inr (.inr (.inl ⟨rfl, by omega, by omega, rfl, rfl⟩))⟩
  · subst h1; exact ⟨35, 2, 3, 128, 159, rfl, rfl, rfl, by omega, by omega, rfl, rfl, by omega, by omega, by omega, by omega, rfl, by omega, .inr (.inr (.inl ⟨rfl, by omega, by omega, rfl, rfl⟩))⟩
  · exact ⟨3, 0, 3, 128, 191, rfl, rfl, rfl, by omega, by omega, rfl, rfl, by omega, by omega, by omega, by omega, rfl, by omega, .inr (.inr (.inl ⟨rfl, by omega, by omega, by unfold loB; rw [if_neg (by omega), if_neg (by omega)], by unfold hiB; rw [if_neg (by omega), if_neg (by omega)]⟩))⟩
  · subst h1; exact ⟨52, 3, 4, 144, 191, rfl, rfl, rfl, by omega, by omega, rfl, rfl, by omega, by omega, by omega, by omega, rfl, by omega, .inr (.inr (.inr ⟨rfl, by omega, by omega, rfl, rfl⟩))⟩
  · exact ⟨4, 0, 4, 128, 191, rfl, rfl, rfl, by omega, by omega, rfl, rfl, by omega, by omega, by omega, by omega, rfl, by omega, .inr (.inr (.inr ⟨rfl, by omega, by omega, by unfold loB; rw [if_neg (by omega), if_neg (by omega)], by unfold hiB; rw [if_neg (by omega), if_neg (by omega)]⟩))⟩
  · subst h1; exact ⟨68, 4, 4, 128, 143, rfl, rfl, rfl, by omega, by omega, rfl, rfl, by omega, by omega, by omega, by omega, rfl, by omega, .inr (.inr (.inr ⟨rfl, by omega, by omega, rfl, rfl⟩))⟩
  · exact ⟨241, 15, 1, 0, 0, rfl, rfl, rfl, by omega, by omega, rfl, rfl, by omega, by omega, by omega, by omega, rfl, by omega, .inl ⟨rfl, by omega⟩⟩
def vSt (nl : Bool) (t : List (BitVec 8)) : St := ⟨(.p (.sl (bl t) nl) :: V.junk :: V.junk :: V.junk :: V.junk :: V.junk :: V.junk :: V.junk :: V.junk :: V.junk :: V.junk :: V.junk :: V.junk :: V.junk :: V.junk :: V.junk :: V.junk :: V.junk :: V.junk :: V.junk :: V.junk :: V.junk :: V.junk :: V.junk :: V.junk :: V.junk :: V.junk :: V.junk :: V.junk :: V.junk :: V.junk :: V.junk :: V.junk :: V.junk :: V.junk :: V.junk :: V.junk :: V.junk :: V.junk :: V.junk :: V.junk :: V.junk :: V.junk :: V.junk :: V.junk :: V.junk :: V.junk :: V.junk :: V.junk :: V.junk :: V.junk :: V.junk :: V.junk :: V.junk :: V.junk :: V.junk :: V.junk :: V.junk :: V.junk :: V.junk :: V.junk :: V.junk :: V.junk :: V.junk :: V.junk :: V.junk :: V.junk :: V.junk :: V.junk :: V.junk :: V.junk :: V.junk :: V.junk :: V.junk :: V.junk :: V.junk :: V.junk :: V.junk :: V.junk :: V.junk :: V.junk :: V.junk :: V.junk :: V.junk :: V.junk :: V.junk :: V.junk :: V.junk :: V.junk :: V.junk :: V.junk :: V.junk :: V.junk :: V.junk :: V.junk :: V.junk :: V.junk :: V.junk :: V.junk :: V.junk :: V.junk :: V.junk :: V.junk :: V.junk :: V.junk :: V.junk :: V.junk :: V.junk :: V.junk :: V.junk :: V.junk :: V.junk :: V.junk :: V.junk :: V.junk :: V.junk :: V.junk :: V.junk :: V.junk :: V.junk :: V.junk :: V.junk :: V.junk :: V.junk :: V.junk :: V.junk :: V.junk :: V.junk :: V.junk :: V.junk :: V.junk :: V.junk :: V.junk :: V.junk :: V.junk :: V.junk :: V.junk :: V.junk :: V.junk :: V.junk :: V.junk :: V.junk :: V.junk :: V.junk :: V.junk :: V.junk :: V.junk :: V.junk :: V.junk :: V.junk :: V.junk :: V.junk :: V.junk :: V.junk :: V.junk :: V.junk :: V.junk :: V.junk :: V.junk :: V.junk :: V.junk :: V.junk :: V.junk :: V.junk :: V.junk :: V.junk :: V.junk :: V.junk :: V.junk :: V.junk :: V.junk :: V.junk :: V.junk :: V.junk :: V.junk :: V.junk :: V.junk :: V.junk :: V.junk :: V.junk :: V.junk :: V.junk :: V.junk :: V.junk :: V.junk :: V.junk :: V.junk :: V.junk :: []), ⟨[], []⟩⟩
set_option maxRecDepth 100000 in
set_option maxHeartbeats 20000000 in
theorem valid_ct (nl : Bool) (l : List (BitVec 8)) (hl : l.length ≤ 4000000) : Fn Tryd.prog 48 [.sl (bl l) nl] [.p (.bool (validB l))] := by
  generalize hA : validB l = A
  refine Fn.of_body Tryd.func48 rfl ?_
  repeat (first | ((first | refine zP fun K_ hK_ => ?_ | refine zQ fun K_ hK_ => ?_ | refine zR (by kernel_rfl) (by kernel_rfl) fun K_ hK_ => ?_ | refine zS (by kernel_rfl) (by kernel_rfl) fun K_ hK_ => ?_ | refine zT ?_); first | (simp (maxSteps := 1000000) (disch := refine hold_ ?_; first | (simp [Nat.le_refl, -List.getD_eq_getElem?_getD]; done) | omega) [Nat.le_refl, -List.getD_eq_getElem?_getD]; try first | refine zZ ?_ | subst hK_) | subst hK_) | refine zA ?_ | refine zB ?_ | refine zC ?_ | refine zD ?_ | refine zE ?_ | refine zF ?_ | refine zG ?_ | refine zH ?_ | refine zI ?_ | refine zJ ?_ | refine zK ?_ | refine zL ?_ | refine zM ?_ | refine zN ?_ | refine zO ?_ | refine yG (by decide) ?_ | refine AW.condT rfl ?_ | refine AW.condF rfl ?_)
  refine AW.iterI (true :: false :: false :: false :: false :: false :: false :: false :: false :: false :: false :: false :: false :: false :: false :: false :: false :: false :: false :: false :: false :: false :: false :: false :: false :: false :: false :: false :: false :: false :: false :: false :: false :: false :: false :: false :: false :: false :: false :: false :: false :: false :: false :: false :: false :: false :: false :: false :: false :: false :: false :: false :: false :: false :: false :: false :: false :: false :: false :: false :: false :: false :: false :: false :: false :: false :: false :: false :: false :: false :: false :: false :: false :: false :: false :: false :: false :: false :: false :: false :: false :: false :: false :: false :: false :: false :: false :: false :: false :: false :: false :: false :: false :: false :: false :: false :: false :: false :: false :: false :: false :: false :: false :: false :: false :: false :: false :: false :: false :: false :: false :: false :: false :: false :: false :: false :: false :: false :: false :: false :: false :: false :: false :: false :: false :: false :: false :: false :: false :: false :: false :: false :: false :: false :: false :: false :: false :: false :: false :: false :: false :: false :: false :: false :: false :: false :: false :: false :: false :: false :: false :: false :: false :: false :: false :: false :: false :: false :: false :: false :: false :: false :: false :: false :: false :: false :: false :: false :: false :: false :: false :: false :: false :: false :: false :: false :: false :: false :: false :: false :: false :: false :: false :: false :: false :: false :: false :: false :: []) l.length (fun k σ => ∃ t, σ = vSt nl t ∧ t.length = k ∧ validB t = A ∧ t.length ≤ 4000000) (τ := vSt nl l) ?_ ⟨l, rfl, rfl, hA, hl⟩ ?_
  · unfold vSt; simp (maxSteps := 1000000) (disch := refine hold_ ?_; first | (simp [-List.getD_eq_getElem?_getD]; done) | omega) [-List.getD_eq_getElem?_getD]
  rintro k σ ⟨t, rfl, rfl, hv, ht⟩
  unfold vSt
  repeat (first | ((first | refine zP fun K_ hK_ => ?_ | refine zQ fun K_ hK_ => ?_ | refine zR (by kernel_rfl) (by kernel_rfl) fun K_ hK_ => ?_ | refine zS (by kernel_rfl) (by kernel_rfl) fun K_ hK_ => ?_ | refine zT ?_); first | (simp (maxSteps := 1000000) (disch := refine hold_ ?_; first | (simp [-List.getD_eq_getElem?_getD]; done) | omega) [-List.getD_eq_getElem?_getD]; try first | refine zZ ?_ | subst hK_) | subst hK_) | refine zA ?_ | refine zB ?_ | refine zC ?_ | refine zD ?_ | refine zE ?_ | refine zF ?_ | refine zG ?_ | refine zH ?_ | refine zI ?_ | refine zJ ?_ | refine zK ?_ | refine zL ?_ | refine zM ?_ | refine zN ?_ | refine zO ?_ | refine yG (by decide) ?_ | refine AW.condT rfl ?_ | refine AW.condF rfl ?_)
  first | refine AW.condD rfl (fun hc => ?_) (fun hc => ?_) | refine AW.cond rfl (fun hc => ?_) (fun hc => ?_)
  · have h0 : 0 < t.length := by omega
    clear hA
    by_cases hb : bt t 0 < 128
    · have hb' : ub (t.getD 0 0#8) < 128 := hb
      have v1 := validB_asc t (by omega) hb
      rw [hv] at v1
      have l1 : (t.drop 1).length + 1 = t.length := by simp; omega
      have l1' : t.length - 1 = (t.drop 1).length := by simp
      generalize hd1 : t.drop 1 = t1 at *
      have hd1' : t.tail = t1 := by rw [← hd1]; simp
      by_cases c8 : 8 < t1.length
      · have c8' : (8 : Int) < t1.length := by omega
        have a1 := wordN_lt t1
        repeat (first | ((first | refine zP fun K_ hK_ => ?_ | refine zQ fun K_ hK_ => ?_ | refine zR (by kernel_rfl) (by kernel_rfl) fun K_ hK_ => ?_ | refine zS (by kernel_rfl) (by kernel_rfl) fun K_ hK_ => ?_ | refine zT ?_); first | (simp (maxSteps := 1000000) (disch := refine hold_ ?_; first | (simp [h0, hb', hd1, hd1', c8', -List.getD_eq_getElem?_getD]; done) | omega) [h0, hb', hd1, hd1', c8', -List.getD_eq_getElem?_getD]; try first | refine zZ ?_ | subst hK_) | subst hK_) | refine zA ?_ | refine zB ?_ | refine zC ?_ | refine zD ?_ | refine zE ?_ | refine zF ?_ | refine zG ?_ | refine zH ?_ | refine zI ?_ | refine zJ ?_ | refine zK ?_ | refine zL ?_ | refine zM ?_ | refine zN ?_ | refine zO ?_ | refine yG (by decide) ?_ | refine AW.condT rfl ?_ | refine AW.condF rfl ?_)
        (refine callK_p ?_; simp (maxSteps := 1000000) (disch := refine hold_ ?_; first | (simp [c8', -List.getD_eq_getElem?_getD]; done) | omega) [c8', -List.getD_eq_getElem?_getD]; refine callK1_of (Fn.ct (word_ct nl t1 (by omega)) Tryd.call52) ?_; (try simp (maxSteps := 1000000) (disch := refine hold_ ?_; first | (simp [c8', -List.getD_eq_getElem?_getD]; done) | omega) [c8', -List.getD_eq_getElem?_getD]); first | refine zZ ?_ | subst hK_)
        repeat (first | ((first | refine zP fun K_ hK_ => ?_ | refine zQ fun K_ hK_ => ?_ | refine zR (by kernel_rfl) (by kernel_rfl) fun K_ hK_ => ?_ | refine zS (by kernel_rfl) (by kernel_rfl) fun K_ hK_ => ?_ | refine zT ?_); first | (simp (maxSteps := 1000000) (disch := refine hold_ ?_; first | (simp [c8', ib_andM, -List.getD_eq_getElem?_getD]; done) | omega) [c8', ib_andM, -List.getD_eq_getElem?_getD]; try first | refine zZ ?_ | subst hK_) | subst hK_) | refine zA ?_ | refine zB ?_ | refine zC ?_ | refine zD ?_ | refine zE ?_ | refine zF ?_ | refine zG ?_ | refine zH ?_ | refine zI ?_ | refine zJ ?_ | refine zK ?_ | refine zL ?_ | refine zM ?_ | refine zN ?_ | refine zO ?_ | refine yG (by decide) ?_ | refine AW.condT rfl ?_ | refine AW.condF rfl ?_)
        first | refine AW.condD rfl (fun hc => ?_) (fun hc => ?_) | refine AW.cond rfl (fun hc => ?_) (fun hc => ?_)
        · have z1 : andM (wordN t1) = 0 := hc
          have v2 := validB_skip 8 t1 (by omega) (wordN_asc t1 ⟨a1.1, a1.2, z1⟩)
          have l2 : (t1.drop 8).length + 8 = t1.length := by simp; omega
          generalize hd2 : t1.drop 8 = t2 at *
          rw [← v1] at v2
          clear z1 hc hb hb' hv hd1 hd1' a1
          by_cases c16 : 16 < t2.length
          · have c16' : (16 : Int) < t2.length := by omega
            have l3 : (t2.drop 8).length + 8 = t2.length := by simp; omega
            have a2 := wordN_lt t2
            have a3 := wordN_lt (t2.drop 8)
            have k2 := word_ct nl t2 (by omega)
            have k3 := word_ct nl (t2.drop 8) (by omega)
            have g8 : 8 ≤ t2.length := by omega
            repeat (first | ((first | refine zP fun K_ hK_ => ?_ | refine zQ fun K_ hK_ => ?_ | refine zR (by kernel_rfl) (by kernel_rfl) fun K_ hK_ => ?_ | refine zS (by kernel_rfl) (by kernel_rfl) fun K_ hK_ => ?_ | refine zT ?_); first | (simp (maxSteps := 1000000) (disch := refine hold_ ?_; first | (simp [hd2, c16', c8', c8, -List.getD_eq_getElem?_getD]; done) | omega) [hd2, c16', c8', c8, -List.getD_eq_getElem?_getD]; try first | refine zZ ?_ | subst hK_) | subst hK_) | refine zA ?_ | refine zB ?_ | refine zC ?_ | refine zD ?_ | refine zE ?_ | refine zF ?_ | refine zG ?_ | refine zH ?_ | refine zI ?_ | refine zJ ?_ | refine zK ?_ | refine zL ?_ | refine zM ?_ | refine zN ?_ | refine zO ?_ | refine yG (by decide) ?_ | refine AW.condT rfl ?_ | refine AW.condF rfl ?_)
            (refine callK_p ?_; simp (maxSteps := 1000000) (disch := refine hold_ ?_; first | (simp [c16', -List.getD_eq_getElem?_getD]; done) | omega) [c16', -List.getD_eq_getElem?_getD]; refine callK1_of (Fn.ct k2 Tryd.call52) ?_; (try simp (maxSteps := 1000000) (disch := refine hold_ ?_; first | (simp [c16', -List.getD_eq_getElem?_getD]; done) | omega) [c16', -List.getD_eq_getElem?_getD]); first | refine zZ ?_ | subst hK_)
            repeat (first | ((first | refine zP fun K_ hK_ => ?_ | refine zQ fun K_ hK_ => ?_ | refine zR (by kernel_rfl) (by kernel_rfl) fun K_ hK_ => ?_ | refine zS (by kernel_rfl) (by kernel_rfl) fun K_ hK_ => ?_ | refine zT ?_); first | (simp (maxSteps := 1000000) (disch := refine hold_ ?_; first | (simp [c16', g8, -List.getD_eq_getElem?_getD]; done) | omega) [c16', g8, -List.getD_eq_getElem?_getD]; try first | refine zZ ?_ | subst hK_) | subst hK_) | refine zA ?_ | refine zB ?_ | refine zC ?_ | refine zD ?_ | refine zE ?_ | refine zF ?_ | refine zG ?_ | refine zH ?_ | refine zI ?_ | refine zJ ?_ | refine zK ?_ | refine zL ?_ | refine zM ?_ | refine zN ?_ | refine zO ?_ | refine yG (by decide) ?_ | refine AW.condT rfl ?_ | refine AW.condF rfl ?_)
            (refine callK_p ?_; simp (maxSteps := 1000000) (disch := refine hold_ ?_; first | (simp [c16', -List.getD_eq_getElem?_getD]; done) | omega) [c16', -List.getD_eq_getElem?_getD]; refine callK1_of (Fn.ct k3 Tryd.call52) ?_; (try simp (maxSteps := 1000000) (disch := refine hold_ ?_; first | (simp [c16', -List.getD_eq_getElem?_getD]; done) | omega) [c16', -List.getD_eq_getElem?_getD]); first | refine zZ ?_ | subst hK_)
            repeat (first | ((first | refine zP fun K_ hK_ => ?_ | refine zQ fun K_ hK_ => ?_ | refine zR (by kernel_rfl) (by kernel_rfl) fun K_ hK_ => ?_ | refine zS (by kernel_rfl) (by kernel_rfl) fun K_ hK_ => ?_ | refine zT ?_); first | (simp (maxSteps := 1000000) (disch := refine hold_ ?_; first | (simp [c16', ib_orW, ib_andM, -List.getD_eq_getElem?_getD]; done) | omega) [c16', ib_orW, ib_andM, -List.getD_eq_getElem?_getD]; try first | refine zZ ?_ | subst hK_) | subst hK_) | refine zA ?_ | refine zB ?_ | refine zC ?_ | refine zD ?_ | refine zE ?_ | refine zF ?_ | refine zG ?_ | refine zH ?_ | refine zI ?_ | refine zJ ?_ | refine zK ?_ | refine zL ?_ | refine zM ?_ | refine zN ?_ | refine zO ?_ | refine yG (by decide) ?_ | refine AW.condT rfl ?_ | refine AW.condF rfl ?_)
            first | refine AW.condD rfl (fun hc => ?_) (fun hc => ?_) | refine AW.cond rfl (fun hc => ?_) (fun hc => ?_)
            · have z2 : andM (orW (wordN t2) (wordN (t2.drop 8))) = 0 := hc
              obtain ⟨q1, q2⟩ := hiZ_or a2 a3 z2
              have v3 := validB_skip 8 t2 (by omega) (wordN_asc t2 q1)
              have v4 := validB_skip 8 (t2.drop 8) (by omega) (wordN_asc _ q2)
              rw [← v3, ← v2, List.drop_drop] at v4
              have l4 : (t2.drop 16).length + 16 = t2.length := by simp; omega
              have g16 : 16 ≤ t2.length := by omega
              clear hc z2 q1 q2 k2 k3 a2 a3
              generalize hd3 : t2.drop 16 = t3 at *
              repeat (first | ((first | refine zP fun K_ hK_ => ?_ | refine zQ fun K_ hK_ => ?_ | refine zR (by kernel_rfl) (by kernel_rfl) fun K_ hK_ => ?_ | refine zS (by kernel_rfl) (by kernel_rfl) fun K_ hK_ => ?_ | refine zT ?_); first | (simp (maxSteps := 1000000) (disch := refine hold_ ?_; first | (simp [g16, hd3, -List.getD_eq_getElem?_getD]; done) | omega) [g16, hd3, -List.getD_eq_getElem?_getD]; try first | refine zZ ?_ | subst hK_) | subst hK_) | refine zA ?_ | refine zB ?_ | refine zC ?_ | refine zD ?_ | refine zE ?_ | refine zF ?_ | refine zG ?_ | refine zH ?_ | refine zI ?_ | refine zJ ?_ | refine zK ?_ | refine zL ?_ | refine zM ?_ | refine zN ?_ | refine zO ?_ | refine yG (by decide) ?_ | refine AW.condT rfl ?_ | refine AW.condF rfl ?_)
              refine AW.iterI (true :: false :: false :: false :: false :: false :: false :: false :: false :: false :: false :: false :: false :: false :: false :: false :: false :: false :: false :: false :: false :: false :: false :: false :: false :: false :: false :: false :: false :: false :: false :: false :: false :: false :: false :: false :: false :: false :: false :: false :: false :: false :: false :: false :: false :: false :: false :: false :: false :: false :: false :: false :: false :: false :: false :: false :: false :: false :: false :: false :: false :: false :: false :: false :: false :: false :: false :: false :: false :: false :: false :: false :: false :: false :: false :: false :: false :: false :: false :: false :: false :: false :: false :: false :: false :: false :: false :: false :: false :: false :: false :: false :: false :: false :: false :: false :: false :: false :: false :: false :: false :: false :: false :: false :: false :: false :: false :: false :: false :: false :: false :: false :: false :: false :: false :: false :: false :: false :: false :: false :: false :: false :: false :: false :: false :: false :: false :: false :: false :: false :: false :: false :: false :: false :: false :: false :: false :: false :: false :: false :: false :: false :: false :: false :: false :: false :: false :: false :: false :: false :: false :: false :: false :: false :: false :: false :: false :: false :: false :: false :: false :: false :: false :: false :: false :: false :: false :: false :: false :: false :: false :: false :: false :: false :: false :: false :: false :: false :: false :: false :: false :: false :: false :: false :: false :: false :: false :: false :: []) t3.length (fun k σ => ∃ u, σ = vSt nl u ∧ u.length = k ∧ validB u = A ∧ u.length < t.length) (τ := vSt nl t3) ?_ ⟨t3, rfl, rfl, v4.symm, by omega⟩ ?_
              · unfold vSt; simp (maxSteps := 1000000) (disch := refine hold_ ?_; first | (simp [-List.getD_eq_getElem?_getD]; done) | omega) [-List.getD_eq_getElem?_getD]
              rintro k σ ⟨u, rfl, rfl, hu, hut⟩
              unfold vSt
              clear g16 g8 hd3 v4 l4 v3 l3 c16 c16' v2 l2 hd2 c8 c8' v1 l1
              by_cases c32 : 32 < u.length
              · have c32' : (32 : Int) < u.length := by omega
                have m1 : (u.drop 8).length + 8 = u.length := by simp; omega
                have m2 : (u.drop 16).length + 16 = u.length := by simp; omega
                have m3 : (u.drop 24).length + 24 = u.length := by simp; omega
                have m4 : (u.drop 32).length + 32 = u.length := by simp; omega
                have a1 := wordN_lt u
                have a2 := wordN_lt (u.drop 8)
                have a3 := wordN_lt (u.drop 16)
                have a4 := wordN_lt (u.drop 24)
                have k1 := word_ct nl u (by omega)
                have k2 := word_ct nl (u.drop 8) (by omega)
                have k3 := word_ct nl (u.drop 16) (by omega)
                have k4 := word_ct nl (u.drop 24) (by omega)
                have g8 : 8 ≤ u.length := by omega
                have g16 : 16 ≤ u.length := by omega
                have g24 : 24 ≤ u.length := by omega
                have g32 : 32 ≤ u.length := by omega
                repeat (first | ((first | refine zP fun K_ hK_ => ?_ | refine zQ fun K_ hK_ => ?_ | refine zR (by kernel_rfl) (by kernel_rfl) fun K_ hK_ => ?_ | refine zS (by kernel_rfl) (by kernel_rfl) fun K_ hK_ => ?_ | refine zT ?_); first | (simp (maxSteps := 1000000) (disch := refine hold_ ?_; first | (simp [ib_orW, ib_andM, c32', -List.getD_eq_getElem?_getD]; done) | omega) [ib_orW, ib_andM, c32', -List.getD_eq_getElem?_getD]; try first | refine zZ ?_ | subst hK_) | subst hK_) | refine zA ?_ | refine zB ?_ | refine zC ?_ | refine zD ?_ | refine zE ?_ | refine zF ?_ | refine zG ?_ | refine zH ?_ | refine zI ?_ | refine zJ ?_ | refine zK ?_ | refine zL ?_ | refine zM ?_ | refine zN ?_ | refine zO ?_ | refine yG (by decide) ?_ | refine AW.condT rfl ?_ | refine AW.condF rfl ?_)
                (refine callK_p ?_; simp (maxSteps := 1000000) (disch := refine hold_ ?_; first | (simp [ib_orW, ib_andM, c32', -List.getD_eq_getElem?_getD]; done) | omega) [ib_orW, ib_andM, c32', -List.getD_eq_getElem?_getD]; refine callK1_of (Fn.ct k1 Tryd.call52) ?_; (try simp (maxSteps := 1000000) (disch := refine hold_ ?_; first | (simp [ib_orW, ib_andM, c32', -List.getD_eq_getElem?_getD]; done) | omega) [ib_orW, ib_andM, c32', -List.getD_eq_getElem?_getD]); first | refine zZ ?_ | subst hK_)
                repeat (first | ((first | refine zP fun K_ hK_ => ?_ | refine zQ fun K_ hK_ => ?_ | refine zR (by kernel_rfl) (by kernel_rfl) fun K_ hK_ => ?_ | refine zS (by kernel_rfl) (by kernel_rfl) fun K_ hK_ => ?_ | refine zT ?_); first | (simp (maxSteps := 1000000) (disch := refine hold_ ?_; first | (simp [ib_orW, ib_andM, c32', g8, -List.getD_eq_getElem?_getD]; done) | omega) [ib_orW, ib_andM, c32', g8, -List.getD_eq_getElem?_getD]; try first | refine zZ ?_ | subst hK_) | subst hK_) | refine zA ?_ | refine zB ?_ | refine zC ?_ | refine zD ?_ | refine zE ?_ | refine zF ?_ | refine zG ?_ | refine zH ?_ | refine zI ?_ | refine zJ ?_ | refine zK ?_ | refine zL ?_ | refine zM ?_ | refine zN ?_ | refine zO ?_ | refine yG (by decide) ?_ | refine AW.condT rfl ?_ | refine AW.condF rfl ?_)
                (refine callK_p ?_; simp (maxSteps := 1000000) (disch := refine hold_ ?_; first | (simp [ib_orW, ib_andM, c32', -List.getD_eq_getElem?_getD]; done) | omega) [ib_orW, ib_andM, c32', -List.getD_eq_getElem?_getD]; refine callK1_of (Fn.ct k2 Tryd.call52) ?_; (try simp (maxSteps := 1000000) (disch := refine hold_ ?_; first | (simp [ib_orW, ib_andM, c32', -List.getD_eq_getElem?_getD]; done) | omega) [ib_orW, ib_andM, c32', -List.getD_eq_getElem?_getD]); first | refine zZ ?_ | subst hK_)
                repeat (first | ((first | refine zP fun K_ hK_ => ?_ | refine zQ fun K_ hK_ => ?_ | refine zR (by kernel_rfl) (by kernel_rfl) fun K_ hK_ => ?_ | refine zS (by kernel_rfl) (by kernel_rfl) fun K_ hK_ => ?_ | refine zT ?_); first | (simp (maxSteps := 1000000) (disch := refine hold_ ?_; first | (simp [ib_orW, ib_andM, c32', g16, -List.getD_eq_getElem?_getD]; done) | omega) [ib_orW, ib_andM, c32', g16, -List.getD_eq_getElem?_getD]; try first | refine zZ ?_ | subst hK_) | subst hK_) | refine zA ?_ | refine zB ?_ | refine zC ?_ | refine zD ?_ | refine zE ?_ | refine zF ?_ | refine zG ?_ | refine zH ?_ | refine zI ?_ | refine zJ ?_ | refine zK ?_ | refine zL ?_ | refine zM ?_ | refine zN ?_ | refine zO ?_ | refine yG (by decide) ?_ | refine AW.condT rfl ?_ | refine AW.condF rfl ?_)
                (refine callK_p ?_; simp (maxSteps := 1000000) (disch := refine hold_ ?_; first | (simp [ib_orW, ib_andM, c32', -List.getD_eq_getElem?_getD]; done) | omega) [ib_orW, ib_andM, c32', -List.getD_eq_getElem?_getD]; refine callK1_of (Fn.ct k3 Tryd.call52) ?_; (try simp (maxSteps := 1000000) (disch := refine hold_ ?_; first | (simp [ib_orW, ib_andM, c32', -List.getD_eq_getElem?_getD]; done) | omega) [ib_orW, ib_andM, c32', -List.getD_eq_getElem?_getD]); first | refine zZ ?_ | subst hK_)
                repeat (first | ((first | refine zP fun K_ hK_ => ?_ | refine zQ fun K_ hK_ => ?_ | refine zR (by kernel_rfl) (by kernel_rfl) fun K_ hK_ => ?_ | refine zS (by kernel_rfl) (by kernel_rfl) fun K_ hK_ => ?_ | refine zT ?_); first | (simp (maxSteps := 1000000) (disch := refine hold_ ?_; first | (simp [ib_orW, ib_andM, c32', g24, -List.getD_eq_getElem?_getD]; done) | omega) [ib_orW, ib_andM, c32', g24, -List.getD_eq_getElem?_getD]; try first | refine zZ ?_ | subst hK_) | subst hK_) | refine zA ?_ | refine zB ?_ | refine zC ?_ | refine zD ?_ | refine zE ?_ | refine zF ?_ | refine zG ?_ | refine zH ?_ | refine zI ?_ | refine zJ ?_ | refine zK ?_ | refine zL ?_ | refine zM ?_ | refine zN ?_ | refine zO ?_ | refine yG (by decide) ?_ | refine AW.condT rfl ?_ | refine AW.condF rfl ?_)
                (refine callK_p ?_; simp (maxSteps := 1000000) (disch := refine hold_ ?_; first | (simp [ib_orW, ib_andM, c32', -List.getD_eq_getElem?_getD]; done) | omega) [ib_orW, ib_andM, c32', -List.getD_eq_getElem?_getD]; refine callK1_of (Fn.ct k4 Tryd.call52) ?_; (try simp (maxSteps := 1000000) (disch := refine hold_ ?_; first | (simp [ib_orW, ib_andM, c32', -List.getD_eq_getElem?_getD]; done) | omega) [ib_orW, ib_andM, c32', -List.getD_eq_getElem?_getD]); first | refine zZ ?_ | subst hK_)
                repeat (first | ((first | refine zP fun K_ hK_ => ?_ | refine zQ fun K_ hK_ => ?_ | refine zR (by kernel_rfl) (by kernel_rfl) fun K_ hK_ => ?_ | refine zS (by kernel_rfl) (by kernel_rfl) fun K_ hK_ => ?_ | refine zT ?_); first | (simp (maxSteps := 1000000) (disch := refine hold_ ?_; first | (simp [ib_orW, ib_andM, c32', -List.getD_eq_getElem?_getD]; done) | omega) [ib_orW, ib_andM, c32', -List.getD_eq_getElem?_getD]; try first | refine zZ ?_ | subst hK_) | subst hK_) | refine zA ?_ | refine zB ?_ | refine zC ?_ | refine zD ?_ | refine zE ?_ | refine zF ?_ | refine zG ?_ | refine zH ?_ | refine zI ?_ | refine zJ ?_ | refine zK ?_ | refine zL ?_ | refine zM ?_ | refine zN ?_ | refine zO ?_ | refine yG (by decide) ?_ | refine AW.condT rfl ?_ | refine AW.condF rfl ?_)
                first | refine AW.condD rfl (fun hc => ?_) (fun hc => ?_) | refine AW.cond rfl (fun hc => ?_) (fun hc => ?_)
                · have z2 : andM (orW (orW (wordN u) (wordN (u.drop 8))) (orW (wordN (u.drop 16)) (wordN (u.drop 24)))) = 0 := hc
                  obtain ⟨q1, q2⟩ := hiZ_or (orW_lt a1 a2) (orW_lt a3 a4) z2
                  obtain ⟨q3, q4⟩ := hiZ_or a1 a2 q1.2.2
                  obtain ⟨q5, q6⟩ := hiZ_or a3 a4 q2.2.2
                  have e1 := validB_skip 8 u (by omega) (wordN_asc u q3)
                  have e2 := validB_skip 8 (u.drop 8) (by omega) (wordN_asc _ q4)
                  have e3 := validB_skip 8 (u.drop 16) (by omega) (wordN_asc _ q5)
                  have e4 := validB_skip 8 (u.drop 24) (by omega) (wordN_asc _ q6)
                  simp only [List.drop_drop, Nat.reduceAdd] at e2 e3 e4
                  rw [← e3, ← e2, ← e1, hu] at e4
                  repeat (first | ((first | refine zP fun K_ hK_ => ?_ | refine zQ fun K_ hK_ => ?_ | refine zR (by kernel_rfl) (by kernel_rfl) fun K_ hK_ => ?_ | refine zS (by kernel_rfl) (by kernel_rfl) fun K_ hK_ => ?_ | refine zT ?_); first | (simp (maxSteps := 1000000) (disch := refine hold_ ?_; first | (simp [g32, -List.getD_eq_getElem?_getD]; done) | omega) [g32, -List.getD_eq_getElem?_getD]; try first | refine zZ ?_ | subst hK_) | subst hK_) | refine zA ?_ | refine zB ?_ | refine zC ?_ | refine zD ?_ | refine zE ?_ | refine zF ?_ | refine zG ?_ | refine zH ?_ | refine zI ?_ | refine zJ ?_ | refine zK ?_ | refine zL ?_ | refine zM ?_ | refine zN ?_ | refine zO ?_ | refine yG (by decide) ?_ | refine AW.condT rfl ?_ | refine AW.condF rfl ?_)
                  refine ⟨(u.drop 32).length, vSt nl (u.drop 32), by omega, ?_, _, rfl, rfl, e4.symm, by omega⟩
                  (unfold vSt; simp (maxSteps := 1000000) (disch := refine hold_ ?_; first | (simp [-List.getD_eq_getElem?_getD]; done) | omega) [-List.getD_eq_getElem?_getD])
                · repeat (first | ((first | refine zP fun K_ hK_ => ?_ | refine zQ fun K_ hK_ => ?_ | refine zR (by kernel_rfl) (by kernel_rfl) fun K_ hK_ => ?_ | refine zS (by kernel_rfl) (by kernel_rfl) fun K_ hK_ => ?_ | refine zT ?_); first | (simp (maxSteps := 1000000) (disch := refine hold_ ?_; first | (simp [-List.getD_eq_getElem?_getD]; done) | omega) [-List.getD_eq_getElem?_getD]; try first | refine zZ ?_ | subst hK_) | subst hK_) | refine zA ?_ | refine zB ?_ | refine zC ?_ | refine zD ?_ | refine zE ?_ | refine zF ?_ | refine zG ?_ | refine zH ?_ | refine zI ?_ | refine zJ ?_ | refine zK ?_ | refine zL ?_ | refine zM ?_ | refine zN ?_ | refine zO ?_ | refine yG (by decide) ?_ | refine AW.condT rfl ?_ | refine AW.condF rfl ?_)
                  refine ⟨u.length, vSt nl u, by omega, ?_, u, rfl, rfl, hu, by omega⟩
                  (unfold vSt; simp (maxSteps := 1000000) (disch := refine hold_ ?_; first | (simp [-List.getD_eq_getElem?_getD]; done) | omega) [-List.getD_eq_getElem?_getD])
              · have c32' : ¬ (32 : Int) < u.length := by omega
                repeat (first | ((first | refine zP fun K_ hK_ => ?_ | refine zQ fun K_ hK_ => ?_ | refine zR (by kernel_rfl) (by kernel_rfl) fun K_ hK_ => ?_ | refine zS (by kernel_rfl) (by kernel_rfl) fun K_ hK_ => ?_ | refine zT ?_); first | (simp (maxSteps := 1000000) (disch := refine hold_ ?_; first | (simp [c32', -List.getD_eq_getElem?_getD]; done) | omega) [c32', -List.getD_eq_getElem?_getD]; try first | refine zZ ?_ | subst hK_) | subst hK_) | refine zA ?_ | refine zB ?_ | refine zC ?_ | refine zD ?_ | refine zE ?_ | refine zF ?_ | refine zG ?_ | refine zH ?_ | refine zI ?_ | refine zJ ?_ | refine zK ?_ | refine zL ?_ | refine zM ?_ | refine zN ?_ | refine zO ?_ | refine yG (by decide) ?_ | refine AW.condT rfl ?_ | refine AW.condF rfl ?_)
                refine ⟨u.length, vSt nl u, by omega, ?_, u, rfl, rfl, hu, by omega⟩
                (unfold vSt; simp (maxSteps := 1000000) (disch := refine hold_ ?_; first | (simp [-List.getD_eq_getElem?_getD]; done) | omega) [-List.getD_eq_getElem?_getD])
            · repeat (first | ((first | refine zP fun K_ hK_ => ?_ | refine zQ fun K_ hK_ => ?_ | refine zR (by kernel_rfl) (by kernel_rfl) fun K_ hK_ => ?_ | refine zS (by kernel_rfl) (by kernel_rfl) fun K_ hK_ => ?_ | refine zT ?_); first | (simp (maxSteps := 1000000) (disch := refine hold_ ?_; first | (simp [-List.getD_eq_getElem?_getD]; done) | omega) [-List.getD_eq_getElem?_getD]; try first | refine zZ ?_ | subst hK_) | subst hK_) | refine zA ?_ | refine zB ?_ | refine zC ?_ | refine zD ?_ | refine zE ?_ | refine zF ?_ | refine zG ?_ | refine zH ?_ | refine zI ?_ | refine zJ ?_ | refine zK ?_ | refine zL ?_ | refine zM ?_ | refine zN ?_ | refine zO ?_ | refine yG (by decide) ?_ | refine AW.condT rfl ?_ | refine AW.condF rfl ?_)
              refine ⟨t2.length, vSt nl t2, by omega, ?_, t2, rfl, rfl, v2.symm, by omega⟩
              (unfold vSt; simp (maxSteps := 1000000) (disch := refine hold_ ?_; first | (simp [-List.getD_eq_getElem?_getD]; done) | omega) [-List.getD_eq_getElem?_getD])
          · have c16' : ¬ (16 : Int) < t2.length := by omega
            repeat (first | ((first | refine zP fun K_ hK_ => ?_ | refine zQ fun K_ hK_ => ?_ | refine zR (by kernel_rfl) (by kernel_rfl) fun K_ hK_ => ?_ | refine zS (by kernel_rfl) (by kernel_rfl) fun K_ hK_ => ?_ | refine zT ?_); first | (simp (maxSteps := 1000000) (disch := refine hold_ ?_; first | (simp [hd2, c16', c8', c8, -List.getD_eq_getElem?_getD]; done) | omega) [hd2, c16', c8', c8, -List.getD_eq_getElem?_getD]; try first | refine zZ ?_ | subst hK_) | subst hK_) | refine zA ?_ | refine zB ?_ | refine zC ?_ | refine zD ?_ | refine zE ?_ | refine zF ?_ | refine zG ?_ | refine zH ?_ | refine zI ?_ | refine zJ ?_ | refine zK ?_ | refine zL ?_ | refine zM ?_ | refine zN ?_ | refine zO ?_ | refine yG (by decide) ?_ | refine AW.condT rfl ?_ | refine AW.condF rfl ?_)
            refine ⟨t2.length, vSt nl t2, by omega, ?_, t2, rfl, rfl, v2.symm, by omega⟩
            (unfold vSt; simp (maxSteps := 1000000) (disch := refine hold_ ?_; first | (simp [-List.getD_eq_getElem?_getD]; done) | omega) [-List.getD_eq_getElem?_getD])
        · repeat (first | ((first | refine zP fun K_ hK_ => ?_ | refine zQ fun K_ hK_ => ?_ | refine zR (by kernel_rfl) (by kernel_rfl) fun K_ hK_ => ?_ | refine zS (by kernel_rfl) (by kernel_rfl) fun K_ hK_ => ?_ | refine zT ?_); first | (simp (maxSteps := 1000000) (disch := refine hold_ ?_; first | (simp [-List.getD_eq_getElem?_getD]; done) | omega) [-List.getD_eq_getElem?_getD]; try first | refine zZ ?_ | subst hK_) | subst hK_) | refine zA ?_ | refine zB ?_ | refine zC ?_ | refine zD ?_ | refine zE ?_ | refine zF ?_ | refine zG ?_ | refine zH ?_ | refine zI ?_ | refine zJ ?_ | refine zK ?_ | refine zL ?_ | refine zM ?_ | refine zN ?_ | refine zO ?_ | refine yG (by decide) ?_ | refine AW.condT rfl ?_ | refine AW.condF rfl ?_)
          refine ⟨t1.length, vSt nl t1, by omega, ?_, t1, rfl, rfl, v1.symm, by omega⟩
          (unfold vSt; simp (maxSteps := 1000000) (disch := refine hold_ ?_; first | (simp [-List.getD_eq_getElem?_getD]; done) | omega) [-List.getD_eq_getElem?_getD])
      · have c8' : ¬ (8 : Int) < t1.length := by omega
        repeat (first | ((first | refine zP fun K_ hK_ => ?_ | refine zQ fun K_ hK_ => ?_ | refine zR (by kernel_rfl) (by kernel_rfl) fun K_ hK_ => ?_ | refine zS (by kernel_rfl) (by kernel_rfl) fun K_ hK_ => ?_ | refine zT ?_); first | (simp (maxSteps := 1000000) (disch := refine hold_ ?_; first | (simp [h0, hb', hd1, hd1', c8', -List.getD_eq_getElem?_getD]; done) | omega) [h0, hb', hd1, hd1', c8', -List.getD_eq_getElem?_getD]; try first | refine zZ ?_ | subst hK_) | subst hK_) | refine zA ?_ | refine zB ?_ | refine zC ?_ | refine zD ?_ | refine zE ?_ | refine zF ?_ | refine zG ?_ | refine zH ?_ | refine zI ?_ | refine zJ ?_ | refine zK ?_ | refine zL ?_ | refine zM ?_ | refine zN ?_ | refine zO ?_ | refine yG (by decide) ?_ | refine AW.condT rfl ?_ | refine AW.condF rfl ?_)
        refine ⟨t1.length, vSt nl t1, by omega, ?_, t1, rfl, rfl, v1.symm, by omega⟩
        (unfold vSt; simp (maxSteps := 1000000) (disch := refine hold_ ?_; first | (simp [-List.getD_eq_getElem?_getD]; done) | omega) [-List.getD_eq_getElem?_getD])
    · have hbl := bt_lt t 0
      obtain ⟨x, y, z, lo, hi, hF, h7, h4, y0, y16, hlo, hhi, lo0, lo1, hi0, hi1, hz, _, hcs⟩ := cls (bt t 0) (by omega)
      have hE : ub (t.getD 0 0#8) = bt t 0 := rfl
      have hE1 : ub (t.getD 1 0#8) = bt t 1 := rfl
      have hE2 : ub (t.getD 2 0#8) = bt t 2 := rfl
      have hE3 : ub (t.getD 3 0#8) = bt t 3 := rfl
      have hb' : ¬ bt t 0 < 128 := hb
      have g0 : [lo, hi].getD 0 0 = lo := rfl
      have g1 : [lo, hi].getD 1 0 = hi := rfl
      have hn : (bt t 0).toNat < 256 := by omega
      repeat (first | ((first | refine zP fun K_ hK_ => ?_ | refine zQ fun K_ hK_ => ?_ | refine zR (by kernel_rfl) (by kernel_rfl) fun K_ hK_ => ?_ | refine zS (by kernel_rfl) (by kernel_rfl) fun K_ hK_ => ?_ | refine zT ?_); first | (simp (maxSteps := 1000000) (disch := refine hold_ ?_; first | (simp [h0, hE, hb', hF, h7, h4, y0, y16, hlo, hhi, hz, hn, -List.getD_eq_getElem?_getD]; done) | omega) [h0, hE, hb', hF, h7, h4, y0, y16, hlo, hhi, hz, hn, -List.getD_eq_getElem?_getD]; try first | refine zZ ?_ | subst hK_) | subst hK_) | refine zA ?_ | refine zB ?_ | refine zC ?_ | refine zD ?_ | refine zE ?_ | refine zF ?_ | refine zG ?_ | refine zH ?_ | refine zI ?_ | refine zJ ?_ | refine zK ?_ | refine zL ?_ | refine zM ?_ | refine zN ?_ | refine zO ?_ | refine yG (by decide) ?_ | refine AW.condT rfl ?_ | refine AW.condF rfl ?_)
      rcases hcs with ⟨z1, hr⟩ | ⟨z2, h1, h2, hlo2, hhi2⟩ | ⟨z3, h1, h2, hlo2, hhi2⟩ | ⟨z4, h1, h2, hlo2, hhi2⟩
      · have hok : okS t = 0 := by unfold okS; (repeat' split) <;> omega
        have hA2 : A = false := by rw [← hv]; exact validB_bad t (by omega) hok
        subst z1 hA2
        repeat (first | ((first | refine zP fun K_ hK_ => ?_ | refine zQ fun K_ hK_ => ?_ | refine zR (by kernel_rfl) (by kernel_rfl) fun K_ hK_ => ?_ | refine zS (by kernel_rfl) (by kernel_rfl) fun K_ hK_ => ?_ | refine zT ?_); first | (simp (maxSteps := 1000000) (disch := refine hold_ ?_; first | (simp [-List.getD_eq_getElem?_getD]; done) | omega) [-List.getD_eq_getElem?_getD]; try first | refine zZ ?_ | subst hK_) | subst hK_) | refine zA ?_ | refine zB ?_ | refine zC ?_ | refine zD ?_ | refine zE ?_ | refine zF ?_ | refine zG ?_ | refine zH ?_ | refine zI ?_ | refine zJ ?_ | refine zK ?_ | refine zL ?_ | refine zM ?_ | refine zN ?_ | refine zO ?_ | refine yG (by decide) ?_ | refine AW.condT rfl ?_ | refine AW.condF rfl ?_)
        simp (maxSteps := 1000000) (disch := refine hold_ ?_; first | (simp [-List.getD_eq_getElem?_getD]; done) | omega) [-List.getD_eq_getElem?_getD]
      · subst z2
        have hd : t.length < 2 ∨ (2 ≤ t.length ∧ bt t 1 < lo) ∨ (2 ≤ t.length ∧ lo ≤ bt t 1 ∧ hi < bt t 1) ∨ (2 ≤ t.length ∧ lo ≤ bt t 1 ∧ bt t 1 ≤ hi) := by omega
        rcases hd with hd | hd | hd | hd
        · have hok : okS t = 0 := by
            unfold okS; rw [if_neg (by omega), if_neg (by omega), if_pos (by omega), if_neg (by omega)]
          have hA2 : A = false := by rw [← hv]; exact validB_bad t (by omega) hok
          subst hA2
          have f1 : ((t.length : Int) < 2) = True := eq_true (by omega)
          repeat (first | ((first | refine zP fun K_ hK_ => ?_ | refine zQ fun K_ hK_ => ?_ | refine zR (by kernel_rfl) (by kernel_rfl) fun K_ hK_ => ?_ | refine zS (by kernel_rfl) (by kernel_rfl) fun K_ hK_ => ?_ | refine zT ?_); first | (simp (maxSteps := 1000000) (disch := refine hold_ ?_; first | (simp [h0, hE, hE1, hE2, hE3, g0, g1, f1, -List.getD_eq_getElem?_getD]; done) | omega) [h0, hE, hE1, hE2, hE3, g0, g1, f1, -List.getD_eq_getElem?_getD]; try first | refine zZ ?_ | subst hK_) | subst hK_) | refine zA ?_ | refine zB ?_ | refine zC ?_ | refine zD ?_ | refine zE ?_ | refine zF ?_ | refine zG ?_ | refine zH ?_ | refine zI ?_ | refine zJ ?_ | refine zK ?_ | refine zL ?_ | refine zM ?_ | refine zN ?_ | refine zO ?_ | refine yG (by decide) ?_ | refine AW.condT rfl ?_ | refine AW.condF rfl ?_)
          simp (maxSteps := 1000000) (disch := refine hold_ ?_; first | (simp [-List.getD_eq_getElem?_getD]; done) | omega) [-List.getD_eq_getElem?_getD]
        · have hok : okS t = 0 := by
            unfold okS; rw [if_neg (by omega), if_neg (by omega), if_pos (by omega), if_neg (by omega)]
          have hA2 : A = false := by rw [← hv]; exact validB_bad t (by omega) hok
          subst hA2
          have f1 : ((t.length : Int) < 2) = False := eq_false (by omega)
          have f2 : (bt t 1 < lo) = True := eq_true (by omega)
          repeat (first | ((first | refine zP fun K_ hK_ => ?_ | refine zQ fun K_ hK_ => ?_ | refine zR (by kernel_rfl) (by kernel_rfl) fun K_ hK_ => ?_ | refine zS (by kernel_rfl) (by kernel_rfl) fun K_ hK_ => ?_ | refine zT ?_); first | (simp (maxSteps := 1000000) (disch := refine hold_ ?_; first | (simp [h0, hE, hE1, hE2, hE3, g0, g1, f1, f2, -List.getD_eq_getElem?_getD]; done) | omega) [h0, hE, hE1, hE2, hE3, g0, g1, f1, f2, -List.getD_eq_getElem?_getD]; try first | refine zZ ?_ | subst hK_) | subst hK_) | refine zA ?_ | refine zB ?_ | refine zC ?_ | refine zD ?_ | refine zE ?_ | refine zF ?_ | refine zG ?_ | refine zH ?_ | refine zI ?_ | refine zJ ?_ | refine zK ?_ | refine zL ?_ | refine zM ?_ | refine zN ?_ | refine zO ?_ | refine yG (by decide) ?_ | refine AW.condT rfl ?_ | refine AW.condF rfl ?_)
          simp (maxSteps := 1000000) (disch := refine hold_ ?_; first | (simp [-List.getD_eq_getElem?_getD]; done) | omega) [-List.getD_eq_getElem?_getD]
        · have hok : okS t = 0 := by
            unfold okS; rw [if_neg (by omega), if_neg (by omega), if_pos (by omega), if_neg (by omega)]
          have hA2 : A = false := by rw [← hv]; exact validB_bad t (by omega) hok
          subst hA2
          have f1 : ((t.length : Int) < 2) = False := eq_false (by omega)
          have f2 : (bt t 1 < lo) = False := eq_false (by omega)
          have f3 : (hi < bt t 1) = True := eq_true (by omega)
          repeat (first | ((first | refine zP fun K_ hK_ => ?_ | refine zQ fun K_ hK_ => ?_ | refine zR (by kernel_rfl) (by kernel_rfl) fun K_ hK_ => ?_ | refine zS (by kernel_rfl) (by kernel_rfl) fun K_ hK_ => ?_ | refine zT ?_); first | (simp (maxSteps := 1000000) (disch := refine hold_ ?_; first | (simp [h0, hE, hE1, hE2, hE3, g0, g1, f1, f2, f3, -List.getD_eq_getElem?_getD]; done) | omega) [h0, hE, hE1, hE2, hE3, g0, g1, f1, f2, f3, -List.getD_eq_getElem?_getD]; try first | refine zZ ?_ | subst hK_) | subst hK_) | refine zA ?_ | refine zB ?_ | refine zC ?_ | refine zD ?_ | refine zE ?_ | refine zF ?_ | refine zG ?_ | refine zH ?_ | refine zI ?_ | refine zJ ?_ | refine zK ?_ | refine zL ?_ | refine zM ?_ | refine zN ?_ | refine zO ?_ | refine yG (by decide) ?_ | refine AW.condT rfl ?_ | refine AW.condF rfl ?_)
          simp (maxSteps := 1000000) (disch := refine hold_ ?_; first | (simp [-List.getD_eq_getElem?_getD]; done) | omega) [-List.getD_eq_getElem?_getD]
        · have hok : okS t = 2 := by
            unfold okS; rw [if_neg (by omega), if_neg (by omega), if_pos (by omega), if_pos (by omega)]
          have v2 := validB_step t (by omega) 2 hok (by omega)
          have l2 : (t.drop 2).length + 2 = t.length := by simp; omega
          rw [hv] at v2
          have hk : 2 ≤ t.length := by omega
          have f1 : ((t.length : Int) < 2) = False := eq_false (by omega)
          have f2 : (bt t 1 < lo) = False := eq_false (by omega)
          have f3 : (hi < bt t 1) = False := eq_false (by omega)
          repeat (first | ((first | refine zP fun K_ hK_ => ?_ | refine zQ fun K_ hK_ => ?_ | refine zR (by kernel_rfl) (by kernel_rfl) fun K_ hK_ => ?_ | refine zS (by kernel_rfl) (by kernel_rfl) fun K_ hK_ => ?_ | refine zT ?_); first | (simp (maxSteps := 1000000) (disch := refine hold_ ?_; first | (simp [h0, hE, hE1, hE2, hE3, g0, g1, f1, f2, f3, hk, -List.getD_eq_getElem?_getD]; done) | omega) [h0, hE, hE1, hE2, hE3, g0, g1, f1, f2, f3, hk, -List.getD_eq_getElem?_getD]; try first | refine zZ ?_ | subst hK_) | subst hK_) | refine zA ?_ | refine zB ?_ | refine zC ?_ | refine zD ?_ | refine zE ?_ | refine zF ?_ | refine zG ?_ | refine zH ?_ | refine zI ?_ | refine zJ ?_ | refine zK ?_ | refine zL ?_ | refine zM ?_ | refine zN ?_ | refine zO ?_ | refine yG (by decide) ?_ | refine AW.condT rfl ?_ | refine AW.condF rfl ?_)
          refine ⟨(t.drop 2).length, vSt nl (t.drop 2), by omega, ?_, _, rfl, rfl, v2.symm, by omega⟩
          (unfold vSt; simp (maxSteps := 1000000) (disch := refine hold_ ?_; first | (simp [-List.getD_eq_getElem?_getD]; done) | omega) [-List.getD_eq_getElem?_getD])
      · subst z3
        have hd : t.length < 3 ∨ (3 ≤ t.length ∧ bt t 1 < lo) ∨ (3 ≤ t.length ∧ lo ≤ bt t 1 ∧ hi < bt t 1) ∨ (3 ≤ t.length ∧ lo ≤ bt t 1 ∧ bt t 1 ≤ hi ∧ bt t 2 < 128) ∨ (3 ≤ t.length ∧ lo ≤ bt t 1 ∧ bt t 1 ≤ hi ∧ 128 ≤ bt t 2 ∧ 191 < bt t 2) ∨ (3 ≤ t.length ∧ lo ≤ bt t 1 ∧ bt t 1 ≤ hi ∧ 128 ≤ bt t 2 ∧ bt t 2 ≤ 191) := by omega
        rcases hd with hd | hd | hd | hd | hd | hd
        · have hok : okS t = 0 := by
            unfold okS; rw [if_neg (by omega), if_neg (by omega), if_neg (by omega), if_pos (by omega), if_neg (by omega)]
          have hA2 : A = false := by rw [← hv]; exact validB_bad t (by omega) hok
          subst hA2
          have f1 : ((t.length : Int) < 3) = True := eq_true (by omega)
          repeat (first | ((first | refine zP fun K_ hK_ => ?_ | refine zQ fun K_ hK_ => ?_ | refine zR (by kernel_rfl) (by kernel_rfl) fun K_ hK_ => ?_ | refine zS (by kernel_rfl) (by kernel_rfl) fun K_ hK_ => ?_ | refine zT ?_); first | (simp (maxSteps := 1000000) (disch := refine hold_ ?_; first | (simp [h0, hE, hE1, hE2, hE3, g0, g1, f1, -List.getD_eq_getElem?_getD]; done) | omega) [h0, hE, hE1, hE2, hE3, g0, g1, f1, -List.getD_eq_getElem?_getD]; try first | refine zZ ?_ | subst hK_) | subst hK_) | refine zA ?_ | refine zB ?_ | refine zC ?_ | refine zD ?_ | refine zE ?_ | refine zF ?_ | refine zG ?_ | refine zH ?_ | refine zI ?_ | refine zJ ?_ | refine zK ?_ | refine zL ?_ | refine zM ?_ | refine zN ?_ | refine zO ?_ | refine yG (by decide) ?_ | refine AW.condT rfl ?_ | refine AW.condF rfl ?_)
          simp (maxSteps := 1000000) (disch := refine hold_ ?_; first | (simp [-List.getD_eq_getElem?_getD]; done) | omega) [-List.getD_eq_getElem?_getD]
        · have hok : okS t = 0 := by
            unfold okS; rw [if_neg (by omega), if_neg (by omega), if_neg (by omega), if_pos (by omega), if_neg (by omega)]
          have hA2 : A = false := by rw [← hv]; exact validB_bad t (by omega) hok
          subst hA2
          have f1 : ((t.length : Int) < 3) = False := eq_false (by omega)
          have f2 : (bt t 1 < lo) = True := eq_true (by omega)
          repeat (first | ((first | refine zP fun K_ hK_ => ?_ | refine zQ fun K_ hK_ => ?_ | refine zR (by kernel_rfl) (by kernel_rfl) fun K_ hK_ => ?_ | refine zS (by kernel_rfl) (by kernel_rfl) fun K_ hK_ => ?_ | refine zT ?_); first | (simp (maxSteps := 1000000) (disch := refine hold_ ?_; first | (simp [h0, hE, hE1, hE2, hE3, g0, g1, f1, f2, -List.getD_eq_getElem?_getD]; done) | omega) [h0, hE, hE1, hE2, hE3, g0, g1, f1, f2, -List.getD_eq_getElem?_getD]; try first | refine zZ ?_ | subst hK_) | subst hK_) | refine zA ?_ | refine zB ?_ | refine zC ?_ | refine zD ?_ | refine zE ?_ | refine zF ?_ | refine zG ?_ | refine zH ?_ | refine zI ?_ | refine zJ ?_ | refine zK ?_ | refine zL ?_ | refine zM ?_ | refine zN ?_ | refine zO ?_ | refine yG (by decide) ?_ | refine AW.condT rfl ?_ | refine AW.condF rfl ?_)
          simp (maxSteps := 1000000) (disch := refine hold_ ?_; first | (simp [-List.getD_eq_getElem?_getD]; done) | omega) [-List.getD_eq_getElem?_getD]
        · have hok : okS t = 0 := by
            unfold okS; rw [if_neg (by omega), if_neg (by omega), if_neg (by omega), if_pos (by omega), if_neg (by omega)]
          have hA2 : A = false := by rw [← hv]; exact validB_bad t (by omega) hok
          subst hA2
          have f1 : ((t.length : Int) < 3) = False := eq_false (by omega)
          have f2 : (bt t 1 < lo) = False := eq_false (by omega)
          have f3 : (hi < bt t 1) = True := eq_true (by omega)
          repeat (first | ((first | refine zP fun K_ hK_ => ?_ | refine zQ fun K_ hK_ => ?_ | refine zR (by kernel_rfl) (by kernel_rfl) fun K_ hK_ => ?_ | refine zS (by kernel_rfl) (by kernel_rfl) fun K_ hK_ => ?_ | refine zT ?_); first | (simp (maxSteps := 1000000) (disch := refine hold_ ?_; first | (simp [h0, hE, hE1, hE2, hE3, g0, g1, f1, f2, f3, -List.getD_eq_getElem?_getD]; done) | omega) [h0, hE, hE1, hE2, hE3, g0, g1, f1, f2, f3, -List.getD_eq_getElem?_getD]; try first | refine zZ ?_ | subst hK_) | subst hK_) | refine zA ?_ | refine zB ?_ | refine zC ?_ | refine zD ?_ | refine zE ?_ | refine zF ?_ | refine zG ?_ | refine zH ?_ | refine zI ?_ | refine zJ ?_ | refine zK ?_ | refine zL ?_ | refine zM ?_ | refine zN ?_ | refine zO ?_ | refine yG (by decide) ?_ | refine AW.condT rfl ?_ | refine AW.condF rfl ?_)
          simp (maxSteps := 1000000) (disch := refine hold_ ?_; first | (simp [-List.getD_eq_getElem?_getD]; done) | omega) [-List.getD_eq_getElem?_getD]
        · have hok : okS t = 0 := by
            unfold okS; rw [if_neg (by omega), if_neg (by omega), if_neg (by omega), if_pos (by omega), if_neg (by omega)]
          have hA2 : A = false := by rw [← hv]; exact validB_bad t (by omega) hok
          subst hA2
          have f1 : ((t.length : Int) < 3) = False := eq_false (by omega)
          have f2 : (bt t 1 < lo) = False := eq_false (by omega)
          have f3 : (hi < bt t 1) = False := eq_false (by omega)
          have f4 : (bt t 2 < 128) = True := eq_true (by omega)
          repeat (first | ((first | refine zP fun K_ hK_ => ?_ | refine zQ fun K_ hK_ => ?_ | refine zR (by kernel_rfl) (by kernel_rfl) fun K_ hK_ => ?_ | refine zS (by kernel_rfl) (by kernel_rfl) fun K_ hK_ => ?_ | refine zT ?_); first | (simp (maxSteps := 1000000) (disch := refine hold_ ?_; first | (simp [h0, hE, hE1, hE2, hE3, g0, g1, f1, f2, f3, f4, -List.getD_eq_getElem?_getD]; done) | omega) [h0, hE, hE1, hE2, hE3, g0, g1, f1, f2, f3, f4, -List.getD_eq_getElem?_getD]; try first | refine zZ ?_ | subst hK_) | subst hK_) | refine zA ?_ | refine zB ?_ | refine zC ?_ | refine zD ?_ | refine zE ?_ | refine zF ?_ | refine zG ?_ | refine zH ?_ | refine zI ?_ | refine zJ ?_ | refine zK ?_ | refine zL ?_ | refine zM ?_ | refine zN ?_ | refine zO ?_ | refine yG (by decide) ?_ | refine AW.condT rfl ?_ | refine AW.condF rfl ?_)
          simp (maxSteps := 1000000) (disch := refine hold_ ?_; first | (simp [-List.getD_eq_getElem?_getD]; done) | omega) [-List.getD_eq_getElem?_getD]
        · have hok : okS t = 0 := by
            unfold okS; rw [if_neg (by omega), if_neg (by omega), if_neg (by omega), if_pos (by omega), if_neg (by omega)]
          have hA2 : A = false := by rw [← hv]; exact validB_bad t (by omega) hok
          subst hA2
          have f1 : ((t.length : Int) < 3) = False := eq_false (by omega)
          have f2 : (bt t 1 < lo) = False := eq_false (by omega)
          have f3 : (hi < bt t 1) = False := eq_false (by omega)
          have f4 : (bt t 2 < 128) = False := eq_false (by omega)
          have f5 : (191 < bt t 2) = True := eq_true (by omega)
          repeat (first | ((first | refine zP fun K_ hK_ => ?_ | refine zQ fun K_ hK_ => ?_ | refine zR (by kernel_rfl) (by kernel_rfl) fun K_ hK_ => ?_ | refine zS (by kernel_rfl) (by kernel_rfl) fun K_ hK_ => ?_ | refine zT ?_); first | (simp (maxSteps := 1000000) (disch := refine hold_ ?_; first | (simp [h0, hE, hE1, hE2, hE3, g0, g1, f1, f2, f3, f4, f5, -List.getD_eq_getElem?_getD]; done) | omega) [h0, hE, hE1, hE2, hE3, g0, g1, f1, f2, f3, f4, f5, -List.getD_eq_getElem?_getD]; try first | refine zZ ?_ | subst hK_) | subst hK_) | refine zA ?_ | refine zB ?_ | refine zC ?_ | refine zD ?_ | refine zE ?_ | refine zF ?_ | refine zG ?_ | refine zH ?_ | refine zI ?_ | refine zJ ?_ | refine zK ?_ | refine zL ?_ | refine zM ?_ | refine zN ?_ | refine zO ?_ | refine yG (by decide) ?_ | refine AW.condT rfl ?_ | refine AW.condF rfl ?_)
          simp (maxSteps := 1000000) (disch := refine hold_ ?_; first | (simp [-List.getD_eq_getElem?_getD]; done) | omega) [-List.getD_eq_getElem?_getD]
        · have hok : okS t = 3 := by
            unfold okS; rw [if_neg (by omega), if_neg (by omega), if_neg (by omega), if_pos (by omega), if_pos (by omega)]
          have v2 := validB_step t (by omega) 3 hok (by omega)
          have l2 : (t.drop 3).length + 3 = t.length := by simp; omega
          rw [hv] at v2
          have hk : 3 ≤ t.length := by omega
          have f1 : ((t.length : Int) < 3) = False := eq_false (by omega)
          have f2 : (bt t 1 < lo) = False := eq_false (by omega)
          have f3 : (hi < bt t 1) = False := eq_false (by omega)
          have f4 : (bt t 2 < 128) = False := eq_false (by omega)
          have f5 : (191 < bt t 2) = False := eq_false (by omega)
          repeat (first | ((first | refine zP fun K_ hK_ => ?_ | refine zQ fun K_ hK_ => ?_ | refine zR (by kernel_rfl) (by kernel_rfl) fun K_ hK_ => ?_ | refine zS (by kernel_rfl) (by kernel_rfl) fun K_ hK_ => ?_ | refine zT ?_); first | (simp (maxSteps := 1000000) (disch := refine hold_ ?_; first | (simp [h0, hE, hE1, hE2, hE3, g0, g1, f1, f2, f3, f4, f5, hk, -List.getD_eq_getElem?_getD]; done) | omega) [h0, hE, hE1, hE2, hE3, g0, g1, f1, f2, f3, f4, f5, hk, -List.getD_eq_getElem?_getD]; try first | refine zZ ?_ | subst hK_) | subst hK_) | refine zA ?_ | refine zB ?_ | refine zC ?_ | refine zD ?_ | refine zE ?_ | refine zF ?_ | refine zG ?_ | refine zH ?_ | refine zI ?_ | refine zJ ?_ | refine zK ?_ | refine zL ?_ | refine zM ?_ | refine zN ?_ | refine zO ?_ | refine yG (by decide) ?_ | refine AW.condT rfl ?_ | refine AW.condF rfl ?_)
          refine ⟨(t.drop 3).length, vSt nl (t.drop 3), by omega, ?_, _, rfl, rfl, v2.symm, by omega⟩
          (unfold vSt; simp (maxSteps := 1000000) (disch := refine hold_ ?_; first | (simp [-List.getD_eq_getElem?_getD]; done) | omega) [-List.getD_eq_getElem?_getD])
      · subst z4
        have hd : t.length < 4 ∨ (4 ≤ t.length ∧ bt t 1 < lo) ∨ (4 ≤ t.length ∧ lo ≤ bt t 1 ∧ hi < bt t 1) ∨ (4 ≤ t.length ∧ lo ≤ bt t 1 ∧ bt t 1 ≤ hi ∧ bt t 2 < 128) ∨ (4 ≤ t.length ∧ lo ≤ bt t 1 ∧ bt t 1 ≤ hi ∧ 128 ≤ bt t 2 ∧ 191 < bt t 2) ∨ (4 ≤ t.length ∧ lo ≤ bt t 1 ∧ bt t 1 ≤ hi ∧ 128 ≤ bt t 2 ∧ bt t 2 ≤ 191 ∧ bt t 3 < 128) ∨ (4 ≤ t.length ∧ lo ≤ bt t 1 ∧ bt t 1 ≤ hi ∧ 128 ≤ bt t 2 ∧ bt t 2 ≤ 191 ∧ 128 ≤ bt t 3 ∧ 191 < bt t 3) ∨ (4 ≤ t.length ∧ lo ≤ bt t 1 ∧ bt t 1 ≤ hi ∧ 128 ≤ bt t 2 ∧ bt t 2 ≤ 191 ∧ 128 ≤ bt t 3 ∧ bt t 3 ≤ 191) := by omega
        rcases hd with hd | hd | hd | hd | hd | hd | hd | hd
        · have hok : okS t = 0 := by
            unfold okS; rw [if_neg (by omega), if_neg (by omega), if_neg (by omega), if_neg (by omega), if_pos (by omega), if_neg (by omega)]
          have hA2 : A = false := by rw [← hv]; exact validB_bad t (by omega) hok
          subst hA2
          have f1 : ((t.length : Int) < 4) = True := eq_true (by omega)
          repeat (first | ((first | refine zP fun K_ hK_ => ?_ | refine zQ fun K_ hK_ => ?_ | refine zR (by kernel_rfl) (by kernel_rfl) fun K_ hK_ => ?_ | refine zS (by kernel_rfl) (by kernel_rfl) fun K_ hK_ => ?_ | refine zT ?_); first | (simp (maxSteps := 1000000) (disch := refine hold_ ?_; first | (simp [h0, hE, hE1, hE2, hE3, g0, g1, f1, -List.getD_eq_getElem?_getD]; done) | omega) [h0, hE, hE1, hE2, hE3, g0, g1, f1, -List.getD_eq_getElem?_getD]; try first | refine zZ ?_ | subst hK_) | subst hK_) | refine zA ?_ | refine zB ?_ | refine zC ?_ | refine zD ?_ | refine zE ?_ | refine zF ?_ | refine zG ?_ | refine zH ?_ | refine zI ?_ | refine zJ ?_ | refine zK ?_ | refine zL ?_ | refine zM ?_ | refine zN ?_ | refine zO ?_ | refine yG (by decide) ?_ | refine AW.condT rfl ?_ | refine AW.condF rfl ?_)
          simp (maxSteps := 1000000) (disch := refine hold_ ?_; first | (simp [-List.getD_eq_getElem?_getD]; done) | omega) [-List.getD_eq_getElem?_getD]
        · have hok : okS t = 0 := by
            unfold okS; rw [if_neg (by omega), if_neg (by omega), if_neg (by omega), if_neg (by omega), if_pos (by omega), if_neg (by omega)]
          have hA2 : A = false := by rw [← hv]; exact validB_bad t (by omega) hok
          subst hA2
          have f1 : ((t.length : Int) < 4) = False := eq_false (by omega)
          have f2 : (bt t 1 < lo) = True := eq_true (by omega)
          repeat (first | ((first | refine zP fun K_ hK_ => ?_ | refine zQ fun K_ hK_ => ?_ | refine zR (by kernel_rfl) (by kernel_rfl) fun K_ hK_ => ?_ | refine zS (by kernel_rfl) (by kernel_rfl) fun K_ hK_ => ?_ | refine zT ?_); first | (simp (maxSteps := 1000000) (disch := refine hold_ ?_; first | (simp [h0, hE, hE1, hE2, hE3, g0, g1, f1, f2, -List.getD_eq_getElem?_getD]; done) | omega) [h0, hE, hE1, hE2, hE3, g0, g1, f1, f2, -List.getD_eq_getElem?_getD]; try first | refine zZ ?_ | subst hK_) | subst hK_) | refine zA ?_ | refine zB ?_ | refine zC ?_ | refine zD ?_ | refine zE ?_ | refine zF ?_ | refine zG ?_ | refine zH ?_ | refine zI ?_ | refine zJ ?_ | refine zK ?_ | refine zL ?_ | refine zM ?_ | refine zN ?_ | refine zO ?_ | refine yG (by decide) ?_ | refine AW.condT rfl ?_ | refine AW.condF rfl ?_)
          simp (maxSteps := 1000000) (disch := refine hold_ ?_; first | (simp [-List.getD_eq_getElem?_getD]; done) | omega) [-List.getD_eq_getElem?_getD]
        · have hok : okS t = 0 := by
            unfold okS; rw [if_neg (by omega), if_neg (by omega), if_neg (by omega), if_neg (by omega), if_pos (by omega), if_neg (by omega)]
          have hA2 : A = false := by rw [← hv]; exact validB_bad t (by omega) hok
          subst hA2
          have f1 : ((t.length : Int) < 4) = False := eq_false (by omega)
          have f2 : (bt t 1 < lo) = False := eq_false (by omega)
          have f3 : (hi < bt t 1) = True := eq_true (by omega)
          repeat (first | ((first | refine zP fun K_ hK_ => ?_ | refine zQ fun K_ hK_ => ?_ | refine zR (by kernel_rfl) (by kernel_rfl) fun K_ hK_ => ?_ | refine zS (by kernel_rfl) (by kernel_rfl) fun K_ hK_ => ?_ | refine zT ?_); first | (simp (maxSteps := 1000000) (disch := refine hold_ ?_; first | (simp [h0, hE, hE1, hE2, hE3, g0, g1, f1, f2, f3, -List.getD_eq_getElem?_getD]; done) | omega) [h0, hE, hE1, hE2, hE3, g0, g1, f1, f2, f3, -List.getD_eq_getElem?_getD]; try first | refine zZ ?_ | subst hK_) | subst hK_) | refine zA ?_ | refine zB ?_ | refine zC ?_ | refine zD ?_ | refine zE ?_ | refine zF ?_ | refine zG ?_ | refine zH ?_ | refine zI ?_ | refine zJ ?_ | refine zK ?_ | refine zL ?_ | refine zM ?_ | refine zN ?_ | refine zO ?_ | refine yG (by decide) ?_ | refine AW.condT rfl ?_ | refine AW.condF rfl ?_)
          simp (maxSteps := 1000000) (disch := refine hold_ ?_; first | (simp [-List.getD_eq_getElem?_getD]; done) | omega) [-List.getD_eq_getElem?_getD]
        · have hok : okS t = 0 := by
            unfold okS; rw [if_neg (by omega), if_neg (by omega), if_neg (by omega), if_neg (by omega), if_pos (by omega), if_neg (by omega)]
          have hA2 : A = false := by rw [← hv]; exact validB_bad t (by omega) hok
          subst hA2
          have f1 : ((t.length : Int) < 4) = False := eq_false (by omega)
          have f2 : (bt t 1 < lo) = False := eq_false (by omega)
          have f3 : (hi < bt t 1) = False := eq_false (by omega)
          have f4 : (bt t 2 < 128) = True := eq_true (by omega)
          repeat (first | ((first | refine zP fun K_ hK_ => ?_ | refine zQ fun K_ hK_ => ?_ | refine zR (by kernel_rfl) (by kernel_rfl) fun K_ hK_ => ?_ | refine zS (by kernel_rfl) (by kernel_rfl) fun K_ hK_ => ?_ | refine zT ?_); first | (simp (maxSteps := 1000000) (disch := refine hold_ ?_; first | (simp [h0, hE, hE1, hE2, hE3, g0, g1, f1, f2, f3, f4, -List.getD_eq_getElem?_getD]; done) | omega) [h0, hE, hE1, hE2, hE3, g0, g1, f1, f2, f3, f4, -List.getD_eq_getElem?_getD]; try first | refine zZ ?_ | subst hK_) | subst hK_) | refine zA ?_ | refine zB ?_ | refine zC ?_ | refine zD ?_ | refine zE ?_ | refine zF ?_ | refine zG ?_ | refine zH ?_ | refine zI ?_ | refine zJ ?_ | refine zK ?_ | refine zL ?_ | refine zM ?_ | refine zN ?_ | refine zO ?_ | refine yG (by decide) ?_ | refine AW.condT rfl ?_ | refine AW.condF rfl ?_)
          simp (maxSteps := 1000000) (disch := refine hold_ ?_; first | (simp [-List.getD_eq_getElem?_getD]; done) | omega) [-List.getD_eq_getElem?_getD]
        · have hok : okS t = 0 := by
            unfold okS; rw [if_neg (by omega), if_neg (by omega), if_neg (by omega), if_neg (by omega), if_pos (by omega), if_neg (by omega)]
          have hA2 : A = false := by rw [← hv]; exact validB_bad t (by omega) hok
          subst hA2
          have f1 : ((t.length : Int) < 4) = False := eq_false (by omega)
          have f2 : (bt t 1 < lo) = False := eq_false (by omega)
          have f3 : (hi < bt t 1) = False := eq_false (by omega)
          have f4 : (bt t 2 < 128) = False := eq_false (by omega)
          have f5 : (191 < bt t 2) = True := eq_true (by omega)
          repeat (first | ((first | refine zP fun K_ hK_ => ?_ | refine zQ fun K_ hK_ => ?_ | refine zR (by kernel_rfl) (by kernel_rfl) fun K_ hK_ => ?_ | refine zS (by kernel_rfl) (by kernel_rfl) fun K_ hK_ => ?_ | refine zT ?_); first | (simp (maxSteps := 1000000) (disch := refine hold_ ?_; first | (simp [h0, hE, hE1, hE2, hE3, g0, g1, f1, f2, f3, f4, f5, -List.getD_eq_getElem?_getD]; done) | omega) [h0, hE, hE1, hE2, hE3, g0, g1, f1, f2, f3, f4, f5, -List.getD_eq_getElem?_getD]; try first | refine zZ ?_ | subst hK_) | subst hK_) | refine zA ?_ | refine zB ?_ | refine zC ?_ | refine zD ?_ | refine zE ?_ | refine zF ?_ | refine zG ?_ | refine zH ?_ | refine zI ?_ | refine zJ ?_ | refine zK ?_ | refine zL ?_ | refine zM ?_ | refine zN ?_ | refine zO ?_ | refine yG (by decide) ?_ | refine AW.condT rfl ?_ | refine AW.condF rfl ?_)
          simp (maxSteps := 1000000) (disch := refine hold_ ?_; first | (simp [-List.getD_eq_getElem?_getD]; done) | omega) [-List.getD_eq_getElem?_getD]
        · have hok : okS t = 0 := by
            unfold okS; rw [if_neg (by omega), if_neg (by omega), if_neg (by omega), if_neg (by omega), if_pos (by omega), if_neg (by omega)]
          have hA2 : A = false := by rw [← hv]; exact validB_bad t (by omega) hok
          subst hA2
          have f1 : ((t.length : Int) < 4) = False := eq_false (by omega)
          have f2 : (bt t 1 < lo) = False := eq_false (by omega)
          have f3 : (hi < bt t 1) = False := eq_false (by omega)
          have f4 : (bt t 2 < 128) = False := eq_false (by omega)
          have f5 : (191 < bt t 2) = False := eq_false (by omega)
          have f6 : (bt t 3 < 128) = True := eq_true (by omega)
          repeat (first | ((first | refine zP fun K_ hK_ => ?_ | refine zQ fun K_ hK_ => ?_ | refine zR (by kernel_rfl) (by kernel_rfl) fun K_ hK_ => ?_ | refine zS (by kernel_rfl) (by kernel_rfl) fun K_ hK_ => ?_ | refine zT ?_); first | (simp (maxSteps := 1000000) (disch := refine hold_ ?_; first | (simp [h0, hE, hE1, hE2, hE3, g0, g1, f1, f2, f3, f4, f5, f6, -List.getD_eq_getElem?_getD]; done) | omega) [h0, hE, hE1, hE2, hE3, g0, g1, f1, f2, f3, f4, f5, f6, -List.getD_eq_getElem?_getD]; try first | refine zZ ?_ | subst hK_) | subst hK_) | refine zA ?_ | refine zB ?_ | refine zC ?_ | refine zD ?_ | refine zE ?_ | refine zF ?_ | refine zG ?_ | refine zH ?_ | refine zI ?_ | refine zJ ?_ | refine zK ?_ | refine zL ?_ | refine zM ?_ | refine zN ?_ | refine zO ?_ | refine yG (by decide) ?_ | refine AW.condT rfl ?_ | refine AW.condF rfl ?_)
          simp (maxSteps := 1000000) (disch := refine hold_ ?_; first | (simp [-List.getD_eq_getElem?_getD]; done) | omega) [-List.getD_eq_getElem?_getD]
        · have hok : okS t = 0 := by
            unfold okS; rw [if_neg (by omega), if_neg (by omega), if_neg (by omega), if_neg (by omega), if_pos (by omega), if_neg (by omega)]
          have hA2 : A = false := by rw [← hv]; exact validB_bad t (by omega) hok
          subst hA2
          have f1 : ((t.length : Int) < 4) = False := eq_false (by omega)
          have f2 : (bt t 1 < lo) = False := eq_false (by omega)
          have f3 : (hi < bt t 1) = False := eq_false (by omega)
          have f4 : (bt t 2 < 128) = False := eq_false (by omega)
          have f5 : (191 < bt t 2) = False := eq_false (by omega)
          have f6 : (bt t 3 < 128) = False := eq_false (by omega)
          have f7 : (191 < bt t 3) = True := eq_true (by omega)
          repeat (first | ((first | refine zP fun K_ hK_ => ?_ | refine zQ fun K_ hK_ => ?_ | refine zR (by kernel_rfl) (by kernel_rfl) fun K_ hK_ => ?_ | refine zS (by kernel_rfl) (by kernel_rfl) fun K_ hK_ => ?_ | refine zT ?_); first | (simp (maxSteps := 1000000) (disch := refine hold_ ?_; first | (simp [h0, hE, hE1, hE2, hE3, g0, g1, f1, f2, f3, f4, f5, f6, f7, -List.getD_eq_getElem?_getD]; done) | omega) [h0, hE, hE1, hE2, hE3, g0, g1, f1, f2, f3, f4, f5, f6, f7, -List.getD_eq_getElem?_getD]; try first | refine zZ ?_ | subst hK_) | subst hK_) | refine zA ?_ | refine zB ?_ | refine zC ?_ | refine zD ?_ | refine zE ?_ | refine zF ?_ | refine zG ?_ | refine zH ?_ | refine zI ?_ | refine zJ ?_ | refine zK ?_ | refine zL ?_ | refine zM ?_ | refine zN ?_ | refine zO ?_ | refine yG (by decide) ?_ | refine AW.condT rfl ?_ | refine AW.condF rfl ?_)
          simp (maxSteps := 1000000) (disch := refine hold_ ?_; first | (simp [-List.getD_eq_getElem?_getD]; done) | omega) [-List.getD_eq_getElem?_getD]
        · have hok : okS t = 4 := by
            unfold okS; rw [if_neg (by omega), if_neg (by omega), if_neg (by omega), if_neg (by omega), if_pos (by omega), if_pos (by omega)]
          have v2 := validB_step t (by omega) 4 hok (by omega)
          have l2 : (t.drop 4).length + 4 = t.length := by simp; omega
          rw [hv] at v2
          have hk : 4 ≤ t.length := by omega
          have f1 : ((t.length : Int) < 4) = False := eq_false (by omega)
          have f2 : (bt t 1 < lo) = False := eq_false (by omega)
          have f3 : (hi < bt t 1) = False := eq_false (by omega)
          have f4 : (bt t 2 < 128) = False := eq_false (by omega)
          have f5 : (191 < bt t 2) = False := eq_false (by omega)
          have f6 : (bt t 3 < 128) = False := eq_false (by omega)
          have f7 : (191 < bt t 3) = False := eq_false (by omega)
          repeat (first | ((first | refine zP fun K_ hK_ => ?_ | refine zQ fun K_ hK_ => ?_ | refine zR (by kernel_rfl) (by kernel_rfl) fun K_ hK_ => ?_ | refine zS (by kernel_rfl) (by kernel_rfl) fun K_ hK_ => ?_ | refine zT ?_); first | (simp (maxSteps := 1000000) (disch := refine hold_ ?_; first | (simp [h0, hE, hE1, hE2, hE3, g0, g1, f1, f2, f3, f4, f5, f6, f7, hk, -List.getD_eq_getElem?_getD]; done) | omega) [h0, hE, hE1, hE2, hE3, g0, g1, f1, f2, f3, f4, f5, f6, f7, hk, -List.getD_eq_getElem?_getD]; try first | refine zZ ?_ | subst hK_) | subst hK_) | refine zA ?_ | refine zB ?_ | refine zC ?_ | refine zD ?_ | refine zE ?_ | refine zF ?_ | refine zG ?_ | refine zH ?_ | refine zI ?_ | refine zJ ?_ | refine zK ?_ | refine zL ?_ | refine zM ?_ | refine zN ?_ | refine zO ?_ | refine yG (by decide) ?_ | refine AW.condT rfl ?_ | refine AW.condF rfl ?_)
          refine ⟨(t.drop 4).length, vSt nl (t.drop 4), by omega, ?_, _, rfl, rfl, v2.symm, by omega⟩
          (unfold vSt; simp (maxSteps := 1000000) (disch := refine hold_ ?_; first | (simp [-List.getD_eq_getElem?_getD]; done) | omega) [-List.getD_eq_getElem?_getD])
  · have h0 : t.length = 0 := by omega
    have hA2 : A = true := by rw [← hv]; exact validB_nil t h0
    subst hA2
    repeat (first | ((first | refine zP fun K_ hK_ => ?_ | refine zQ fun K_ hK_ => ?_ | refine zR (by kernel_rfl) (by kernel_rfl) fun K_ hK_ => ?_ | refine zS (by kernel_rfl) (by kernel_rfl) fun K_ hK_ => ?_ | refine zT ?_); first | (simp (maxSteps := 1000000) (disch := refine hold_ ?_; first | (simp [-List.getD_eq_getElem?_getD]; done) | omega) [-List.getD_eq_getElem?_getD]; try first | refine zZ ?_ | subst hK_) | subst hK_) | refine zA ?_ | refine zB ?_ | refine zC ?_ | refine zD ?_ | refine zE ?_ | refine zF ?_ | refine zG ?_ | refine zH ?_ | refine zI ?_ | refine zJ ?_ | refine zK ?_ | refine zL ?_ | refine zM ?_ | refine zN ?_ | refine zO ?_ | refine yG (by decide) ?_ | refine AW.condT rfl ?_ | refine AW.condF rfl ?_)
    simp (maxSteps := 1000000) (disch := refine hold_ ?_; first | (simp [-List.getD_eq_getElem?_getD]; done) | omega) [-List.getD_eq_getElem?_getD]
end Go.Av.Chl
end
