/- The walks of this seat's functions, and what is known of what they reckon (Docb). Conditions: those that each theorem names. -/
import Derived.Test.YtkphnlnphenphaaDoorDoca
import Derived.Lib.IndexMore
section
set_option linter.unusedSimpArgs false
set_option linter.unusedVariables false
set_option linter.unusedSectionVars false
open Go Go.Av Go.Proofs
namespace Go.Av.Doc
variable [ML]
theorem dbare_ct (x : Nd) : Fn Tryd.prog 43 [ndP x] [.p (.bool (bareB x))] := by
  have e1 := s_eq0 x.p
  have e2 := s_eq0 x.u
  have e3 := int0 x.ds.length
  have e4 := int0 x.ms.length
  unfold bareB
  generalize (x.p == []) = b1 at *
  generalize (x.u == []) = b2 at *
  generalize (x.ds.length == 0) = b3 at *
  generalize (x.ms.length == 0) = b4 at *
  refine Fn.of_body Tryd.func43 rfl ?_
  unfold ndP
  rcases anc b1 (anc b2 (anc b3 (spl b4 (trivial)))) with rfl | ⟨rfl, rfl | ⟨rfl, rfl | ⟨rfl, ⟨rfl | rfl, _⟩⟩⟩⟩
  all_goals
    repeat (first | ((first | (with_reducible first | refine zP fun K_ hK_ => ?_ | refine zQ fun K_ hK_ => ?_ | refine zT ?_ | refine zU ?_ | refine zV ?_ | refine zW ?_ | refine zX ?_ | refine zY ?_) | ((with_reducible first | refine zR ?_ ?_ fun K_ hK_ => ?_ | refine zS ?_ ?_ fun K_ hK_ => ?_); (focus kernel_rfl); (focus kernel_rfl))); first | (simp (maxSteps := 1000000) (disch := refine hold_ ?_; first | (simp [e1, e2, e3, e4, -List.getD_eq_getElem?_getD]; done) | omega) [e1, e2, e3, e4, -List.getD_eq_getElem?_getD]; try first | (with_reducible refine zZ ?_) | subst hK_) | subst hK_) | (with_reducible first | refine zA ?_ | refine zB ?_ | refine zC ?_ | refine zD ?_ | refine zE ?_ | refine zF ?_ | refine zG ?_ | refine zH ?_ | refine zI ?_ | refine zJ ?_ | refine zK ?_ | refine zL ?_ | refine zM ?_ | refine zN ?_ | refine zO ?_) | ((with_reducible refine yG ?_ ?_); (focus decide)) | ((with_reducible refine yA ?_); refine yB rfl ?_; (with_reducible first | refine yC ?_ | refine yD ?_)))
    try simp (maxSteps := 1000000) (disch := refine hold_ ?_; first | (simp [-List.getD_eq_getElem?_getD]; done) | omega) [-List.getD_eq_getElem?_getD]
def fewN (x : Nd) : Bool := !(decide (70 < x.ds.length) || (decide (70 < x.ms.length) || decide (2000 < x.t.length)))
def fewB (l : List Nd) (m : Nat) : Bool := decide (l.length ≤ m) && allB (fun k => fewN (nd l k)) l.length
theorem dec_lt (a b : Nat) : decide ((a : Int) < (b : Int)) = decide (a < b) := by
  by_cases h : a < b
  · rw [decide_eq_true h, decide_eq_true (by omega)]
  · rw [decide_eq_false h, decide_eq_false (by omega)]
set_option maxHeartbeats 4000000 in
theorem few_ct (l : List Nd) (nl : Bool) (m : Nat) (hl : l.length ≤ 4000000) : Fn Tryd.prog 10 [.sl (ndR l) nl, .int .i64 m] [.p (.bool (fewB l m))] := by
  unfold fewB
  by_cases hm : l.length ≤ m
  case neg =>
    have hz : (m : Int) < l.length := by omega
    have hz' : m < l.length := by omega
    rw [decide_eq_false hm]
    refine Fn.of_body Tryd.func10 rfl ?_
    repeat (first | ((first | (with_reducible first | refine zP fun K_ hK_ => ?_ | refine zQ fun K_ hK_ => ?_ | refine zT ?_ | refine zU ?_ | refine zV ?_ | refine zW ?_ | refine zX ?_ | refine zY ?_) | ((with_reducible first | refine zR ?_ ?_ fun K_ hK_ => ?_ | refine zS ?_ ?_ fun K_ hK_ => ?_); (focus kernel_rfl); (focus kernel_rfl))); first | (simp (maxSteps := 1000000) (disch := refine hold_ ?_; first | (simp [hz, hz', -List.getD_eq_getElem?_getD]; done) | omega) [hz, hz', -List.getD_eq_getElem?_getD]; try first | (with_reducible refine zZ ?_) | subst hK_) | subst hK_) | (with_reducible first | refine zA ?_ | refine zB ?_ | refine zC ?_ | refine zD ?_ | refine zE ?_ | refine zF ?_ | refine zG ?_ | refine zH ?_ | refine zI ?_ | refine zJ ?_ | refine zK ?_ | refine zL ?_ | refine zM ?_ | refine zN ?_ | refine zO ?_) | ((with_reducible refine yG ?_ ?_); (focus decide)) | ((with_reducible refine yA ?_); refine yB rfl ?_; (with_reducible first | refine yC ?_ | refine yD ?_)))
    all_goals (try simp (maxSteps := 1000000) (disch := refine hold_ ?_; first | (simp [-List.getD_eq_getElem?_getD]; done) | omega) [-List.getD_eq_getElem?_getD])
  have hz : ¬ (m : Int) < l.length := by omega
  have hz' : ¬ m < l.length := by omega
  rw [decide_eq_true hm, Bool.true_and, allB_upto]
  have hN := upto_le (fun k => fewN (nd l k)) l.length
  have hall := upto_all (fun k => fewN (nd l k)) l.length
  have hno := upto_no (fun k => fewN (nd l k)) l.length
  generalize upto (fun k => fewN (nd l k)) l.length = N at *
  refine Fn.of_body Tryd.func10 rfl ?_
  repeat (first | ((first | (with_reducible first | refine zP fun K_ hK_ => ?_ | refine zQ fun K_ hK_ => ?_ | refine zT ?_ | refine zU ?_ | refine zV ?_ | refine zW ?_ | refine zX ?_ | refine zY ?_) | ((with_reducible first | refine zR ?_ ?_ fun K_ hK_ => ?_ | refine zS ?_ ?_ fun K_ hK_ => ?_); (focus kernel_rfl); (focus kernel_rfl))); first | (simp (maxSteps := 1000000) (disch := refine hold_ ?_; first | (simp [hz, hz', -List.getD_eq_getElem?_getD]; done) | omega) [hz, hz', -List.getD_eq_getElem?_getD]; try first | (with_reducible refine zZ ?_) | subst hK_) | subst hK_) | (with_reducible first | refine zA ?_ | refine zB ?_ | refine zC ?_ | refine zD ?_ | refine zE ?_ | refine zF ?_ | refine zG ?_ | refine zH ?_ | refine zI ?_ | refine zJ ?_ | refine zK ?_ | refine zL ?_ | refine zM ?_ | refine zN ?_ | refine zO ?_) | ((with_reducible refine yG ?_ ?_); (focus decide)) | ((with_reducible refine yA ?_); refine yB rfl ?_; (with_reducible first | refine yC ?_ | refine yD ?_)))
  refine AW.iter (true :: false :: false :: false :: false :: false :: false :: false :: false :: false :: false :: true :: true :: false :: false :: false :: false :: false :: false :: false :: false :: false :: false :: false :: false :: false :: false :: false :: false :: false :: false :: false :: false :: false :: false :: false :: false :: false :: false :: false :: false :: []) N (fun k => ⟨(.p (.sl (ndR l) nl) :: V.junk :: V.junk :: V.junk :: V.junk :: V.junk :: V.junk :: V.junk :: V.junk :: V.junk :: V.junk :: .p (.int .i64 l.length) :: .p (.int .i64 k) :: V.junk :: V.junk :: V.junk :: V.junk :: V.junk :: V.junk :: V.junk :: V.junk :: V.junk :: V.junk :: V.junk :: V.junk :: V.junk :: V.junk :: V.junk :: V.junk :: V.junk :: V.junk :: V.junk :: V.junk :: V.junk :: V.junk :: V.junk :: V.junk :: V.junk :: V.junk :: V.junk :: V.junk :: []), ⟨[], []⟩⟩) ?_ ?_
  · simp (maxSteps := 1000000) (disch := refine hold_ ?_; first | (simp [-List.getD_eq_getElem?_getD]; done) | omega) [-List.getD_eq_getElem?_getD]
  intro k hk
  have e0 := wrap_succ k N hk (by omega)
  by_cases hkm : k < l.length
  · have hkz : (k : Int) < l.length := by omega
    have he := nd_elem l k hkm
    have hg : k < N → fewN (nd l k) = true := hall k
    have hb : N = k → fewN (nd l k) = false := fun e => by subst e; exact hno hkm
    clear hall hno
    have hsz := txt_size (nd l k).t
    have d1 : decide ((70 : Int) < ((nd l k).ds.length : Int)) = decide (70 < (nd l k).ds.length) := dec_lt 70 _
    have d2 : decide ((70 : Int) < ((nd l k).ms.length : Int)) = decide (70 < (nd l k).ms.length) := dec_lt 70 _
    have d3 : decide ((2000 : Int) < ((nd l k).t.length : Int)) = decide (2000 < (nd l k).t.length) := dec_lt 2000 _
    unfold fewN at hg hb
    generalize hA : decide (70 < (nd l k).ds.length) = A at *
    generalize hB : decide (70 < (nd l k).ms.length) = B at *
    generalize hC : decide (2000 < (nd l k).t.length) = C at *
    unfold ndP at he
    generalize nd l k = x at *
    rcases orc A (orc B (spl C (trivial))) with rfl | ⟨rfl, rfl | ⟨rfl, ⟨rfl | rfl, _⟩⟩⟩
    all_goals
      first
        | (have hkN : k = N := by
             rcases Nat.lt_or_ge k N with h1 | h1
             · have := hg h1; simp at this
             · omega
           have hne : N ≠ l.length := by omega
           repeat (first | ((first | (with_reducible first | refine zP fun K_ hK_ => ?_ | refine zQ fun K_ hK_ => ?_ | refine zT ?_ | refine zU ?_ | refine zV ?_ | refine zW ?_ | refine zX ?_ | refine zY ?_) | ((with_reducible first | refine zR ?_ ?_ fun K_ hK_ => ?_ | refine zS ?_ ?_ fun K_ hK_ => ?_); (focus kernel_rfl); (focus kernel_rfl))); first | (simp (maxSteps := 1000000) (disch := refine hold_ ?_; first | (simp [hkm, hkz, he, hsz, hA, hB, hC, d1, d2, d3, -List.getD_eq_getElem?_getD]; done) | omega) [hkm, hkz, he, hsz, hA, hB, hC, d1, d2, d3, -List.getD_eq_getElem?_getD]; try first | (with_reducible refine zZ ?_) | subst hK_) | subst hK_) | (with_reducible first | refine zA ?_ | refine zB ?_ | refine zC ?_ | refine zD ?_ | refine zE ?_ | refine zF ?_ | refine zG ?_ | refine zH ?_ | refine zI ?_ | refine zJ ?_ | refine zK ?_ | refine zL ?_ | refine zM ?_ | refine zN ?_ | refine zO ?_) | ((with_reducible refine yG ?_ ?_); (focus decide)) | ((with_reducible refine yA ?_); refine yB rfl ?_; (with_reducible first | refine yC ?_ | refine yD ?_)))
           simp (maxSteps := 1000000) (disch := refine hold_ ?_; first | (simp [hne, -List.getD_eq_getElem?_getD]; done) | omega) [hne, -List.getD_eq_getElem?_getD])
        | (have hkN : k < N := Nat.lt_of_le_of_ne hk fun e => by simpa using hb e.symm
           repeat (first | ((first | (with_reducible first | refine zP fun K_ hK_ => ?_ | refine zQ fun K_ hK_ => ?_ | refine zT ?_ | refine zU ?_ | refine zV ?_ | refine zW ?_ | refine zX ?_ | refine zY ?_) | ((with_reducible first | refine zR ?_ ?_ fun K_ hK_ => ?_ | refine zS ?_ ?_ fun K_ hK_ => ?_); (focus kernel_rfl); (focus kernel_rfl))); first | (simp (maxSteps := 1000000) (disch := refine hold_ ?_; first | (simp [hkm, hkz, he, hsz, hA, hB, hC, d1, d2, d3, e0, -List.getD_eq_getElem?_getD]; done) | omega) [hkm, hkz, he, hsz, hA, hB, hC, d1, d2, d3, e0, -List.getD_eq_getElem?_getD]; try first | (with_reducible refine zZ ?_) | subst hK_) | subst hK_) | (with_reducible first | refine zA ?_ | refine zB ?_ | refine zC ?_ | refine zD ?_ | refine zE ?_ | refine zF ?_ | refine zG ?_ | refine zH ?_ | refine zI ?_ | refine zJ ?_ | refine zK ?_ | refine zL ?_ | refine zM ?_ | refine zN ?_ | refine zO ?_) | ((with_reducible refine yG ?_ ?_); (focus decide)) | ((with_reducible refine yA ?_); refine yB rfl ?_; (with_reducible first | refine yC ?_ | refine yD ?_)))
           refine ⟨hkN, ?_⟩
           simp (maxSteps := 1000000) (disch := refine hold_ ?_; first | (simp [-List.getD_eq_getElem?_getD]; done) | omega) [-List.getD_eq_getElem?_getD])
  · have hkz : ¬ (k : Int) < l.length := by omega
    have hkN : N = l.length := by omega
    repeat (first | ((first | (with_reducible first | refine zP fun K_ hK_ => ?_ | refine zQ fun K_ hK_ => ?_ | refine zT ?_ | refine zU ?_ | refine zV ?_ | refine zW ?_ | refine zX ?_ | refine zY ?_) | ((with_reducible first | refine zR ?_ ?_ fun K_ hK_ => ?_ | refine zS ?_ ?_ fun K_ hK_ => ?_); (focus kernel_rfl); (focus kernel_rfl))); first | (simp (maxSteps := 1000000) (disch := refine hold_ ?_; first | (simp [hkz, -List.getD_eq_getElem?_getD]; done) | omega) [hkz, -List.getD_eq_getElem?_getD]; try first | (with_reducible refine zZ ?_) | subst hK_) | subst hK_) | (with_reducible first | refine zA ?_ | refine zB ?_ | refine zC ?_ | refine zD ?_ | refine zE ?_ | refine zF ?_ | refine zG ?_ | refine zH ?_ | refine zI ?_ | refine zJ ?_ | refine zK ?_ | refine zL ?_ | refine zM ?_ | refine zN ?_ | refine zO ?_) | ((with_reducible refine yG ?_ ?_); (focus decide)) | ((with_reducible refine yA ?_); refine yB rfl ?_; (with_reducible first | refine yC ?_ | refine yD ?_)))
    all_goals (try simp (maxSteps := 1000000) (disch := refine hold_ ?_; first | (simp [hkN, -List.getD_eq_getElem?_getD]; done) | omega) [hkN, -List.getD_eq_getElem?_getD])
def hitB (s t : List (BitVec 8)) (k : Nat) : Bool := decide (t.length ≤ s.length - k) && ((s.drop k).take t.length == t)
theorem hit_iff (s t : List (BitVec 8)) (k : Nat) : hitB s t k = true ↔ t <+: s.drop k := by
  unfold hitB
  rw [Bool.and_eq_true, decide_eq_true_iff, beq_iff_eq]
  constructor
  · rintro ⟨_, h⟩; exact List.prefix_iff_eq_take.2 h.symm
  · intro h
    exact ⟨by have := h.length_le; rw [List.length_drop] at this; exact this, (List.prefix_iff_eq_take.1 h).symm⟩
theorem occ_iff (s t : List (BitVec 8)) (k : Nat) : Lib.occAt (txt s).data.toList (txt t).data.toList k = true ↔ t <+: s.drop k := by
  unfold Lib.occAt
  rw [List.isPrefixOf_iff_prefix, txt_list, txt_list, ← List.map_drop]
  constructor
  · rintro ⟨r, hr⟩
    have h2 : (s.drop k).map (fun x => UInt8.ofBitVec x) = t.map (fun x => UInt8.ofBitVec x) ++ r := hr.symm
    obtain ⟨a, b, hab, ha, hb⟩ := List.map_eq_append_iff.1 h2
    have : a = t := by
      have inj : ∀ (x y : List (BitVec 8)), x.map (fun x => UInt8.ofBitVec x) = y.map (fun x => UInt8.ofBitVec x) → x = y := by
        intro x
        induction x with
        | nil => intro y h; cases y with
          | nil => rfl
          | cons c y => simp at h
        | cons c x ih => intro y h; cases y with
          | nil => simp at h
          | cons d y => simp only [List.map_cons, List.cons.injEq] at h; rw [ih y h.2, show c = d from by have := congrArg UInt8.toBitVec h.1; simpa using this]
      exact inj _ _ ha
    subst this
    exact ⟨b, hab.symm⟩
  · rintro ⟨r, hr⟩
    exact ⟨r.map (fun x => UInt8.ofBitVec x), by rw [← hr, List.map_append]⟩
theorem has_all (s t : List (BitVec 8)) (ht : 0 < t.length) : hasL (txt s) (txt t) = !(allB (fun k => !hitB s t k) s.length) := by
  unfold hasL Lib.contains
  rcases Lib.index_spec (txt s).data.toList (txt t).data.toList with ⟨h1, h2⟩ | ⟨i, h1, h2, h3, _⟩
  · rw [h1, decide_eq_false (by omega)]
    have : allB (fun k => !hitB s t k) s.length = true := by
      rw [allB_iff]
      intro k hk
      have hf := h2 k (by rw [txt_list, List.length_map]; omega)
      cases hh : hitB s t k with
      | false => rfl
      | true => rw [(occ_iff s t k).2 ((hit_iff s t k).1 hh)] at hf; cases hf
    rw [this]; rfl
  · rw [h1, decide_eq_true (by omega)]
    have hp := (occ_iff s t i).1 h3
    have hlen := hp.length_le
    rw [List.length_drop] at hlen
    have : allB (fun k => !hitB s t k) s.length = false := by
      cases ha : allB (fun k => !hitB s t k) s.length with
      | false => rfl
      | true =>
        have := allB_iff.1 ha i (by omega)
        rw [(hit_iff s t i).2 hp] at this; cases this
    rw [this]; rfl
theorem dhas_ct (s : List (BitVec 8)) (t : List (BitVec 8)) (hs : s.length ≤ 4000000) (ht : t.length = 2) : Fn Tryd.prog 60 [.str (txt s), .str (txt t)] [.p (.bool (hasL (txt s) (txt t)))] := by
  have hsz := txt_size s
  have htz := txt_size t
  rw [ht] at htz
  rw [has_all s t (by omega), allB_upto]
  have hN := upto_le (fun k => !hitB s t k) s.length
  have hall := upto_all (fun k => !hitB s t k) s.length
  have hno := upto_no (fun k => !hitB s t k) s.length
  generalize upto (fun k => !hitB s t k) s.length = N at *
  have ht0 : strBin .eql (txt t) (ByteArray.mk #[]) = some (.bool false) := by
    rw [s_eq0]; cases t with
    | nil => simp at ht
    | cons c t => rfl
  refine Fn.of_body Tryd.func60 rfl ?_
  repeat (first | ((first | (with_reducible first | refine zP fun K_ hK_ => ?_ | refine zQ fun K_ hK_ => ?_ | refine zT ?_ | refine zU ?_ | refine zV ?_ | refine zW ?_ | refine zX ?_ | refine zY ?_) | ((with_reducible first | refine zR ?_ ?_ fun K_ hK_ => ?_ | refine zS ?_ ?_ fun K_ hK_ => ?_); (focus kernel_rfl); (focus kernel_rfl))); first | (simp (maxSteps := 1000000) (disch := refine hold_ ?_; first | (simp [hsz, -List.getD_eq_getElem?_getD]; done) | omega) [hsz, -List.getD_eq_getElem?_getD]; try first | (with_reducible refine zZ ?_) | subst hK_) | subst hK_) | (with_reducible first | refine zA ?_ | refine zB ?_ | refine zC ?_ | refine zD ?_ | refine zE ?_ | refine zF ?_ | refine zG ?_ | refine zH ?_ | refine zI ?_ | refine zJ ?_ | refine zK ?_ | refine zL ?_ | refine zM ?_ | refine zN ?_ | refine zO ?_) | ((with_reducible refine yG ?_ ?_); (focus decide)) | ((with_reducible refine yA ?_); refine yB rfl ?_; (with_reducible first | refine yC ?_ | refine yD ?_)))
  refine AW.iter (true :: true :: false :: false :: false :: false :: false :: true :: true :: false :: false :: false :: false :: false :: false :: false :: false :: false :: false :: false :: false :: false :: false :: false :: false :: false :: false :: false :: false :: false :: false :: false :: []) N (fun k => ⟨(.p (.str (txt s)) :: .p (.str (txt t)) :: V.junk :: V.junk :: V.junk :: V.junk :: V.junk :: .p (.int .i64 s.length) :: .p (.int .i64 k) :: V.junk :: V.junk :: V.junk :: V.junk :: V.junk :: V.junk :: V.junk :: V.junk :: V.junk :: V.junk :: V.junk :: V.junk :: V.junk :: V.junk :: V.junk :: V.junk :: V.junk :: V.junk :: V.junk :: V.junk :: V.junk :: V.junk :: V.junk :: []), ⟨[], []⟩⟩) ?_ ?_
  · simp (maxSteps := 1000000) (disch := refine hold_ ?_; first | (simp [-List.getD_eq_getElem?_getD]; done) | omega) [-List.getD_eq_getElem?_getD]
  intro k hk
  have e0 := wrap_succ k N hk (by omega)
  by_cases hkm : k < s.length
  · have hkz : (k : Int) < s.length := by omega
    have w1 : IntKind.i64.wrap ((s.length : Int) - k) = ((s.length - k : Nat) : Int) := by rw [wrap_i64 _ (by omega) (by omega)]; omega
    have w2 : IntKind.i64.wrap ((k : Int) + 2) = ((k + 2 : Nat) : Int) := by rw [wrap_i64 _ (by omega) (by omega)]; omega
    have hg : k < N → (!hitB s t k) = true := hall k
    have hb : N = k → (!hitB s t k) = false := fun e => by subst e; exact hno hkm
    clear hall hno
    by_cases h2 : 2 ≤ s.length - k
    · have h2z : (2 : Int) ≤ ((s.length - k : Nat) : Int) := by omega
      have hh : hitB s t k = ((s.drop k).take 2 == t) := by unfold hitB; rw [ht, decide_eq_true h2, Bool.true_and]
      have hx : (txt s).extract k (k + 2) = txt ((s.drop k).take 2) := by rw [txt_extract, List.drop_take]; congr 2; omega
      have e := str_eq_txt ((s.drop k).take 2) t
      rw [hh] at hg hb
      have q1 : k ≤ k + 2 := by omega
      have q2 : k + 2 ≤ s.length := by omega
      have q3 : (k : Int) ≤ ((k + 2 : Nat) : Int) := by omega
      have q4 : ((k + 2 : Nat) : Int) ≤ s.length := by omega
      have q5 : (0 : Int) ≤ k := by omega
      generalize ((s.drop k).take 2 == t) = H at *
      generalize (s.drop k).take 2 = u at *
      generalize k + 2 = k2 at *
      generalize s.length - k = m at *
      cases H with
      | true =>
        have hkN : k = N := by
          rcases Nat.lt_or_ge k N with h1 | h1
          · have := hg h1; simp at this
          · omega
        have hne : N ≠ s.length := by omega
        repeat (first | ((first | (with_reducible first | refine zP fun K_ hK_ => ?_ | refine zQ fun K_ hK_ => ?_ | refine zT ?_ | refine zU ?_ | refine zV ?_ | refine zW ?_ | refine zX ?_ | refine zY ?_) | ((with_reducible first | refine zR ?_ ?_ fun K_ hK_ => ?_ | refine zS ?_ ?_ fun K_ hK_ => ?_); (focus kernel_rfl); (focus kernel_rfl))); first | (simp (maxSteps := 1000000) (disch := refine hold_ ?_; first | (simp [hsz, htz, hkm, hkz, w1, w2, h2, h2z, hx, e, q1, q2, q3, q4, q5, -List.getD_eq_getElem?_getD]; done) | omega) [hsz, htz, hkm, hkz, w1, w2, h2, h2z, hx, e, q1, q2, q3, q4, q5, -List.getD_eq_getElem?_getD]; try first | (with_reducible refine zZ ?_) | subst hK_) | subst hK_) | (with_reducible first | refine zA ?_ | refine zB ?_ | refine zC ?_ | refine zD ?_ | refine zE ?_ | refine zF ?_ | refine zG ?_ | refine zH ?_ | refine zI ?_ | refine zJ ?_ | refine zK ?_ | refine zL ?_ | refine zM ?_ | refine zN ?_ | refine zO ?_) | ((with_reducible refine yG ?_ ?_); (focus decide)) | ((with_reducible refine yA ?_); refine yB rfl ?_; (with_reducible first | refine yC ?_ | refine yD ?_)))
        all_goals (try simp (maxSteps := 1000000) (disch := refine hold_ ?_; first | (simp [hne, -List.getD_eq_getElem?_getD]; done) | omega) [hne, -List.getD_eq_getElem?_getD])
      | false =>
        have hkN : k < N := Nat.lt_of_le_of_ne hk fun e => by simpa using hb e.symm
        repeat (first | ((first | (with_reducible first | refine zP fun K_ hK_ => ?_ | refine zQ fun K_ hK_ => ?_ | refine zT ?_ | refine zU ?_ | refine zV ?_ | refine zW ?_ | refine zX ?_ | refine zY ?_) | ((with_reducible first | refine zR ?_ ?_ fun K_ hK_ => ?_ | refine zS ?_ ?_ fun K_ hK_ => ?_); (focus kernel_rfl); (focus kernel_rfl))); first | (simp (maxSteps := 1000000) (disch := refine hold_ ?_; first | (simp [hsz, htz, hkm, hkz, w1, w2, h2, h2z, hx, e, q1, q2, q3, q4, q5, e0, -List.getD_eq_getElem?_getD]; done) | omega) [hsz, htz, hkm, hkz, w1, w2, h2, h2z, hx, e, q1, q2, q3, q4, q5, e0, -List.getD_eq_getElem?_getD]; try first | (with_reducible refine zZ ?_) | subst hK_) | subst hK_) | (with_reducible first | refine zA ?_ | refine zB ?_ | refine zC ?_ | refine zD ?_ | refine zE ?_ | refine zF ?_ | refine zG ?_ | refine zH ?_ | refine zI ?_ | refine zJ ?_ | refine zK ?_ | refine zL ?_ | refine zM ?_ | refine zN ?_ | refine zO ?_) | ((with_reducible refine yG ?_ ?_); (focus decide)) | ((with_reducible refine yA ?_); refine yB rfl ?_; (with_reducible first | refine yC ?_ | refine yD ?_)))
        refine ⟨hkN, ?_⟩
        simp (maxSteps := 1000000) (disch := refine hold_ ?_; first | (simp [-List.getD_eq_getElem?_getD]; done) | omega) [-List.getD_eq_getElem?_getD]
    · have h2z : ¬ (2 : Int) ≤ ((s.length - k : Nat) : Int) := by omega
      have hh : hitB s t k = false := by unfold hitB; rw [ht, decide_eq_false h2]; rfl
      have hkN : k < N := Nat.lt_of_le_of_ne hk fun e => by have := hb e.symm; rw [hh] at this; cases this
      generalize s.length - k = m at *
      repeat (first | ((first | (with_reducible first | refine zP fun K_ hK_ => ?_ | refine zQ fun K_ hK_ => ?_ | refine zT ?_ | refine zU ?_ | refine zV ?_ | refine zW ?_ | refine zX ?_ | refine zY ?_) | ((with_reducible first | refine zR ?_ ?_ fun K_ hK_ => ?_ | refine zS ?_ ?_ fun K_ hK_ => ?_); (focus kernel_rfl); (focus kernel_rfl))); first | (simp (maxSteps := 1000000) (disch := refine hold_ ?_; first | (simp [hsz, htz, hkm, hkz, w1, h2, h2z, e0, -List.getD_eq_getElem?_getD]; done) | omega) [hsz, htz, hkm, hkz, w1, h2, h2z, e0, -List.getD_eq_getElem?_getD]; try first | (with_reducible refine zZ ?_) | subst hK_) | subst hK_) | (with_reducible first | refine zA ?_ | refine zB ?_ | refine zC ?_ | refine zD ?_ | refine zE ?_ | refine zF ?_ | refine zG ?_ | refine zH ?_ | refine zI ?_ | refine zJ ?_ | refine zK ?_ | refine zL ?_ | refine zM ?_ | refine zN ?_ | refine zO ?_) | ((with_reducible refine yG ?_ ?_); (focus decide)) | ((with_reducible refine yA ?_); refine yB rfl ?_; (with_reducible first | refine yC ?_ | refine yD ?_)))
      refine ⟨hkN, ?_⟩
      simp (maxSteps := 1000000) (disch := refine hold_ ?_; first | (simp [-List.getD_eq_getElem?_getD]; done) | omega) [-List.getD_eq_getElem?_getD]
  · have hkz : ¬ (k : Int) < s.length := by omega
    have hkN : N = s.length := by omega
    repeat (first | ((first | (with_reducible first | refine zP fun K_ hK_ => ?_ | refine zQ fun K_ hK_ => ?_ | refine zT ?_ | refine zU ?_ | refine zV ?_ | refine zW ?_ | refine zX ?_ | refine zY ?_) | ((with_reducible first | refine zR ?_ ?_ fun K_ hK_ => ?_ | refine zS ?_ ?_ fun K_ hK_ => ?_); (focus kernel_rfl); (focus kernel_rfl))); first | (simp (maxSteps := 1000000) (disch := refine hold_ ?_; first | (simp [hkz, ht0, -List.getD_eq_getElem?_getD]; done) | omega) [hkz, ht0, -List.getD_eq_getElem?_getD]; try first | (with_reducible refine zZ ?_) | subst hK_) | subst hK_) | (with_reducible first | refine zA ?_ | refine zB ?_ | refine zC ?_ | refine zD ?_ | refine zE ?_ | refine zF ?_ | refine zG ?_ | refine zH ?_ | refine zI ?_ | refine zJ ?_ | refine zK ?_ | refine zL ?_ | refine zM ?_ | refine zN ?_ | refine zO ?_) | ((with_reducible refine yG ?_ ?_); (focus decide)) | ((with_reducible refine yA ?_); refine yB rfl ?_; (with_reducible first | refine yC ?_ | refine yD ?_)))
    all_goals (try simp (maxSteps := 1000000) (disch := refine hold_ ?_; first | (simp [hkN, -List.getD_eq_getElem?_getD]; done) | omega) [hkN, -List.getD_eq_getElem?_getD])
end Go.Av.Doc
end
section
set_option linter.unusedSimpArgs false
set_option linter.unusedVariables false
set_option linter.unusedSectionVars false
open Go Go.Av Go.Proofs
namespace Go.Av.Doc
variable [ML]
theorem ahead_ct (l : List Nd) (nl : Bool) (n : Nat) (hn : n < l.length) (hl : l.length ≤ 4000000) : Fn Tryd.prog 59 [.sl (ndR l) nl, .int .i64 n] [.p (.int .i64 (lastC l (nd l n).a n))] := by
  have hen := nd_elem l n hn
  have hnz : (n : Int) < l.length := by omega
  have w1 : IntKind.i64.wrap ((n : Int) - 1) = (n : Int) - 1 := wrap_i64 _ (by omega) (by omega)
  generalize hP : (nd l n).a = P at *
  have hen' : ndP (nd l n) = .agg (.vals 1 [.int .i64 (nd l n).k, .int .i64 P, .str (txt (nd l n).p), .str (txt (nd l n).l), .str (txt (nd l n).u), .str (txt (nd l n).t), .sl (dcR (nd l n).ds) (nd l n).dn, .sl (atR (nd l n).ms) (nd l n).mn]) := by rw [← hP]; rfl
  rw [hen'] at hen
  clear hen' hP
  refine Fn.of_body Tryd.func59 rfl ?_
  repeat (first | ((first | (with_reducible first | refine zP fun K_ hK_ => ?_ | refine zQ fun K_ hK_ => ?_ | refine zT ?_ | refine zU ?_ | refine zV ?_ | refine zW ?_ | refine zX ?_ | refine zY ?_) | ((with_reducible first | refine zR ?_ ?_ fun K_ hK_ => ?_ | refine zS ?_ ?_ fun K_ hK_ => ?_); (focus kernel_rfl); (focus kernel_rfl))); first | (simp (maxSteps := 1000000) (disch := refine hold_ ?_; first | (simp [w1, -List.getD_eq_getElem?_getD]; done) | omega) [w1, -List.getD_eq_getElem?_getD]; try first | (with_reducible refine zZ ?_) | subst hK_) | subst hK_) | (with_reducible first | refine zA ?_ | refine zB ?_ | refine zC ?_ | refine zD ?_ | refine zE ?_ | refine zF ?_ | refine zG ?_ | refine zH ?_ | refine zI ?_ | refine zJ ?_ | refine zK ?_ | refine zL ?_ | refine zM ?_ | refine zN ?_ | refine zO ?_) | ((with_reducible refine yG ?_ ?_); (focus decide)) | ((with_reducible refine yA ?_); refine yB rfl ?_; (with_reducible first | refine yC ?_ | refine yD ?_)))
  refine AW.iterI (τ := ⟨(.p (.sl (ndR l) nl) :: .p (.int .i64 n) :: V.junk :: V.junk :: V.junk :: .p (.int .i64 ((n : Int) - 1)) :: V.junk :: V.junk :: V.junk :: V.junk :: V.junk :: V.junk :: V.junk :: V.junk :: V.junk :: V.junk :: V.junk :: V.junk :: V.junk :: V.junk :: V.junk :: V.junk :: V.junk :: V.junk :: []), ⟨[], []⟩⟩) (true :: true :: false :: false :: false :: true :: false :: false :: false :: false :: false :: false :: false :: false :: false :: false :: false :: false :: false :: false :: false :: false :: false :: false :: []) n (fun m σ => m ≤ n ∧ lastC l P m = lastC l P n ∧ σ = ⟨(.p (.sl (ndR l) nl) :: .p (.int .i64 n) :: V.junk :: V.junk :: V.junk :: .p (.int .i64 ((m : Int) - 1)) :: V.junk :: V.junk :: V.junk :: V.junk :: V.junk :: V.junk :: V.junk :: V.junk :: V.junk :: V.junk :: V.junk :: V.junk :: V.junk :: V.junk :: V.junk :: V.junk :: V.junk :: V.junk :: []), ⟨[], []⟩⟩) ?_ ⟨Nat.le_refl _, rfl, rfl⟩ ?_
  · simp (maxSteps := 1000000) (disch := refine hold_ ?_; first | (simp [-List.getD_eq_getElem?_getD]; done) | omega) [-List.getD_eq_getElem?_getD]
  rintro m σ ⟨hmn, hla, rfl⟩
  by_cases h2 : 2 ≤ m
  · obtain ⟨q, rfl⟩ : ∃ q : Nat, m = q + 1 := ⟨m - 1, by omega⟩
    have hq0 : 0 < q := by omega
    have hqz : (0 : Int) < q := by omega
    have hqz' : (0 : Int) ≤ q := by omega
    have hql : q < l.length := by omega
    have hql' : (q : Int) < l.length := by omega
    have e1 : ((q + 1 : Nat) : Int) - 1 = q := by omega
    rw [e1]
    have he := nd_elem l q hql
    rw [lastC] at hla
    unfold ndP at he
    have w2 : IntKind.i64.wrap ((q : Int) - 1) = (q : Int) - 1 := wrap_i64 _ (by omega) (by omega)
    by_cases ha : (nd l q).a = P
    · rw [if_pos ⟨hq0, ha⟩] at hla
      rw [← hla]
      rw [ha] at he
      generalize nd l q = x at *
      repeat (first | ((first | (with_reducible first | refine zP fun K_ hK_ => ?_ | refine zQ fun K_ hK_ => ?_ | refine zT ?_ | refine zU ?_ | refine zV ?_ | refine zW ?_ | refine zX ?_ | refine zY ?_) | ((with_reducible first | refine zR ?_ ?_ fun K_ hK_ => ?_ | refine zS ?_ ?_ fun K_ hK_ => ?_); (focus kernel_rfl); (focus kernel_rfl))); first | (simp (maxSteps := 1000000) (disch := refine hold_ ?_; first | (simp [hq0, hqz, hqz', hql, hql', he, hen, hn, hnz, -List.getD_eq_getElem?_getD]; done) | omega) [hq0, hqz, hqz', hql, hql', he, hen, hn, hnz, -List.getD_eq_getElem?_getD]; try first | (with_reducible refine zZ ?_) | subst hK_) | subst hK_) | (with_reducible first | refine zA ?_ | refine zB ?_ | refine zC ?_ | refine zD ?_ | refine zE ?_ | refine zF ?_ | refine zG ?_ | refine zH ?_ | refine zI ?_ | refine zJ ?_ | refine zK ?_ | refine zL ?_ | refine zM ?_ | refine zN ?_ | refine zO ?_) | ((with_reducible refine yG ?_ ?_); (focus decide)) | ((with_reducible refine yA ?_); refine yB rfl ?_; (with_reducible first | refine yC ?_ | refine yD ?_)))
      all_goals (try simp (maxSteps := 1000000) (disch := refine hold_ ?_; first | (simp [-List.getD_eq_getElem?_getD]; done) | omega) [-List.getD_eq_getElem?_getD])
    · rw [if_neg (fun h => ha h.2)] at hla
      have hb : ((nd l q).a == P) = false := beq_eq_false_iff_ne.2 ha
      generalize nd l q = x at *
      repeat (first | ((first | (with_reducible first | refine zP fun K_ hK_ => ?_ | refine zQ fun K_ hK_ => ?_ | refine zT ?_ | refine zU ?_ | refine zV ?_ | refine zW ?_ | refine zX ?_ | refine zY ?_) | ((with_reducible first | refine zR ?_ ?_ fun K_ hK_ => ?_ | refine zS ?_ ?_ fun K_ hK_ => ?_); (focus kernel_rfl); (focus kernel_rfl))); first | (simp (maxSteps := 1000000) (disch := refine hold_ ?_; first | (simp [hq0, hqz, hqz', hql, hql', he, hen, hn, hnz, hb, w2, -List.getD_eq_getElem?_getD]; done) | omega) [hq0, hqz, hqz', hql, hql', he, hen, hn, hnz, hb, w2, -List.getD_eq_getElem?_getD]; try first | (with_reducible refine zZ ?_) | subst hK_) | subst hK_) | (with_reducible first | refine zA ?_ | refine zB ?_ | refine zC ?_ | refine zD ?_ | refine zE ?_ | refine zF ?_ | refine zG ?_ | refine zH ?_ | refine zI ?_ | refine zJ ?_ | refine zK ?_ | refine zL ?_ | refine zM ?_ | refine zN ?_ | refine zO ?_) | ((with_reducible refine yG ?_ ?_); (focus decide)) | ((with_reducible refine yA ?_); refine yB rfl ?_; (with_reducible first | refine yC ?_ | refine yD ?_)))
      refine ⟨q, ⟨(.p (.sl (ndR l) nl) :: .p (.int .i64 n) :: V.junk :: V.junk :: V.junk :: .p (.int .i64 ((q : Int) - 1)) :: V.junk :: V.junk :: V.junk :: V.junk :: V.junk :: V.junk :: V.junk :: V.junk :: V.junk :: V.junk :: V.junk :: V.junk :: V.junk :: V.junk :: V.junk :: V.junk :: V.junk :: V.junk :: []), ⟨[], []⟩⟩, by omega, ?_, by omega, hla, rfl⟩
      simp (maxSteps := 1000000) (disch := refine hold_ ?_; first | (simp [-List.getD_eq_getElem?_getD]; done) | omega) [-List.getD_eq_getElem?_getD]
  · have h0 : ¬ (0 : Int) < (m : Int) - 1 := by omega
    have hr : lastC l P m = -1 := by
      rcases Nat.eq_zero_or_pos m with rfl | h
      · rfl
      · obtain rfl : m = 1 := by omega
        simp [lastC]
    rw [← hla, hr]
    generalize (m : Int) - 1 = z at *
    repeat (first | ((first | (with_reducible first | refine zP fun K_ hK_ => ?_ | refine zQ fun K_ hK_ => ?_ | refine zT ?_ | refine zU ?_ | refine zV ?_ | refine zW ?_ | refine zX ?_ | refine zY ?_) | ((with_reducible first | refine zR ?_ ?_ fun K_ hK_ => ?_ | refine zS ?_ ?_ fun K_ hK_ => ?_); (focus kernel_rfl); (focus kernel_rfl))); first | (simp (maxSteps := 1000000) (disch := refine hold_ ?_; first | (simp [h0, -List.getD_eq_getElem?_getD]; done) | omega) [h0, -List.getD_eq_getElem?_getD]; try first | (with_reducible refine zZ ?_) | subst hK_) | subst hK_) | (with_reducible first | refine zA ?_ | refine zB ?_ | refine zC ?_ | refine zD ?_ | refine zE ?_ | refine zF ?_ | refine zG ?_ | refine zH ?_ | refine zI ?_ | refine zJ ?_ | refine zK ?_ | refine zL ?_ | refine zM ?_ | refine zN ?_ | refine zO ?_) | ((with_reducible refine yG ?_ ?_); (focus decide)) | ((with_reducible refine yA ?_); refine yB rfl ?_; (with_reducible first | refine yC ?_ | refine yD ?_)))
    all_goals (try simp (maxSteps := 1000000) (disch := refine hold_ ?_; first | (simp [-List.getD_eq_getElem?_getD]; done) | omega) [-List.getD_eq_getElem?_getD])
theorem deep_ct (l : List Nd) (nl : Bool) (n : Nat) (hp : pOk l l.length) (hn : n < l.length) (hl : l.length ≤ 4000000) : Fn Tryd.prog 33 [.sl (ndR l) nl, .int .i64 n] [.p (.int .i64 (dep l n))] := by
  refine Fn.of_body Tryd.func33 rfl ?_
  repeat (first | ((first | (with_reducible first | refine zP fun K_ hK_ => ?_ | refine zQ fun K_ hK_ => ?_ | refine zT ?_ | refine zU ?_ | refine zV ?_ | refine zW ?_ | refine zX ?_ | refine zY ?_) | ((with_reducible first | refine zR ?_ ?_ fun K_ hK_ => ?_ | refine zS ?_ ?_ fun K_ hK_ => ?_); (focus kernel_rfl); (focus kernel_rfl))); first | (simp (maxSteps := 1000000) (disch := refine hold_ ?_; first | (simp [-List.getD_eq_getElem?_getD]; done) | omega) [-List.getD_eq_getElem?_getD]; try first | (with_reducible refine zZ ?_) | subst hK_) | subst hK_) | (with_reducible first | refine zA ?_ | refine zB ?_ | refine zC ?_ | refine zD ?_ | refine zE ?_ | refine zF ?_ | refine zG ?_ | refine zH ?_ | refine zI ?_ | refine zJ ?_ | refine zK ?_ | refine zL ?_ | refine zM ?_ | refine zN ?_ | refine zO ?_) | ((with_reducible refine yG ?_ ?_); (focus decide)) | ((with_reducible refine yA ?_); refine yB rfl ?_; (with_reducible first | refine yC ?_ | refine yD ?_)))
  refine AW.iterI (τ := ⟨(.p (.sl (ndR l) nl) :: .p (.int .i64 n) :: V.junk :: V.junk :: V.junk :: .p (.int .i64 0) :: V.junk :: V.junk :: V.junk :: V.junk :: V.junk :: V.junk :: V.junk :: V.junk :: V.junk :: V.junk :: V.junk :: V.junk :: V.junk :: V.junk :: []), ⟨[], []⟩⟩) (true :: true :: false :: false :: false :: true :: false :: false :: false :: false :: false :: false :: false :: false :: false :: false :: false :: false :: false :: false :: []) n (fun m σ => m ≤ n ∧ ∃ d : Nat, d + m ≤ n ∧ d + dep l m = dep l n ∧ σ = ⟨(.p (.sl (ndR l) nl) :: .p (.int .i64 m) :: V.junk :: V.junk :: V.junk :: .p (.int .i64 d) :: V.junk :: V.junk :: V.junk :: V.junk :: V.junk :: V.junk :: V.junk :: V.junk :: V.junk :: V.junk :: V.junk :: V.junk :: V.junk :: V.junk :: []), ⟨[], []⟩⟩) ?_ ⟨Nat.le_refl _, 0, by omega, by omega, rfl⟩ ?_
  · simp (maxSteps := 1000000) (disch := refine hold_ ?_; first | (simp [-List.getD_eq_getElem?_getD]; done) | omega) [-List.getD_eq_getElem?_getD]
  rintro m σ ⟨hmn, d, hd, hdep, rfl⟩
  have hml : m < l.length := by omega
  have hmz : (m : Int) < l.length := by omega
  have he := nd_elem l m hml
  have hpar := hp.lt hml
  have e0 := wrap_succ d l.length (by omega) (by omega)
  by_cases h0 : 0 < m
  · have hq0 := hpar.2.2 h0
    obtain ⟨q, hq⟩ : ∃ q : Nat, (nd l m).a = q := ⟨(nd l m).a.toNat, by omega⟩
    have hNd : ndP (nd l m) = .agg (.vals 1 [.int .i64 (nd l m).k, .int .i64 q, .str (txt (nd l m).p), .str (txt (nd l m).l), .str (txt (nd l m).u), .str (txt (nd l m).t), .sl (dcR (nd l m).ds) (nd l m).dn, .sl (atR (nd l m).ms) (nd l m).mn]) := by rw [← hq]; rfl
    rw [hNd] at he
    rw [dep_up hp hml h0, hq] at hdep
    have hqm : q < m := by omega
    clear hNd hpar hq hq0
    generalize nd l m = x at *
    repeat (first | ((first | (with_reducible first | refine zP fun K_ hK_ => ?_ | refine zQ fun K_ hK_ => ?_ | refine zT ?_ | refine zU ?_ | refine zV ?_ | refine zW ?_ | refine zX ?_ | refine zY ?_) | ((with_reducible first | refine zR ?_ ?_ fun K_ hK_ => ?_ | refine zS ?_ ?_ fun K_ hK_ => ?_); (focus kernel_rfl); (focus kernel_rfl))); first | (simp (maxSteps := 1000000) (disch := refine hold_ ?_; first | (simp [hml, hmz, he, e0, -List.getD_eq_getElem?_getD]; done) | omega) [hml, hmz, he, e0, -List.getD_eq_getElem?_getD]; try first | (with_reducible refine zZ ?_) | subst hK_) | subst hK_) | (with_reducible first | refine zA ?_ | refine zB ?_ | refine zC ?_ | refine zD ?_ | refine zE ?_ | refine zF ?_ | refine zG ?_ | refine zH ?_ | refine zI ?_ | refine zJ ?_ | refine zK ?_ | refine zL ?_ | refine zM ?_ | refine zN ?_ | refine zO ?_) | ((with_reducible refine yG ?_ ?_); (focus decide)) | ((with_reducible refine yA ?_); refine yB rfl ?_; (with_reducible first | refine yC ?_ | refine yD ?_)))
    refine ⟨q, ⟨(.p (.sl (ndR l) nl) :: .p (.int .i64 q) :: V.junk :: V.junk :: V.junk :: .p (.int .i64 (d + 1 : Nat)) :: V.junk :: V.junk :: V.junk :: V.junk :: V.junk :: V.junk :: V.junk :: V.junk :: V.junk :: V.junk :: V.junk :: V.junk :: V.junk :: V.junk :: []), ⟨[], []⟩⟩, by omega, ?_, by omega, d + 1, by omega, by omega, rfl⟩
    simp (maxSteps := 1000000) (disch := refine hold_ ?_; first | (simp [-List.getD_eq_getElem?_getD]; done) | omega) [-List.getD_eq_getElem?_getD]
  · obtain rfl : m = 0 := by omega
    have ha := hp.1
    rw [dep_zero l _ (by omega)] at hdep
    rw [← hdep]
    unfold ndP at he
    rw [ha] at he
    have hml0 : 0 < l.length := hml
    generalize nd l 0 = x at *
    repeat (first | ((first | (with_reducible first | refine zP fun K_ hK_ => ?_ | refine zQ fun K_ hK_ => ?_ | refine zT ?_ | refine zU ?_ | refine zV ?_ | refine zW ?_ | refine zX ?_ | refine zY ?_) | ((with_reducible first | refine zR ?_ ?_ fun K_ hK_ => ?_ | refine zS ?_ ?_ fun K_ hK_ => ?_); (focus kernel_rfl); (focus kernel_rfl))); first | (simp (maxSteps := 1000000) (disch := refine hold_ ?_; first | (simp [hml0, hmz, he, -List.getD_eq_getElem?_getD]; done) | omega) [hml0, hmz, he, -List.getD_eq_getElem?_getD]; try first | (with_reducible refine zZ ?_) | subst hK_) | subst hK_) | (with_reducible first | refine zA ?_ | refine zB ?_ | refine zC ?_ | refine zD ?_ | refine zE ?_ | refine zF ?_ | refine zG ?_ | refine zH ?_ | refine zI ?_ | refine zJ ?_ | refine zK ?_ | refine zL ?_ | refine zM ?_ | refine zN ?_ | refine zO ?_) | ((with_reducible refine yG ?_ ?_); (focus decide)) | ((with_reducible refine yA ?_); refine yB rfl ?_; (with_reducible first | refine yC ?_ | refine yD ?_)))
    all_goals (try simp (maxSteps := 1000000) (disch := refine hold_ ?_; first | (simp [-List.getD_eq_getElem?_getD]; done) | omega) [-List.getD_eq_getElem?_getD])
end Go.Av.Doc
end
