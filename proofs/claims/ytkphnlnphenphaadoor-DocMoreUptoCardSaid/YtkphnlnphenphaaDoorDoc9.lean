/- The walks of this seat's functions, and what is known of what they reckon (Doc9). Conditions: those that each theorem names. -/
import Derived.Test.YtkphnlnphenphaaDoorDoc8
import Derived.Shelf.LaysM
import Derived.Shelf.Strings.Search3
section
set_option linter.unusedSimpArgs false
set_option linter.unusedVariables false
set_option linter.unusedSectionVars false
namespace Go.Proofs
open Go.Shelf
def Tryd.laysM144_ren : Go.Shelf.Ren := ⟨fun | 144 => 52 | 143 => 73 | 219 => 82 | 217 => 88 | 225 => 89 | 224 => 90 | 267 => 91 | 266 => 94 | 314 => 95 | n => n, fun | 9 => 9 | 4 => 4 | 3 => 3 | 5 => 5 | 46 => 91 | 146 => 93 | 51 => 84 | n => n, fun | 1 => 0 | n => n⟩
theorem Tryd.laysM144 : Go.Proofs.LaysM.n144 Tryd.prog Tryd.laysM144_ren := {
  mixed := by kernel_rfl
  f143 := Tryd.func73.trans (congrArg some (by kernel_rfl))
  f144 := Tryd.func52.trans (congrArg some (by kernel_rfl))
  f217 := Tryd.func88.trans (congrArg some (by kernel_rfl))
  f219 := Tryd.func82.trans (congrArg some (by kernel_rfl))
  f224 := Tryd.func90.trans (congrArg some (by kernel_rfl))
  f225 := Tryd.func89.trans (congrArg some (by kernel_rfl))
  f266 := Tryd.func94.trans (congrArg some (by kernel_rfl))
  f267 := Tryd.func91.trans (congrArg some (by kernel_rfl))
  f314 := Tryd.func95.trans (congrArg some (by kernel_rfl))
  t3 := Tryd.underlying3
  a3 := Tryd.isAgg3
  z3 := Tryd.sizeOf3
  v3 := Tryd.zeroValue3
  t4 := Tryd.underlying4
  a4 := Tryd.isAgg4
  z4 := Tryd.sizeOf4
  v4 := Tryd.zeroValue4
  t5 := Tryd.underlying5
  a5 := Tryd.isAgg5
  z5 := Tryd.sizeOf5
  v5 := Tryd.zeroValue5
  t9 := Tryd.underlying9
  a9 := Tryd.isAgg9
  z9 := Tryd.sizeOf9
  v9 := Tryd.zeroValue9
  t46 := Tryd.underlying91
  a46 := Tryd.isAgg91
  z46 := Tryd.sizeOf91
  v46 := Tryd.zeroValue91
  t51 := Tryd.underlying84
  a51 := Tryd.isAgg84
  z51 := Tryd.sizeOf84
  v51 := Tryd.zeroValue84
  t146 := Tryd.underlying93
  a146 := Tryd.isAgg93
  z146 := Tryd.sizeOf93
  v146 := Tryd.zeroValue93
  g1 := by kernel_rfl
  i3 := by kernel_rfl
  i4 := by kernel_rfl
  i5 := by kernel_rfl
  i9 := by kernel_rfl
  i46 := by kernel_rfl
  i51 := by kernel_rfl
  i146 := by kernel_rfl
  m1 := by kernel_rfl
  s1_3 := fun w h => Go.Proofs.cell_of_shapedOpen_int (zero := #[.int .i64 0]) (t := 3) h (of_decide_eq_true (by kernel_rfl)) (by kernel_rfl) rfl (by kernel_rfl) (by kernel_rfl) Tryd.underlying3 }
end Go.Proofs
namespace Go.Av.Doc
open Go Go.Av Go.Proofs
variable [ML]
def hasL (s t : ByteArray) : Bool := Lib.contains s.data.toList t.data.toList
theorem contains_ct (s t : ByteArray) (hs : s.size ≤ 4000000) : Fn Tryd.prog 52 [.str s, .str t] [.p (.bool (hasL s t))] := by
  intro G w vs g
  have hl := g.len
  match vs, hl with
  | [a, b], _ =>
    have h0 := g.args 0 (by simp)
    have h1 := g.args 1 (by simp)
    simp only [List.map_cons, List.map_nil, List.getD_cons_zero, List.getD_cons_succ] at h0 h1
    obtain rfl := h0.str
    obtain rfl := h1.str
    have hg := g.glob 0 (.vals 1 [.int .i64 ML.m]) rfl
    have hm : w.cell? ⟨0, 0, none⟩ = some (.int .i64 ML.m) := by
      generalize hq : PV.eptr (.vals 1 [.int .i64 ML.m]) 0 0 = q at hg
      generalize hv : Value.pointer (some ⟨0, 0, none⟩) = v at hg
      cases hg with
      | eptr r i j b off f hi hw hf h1 hr =>
        cases hq
        simp only [Value.pointer.injEq, Option.some.injEq, Addr.mk.injEq] at hv
        obtain ⟨rfl, hv2, _⟩ := hv
        have a := hf 0 0 (by simp [Row.len]) (by simp [Row.sz])
        have c : RepP (pm G w) (.int .i64 ML.m) (f 0 0) := hr 0 0 (by simp [Row.len]) (by simp [Row.sz])
        have c' : f 0 0 = .int .i64 ML.m := by generalize f 0 0 = z at c; cases c; rfl
        rw [c'] at a
        have ho : off = 0 := by simpa using hv2.symm
        subst ho
        exact pm_cell a
      | _ => cases hq
    refine (Any.strings_Contains { Tryd.laysM144 with } s t ML.m w (by omega) hm).mono ?_
    rintro e w' ⟨rfl, rfl⟩
    refine ⟨_, rfl, rfl, G, Ext.refl G w', g.wf, fun i hi => by simp at hi, .p (.bool _)⟩
end Go.Av.Doc
end
section
set_option linter.unusedSimpArgs false
set_option linter.unusedVariables false
set_option linter.unusedSectionVars false
open Go Go.Av Go.Proofs
namespace Go.Av.Doc
variable [ML]
def endD (s : List (BitVec 8)) : Bool := s.drop (s.length - 1) == [45#8]
theorem suf0_ct (s : List (BitVec 8)) (h : s.length ≤ 4000000) : Fn Tryd.prog 74 [.str (txt s), .str (ByteArray.mk #[45])] [.p (.bool (endD s))] := by
  have hsz := txt_size s
  have hs1 : (ByteArray.mk #[45]).size = 1 := rfl
  by_cases h0 : 1 ≤ s.length
  · have hz : (1 : Int) ≤ s.length := by omega
    have w1 : IntKind.i64.wrap ((s.length : Int) - 1) = ((s.length - 1 : Nat) : Int) := by rw [wrap_i64 _ (by omega) (by omega)]; omega
    have hx : (txt s).extract (s.length - 1) s.length = txt (s.drop (s.length - 1)) := by rw [txt_extract, List.take_length]
    have e : strBin .eql (txt (s.drop (s.length - 1))) (ByteArray.mk #[45]) = some (.bool (endD s)) := str_eq_txt _ [45#8]
    have hle : s.length - 1 ≤ s.length := by omega
    have hle2 : ((s.length - 1 : Nat) : Int) ≤ s.length := by omega
    generalize endD s = B at *
    generalize s.drop (s.length - 1) = q at *
    generalize s.length - 1 = m at *
    refine Fn.of_body Tryd.func74 rfl ?_
    repeat (first | ((first | (with_reducible first | refine zP fun K_ hK_ => ?_ | refine zQ fun K_ hK_ => ?_ | refine zT ?_ | refine zU ?_ | refine zV ?_ | refine zW ?_ | refine zX ?_ | refine zY ?_) | ((with_reducible first | refine zR ?_ ?_ fun K_ hK_ => ?_ | refine zS ?_ ?_ fun K_ hK_ => ?_); (focus kernel_rfl); (focus kernel_rfl))); first | (simp (maxSteps := 1000000) (disch := refine hold_ ?_; first | (simp [hsz, hs1, hz, w1, hx, e, h0, hle, hle2, -List.getD_eq_getElem?_getD]; done) | omega) [hsz, hs1, hz, w1, hx, e, h0, hle, hle2, -List.getD_eq_getElem?_getD]; try first | (with_reducible refine zZ ?_) | subst hK_) | subst hK_) | (with_reducible first | refine zA ?_ | refine zB ?_ | refine zC ?_ | refine zD ?_ | refine zE ?_ | refine zF ?_ | refine zG ?_ | refine zH ?_ | refine zI ?_ | refine zJ ?_ | refine zK ?_ | refine zL ?_ | refine zM ?_ | refine zN ?_ | refine zO ?_) | ((with_reducible refine yG ?_ ?_); (focus decide)) | ((with_reducible refine yA ?_); refine yB rfl ?_; (with_reducible first | refine yC ?_ | refine yD ?_)))
    all_goals (try simp (maxSteps := 1000000) (disch := refine hold_ ?_; first | (simp [-List.getD_eq_getElem?_getD]; done) | omega) [-List.getD_eq_getElem?_getD])
  · have hz : ¬ (1 : Int) ≤ s.length := by omega
    have e : endD s = false := by
      have : s = [] := List.eq_nil_of_length_eq_zero (by omega)
      subst this; rfl
    rw [e]
    refine Fn.of_body Tryd.func74 rfl ?_
    repeat (first | ((first | (with_reducible first | refine zP fun K_ hK_ => ?_ | refine zQ fun K_ hK_ => ?_ | refine zT ?_ | refine zU ?_ | refine zV ?_ | refine zW ?_ | refine zX ?_ | refine zY ?_) | ((with_reducible first | refine zR ?_ ?_ fun K_ hK_ => ?_ | refine zS ?_ ?_ fun K_ hK_ => ?_); (focus kernel_rfl); (focus kernel_rfl))); first | (simp (maxSteps := 1000000) (disch := refine hold_ ?_; first | (simp [hsz, hs1, hz, -List.getD_eq_getElem?_getD]; done) | omega) [hsz, hs1, hz, -List.getD_eq_getElem?_getD]; try first | (with_reducible refine zZ ?_) | subst hK_) | subst hK_) | (with_reducible first | refine zA ?_ | refine zB ?_ | refine zC ?_ | refine zD ?_ | refine zE ?_ | refine zF ?_ | refine zG ?_ | refine zH ?_ | refine zI ?_ | refine zJ ?_ | refine zK ?_ | refine zL ?_ | refine zM ?_ | refine zN ?_ | refine zO ?_) | ((with_reducible refine yG ?_ ?_); (focus decide)) | ((with_reducible refine yA ?_); refine yB rfl ?_; (with_reducible first | refine yC ?_ | refine yD ?_)))
    all_goals (try simp (maxSteps := 1000000) (disch := refine hold_ ?_; first | (simp [-List.getD_eq_getElem?_getD]; done) | omega) [-List.getD_eq_getElem?_getD])
theorem suf_ct (s : List (BitVec 8)) (h : s.length ≤ 4000000) : Fn Tryd.prog 53 [.str (txt s), .str (ByteArray.mk #[45])] [.p (.bool (endD s))] := by
  have k := suf0_ct s h
  refine Fn.of_body Tryd.func53 rfl ?_
  repeat (first | ((with_reducible first | refine callK_at 74 ?_); refine callK_p ?_; simp (maxSteps := 1000000) (disch := refine hold_ ?_; first | (simp [-List.getD_eq_getElem?_getD]; done) | omega) [-List.getD_eq_getElem?_getD]; (first | refine callK1_of (Fn.ct k Tryd.call74) ?_); (try simp (maxSteps := 1000000) (disch := refine hold_ ?_; first | (simp [-List.getD_eq_getElem?_getD]; done) | omega) [-List.getD_eq_getElem?_getD]); try first | (with_reducible refine zZ ?_) | subst hK_) | ((first | (with_reducible first | refine zP fun K_ hK_ => ?_ | refine zQ fun K_ hK_ => ?_ | refine zT ?_ | refine zU ?_ | refine zV ?_ | refine zW ?_ | refine zX ?_ | refine zY ?_) | ((with_reducible first | refine zR ?_ ?_ fun K_ hK_ => ?_ | refine zS ?_ ?_ fun K_ hK_ => ?_); (focus kernel_rfl); (focus kernel_rfl))); first | (simp (maxSteps := 1000000) (disch := refine hold_ ?_; first | (simp [-List.getD_eq_getElem?_getD]; done) | omega) [-List.getD_eq_getElem?_getD]; try first | (with_reducible refine zZ ?_) | subst hK_) | subst hK_) | (with_reducible first | refine zA ?_ | refine zB ?_ | refine zC ?_ | refine zD ?_ | refine zE ?_ | refine zF ?_ | refine zG ?_ | refine zH ?_ | refine zI ?_ | refine zJ ?_ | refine zK ?_ | refine zL ?_ | refine zM ?_ | refine zN ?_ | refine zO ?_) | ((with_reducible refine yG ?_ ?_); (focus decide)) | ((with_reducible refine yA ?_); refine yB rfl ?_; (with_reducible first | refine yC ?_ | refine yD ?_)))
  all_goals (try simp (maxSteps := 1000000) (disch := refine hold_ ?_; first | (simp [-List.getD_eq_getElem?_getD]; done) | omega) [-List.getD_eq_getElem?_getD])
def xmlW (s : List (BitVec 8)) : Bool := s.length == 3 && (ub (s.getD 0 0#8) == 120 || ub (s.getD 0 0#8) == 88) && (ub (s.getD 1 0#8) == 109 || ub (s.getD 1 0#8) == 77) && (ub (s.getD 2 0#8) == 108 || ub (s.getD 2 0#8) == 76)
theorem target_ct (s : List (BitVec 8)) (h : s.length ≤ 4000000) : Fn Tryd.prog 56 [.str (txt s)] [.p (.bool (xmlW s))] := by
  have hsz := txt_size s
  have g0 := txt_get s 0
  have g1 := txt_get s 1
  have g2 := txt_get s 2
  unfold xmlW
  by_cases h3 : s.length = 3
  · have e3 : (s.length == 3) = true := beq_iff_eq.2 h3
    have e3z : ((s.length : Int) == 3) = true := beq_iff_eq.2 (by omega)
    rw [e3]
    generalize hA : (ub (s.getD 0 0#8) == 120) = A at *
    generalize hA' : (ub (s.getD 0 0#8) == 88) = A' at *
    generalize hB : (ub (s.getD 1 0#8) == 109) = B at *
    generalize hB' : (ub (s.getD 1 0#8) == 77) = B' at *
    generalize hC : (ub (s.getD 2 0#8) == 108) = C at *
    generalize hC' : (ub (s.getD 2 0#8) == 76) = C' at *
    refine Fn.of_body Tryd.func56 rfl ?_
    rcases two A A' (two B B' (spl C (spl C' (trivial)))) with ⟨rfl, rfl⟩ | ⟨rfl | ⟨rfl, rfl⟩, ⟨rfl, rfl⟩ | ⟨rfl | ⟨rfl, rfl⟩, ⟨rfl | rfl, ⟨rfl | rfl, _⟩⟩⟩⟩
    all_goals
      repeat (first | ((first | (with_reducible first | refine zP fun K_ hK_ => ?_ | refine zQ fun K_ hK_ => ?_ | refine zT ?_ | refine zU ?_ | refine zV ?_ | refine zW ?_ | refine zX ?_ | refine zY ?_) | ((with_reducible first | refine zR ?_ ?_ fun K_ hK_ => ?_ | refine zS ?_ ?_ fun K_ hK_ => ?_); (focus kernel_rfl); (focus kernel_rfl))); first | (simp (maxSteps := 1000000) (disch := refine hold_ ?_; first | (simp [hsz, g0, g1, g2, h3, e3z, hA, hA', hB, hB', hC, hC', -List.getD_eq_getElem?_getD]; done) | omega) [hsz, g0, g1, g2, h3, e3z, hA, hA', hB, hB', hC, hC', -List.getD_eq_getElem?_getD]; try first | (with_reducible refine zZ ?_) | subst hK_) | subst hK_) | (with_reducible first | refine zA ?_ | refine zB ?_ | refine zC ?_ | refine zD ?_ | refine zE ?_ | refine zF ?_ | refine zG ?_ | refine zH ?_ | refine zI ?_ | refine zJ ?_ | refine zK ?_ | refine zL ?_ | refine zM ?_ | refine zN ?_ | refine zO ?_) | ((with_reducible refine yG ?_ ?_); (focus decide)) | ((with_reducible refine yA ?_); refine yB rfl ?_; (with_reducible first | refine yC ?_ | refine yD ?_)))
      try simp (maxSteps := 1000000) (disch := refine hold_ ?_; first | (simp [-List.getD_eq_getElem?_getD]; done) | omega) [-List.getD_eq_getElem?_getD]
  · have e3 : (s.length == 3) = false := beq_eq_false_iff_ne.2 h3
    have e3z : ((s.length : Int) == 3) = false := beq_eq_false_iff_ne.2 (by omega)
    rw [e3]
    refine Fn.of_body Tryd.func56 rfl ?_
    repeat (first | ((first | (with_reducible first | refine zP fun K_ hK_ => ?_ | refine zQ fun K_ hK_ => ?_ | refine zT ?_ | refine zU ?_ | refine zV ?_ | refine zW ?_ | refine zX ?_ | refine zY ?_) | ((with_reducible first | refine zR ?_ ?_ fun K_ hK_ => ?_ | refine zS ?_ ?_ fun K_ hK_ => ?_); (focus kernel_rfl); (focus kernel_rfl))); first | (simp (maxSteps := 1000000) (disch := refine hold_ ?_; first | (simp [hsz, e3z, -List.getD_eq_getElem?_getD]; done) | omega) [hsz, e3z, -List.getD_eq_getElem?_getD]; try first | (with_reducible refine zZ ?_) | subst hK_) | subst hK_) | (with_reducible first | refine zA ?_ | refine zB ?_ | refine zC ?_ | refine zD ?_ | refine zE ?_ | refine zF ?_ | refine zG ?_ | refine zH ?_ | refine zI ?_ | refine zJ ?_ | refine zK ?_ | refine zL ?_ | refine zM ?_ | refine zN ?_ | refine zO ?_) | ((with_reducible refine yG ?_ ?_); (focus decide)) | ((with_reducible refine yA ?_); refine yB rfl ?_; (with_reducible first | refine yC ?_ | refine yD ?_)))
    all_goals (try simp (maxSteps := 1000000) (disch := refine hold_ ?_; first | (simp [-List.getD_eq_getElem?_getD]; done) | omega) [-List.getD_eq_getElem?_getD])
end Go.Av.Doc
end
section
set_option linter.unusedSimpArgs false
set_option linter.unusedVariables false
set_option linter.unusedSectionVars false
open Go Go.Av Go.Proofs
namespace Go.Av.Doc
variable [ML]
def dashS : ByteArray := ByteArray.mk #[45, 45]
def quesS : ByteArray := ByteArray.mk #[63, 62]
def formB (l : List Nd) (n : Nat) (ls : Int) : Bool :=
  if (nd l n).k = 1 then (nd l n).t == [] && (declB (nd l n).ds && namedB l n)
  else if (nd l n).k = 2 then bareB (nd l n) && ((nd l n).l == [] && (!((nd l n).t == []) && (textB (nd l n).t && (decide (ls < 0) || !((nd l ls.toNat).k == 2)))))
  else if (nd l n).k = 3 then bareB (nd l n) && ((nd l n).l == [] && (textB (nd l n).t && (!hasL (txt (nd l n).t) dashS && !endD (nd l n).t)))
  else if (nd l n).k = 4 then bareB (nd l n) && (nameB (nd l n).l && (!xmlW (nd l n).l && (textB (nd l n).t && (!hasL (txt (nd l n).t) quesS && !(!((nd l n).t == []) && blankB (ub ((nd l n).t.getD 0 0#8)))))))
  else false
set_option maxRecDepth 16000 in
set_option maxHeartbeats 16000000 in
theorem formed_ct (l : List Nd) (nl : Bool) (n : Nat) (ls : Int) (hp : pOk l (n + 1)) (hn : n < l.length) (hok : ∀ x ∈ l, okN x) (hls : -1 ≤ ls ∧ ls < l.length) :
    Fn Tryd.prog 39 [.sl (ndR l) nl, .int .i64 n, .int .i64 ls] [.p (.bool (formB l n ls))] := by
  have he := nd_elem l n hn
  have hx : okN (nd l n) := hok _ (mem_getD l n default hn)
  have hnz : (n : Int) < l.length := by omega
  have k50 := named_ct l nl n hp hn hok
  have hl : 0 ≤ ls → (ndR l).elem ls.toNat = ndP (nd l ls.toNat) := fun h => nd_elem l _ (by omega)
  unfold formB
  generalize namedB l n = NB at *
  generalize nd l n = x at *
  generalize nd l ls.toNat = y at *
  have k49 := declared_ct x.ds x.dn hx.dl hx.ds
  have k37 := bare_ct x
  have k51 := text_ct x.t hx.t
  have k55 := is_ct x.l hx.l
  have k56 := target_ct x.l hx.l
  have k53 := suf_ct x.t hx.t
  have k52 := fun s => contains_ct (txt x.t) s (by rw [txt_size]; exact hx.t)
  have e1 := s_eq0 x.t
  have e2 := s_eq0 x.l
  have e3 := s_ne0 x.t
  have hsz := txt_size x.t
  have hg := txt_get x.t 0
  have k54 := blank_ct (ub (x.t.getD 0 0#8))
  unfold ndP at he k37
  refine Fn.of_body Tryd.func39 rfl ?_
  by_cases h1 : x.k = 1
  · rw [if_pos h1]
    clear k37 k51 k55 k56 k53 k52 k54 hl hg hsz e2 e3
    generalize (x.t == []) = A at *
    generalize declB x.ds = B at *
    rcases anc A (anc B (spl NB (trivial))) with rfl | ⟨rfl, rfl | ⟨rfl, ⟨rfl | rfl, _⟩⟩⟩
    all_goals
      repeat (first | ((with_reducible first | refine callK_at 49 ?_ | refine callK_at 50 ?_); refine callK_p ?_; simp (maxSteps := 1000000) (disch := refine hold_ ?_; first | (simp [hn, hnz, he, h1, e1, -List.getD_eq_getElem?_getD]; done) | omega) [hn, hnz, he, h1, e1, -List.getD_eq_getElem?_getD]; (first | ((with_reducible refine k1_at 49 ?_); refine callK1_of (Fn.ct k49 Tryd.call49) ?_) | ((with_reducible refine k1_at 50 ?_); refine callK1_of (Fn.ct k50 Tryd.call50) ?_)); (try simp (maxSteps := 1000000) (disch := refine hold_ ?_; first | (simp [hn, hnz, he, h1, e1, -List.getD_eq_getElem?_getD]; done) | omega) [hn, hnz, he, h1, e1, -List.getD_eq_getElem?_getD]); try first | (with_reducible refine zZ ?_) | subst hK_) | ((first | (with_reducible first | refine zP fun K_ hK_ => ?_ | refine zQ fun K_ hK_ => ?_ | refine zT ?_ | refine zU ?_ | refine zV ?_ | refine zW ?_ | refine zX ?_ | refine zY ?_) | ((with_reducible first | refine zR ?_ ?_ fun K_ hK_ => ?_ | refine zS ?_ ?_ fun K_ hK_ => ?_); (focus kernel_rfl); (focus kernel_rfl))); first | (simp (maxSteps := 1000000) (disch := refine hold_ ?_; first | (simp [hn, hnz, he, h1, e1, -List.getD_eq_getElem?_getD]; done) | omega) [hn, hnz, he, h1, e1, -List.getD_eq_getElem?_getD]; try first | (with_reducible refine zZ ?_) | subst hK_) | subst hK_) | (with_reducible first | refine zA ?_ | refine zB ?_ | refine zC ?_ | refine zD ?_ | refine zE ?_ | refine zF ?_ | refine zG ?_ | refine zH ?_ | refine zI ?_ | refine zJ ?_ | refine zK ?_ | refine zL ?_ | refine zM ?_ | refine zN ?_ | refine zO ?_) | ((with_reducible refine yG ?_ ?_); (focus decide)) | ((with_reducible refine yA ?_); refine yB rfl ?_; (with_reducible first | refine yC ?_ | refine yD ?_)))
      try simp (maxSteps := 1000000) (disch := refine hold_ ?_; first | (simp [-List.getD_eq_getElem?_getD]; done) | omega) [-List.getD_eq_getElem?_getD]
  rw [if_neg h1]
  have b1 : (x.k == 1) = false := beq_eq_false_iff_ne.2 h1
  by_cases h2 : x.k = 2
  · rw [if_pos h2]
    rw [h2] at k37
    clear k55 k56 k53 k52 k54 k49 k50 hg hsz
    generalize bareB x = A at *
    generalize (x.l == []) = B at *
    generalize (x.t == []) = C at *
    generalize textB x.t = D at *
    by_cases hlz : ls < 0
    · rw [decide_eq_true hlz]
      rcases anc A (anc B (orc C (spl D (trivial)))) with rfl | ⟨rfl, rfl | ⟨rfl, rfl | ⟨rfl, ⟨rfl | rfl, _⟩⟩⟩⟩
      all_goals
        repeat (first | ((with_reducible first | refine callK_at 37 ?_ | refine callK_at 51 ?_); refine callK_p ?_; simp (maxSteps := 1000000) (disch := refine hold_ ?_; first | (simp [hn, hnz, he, h2, b1, e2, e3, hlz, -List.getD_eq_getElem?_getD]; done) | omega) [hn, hnz, he, h2, b1, e2, e3, hlz, -List.getD_eq_getElem?_getD]; (first | ((with_reducible refine k1_at 37 ?_); refine callK1_of (Fn.ct k37 Tryd.call37) ?_) | ((with_reducible refine k1_at 51 ?_); refine callK1_of (Fn.ct k51 Tryd.call51) ?_)); (try simp (maxSteps := 1000000) (disch := refine hold_ ?_; first | (simp [hn, hnz, he, h2, b1, e2, e3, hlz, -List.getD_eq_getElem?_getD]; done) | omega) [hn, hnz, he, h2, b1, e2, e3, hlz, -List.getD_eq_getElem?_getD]); try first | (with_reducible refine zZ ?_) | subst hK_) | ((first | (with_reducible first | refine zP fun K_ hK_ => ?_ | refine zQ fun K_ hK_ => ?_ | refine zT ?_ | refine zU ?_ | refine zV ?_ | refine zW ?_ | refine zX ?_ | refine zY ?_) | ((with_reducible first | refine zR ?_ ?_ fun K_ hK_ => ?_ | refine zS ?_ ?_ fun K_ hK_ => ?_); (focus kernel_rfl); (focus kernel_rfl))); first | (simp (maxSteps := 1000000) (disch := refine hold_ ?_; first | (simp [hn, hnz, he, h2, b1, e2, e3, hlz, -List.getD_eq_getElem?_getD]; done) | omega) [hn, hnz, he, h2, b1, e2, e3, hlz, -List.getD_eq_getElem?_getD]; try first | (with_reducible refine zZ ?_) | subst hK_) | subst hK_) | (with_reducible first | refine zA ?_ | refine zB ?_ | refine zC ?_ | refine zD ?_ | refine zE ?_ | refine zF ?_ | refine zG ?_ | refine zH ?_ | refine zI ?_ | refine zJ ?_ | refine zK ?_ | refine zL ?_ | refine zM ?_ | refine zN ?_ | refine zO ?_) | ((with_reducible refine yG ?_ ?_); (focus decide)) | ((with_reducible refine yA ?_); refine yB rfl ?_; (with_reducible first | refine yC ?_ | refine yD ?_)))
        try simp (maxSteps := 1000000) (disch := refine hold_ ?_; first | (simp [-List.getD_eq_getElem?_getD]; done) | omega) [-List.getD_eq_getElem?_getD]
    · have hly := hl (by omega)
      obtain ⟨q, rfl⟩ : ∃ q : Nat, ls = q := ⟨ls.toNat, by omega⟩
      rw [Int.toNat_natCast] at hly
      have hq : q < l.length := by omega
      have hqz : ¬ (q : Int) < 0 := hlz
      rw [decide_eq_false hlz]
      have f1 : (y.k != 2) = !(y.k == 2) := rfl
      generalize (y.k == 2) = F at *
      unfold ndP at hly
      rcases anc A (anc B (orc C (anc D (spl F (trivial))))) with rfl | ⟨rfl, rfl | ⟨rfl, rfl | ⟨rfl, rfl | ⟨rfl, ⟨rfl | rfl, _⟩⟩⟩⟩⟩
      all_goals
        repeat (first | ((with_reducible first | refine callK_at 37 ?_ | refine callK_at 51 ?_); refine callK_p ?_; simp (maxSteps := 1000000) (disch := refine hold_ ?_; first | (simp [hn, hnz, he, h2, b1, e2, e3, hqz, hly, hq, f1, -List.getD_eq_getElem?_getD]; done) | omega) [hn, hnz, he, h2, b1, e2, e3, hqz, hly, hq, f1, -List.getD_eq_getElem?_getD]; (first | ((with_reducible refine k1_at 37 ?_); refine callK1_of (Fn.ct k37 Tryd.call37) ?_) | ((with_reducible refine k1_at 51 ?_); refine callK1_of (Fn.ct k51 Tryd.call51) ?_)); (try simp (maxSteps := 1000000) (disch := refine hold_ ?_; first | (simp [hn, hnz, he, h2, b1, e2, e3, hqz, hly, hq, f1, -List.getD_eq_getElem?_getD]; done) | omega) [hn, hnz, he, h2, b1, e2, e3, hqz, hly, hq, f1, -List.getD_eq_getElem?_getD]); try first | (with_reducible refine zZ ?_) | subst hK_) | ((first | (with_reducible first | refine zP fun K_ hK_ => ?_ | refine zQ fun K_ hK_ => ?_ | refine zT ?_ | refine zU ?_ | refine zV ?_ | refine zW ?_ | refine zX ?_ | refine zY ?_) | ((with_reducible first | refine zR ?_ ?_ fun K_ hK_ => ?_ | refine zS ?_ ?_ fun K_ hK_ => ?_); (focus kernel_rfl); (focus kernel_rfl))); first | (simp (maxSteps := 1000000) (disch := refine hold_ ?_; first | (simp [hn, hnz, he, h2, b1, e2, e3, hqz, hly, hq, f1, -List.getD_eq_getElem?_getD]; done) | omega) [hn, hnz, he, h2, b1, e2, e3, hqz, hly, hq, f1, -List.getD_eq_getElem?_getD]; try first | (with_reducible refine zZ ?_) | subst hK_) | subst hK_) | (with_reducible first | refine zA ?_ | refine zB ?_ | refine zC ?_ | refine zD ?_ | refine zE ?_ | refine zF ?_ | refine zG ?_ | refine zH ?_ | refine zI ?_ | refine zJ ?_ | refine zK ?_ | refine zL ?_ | refine zM ?_ | refine zN ?_ | refine zO ?_) | ((with_reducible refine yG ?_ ?_); (focus decide)) | ((with_reducible refine yA ?_); refine yB rfl ?_; (with_reducible first | refine yC ?_ | refine yD ?_)))
        try simp (maxSteps := 1000000) (disch := refine hold_ ?_; first | (simp [-List.getD_eq_getElem?_getD]; done) | omega) [-List.getD_eq_getElem?_getD]
  rw [if_neg h2]
  have b2 : (x.k == 2) = false := beq_eq_false_iff_ne.2 h2
  by_cases h3 : x.k = 3
  · rw [if_pos h3]
    rw [h3] at k37
    clear k55 k56 k54 k49 k50 hg hsz hl
    have k52' := k52 (ByteArray.mk #[45, 45])
    change Fn Tryd.prog 52 _ [.p (.bool (hasL (txt x.t) dashS))] at k52'
    clear k52
    generalize bareB x = A at *
    generalize (x.l == []) = B at *
    generalize textB x.t = D at *
    generalize hasL (txt x.t) dashS = F at *
    generalize endD x.t = G at *
    rcases anc A (anc B (anc D (orc F (spl G (trivial))))) with rfl | ⟨rfl, rfl | ⟨rfl, rfl | ⟨rfl, rfl | ⟨rfl, ⟨rfl | rfl, _⟩⟩⟩⟩⟩
    all_goals
      repeat (first | ((with_reducible first | refine callK_at 37 ?_ | refine callK_at 51 ?_ | refine callK_at 52 ?_ | refine callK_at 53 ?_); refine callK_p ?_; simp (maxSteps := 1000000) (disch := refine hold_ ?_; first | (simp [hn, hnz, he, h3, b1, b2, e2, e3, -List.getD_eq_getElem?_getD]; done) | omega) [hn, hnz, he, h3, b1, b2, e2, e3, -List.getD_eq_getElem?_getD]; (first | ((with_reducible refine k1_at 37 ?_); refine callK1_of (Fn.ct k37 Tryd.call37) ?_) | ((with_reducible refine k1_at 51 ?_); refine callK1_of (Fn.ct k51 Tryd.call51) ?_) | ((with_reducible refine k1_at 52 ?_); refine callK1_of (Fn.ct k52' Tryd.call52) ?_) | ((with_reducible refine k1_at 53 ?_); refine callK1_of (Fn.ct k53 Tryd.call53) ?_)); (try simp (maxSteps := 1000000) (disch := refine hold_ ?_; first | (simp [hn, hnz, he, h3, b1, b2, e2, e3, -List.getD_eq_getElem?_getD]; done) | omega) [hn, hnz, he, h3, b1, b2, e2, e3, -List.getD_eq_getElem?_getD]); try first | (with_reducible refine zZ ?_) | subst hK_) | ((first | (with_reducible first | refine zP fun K_ hK_ => ?_ | refine zQ fun K_ hK_ => ?_ | refine zT ?_ | refine zU ?_ | refine zV ?_ | refine zW ?_ | refine zX ?_ | refine zY ?_) | ((with_reducible first | refine zR ?_ ?_ fun K_ hK_ => ?_ | refine zS ?_ ?_ fun K_ hK_ => ?_); (focus kernel_rfl); (focus kernel_rfl))); first | (simp (maxSteps := 1000000) (disch := refine hold_ ?_; first | (simp [hn, hnz, he, h3, b1, b2, e2, e3, -List.getD_eq_getElem?_getD]; done) | omega) [hn, hnz, he, h3, b1, b2, e2, e3, -List.getD_eq_getElem?_getD]; try first | (with_reducible refine zZ ?_) | subst hK_) | subst hK_) | (with_reducible first | refine zA ?_ | refine zB ?_ | refine zC ?_ | refine zD ?_ | refine zE ?_ | refine zF ?_ | refine zG ?_ | refine zH ?_ | refine zI ?_ | refine zJ ?_ | refine zK ?_ | refine zL ?_ | refine zM ?_ | refine zN ?_ | refine zO ?_) | ((with_reducible refine yG ?_ ?_); (focus decide)) | ((with_reducible refine yA ?_); refine yB rfl ?_; (with_reducible first | refine yC ?_ | refine yD ?_)))
      try simp (maxSteps := 1000000) (disch := refine hold_ ?_; first | (simp [-List.getD_eq_getElem?_getD]; done) | omega) [-List.getD_eq_getElem?_getD]
  rw [if_neg h3]
  have b3 : (x.k == 3) = false := beq_eq_false_iff_ne.2 h3
  by_cases h4 : x.k = 4
  · rw [if_pos h4]
    rw [h4] at k37
    clear k49 k50 hl k53
    have k52' := k52 (ByteArray.mk #[63, 62])
    change Fn Tryd.prog 52 _ [.p (.bool (hasL (txt x.t) quesS))] at k52'
    clear k52
    have hlen : (x.t == []) = false → 0 < x.t.length := fun h => List.length_pos_iff.2 (by simpa using h)
    generalize bareB x = A at *
    generalize nameB x.l = B at *
    generalize xmlW x.l = C at *
    generalize textB x.t = D at *
    generalize hasL (txt x.t) quesS = F at *
    generalize blankB (ub (x.t.getD 0 0#8)) = G at *
    generalize (x.t == []) = H at *
    cases H with
    | true =>
      rcases anc A (anc B (orc C (anc D (spl F (trivial))))) with rfl | ⟨rfl, rfl | ⟨rfl, rfl | ⟨rfl, rfl | ⟨rfl, ⟨rfl | rfl, _⟩⟩⟩⟩⟩
      all_goals
        repeat (first | ((with_reducible first | refine callK_at 37 ?_ | refine callK_at 51 ?_ | refine callK_at 52 ?_ | refine callK_at 55 ?_ | refine callK_at 56 ?_); refine callK_p ?_; simp (maxSteps := 1000000) (disch := refine hold_ ?_; first | (simp [hn, hnz, he, h4, b1, b2, b3, e2, e3, -List.getD_eq_getElem?_getD]; done) | omega) [hn, hnz, he, h4, b1, b2, b3, e2, e3, -List.getD_eq_getElem?_getD]; (first | ((with_reducible refine k1_at 37 ?_); refine callK1_of (Fn.ct k37 Tryd.call37) ?_) | ((with_reducible refine k1_at 51 ?_); refine callK1_of (Fn.ct k51 Tryd.call51) ?_) | ((with_reducible refine k1_at 52 ?_); refine callK1_of (Fn.ct k52' Tryd.call52) ?_) | ((with_reducible refine k1_at 55 ?_); refine callK1_of (Fn.ct k55 Tryd.call55) ?_) | ((with_reducible refine k1_at 56 ?_); refine callK1_of (Fn.ct k56 Tryd.call56) ?_)); (try simp (maxSteps := 1000000) (disch := refine hold_ ?_; first | (simp [hn, hnz, he, h4, b1, b2, b3, e2, e3, -List.getD_eq_getElem?_getD]; done) | omega) [hn, hnz, he, h4, b1, b2, b3, e2, e3, -List.getD_eq_getElem?_getD]); try first | (with_reducible refine zZ ?_) | subst hK_) | ((first | (with_reducible first | refine zP fun K_ hK_ => ?_ | refine zQ fun K_ hK_ => ?_ | refine zT ?_ | refine zU ?_ | refine zV ?_ | refine zW ?_ | refine zX ?_ | refine zY ?_) | ((with_reducible first | refine zR ?_ ?_ fun K_ hK_ => ?_ | refine zS ?_ ?_ fun K_ hK_ => ?_); (focus kernel_rfl); (focus kernel_rfl))); first | (simp (maxSteps := 1000000) (disch := refine hold_ ?_; first | (simp [hn, hnz, he, h4, b1, b2, b3, e2, e3, -List.getD_eq_getElem?_getD]; done) | omega) [hn, hnz, he, h4, b1, b2, b3, e2, e3, -List.getD_eq_getElem?_getD]; try first | (with_reducible refine zZ ?_) | subst hK_) | subst hK_) | (with_reducible first | refine zA ?_ | refine zB ?_ | refine zC ?_ | refine zD ?_ | refine zE ?_ | refine zF ?_ | refine zG ?_ | refine zH ?_ | refine zI ?_ | refine zJ ?_ | refine zK ?_ | refine zL ?_ | refine zM ?_ | refine zN ?_ | refine zO ?_) | ((with_reducible refine yG ?_ ?_); (focus decide)) | ((with_reducible refine yA ?_); refine yB rfl ?_; (with_reducible first | refine yC ?_ | refine yD ?_)))
        try simp (maxSteps := 1000000) (disch := refine hold_ ?_; first | (simp [-List.getD_eq_getElem?_getD]; done) | omega) [-List.getD_eq_getElem?_getD]
    | false =>
      have hpos := hlen rfl
      rcases anc A (anc B (orc C (anc D (orc F (spl G (trivial)))))) with rfl | ⟨rfl, rfl | ⟨rfl, rfl | ⟨rfl, rfl | ⟨rfl, rfl | ⟨rfl, ⟨rfl | rfl, _⟩⟩⟩⟩⟩⟩
      all_goals
        repeat (first | ((with_reducible first | refine callK_at 37 ?_ | refine callK_at 51 ?_ | refine callK_at 52 ?_ | refine callK_at 54 ?_ | refine callK_at 55 ?_ | refine callK_at 56 ?_); refine callK_p ?_; simp (maxSteps := 1000000) (disch := refine hold_ ?_; first | (simp [hn, hnz, he, h4, b1, b2, b3, e2, e3, hsz, hg, hpos, -List.getD_eq_getElem?_getD]; done) | omega) [hn, hnz, he, h4, b1, b2, b3, e2, e3, hsz, hg, hpos, -List.getD_eq_getElem?_getD]; (first | ((with_reducible refine k1_at 37 ?_); refine callK1_of (Fn.ct k37 Tryd.call37) ?_) | ((with_reducible refine k1_at 51 ?_); refine callK1_of (Fn.ct k51 Tryd.call51) ?_) | ((with_reducible refine k1_at 52 ?_); refine callK1_of (Fn.ct k52' Tryd.call52) ?_) | ((with_reducible refine k1_at 54 ?_); refine callK1_of (Fn.ct k54 Tryd.call54) ?_) | ((with_reducible refine k1_at 55 ?_); refine callK1_of (Fn.ct k55 Tryd.call55) ?_) | ((with_reducible refine k1_at 56 ?_); refine callK1_of (Fn.ct k56 Tryd.call56) ?_)); (try simp (maxSteps := 1000000) (disch := refine hold_ ?_; first | (simp [hn, hnz, he, h4, b1, b2, b3, e2, e3, hsz, hg, hpos, -List.getD_eq_getElem?_getD]; done) | omega) [hn, hnz, he, h4, b1, b2, b3, e2, e3, hsz, hg, hpos, -List.getD_eq_getElem?_getD]); try first | (with_reducible refine zZ ?_) | subst hK_) | ((first | (with_reducible first | refine zP fun K_ hK_ => ?_ | refine zQ fun K_ hK_ => ?_ | refine zT ?_ | refine zU ?_ | refine zV ?_ | refine zW ?_ | refine zX ?_ | refine zY ?_) | ((with_reducible first | refine zR ?_ ?_ fun K_ hK_ => ?_ | refine zS ?_ ?_ fun K_ hK_ => ?_); (focus kernel_rfl); (focus kernel_rfl))); first | (simp (maxSteps := 1000000) (disch := refine hold_ ?_; first | (simp [hn, hnz, he, h4, b1, b2, b3, e2, e3, hsz, hg, hpos, -List.getD_eq_getElem?_getD]; done) | omega) [hn, hnz, he, h4, b1, b2, b3, e2, e3, hsz, hg, hpos, -List.getD_eq_getElem?_getD]; try first | (with_reducible refine zZ ?_) | subst hK_) | subst hK_) | (with_reducible first | refine zA ?_ | refine zB ?_ | refine zC ?_ | refine zD ?_ | refine zE ?_ | refine zF ?_ | refine zG ?_ | refine zH ?_ | refine zI ?_ | refine zJ ?_ | refine zK ?_ | refine zL ?_ | refine zM ?_ | refine zN ?_ | refine zO ?_) | ((with_reducible refine yG ?_ ?_); (focus decide)) | ((with_reducible refine yA ?_); refine yB rfl ?_; (with_reducible first | refine yC ?_ | refine yD ?_)))
        try simp (maxSteps := 1000000) (disch := refine hold_ ?_; first | (simp [-List.getD_eq_getElem?_getD]; done) | omega) [-List.getD_eq_getElem?_getD]
  rw [if_neg h4]
  have b4 : (x.k == 4) = false := beq_eq_false_iff_ne.2 h4
  repeat (first | ((first | (with_reducible first | refine zP fun K_ hK_ => ?_ | refine zQ fun K_ hK_ => ?_ | refine zT ?_ | refine zU ?_ | refine zV ?_ | refine zW ?_ | refine zX ?_ | refine zY ?_) | ((with_reducible first | refine zR ?_ ?_ fun K_ hK_ => ?_ | refine zS ?_ ?_ fun K_ hK_ => ?_); (focus kernel_rfl); (focus kernel_rfl))); first | (simp (maxSteps := 1000000) (disch := refine hold_ ?_; first | (simp [hn, hnz, he, b1, b2, b3, b4, -List.getD_eq_getElem?_getD]; done) | omega) [hn, hnz, he, b1, b2, b3, b4, -List.getD_eq_getElem?_getD]; try first | (with_reducible refine zZ ?_) | subst hK_) | subst hK_) | (with_reducible first | refine zA ?_ | refine zB ?_ | refine zC ?_ | refine zD ?_ | refine zE ?_ | refine zF ?_ | refine zG ?_ | refine zH ?_ | refine zI ?_ | refine zJ ?_ | refine zK ?_ | refine zL ?_ | refine zM ?_ | refine zN ?_ | refine zO ?_) | ((with_reducible refine yG ?_ ?_); (focus decide)) | ((with_reducible refine yA ?_); refine yB rfl ?_; (with_reducible first | refine yC ?_ | refine yD ?_)))
  all_goals (try simp (maxSteps := 1000000) (disch := refine hold_ ?_; first | (simp [-List.getD_eq_getElem?_getD]; done) | omega) [-List.getD_eq_getElem?_getD])
end Go.Av.Doc
end
