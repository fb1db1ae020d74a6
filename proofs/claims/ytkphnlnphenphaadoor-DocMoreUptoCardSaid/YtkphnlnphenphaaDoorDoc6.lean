/- The walks of this seat's functions, and what is known of what they reckon (Doc6). Conditions: those that each theorem names. -/
import Derived.Test.YtkphnlnphenphaaDoorDoc1
section
set_option linter.unusedSimpArgs false
set_option linter.unusedVariables false
set_option linter.unusedSectionVars false
open Go Go.Av Go.Proofs
namespace Go.Av.Doc
variable [ML]
structure Dc where
  p : List (BitVec 8)
  u : List (BitVec 8)
  deriving DecidableEq
structure At where
  p : List (BitVec 8)
  l : List (BitVec 8)
  u : List (BitVec 8)
  v : List (BitVec 8)
  deriving DecidableEq
structure Nd where
  k : Int
  a : Int
  p : List (BitVec 8)
  l : List (BitVec 8)
  u : List (BitVec 8)
  t : List (BitVec 8)
  ds : List Dc
  dn : Bool
  ms : List At
  mn : Bool
  deriving DecidableEq
def dcP (d : Dc) : PV := .agg (.vals 1 [.str (txt d.p), .str (txt d.u)])
def atP (a : At) : PV := .agg (.vals 1 [.str (txt a.p), .str (txt a.l), .str (txt a.u), .str (txt a.v)])
def dcR (l : List Dc) : Row PV := .vals 2 (l.map dcP)
def atR (l : List At) : Row PV := .vals 4 (l.map atP)
def ndP (x : Nd) : PV := .agg (.vals 1 [.int .i64 x.k, .int .i64 x.a, .str (txt x.p), .str (txt x.l), .str (txt x.u), .str (txt x.t), .sl (dcR x.ds) x.dn, .sl (atR x.ms) x.mn])
def ndR (l : List Nd) : Row PV := .vals 8 (l.map ndP)
@[simp] theorem dcR_len (l : List Dc) : (dcR l).len = l.length := by simp [dcR]
@[simp] theorem dcR_sz (l : List Dc) : (dcR l).sz = 2 := rfl
@[simp] theorem atR_len (l : List At) : (atR l).len = l.length := by simp [atR]
@[simp] theorem atR_sz (l : List At) : (atR l).sz = 4 := rfl
@[simp] theorem ndR_len (l : List Nd) : (ndR l).len = l.length := by simp [ndR]
@[simp] theorem ndR_sz (l : List Nd) : (ndR l).sz = 8 := rfl
instance : Inhabited Nd := ⟨⟨0, 0, [], [], [], [], [], true, [], true⟩⟩
theorem ndR_elem (l : List Nd) (k : Nat) (h : k < l.length) : (ndR l).elem k = ndP (l.getD k default) := by
  simp [ndR, Row.elem, List.getD_eq_getElem?_getD, h]
def bareB (x : Nd) : Bool := x.p == [] && x.u == [] && x.ds.length == 0 && x.ms.length == 0
theorem s_eq0 (s : List (BitVec 8)) : strBin .eql (txt s) (ByteArray.mk #[]) = some (.bool (s == [])) := str_eq_txt s []
theorem s_ne0 (s : List (BitVec 8)) : strBin .neq (txt s) (ByteArray.mk #[]) = some (.bool !(s == [])) := str_neq_txt s []
theorem int0 (n : Nat) : ((n : Int) == 0) = (n == 0) := by
  cases n with
  | zero => rfl
  | succ n => simp; omega
theorem bare_ct (x : Nd) : Fn Tryd.prog 37 [ndP x] [.p (.bool (bareB x))] := by
  have e1 := s_eq0 x.p
  have e2 := s_eq0 x.u
  have e3 := int0 x.ds.length
  have e4 := int0 x.ms.length
  unfold bareB
  generalize (x.p == []) = b1 at *
  generalize (x.u == []) = b2 at *
  generalize (x.ds.length == 0) = b3 at *
  generalize (x.ms.length == 0) = b4 at *
  refine Fn.of_body Tryd.func37 rfl ?_
  unfold ndP
  cases b1 <;> cases b2 <;> cases b3 <;> cases b4
  all_goals
    repeat (first | ((first | (with_reducible first | refine zP fun K_ hK_ => ?_ | refine zQ fun K_ hK_ => ?_ | refine zT ?_ | refine zU ?_ | refine zV ?_ | refine zW ?_ | refine zX ?_ | refine zY ?_) | ((with_reducible first | refine zR ?_ ?_ fun K_ hK_ => ?_ | refine zS ?_ ?_ fun K_ hK_ => ?_); (focus kernel_rfl); (focus kernel_rfl))); first | (simp (maxSteps := 1000000) (disch := refine hold_ ?_; first | (simp [e1, e2, e3, e4, -List.getD_eq_getElem?_getD]; done) | omega) [e1, e2, e3, e4, -List.getD_eq_getElem?_getD]; try first | (with_reducible refine zZ ?_) | subst hK_) | subst hK_) | (with_reducible first | refine zA ?_ | refine zB ?_ | refine zC ?_ | refine zD ?_ | refine zE ?_ | refine zF ?_ | refine zG ?_ | refine zH ?_ | refine zI ?_ | refine zJ ?_ | refine zK ?_ | refine zL ?_ | refine zM ?_ | refine zN ?_ | refine zO ?_) | ((with_reducible refine yG ?_ ?_); (focus decide)) | ((with_reducible refine yA ?_); refine yB rfl ?_; (with_reducible first | refine yC ?_ | refine yD ?_)))
    try simp (maxSteps := 1000000) (disch := refine hold_ ?_; first | (simp [-List.getD_eq_getElem?_getD]; done) | omega) [-List.getD_eq_getElem?_getD]
end Go.Av.Doc
end
section
set_option linter.unusedSimpArgs false
set_option linter.unusedVariables false
set_option linter.unusedSectionVars false
open Go Go.Av Go.Proofs
namespace Go.Av.Doc
variable [ML]
def docP (l : List Nd) (e : List Int) (top : Int) : PV := .eptr (.vals 3 [.agg (.vals 1 [.sl (ndR l) false, .sl (.ints .i64 e) false, .int .i64 top])]) 0 0
theorem len_ct (l : List Nd) (e : List Int) (top : Int) : Fn Tryd.prog 17 [docP l e top] [.p (.int .i64 l.length)] := by
  refine Fn.of_body Tryd.func17 rfl ?_
  unfold docP
  repeat (first | ((first | (with_reducible first | refine zP fun K_ hK_ => ?_ | refine zQ fun K_ hK_ => ?_ | refine zT ?_ | refine zU ?_ | refine zV ?_ | refine zW ?_ | refine zX ?_ | refine zY ?_) | ((with_reducible first | refine zR ?_ ?_ fun K_ hK_ => ?_ | refine zS ?_ ?_ fun K_ hK_ => ?_); (focus kernel_rfl); (focus kernel_rfl))); first | (simp (maxSteps := 1000000) (disch := refine hold_ ?_; first | (simp [-List.getD_eq_getElem?_getD]; done) | omega) [-List.getD_eq_getElem?_getD]; try first | (with_reducible refine zZ ?_) | subst hK_) | subst hK_) | (with_reducible first | refine zA ?_ | refine zB ?_ | refine zC ?_ | refine zD ?_ | refine zE ?_ | refine zF ?_ | refine zG ?_ | refine zH ?_ | refine zI ?_ | refine zJ ?_ | refine zK ?_ | refine zL ?_ | refine zM ?_ | refine zN ?_ | refine zO ?_) | ((with_reducible refine yG ?_ ?_); (focus decide)) | ((with_reducible refine yA ?_); refine yB rfl ?_; (with_reducible first | refine yC ?_ | refine yD ?_)))
  all_goals simp (maxSteps := 1000000) (disch := refine hold_ ?_; first | (simp [-List.getD_eq_getElem?_getD]; done) | omega) [-List.getD_eq_getElem?_getD]
theorem top_ct (l : List Nd) (e : List Int) (top : Int) : Fn Tryd.prog 23 [docP l e top] [.p (.int .i64 top)] := by
  refine Fn.of_body Tryd.func23 rfl ?_
  unfold docP
  repeat (first | ((first | (with_reducible first | refine zP fun K_ hK_ => ?_ | refine zQ fun K_ hK_ => ?_ | refine zT ?_ | refine zU ?_ | refine zV ?_ | refine zW ?_ | refine zX ?_ | refine zY ?_) | ((with_reducible first | refine zR ?_ ?_ fun K_ hK_ => ?_ | refine zS ?_ ?_ fun K_ hK_ => ?_); (focus kernel_rfl); (focus kernel_rfl))); first | (simp (maxSteps := 1000000) (disch := refine hold_ ?_; first | (simp [-List.getD_eq_getElem?_getD]; done) | omega) [-List.getD_eq_getElem?_getD]; try first | (with_reducible refine zZ ?_) | subst hK_) | subst hK_) | (with_reducible first | refine zA ?_ | refine zB ?_ | refine zC ?_ | refine zD ?_ | refine zE ?_ | refine zF ?_ | refine zG ?_ | refine zH ?_ | refine zI ?_ | refine zJ ?_ | refine zK ?_ | refine zL ?_ | refine zM ?_ | refine zN ?_ | refine zO ?_) | ((with_reducible refine yG ?_ ?_); (focus decide)) | ((with_reducible refine yA ?_); refine yB rfl ?_; (with_reducible first | refine yC ?_ | refine yD ?_)))
  all_goals simp (maxSteps := 1000000) (disch := refine hold_ ?_; first | (simp [-List.getD_eq_getElem?_getD]; done) | omega) [-List.getD_eq_getElem?_getD]
def hasB (l : List Nd) (n : Int) : Bool := decide (0 ≤ n) && decide (n < l.length)
theorem has_ct (l : List Nd) (e : List Int) (top : Int) (n : Int) : Fn Tryd.prog 36 [docP l e top, .int .i64 n] [.p (.bool (hasB l n))] := by
  have k := len_ct l e top
  unfold hasB
  generalize docP l e top = D at *
  by_cases h : 0 ≤ n
  · have h' : ¬ n < 0 := by omega
    by_cases h2 : n < l.length
    · refine Fn.of_body Tryd.func36 rfl ?_
      repeat (first | ((with_reducible first | refine callK_at 17 ?_); refine callK_p ?_; simp (maxSteps := 1000000) (disch := refine hold_ ?_; first | (simp [h, h', h2, -List.getD_eq_getElem?_getD]; done) | omega) [h, h', h2, -List.getD_eq_getElem?_getD]; (first | refine callK1_of (Fn.ct k Tryd.call17) ?_); (try simp (maxSteps := 1000000) (disch := refine hold_ ?_; first | (simp [h, h', h2, -List.getD_eq_getElem?_getD]; done) | omega) [h, h', h2, -List.getD_eq_getElem?_getD]); try first | (with_reducible refine zZ ?_) | subst hK_) | ((first | (with_reducible first | refine zP fun K_ hK_ => ?_ | refine zQ fun K_ hK_ => ?_ | refine zT ?_ | refine zU ?_ | refine zV ?_ | refine zW ?_ | refine zX ?_ | refine zY ?_) | ((with_reducible first | refine zR ?_ ?_ fun K_ hK_ => ?_ | refine zS ?_ ?_ fun K_ hK_ => ?_); (focus kernel_rfl); (focus kernel_rfl))); first | (simp (maxSteps := 1000000) (disch := refine hold_ ?_; first | (simp [h, h', h2, -List.getD_eq_getElem?_getD]; done) | omega) [h, h', h2, -List.getD_eq_getElem?_getD]; try first | (with_reducible refine zZ ?_) | subst hK_) | subst hK_) | (with_reducible first | refine zA ?_ | refine zB ?_ | refine zC ?_ | refine zD ?_ | refine zE ?_ | refine zF ?_ | refine zG ?_ | refine zH ?_ | refine zI ?_ | refine zJ ?_ | refine zK ?_ | refine zL ?_ | refine zM ?_ | refine zN ?_ | refine zO ?_) | ((with_reducible refine yG ?_ ?_); (focus decide)) | ((with_reducible refine yA ?_); refine yB rfl ?_; (with_reducible first | refine yC ?_ | refine yD ?_)))
      all_goals (try simp (maxSteps := 1000000) (disch := refine hold_ ?_; first | (simp [h, h2, -List.getD_eq_getElem?_getD]; done) | omega) [h, h2, -List.getD_eq_getElem?_getD])
    · refine Fn.of_body Tryd.func36 rfl ?_
      repeat (first | ((with_reducible first | refine callK_at 17 ?_); refine callK_p ?_; simp (maxSteps := 1000000) (disch := refine hold_ ?_; first | (simp [h, h', h2, -List.getD_eq_getElem?_getD]; done) | omega) [h, h', h2, -List.getD_eq_getElem?_getD]; (first | refine callK1_of (Fn.ct k Tryd.call17) ?_); (try simp (maxSteps := 1000000) (disch := refine hold_ ?_; first | (simp [h, h', h2, -List.getD_eq_getElem?_getD]; done) | omega) [h, h', h2, -List.getD_eq_getElem?_getD]); try first | (with_reducible refine zZ ?_) | subst hK_) | ((first | (with_reducible first | refine zP fun K_ hK_ => ?_ | refine zQ fun K_ hK_ => ?_ | refine zT ?_ | refine zU ?_ | refine zV ?_ | refine zW ?_ | refine zX ?_ | refine zY ?_) | ((with_reducible first | refine zR ?_ ?_ fun K_ hK_ => ?_ | refine zS ?_ ?_ fun K_ hK_ => ?_); (focus kernel_rfl); (focus kernel_rfl))); first | (simp (maxSteps := 1000000) (disch := refine hold_ ?_; first | (simp [h, h', h2, -List.getD_eq_getElem?_getD]; done) | omega) [h, h', h2, -List.getD_eq_getElem?_getD]; try first | (with_reducible refine zZ ?_) | subst hK_) | subst hK_) | (with_reducible first | refine zA ?_ | refine zB ?_ | refine zC ?_ | refine zD ?_ | refine zE ?_ | refine zF ?_ | refine zG ?_ | refine zH ?_ | refine zI ?_ | refine zJ ?_ | refine zK ?_ | refine zL ?_ | refine zM ?_ | refine zN ?_ | refine zO ?_) | ((with_reducible refine yG ?_ ?_); (focus decide)) | ((with_reducible refine yA ?_); refine yB rfl ?_; (with_reducible first | refine yC ?_ | refine yD ?_)))
      all_goals (try simp (maxSteps := 1000000) (disch := refine hold_ ?_; first | (simp [h, h2, -List.getD_eq_getElem?_getD]; done) | omega) [h, h2, -List.getD_eq_getElem?_getD])
  · have h' : n < 0 := by omega
    refine Fn.of_body Tryd.func36 rfl ?_
    repeat (first | ((with_reducible first | refine callK_at 17 ?_); refine callK_p ?_; simp (maxSteps := 1000000) (disch := refine hold_ ?_; first | (simp [h, h', -List.getD_eq_getElem?_getD]; done) | omega) [h, h', -List.getD_eq_getElem?_getD]; (first | refine callK1_of (Fn.ct k Tryd.call17) ?_); (try simp (maxSteps := 1000000) (disch := refine hold_ ?_; first | (simp [h, h', -List.getD_eq_getElem?_getD]; done) | omega) [h, h', -List.getD_eq_getElem?_getD]); try first | (with_reducible refine zZ ?_) | subst hK_) | ((first | (with_reducible first | refine zP fun K_ hK_ => ?_ | refine zQ fun K_ hK_ => ?_ | refine zT ?_ | refine zU ?_ | refine zV ?_ | refine zW ?_ | refine zX ?_ | refine zY ?_) | ((with_reducible first | refine zR ?_ ?_ fun K_ hK_ => ?_ | refine zS ?_ ?_ fun K_ hK_ => ?_); (focus kernel_rfl); (focus kernel_rfl))); first | (simp (maxSteps := 1000000) (disch := refine hold_ ?_; first | (simp [h, h', -List.getD_eq_getElem?_getD]; done) | omega) [h, h', -List.getD_eq_getElem?_getD]; try first | (with_reducible refine zZ ?_) | subst hK_) | subst hK_) | (with_reducible first | refine zA ?_ | refine zB ?_ | refine zC ?_ | refine zD ?_ | refine zE ?_ | refine zF ?_ | refine zG ?_ | refine zH ?_ | refine zI ?_ | refine zJ ?_ | refine zK ?_ | refine zL ?_ | refine zM ?_ | refine zN ?_ | refine zO ?_) | ((with_reducible refine yG ?_ ?_); (focus decide)) | ((with_reducible refine yA ?_); refine yB rfl ?_; (with_reducible first | refine yC ?_ | refine yD ?_)))
    all_goals (try simp (maxSteps := 1000000) (disch := refine hold_ ?_; first | (simp [h, -List.getD_eq_getElem?_getD]; done) | omega) [h, -List.getD_eq_getElem?_getD])
theorem end_ct (l : List Nd) (e : List Int) (top : Int) (n : Nat) (h : n < l.length) (he : e.length = l.length) : Fn Tryd.prog 22 [docP l e top, .int .i64 n] [.p (.int .i64 (e.getD n 0))] := by
  have k := has_ct l e top n
  have hb : hasB l n = true := by unfold hasB; simp [h]
  have h1 : n < e.length := by omega
  rw [hb] at k
  refine Fn.of_body Tryd.func22 rfl ?_
  unfold docP at *
  repeat (first | ((with_reducible first | refine callK_at 36 ?_); refine callK_p ?_; simp (maxSteps := 1000000) (disch := refine hold_ ?_; first | (simp [h1, -List.getD_eq_getElem?_getD]; done) | omega) [h1, -List.getD_eq_getElem?_getD]; (first | refine callK1_of (Fn.ct k Tryd.call36) ?_); (try simp (maxSteps := 1000000) (disch := refine hold_ ?_; first | (simp [h1, -List.getD_eq_getElem?_getD]; done) | omega) [h1, -List.getD_eq_getElem?_getD]); try first | (with_reducible refine zZ ?_) | subst hK_) | ((first | (with_reducible first | refine zP fun K_ hK_ => ?_ | refine zQ fun K_ hK_ => ?_ | refine zT ?_ | refine zU ?_ | refine zV ?_ | refine zW ?_ | refine zX ?_ | refine zY ?_) | ((with_reducible first | refine zR ?_ ?_ fun K_ hK_ => ?_ | refine zS ?_ ?_ fun K_ hK_ => ?_); (focus kernel_rfl); (focus kernel_rfl))); first | (simp (maxSteps := 1000000) (disch := refine hold_ ?_; first | (simp [h1, -List.getD_eq_getElem?_getD]; done) | omega) [h1, -List.getD_eq_getElem?_getD]; try first | (with_reducible refine zZ ?_) | subst hK_) | subst hK_) | (with_reducible first | refine zA ?_ | refine zB ?_ | refine zC ?_ | refine zD ?_ | refine zE ?_ | refine zF ?_ | refine zG ?_ | refine zH ?_ | refine zI ?_ | refine zJ ?_ | refine zK ?_ | refine zL ?_ | refine zM ?_ | refine zN ?_ | refine zO ?_) | ((with_reducible refine yG ?_ ?_); (focus decide)) | ((with_reducible refine yA ?_); refine yB rfl ?_; (with_reducible first | refine yC ?_ | refine yD ?_)))
  all_goals simp (maxSteps := 1000000) (disch := refine hold_ ?_; first | (simp [-List.getD_eq_getElem?_getD]; done) | omega) [-List.getD_eq_getElem?_getD]
theorem under_ct (x : Nd) : Fn Tryd.prog 40 [ndP x] [.p (.bool (!(x.a == 0) || !(x.k == 2)))] := by
  generalize hb1 : (x.a == 0) = b1
  generalize hb2 : (x.k == 2) = b2
  have e1 : (x.a != 0) = !b1 := by rw [← hb1]; rfl
  have e2 : (x.k != 2) = !b2 := by rw [← hb2]; rfl
  refine Fn.of_body Tryd.func40 rfl ?_
  unfold ndP
  cases b1 <;> cases b2
  all_goals
    repeat (first | ((first | (with_reducible first | refine zP fun K_ hK_ => ?_ | refine zQ fun K_ hK_ => ?_ | refine zT ?_ | refine zU ?_ | refine zV ?_ | refine zW ?_ | refine zX ?_ | refine zY ?_) | ((with_reducible first | refine zR ?_ ?_ fun K_ hK_ => ?_ | refine zS ?_ ?_ fun K_ hK_ => ?_); (focus kernel_rfl); (focus kernel_rfl))); first | (simp (maxSteps := 1000000) (disch := refine hold_ ?_; first | (simp [e1, e2, hb1, hb2, -List.getD_eq_getElem?_getD]; done) | omega) [e1, e2, hb1, hb2, -List.getD_eq_getElem?_getD]; try first | (with_reducible refine zZ ?_) | subst hK_) | subst hK_) | (with_reducible first | refine zA ?_ | refine zB ?_ | refine zC ?_ | refine zD ?_ | refine zE ?_ | refine zF ?_ | refine zG ?_ | refine zH ?_ | refine zI ?_ | refine zJ ?_ | refine zK ?_ | refine zL ?_ | refine zM ?_ | refine zN ?_ | refine zO ?_) | ((with_reducible refine yG ?_ ?_); (focus decide)) | ((with_reducible refine yA ?_); refine yB rfl ?_; (with_reducible first | refine yC ?_ | refine yD ?_)))
    try simp (maxSteps := 1000000) (disch := refine hold_ ?_; first | (simp [e1, e2, -List.getD_eq_getElem?_getD]; done) | omega) [e1, e2, -List.getD_eq_getElem?_getD]
end Go.Av.Doc
end
section
set_option linter.unusedSimpArgs false
set_option linter.unusedVariables false
set_option linter.unusedSectionVars false
open Go Go.Av Go.Proofs
namespace Go.Av.Doc
variable [ML]
theorem app_dc (l : List Dc) : appRow (.vals 2 []) (dcR l) = some (dcR l) := by
  unfold dcR; rw [app_vals]; rfl
theorem app_at (l : List At) : appRow (.vals 4 []) (atR l) = some (atR l) := by
  unfold atR; rw [app_vals]; rfl
theorem cloneD_ct (l : List Dc) (nl : Bool) (h : nl = true → l = []) (hl : l.length ≤ 4000000) : ∃ n, Fn Tryd.prog 41 [.sl (dcR l) nl] [.p (.sl (dcR l) nl)] n := by
  have ha := app_dc l
  cases nl with
  | true =>
    obtain rfl := h rfl
    refine ⟨0, FnG.nilRes (r0 := .vals 1 []) ?_ _ rfl⟩
    refine Fn.of_body Tryd.func41 rfl ?_
    repeat (first | ((first | (with_reducible first | refine zP fun K_ hK_ => ?_ | refine zQ fun K_ hK_ => ?_ | refine zT ?_ | refine zU ?_ | refine zV ?_ | refine zW ?_ | refine zX ?_ | refine zY ?_) | ((with_reducible first | refine zR ?_ ?_ fun K_ hK_ => ?_ | refine zS ?_ ?_ fun K_ hK_ => ?_); (focus kernel_rfl); (focus kernel_rfl))); first | (simp (maxSteps := 1000000) (disch := refine hold_ ?_; first | (simp [-List.getD_eq_getElem?_getD]; done) | omega) [-List.getD_eq_getElem?_getD]; try first | (with_reducible refine zZ ?_) | subst hK_) | subst hK_) | (with_reducible first | refine zA ?_ | refine zB ?_ | refine zC ?_ | refine zD ?_ | refine zE ?_ | refine zF ?_ | refine zG ?_ | refine zH ?_ | refine zI ?_ | refine zJ ?_ | refine zK ?_ | refine zL ?_ | refine zM ?_ | refine zN ?_ | refine zO ?_) | ((with_reducible refine yG ?_ ?_); (focus decide)) | ((with_reducible refine yA ?_); refine yB rfl ?_; (with_reducible first | refine yC ?_ | refine yD ?_)))
    all_goals simp (maxSteps := 1000000) (disch := refine hold_ ?_; first | (simp [-List.getD_eq_getElem?_getD]; done) | omega) [-List.getD_eq_getElem?_getD]
  | false =>
    refine ⟨1, FnG.rowRes (t := 0) (v := 0) ?_⟩
    refine Fn.of_body Tryd.func41 rfl ?_
    repeat (first | ((first | (with_reducible first | refine zP fun K_ hK_ => ?_ | refine zQ fun K_ hK_ => ?_ | refine zT ?_ | refine zU ?_ | refine zV ?_ | refine zW ?_ | refine zX ?_ | refine zY ?_) | ((with_reducible first | refine zR ?_ ?_ fun K_ hK_ => ?_ | refine zS ?_ ?_ fun K_ hK_ => ?_); (focus kernel_rfl); (focus kernel_rfl))); first | (simp (maxSteps := 1000000) (disch := refine hold_ ?_; first | (simp [ha, hl, -List.getD_eq_getElem?_getD]; done) | omega) [ha, hl, -List.getD_eq_getElem?_getD]; try first | (with_reducible refine zZ ?_) | subst hK_) | subst hK_) | (with_reducible first | refine zA ?_ | refine zB ?_ | refine zC ?_ | refine zD ?_ | refine zE ?_ | refine zF ?_ | refine zG ?_ | refine zH ?_ | refine zI ?_ | refine zJ ?_ | refine zK ?_ | refine zL ?_ | refine zM ?_ | refine zN ?_ | refine zO ?_) | ((with_reducible refine yG ?_ ?_); (focus decide)) | ((with_reducible refine yA ?_); refine yB rfl ?_; (with_reducible first | refine yC ?_ | refine yD ?_)))
    all_goals simp (maxSteps := 1000000) (disch := refine hold_ ?_; first | (simp [-List.getD_eq_getElem?_getD]; done) | omega) [-List.getD_eq_getElem?_getD]
theorem cloneM_ct (l : List At) (nl : Bool) (h : nl = true → l = []) (hl : l.length ≤ 4000000) : ∃ n, Fn Tryd.prog 42 [.sl (atR l) nl] [.p (.sl (atR l) nl)] n := by
  have ha := app_at l
  cases nl with
  | true =>
    obtain rfl := h rfl
    refine ⟨0, FnG.nilRes (r0 := .vals 1 []) ?_ _ rfl⟩
    refine Fn.of_body Tryd.func42 rfl ?_
    repeat (first | ((first | (with_reducible first | refine zP fun K_ hK_ => ?_ | refine zQ fun K_ hK_ => ?_ | refine zT ?_ | refine zU ?_ | refine zV ?_ | refine zW ?_ | refine zX ?_ | refine zY ?_) | ((with_reducible first | refine zR ?_ ?_ fun K_ hK_ => ?_ | refine zS ?_ ?_ fun K_ hK_ => ?_); (focus kernel_rfl); (focus kernel_rfl))); first | (simp (maxSteps := 1000000) (disch := refine hold_ ?_; first | (simp [-List.getD_eq_getElem?_getD]; done) | omega) [-List.getD_eq_getElem?_getD]; try first | (with_reducible refine zZ ?_) | subst hK_) | subst hK_) | (with_reducible first | refine zA ?_ | refine zB ?_ | refine zC ?_ | refine zD ?_ | refine zE ?_ | refine zF ?_ | refine zG ?_ | refine zH ?_ | refine zI ?_ | refine zJ ?_ | refine zK ?_ | refine zL ?_ | refine zM ?_ | refine zN ?_ | refine zO ?_) | ((with_reducible refine yG ?_ ?_); (focus decide)) | ((with_reducible refine yA ?_); refine yB rfl ?_; (with_reducible first | refine yC ?_ | refine yD ?_)))
    all_goals simp (maxSteps := 1000000) (disch := refine hold_ ?_; first | (simp [-List.getD_eq_getElem?_getD]; done) | omega) [-List.getD_eq_getElem?_getD]
  | false =>
    refine ⟨1, FnG.rowRes (t := 0) (v := 0) ?_⟩
    refine Fn.of_body Tryd.func42 rfl ?_
    repeat (first | ((first | (with_reducible first | refine zP fun K_ hK_ => ?_ | refine zQ fun K_ hK_ => ?_ | refine zT ?_ | refine zU ?_ | refine zV ?_ | refine zW ?_ | refine zX ?_ | refine zY ?_) | ((with_reducible first | refine zR ?_ ?_ fun K_ hK_ => ?_ | refine zS ?_ ?_ fun K_ hK_ => ?_); (focus kernel_rfl); (focus kernel_rfl))); first | (simp (maxSteps := 1000000) (disch := refine hold_ ?_; first | (simp [ha, hl, -List.getD_eq_getElem?_getD]; done) | omega) [ha, hl, -List.getD_eq_getElem?_getD]; try first | (with_reducible refine zZ ?_) | subst hK_) | subst hK_) | (with_reducible first | refine zA ?_ | refine zB ?_ | refine zC ?_ | refine zD ?_ | refine zE ?_ | refine zF ?_ | refine zG ?_ | refine zH ?_ | refine zI ?_ | refine zJ ?_ | refine zK ?_ | refine zL ?_ | refine zM ?_ | refine zN ?_ | refine zO ?_) | ((with_reducible refine yG ?_ ?_); (focus decide)) | ((with_reducible refine yA ?_); refine yB rfl ?_; (with_reducible first | refine yC ?_ | refine yD ?_)))
    all_goals simp (maxSteps := 1000000) (disch := refine hold_ ?_; first | (simp [-List.getD_eq_getElem?_getD]; done) | omega) [-List.getD_eq_getElem?_getD]
structure okD (d : Dc) : Prop where
  p : d.p.length ≤ 4000000
  u : d.u.length ≤ 4000000
structure okA (a : At) : Prop where
  p : a.p.length ≤ 4000000
  l : a.l.length ≤ 4000000
  u : a.u.length ≤ 4000000
  v : a.v.length ≤ 4000000
structure okN (x : Nd) : Prop where
  d : x.dn = true → x.ds = []
  m : x.mn = true → x.ms = []
  dl : x.ds.length ≤ 4000000
  ml : x.ms.length ≤ 4000000
  p : x.p.length ≤ 4000000
  l : x.l.length ≤ 4000000
  u : x.u.length ≤ 4000000
  t : x.t.length ≤ 4000000
  ds : ∀ d ∈ x.ds, okD d
  ms : ∀ a ∈ x.ms, okA a
theorem clone_ct (x : Nd) (h : okN x) : Fn Tryd.prog 31 [ndP x] [.p (ndP x)] := by
  obtain ⟨n1, k1⟩ := cloneD_ct x.ds x.dn h.d h.dl
  obtain ⟨n2, k2⟩ := cloneM_ct x.ms x.mn h.m h.ml
  unfold ndP
  refine Fn.of_body Tryd.func31 rfl ?_
  repeat (first | ((with_reducible first | refine callK_at 41 ?_ | refine callK_at 42 ?_); refine callK_p ?_; simp (maxSteps := 1000000) (disch := refine hold_ ?_; first | (simp [-List.getD_eq_getElem?_getD]; done) | omega) [-List.getD_eq_getElem?_getD]; (first | ((with_reducible refine k1_at 41 ?_); refine callK1_of (Fn.ct k1 Tryd.call41) ?_) | ((with_reducible refine k1_at 42 ?_); refine callK1_of (Fn.ct k2 Tryd.call42) ?_)); (try simp (maxSteps := 1000000) (disch := refine hold_ ?_; first | (simp [-List.getD_eq_getElem?_getD]; done) | omega) [-List.getD_eq_getElem?_getD]); try first | (with_reducible refine zZ ?_) | subst hK_) | ((first | (with_reducible first | refine zP fun K_ hK_ => ?_ | refine zQ fun K_ hK_ => ?_ | refine zT ?_ | refine zU ?_ | refine zV ?_ | refine zW ?_ | refine zX ?_ | refine zY ?_) | ((with_reducible first | refine zR ?_ ?_ fun K_ hK_ => ?_ | refine zS ?_ ?_ fun K_ hK_ => ?_); (focus kernel_rfl); (focus kernel_rfl))); first | (simp (maxSteps := 1000000) (disch := refine hold_ ?_; first | (simp [-List.getD_eq_getElem?_getD]; done) | omega) [-List.getD_eq_getElem?_getD]; try first | (with_reducible refine zZ ?_) | subst hK_) | subst hK_) | (with_reducible first | refine zA ?_ | refine zB ?_ | refine zC ?_ | refine zD ?_ | refine zE ?_ | refine zF ?_ | refine zG ?_ | refine zH ?_ | refine zI ?_ | refine zJ ?_ | refine zK ?_ | refine zL ?_ | refine zM ?_ | refine zN ?_ | refine zO ?_) | ((with_reducible refine yG ?_ ?_); (focus decide)) | ((with_reducible refine yA ?_); refine yB rfl ?_; (with_reducible first | refine yC ?_ | refine yD ?_)))
  all_goals (try simp (maxSteps := 1000000) (disch := refine hold_ ?_; first | (simp [-List.getD_eq_getElem?_getD]; done) | omega) [-List.getD_eq_getElem?_getD])
end Go.Av.Doc
end
section
set_option linter.unusedSimpArgs false
set_option linter.unusedVariables false
set_option linter.unusedSectionVars false
open Go Go.Av Go.Proofs
namespace Go.Av.Doc
variable [ML]
def nd0 : Nd := ⟨0, 0, [], [], [], [], [], true, [], true⟩
end Go.Av.Doc
end
section
set_option linter.unusedSimpArgs false
set_option linter.unusedVariables false
set_option linter.unusedSectionVars false
open Go Go.Av Go.Proofs
namespace Go.Av.Doc
variable [ML]
theorem dcR_elem (l : List Dc) (k : Nat) (h : k < l.length) : (dcR l).elem k = dcP (l.getD k ⟨[], []⟩) := by
  simp [dcR, Row.elem, List.getD_eq_getElem?_getD, h]
theorem atR_elem (l : List At) (k : Nat) (h : k < l.length) : (atR l).elem k = atP (l.getD k ⟨[], [], [], []⟩) := by
  simp [atR, Row.elem, List.getD_eq_getElem?_getD, h]
theorem wrap_succ (k n : Nat) (hk : k ≤ n) (hn : n ≤ 100000000) : IntKind.i64.wrap ((k : Int) + 1) = ((k + 1 : Nat) : Int) := by rw [wrap_i64 _ (by omega) (by omega)]; omega
end Go.Av.Doc
end
section
set_option linter.unusedSimpArgs false
set_option linter.unusedVariables false
set_option linter.unusedSectionVars false
open Go Go.Av Go.Proofs
namespace Go.Av.Doc
variable [ML]
theorem mem_getD {α : Type} (l : List α) (k : Nat) (d : α) (h : k < l.length) : l.getD k d ∈ l := by
  rw [List.getD_eq_getElem?_getD, List.getElem?_eq_getElem h]; exact List.getElem_mem h
def nd (l : List Nd) (n : Nat) : Nd := l.getD n default
def pOk (l : List Nd) (n : Nat) : Prop := (nd l 0).a = -1 ∧ ∀ m, 0 < m → m < n → 0 ≤ (nd l m).a ∧ (nd l m).a < m
theorem nd_elem (l : List Nd) (n : Nat) (h : n < l.length) : (ndR l).elem n = ndP (nd l n) := ndR_elem l n h
def abF (l : List Nd) (a : Int) : Nat → Int → Bool
  | 0, _ => false
  | f + 1, m => if m < 0 then false else if a = m then true else abF l a f (nd l m.toNat).a
def ab (l : List Nd) (a m : Int) : Bool := abF l a (m.toNat + 1) m
theorem pOk.le {l : List Nd} {n m : Nat} (h : pOk l n) (hm : m ≤ n) : pOk l m := ⟨h.1, fun k h1 h2 => h.2 k h1 (by omega)⟩
theorem pOk.lt {l : List Nd} {n : Nat} (h : pOk l n) {m : Nat} (hm : m < n) : -1 ≤ (nd l m).a ∧ (nd l m).a < m ∧ (0 < m → 0 ≤ (nd l m).a) := by
  by_cases h0 : m = 0
  · subst h0; have := h.1; omega
  · have := h.2 m (by omega) hm; omega
theorem abF_more {l : List Nd} {a : Int} {n : Nat} (h : pOk l n) : ∀ (f g : Nat) (m : Int), m < n → m < f → m < g → 0 < f → 0 < g → abF l a f m = abF l a g m
  | 0, _, _, _, _, _, h1, _ => absurd h1 (Nat.lt_irrefl _)
  | _, 0, _, _, _, _, _, h1 => absurd h1 (Nat.lt_irrefl _)
  | f + 1, g + 1, m, hn, hf, hg, _, _ => by
    unfold abF
    split
    · rfl
    · split
      · rfl
      · have hm : m.toNat < n := by omega
        obtain ⟨q1, q2, q3⟩ := h.lt hm
        by_cases h0 : m.toNat = 0
        · have := h.1
          rw [h0, this]
          cases f with
          | zero => cases g with
            | zero => rfl
            | succ g => simp [abF]
          | succ f => cases g with
            | zero => simp [abF]
            | succ g => simp [abF]
        · exact abF_more h f g _ (by omega) (by omega) (by omega) (by omega) (by omega)
theorem ab_neg (l : List Nd) (a m : Int) (h : m < 0) : ab l a m = false := by unfold ab abF; rw [if_pos h]
theorem ab_self (l : List Nd) (m : Int) (h : 0 ≤ m) : ab l m m = true := by unfold ab abF; rw [if_neg (by omega), if_pos rfl]
theorem ab_up {l : List Nd} {a m : Int} {n : Nat} (h : pOk l n) (h0 : 0 ≤ m) (hm : m < n) (ha : a ≠ m) : ab l a m = ab l a (nd l m.toNat).a := by
  have hm' : m.toNat < n := by omega
  obtain ⟨q1, q2, q3⟩ := h.lt hm'
  show abF l a (m.toNat + 1) m = abF l a ((nd l m.toNat).a.toNat + 1) (nd l m.toNat).a
  rw [abF, if_neg (by omega), if_neg ha]
  by_cases hz : m.toNat = 0
  · have := h.1
    rw [hz, this]; simp [abF]
  · exact abF_more h _ _ _ (by omega) (by omega) (by omega) (by omega) (by omega)
theorem above_ct (l : List Nd) (nl : Bool) (a : Int) (m : Int) (n : Nat) (h : pOk l n) (hn : n ≤ l.length) (hm : m < n) (h1 : -1 ≤ m) :
    Fn Tryd.prog 34 [.sl (ndR l) nl, .int .i64 a, .int .i64 m] [.p (.bool (ab l a m))] := by
  refine Fn.of_body Tryd.func34 rfl ?_
  repeat (first | ((first | (with_reducible first | refine zP fun K_ hK_ => ?_ | refine zQ fun K_ hK_ => ?_ | refine zT ?_ | refine zU ?_ | refine zV ?_ | refine zW ?_ | refine zX ?_ | refine zY ?_) | ((with_reducible first | refine zR ?_ ?_ fun K_ hK_ => ?_ | refine zS ?_ ?_ fun K_ hK_ => ?_); (focus kernel_rfl); (focus kernel_rfl))); first | (simp (maxSteps := 1000000) (disch := refine hold_ ?_; first | (simp [-List.getD_eq_getElem?_getD]; done) | omega) [-List.getD_eq_getElem?_getD]; try first | (with_reducible refine zZ ?_) | subst hK_) | subst hK_) | (with_reducible first | refine zA ?_ | refine zB ?_ | refine zC ?_ | refine zD ?_ | refine zE ?_ | refine zF ?_ | refine zG ?_ | refine zH ?_ | refine zI ?_ | refine zJ ?_ | refine zK ?_ | refine zL ?_ | refine zM ?_ | refine zN ?_ | refine zO ?_) | ((with_reducible refine yG ?_ ?_); (focus decide)) | ((with_reducible refine yA ?_); refine yB rfl ?_; (with_reducible first | refine yC ?_ | refine yD ?_)))
  refine AW.iterI (τ := ⟨(.p (.sl (ndR l) nl) :: .p (.int .i64 a) :: .p (.int .i64 m) :: V.junk :: V.junk :: V.junk :: V.junk :: V.junk :: V.junk :: V.junk :: V.junk :: V.junk :: V.junk :: V.junk :: V.junk :: V.junk :: V.junk :: []), ⟨[], []⟩⟩) (true :: true :: true :: false :: false :: false :: false :: false :: false :: false :: false :: false :: false :: false :: false :: false :: false :: []) (m + 1).toNat (fun k σ => ∃ c : Int, -1 ≤ c ∧ c < n ∧ (c + 1).toNat = k ∧ ab l a c = ab l a m ∧ σ = ⟨(.p (.sl (ndR l) nl) :: .p (.int .i64 a) :: .p (.int .i64 c) :: V.junk :: V.junk :: V.junk :: V.junk :: V.junk :: V.junk :: V.junk :: V.junk :: V.junk :: V.junk :: V.junk :: V.junk :: V.junk :: V.junk :: []), ⟨[], []⟩⟩) ?_ ⟨m, h1, hm, rfl, rfl, rfl⟩ ?_
  · simp (maxSteps := 1000000) (disch := refine hold_ ?_; first | (simp [-List.getD_eq_getElem?_getD]; done) | omega) [-List.getD_eq_getElem?_getD]
  rintro k σ ⟨c, hc1, hc2, rfl, hab, rfl⟩
  by_cases hc : 0 ≤ c
  · obtain ⟨q, rfl⟩ : ∃ q : Nat, c = q := ⟨c.toNat, by omega⟩
    have hq : q < l.length := by omega
    have he := nd_elem l q hq
    have hlt := h.lt (show q < n by omega)
    unfold ndP at he
    by_cases ha : a = q
    · subst ha
      rw [ab_self l _ hc] at hab
      rw [← hab]
      repeat (first | ((first | (with_reducible first | refine zP fun K_ hK_ => ?_ | refine zQ fun K_ hK_ => ?_ | refine zT ?_ | refine zU ?_ | refine zV ?_ | refine zW ?_ | refine zX ?_ | refine zY ?_) | ((with_reducible first | refine zR ?_ ?_ fun K_ hK_ => ?_ | refine zS ?_ ?_ fun K_ hK_ => ?_); (focus kernel_rfl); (focus kernel_rfl))); first | (simp (maxSteps := 1000000) (disch := refine hold_ ?_; first | (simp [hc, he, hq, -List.getD_eq_getElem?_getD]; done) | omega) [hc, he, hq, -List.getD_eq_getElem?_getD]; try first | (with_reducible refine zZ ?_) | subst hK_) | subst hK_) | (with_reducible first | refine zA ?_ | refine zB ?_ | refine zC ?_ | refine zD ?_ | refine zE ?_ | refine zF ?_ | refine zG ?_ | refine zH ?_ | refine zI ?_ | refine zJ ?_ | refine zK ?_ | refine zL ?_ | refine zM ?_ | refine zN ?_ | refine zO ?_) | ((with_reducible refine yG ?_ ?_); (focus decide)) | ((with_reducible refine yA ?_); refine yB rfl ?_; (with_reducible first | refine yC ?_ | refine yD ?_)))
      all_goals (try simp (maxSteps := 1000000) (disch := refine hold_ ?_; first | (simp [-List.getD_eq_getElem?_getD]; done) | omega) [-List.getD_eq_getElem?_getD])
    · have hu := ab_up h hc hc2 ha
      rw [Int.toNat_natCast] at hu
      generalize nd l q = x at *
      have hb : (a == (q : Int)) = false := beq_eq_false_iff_ne.2 ha
      repeat (first | ((first | (with_reducible first | refine zP fun K_ hK_ => ?_ | refine zQ fun K_ hK_ => ?_ | refine zT ?_ | refine zU ?_ | refine zV ?_ | refine zW ?_ | refine zX ?_ | refine zY ?_) | ((with_reducible first | refine zR ?_ ?_ fun K_ hK_ => ?_ | refine zS ?_ ?_ fun K_ hK_ => ?_); (focus kernel_rfl); (focus kernel_rfl))); first | (simp (maxSteps := 1000000) (disch := refine hold_ ?_; first | (simp [hc, he, hq, hb, ha, -List.getD_eq_getElem?_getD]; done) | omega) [hc, he, hq, hb, ha, -List.getD_eq_getElem?_getD]; try first | (with_reducible refine zZ ?_) | subst hK_) | subst hK_) | (with_reducible first | refine zA ?_ | refine zB ?_ | refine zC ?_ | refine zD ?_ | refine zE ?_ | refine zF ?_ | refine zG ?_ | refine zH ?_ | refine zI ?_ | refine zJ ?_ | refine zK ?_ | refine zL ?_ | refine zM ?_ | refine zN ?_ | refine zO ?_) | ((with_reducible refine yG ?_ ?_); (focus decide)) | ((with_reducible refine yA ?_); refine yB rfl ?_; (with_reducible first | refine yC ?_ | refine yD ?_)))
      refine ⟨(x.a + 1).toNat, ⟨(.p (.sl (ndR l) nl) :: .p (.int .i64 a) :: .p (.int .i64 x.a) :: V.junk :: V.junk :: V.junk :: V.junk :: V.junk :: V.junk :: V.junk :: V.junk :: V.junk :: V.junk :: V.junk :: V.junk :: V.junk :: V.junk :: []), ⟨[], []⟩⟩, by omega, ?_, x.a, by omega, by omega, rfl, by rw [← hab, hu], rfl⟩
      simp (maxSteps := 1000000) (disch := refine hold_ ?_; first | (simp [-List.getD_eq_getElem?_getD]; done) | omega) [-List.getD_eq_getElem?_getD]
  · rw [ab_neg l a c (by omega)] at hab
    rw [← hab]
    repeat (first | ((first | (with_reducible first | refine zP fun K_ hK_ => ?_ | refine zQ fun K_ hK_ => ?_ | refine zT ?_ | refine zU ?_ | refine zV ?_ | refine zW ?_ | refine zX ?_ | refine zY ?_) | ((with_reducible first | refine zR ?_ ?_ fun K_ hK_ => ?_ | refine zS ?_ ?_ fun K_ hK_ => ?_); (focus kernel_rfl); (focus kernel_rfl))); first | (simp (maxSteps := 1000000) (disch := refine hold_ ?_; first | (simp [hc, -List.getD_eq_getElem?_getD]; done) | omega) [hc, -List.getD_eq_getElem?_getD]; try first | (with_reducible refine zZ ?_) | subst hK_) | subst hK_) | (with_reducible first | refine zA ?_ | refine zB ?_ | refine zC ?_ | refine zD ?_ | refine zE ?_ | refine zF ?_ | refine zG ?_ | refine zH ?_ | refine zI ?_ | refine zJ ?_ | refine zK ?_ | refine zL ?_ | refine zM ?_ | refine zN ?_ | refine zO ?_) | ((with_reducible refine yG ?_ ?_); (focus decide)) | ((with_reducible refine yA ?_); refine yB rfl ?_; (with_reducible first | refine yC ?_ | refine yD ?_)))
    all_goals (try simp (maxSteps := 1000000) (disch := refine hold_ ?_; first | (simp [-List.getD_eq_getElem?_getD]; done) | omega) [-List.getD_eq_getElem?_getD])
end Go.Av.Doc
end
section
set_option linter.unusedSimpArgs false
set_option linter.unusedVariables false
set_option linter.unusedSectionVars false
open Go Go.Av Go.Proofs
namespace Go.Av.Doc
variable [ML]
def standB (l : List Nd) (n : Nat) : Bool := ab l (nd l n).a ((n : Int) - 1) && ((nd l (nd l n).a.toNat).k == 0 || (nd l (nd l n).a.toNat).k == 1)
theorem stand_ct (l : List Nd) (nl : Bool) (n : Nat) (h : pOk l n) (hn : n < l.length) (h0 : 0 < n) (hl : l.length ≤ 4000000) :
    Fn Tryd.prog 38 [.sl (ndR l) nl, .int .i64 n] [.p (.bool (standB l n))] := by
  have hen := nd_elem l n hn
  have hnz : (n : Int) < l.length := by omega
  have w1 : IntKind.i64.wrap ((n : Int) - 1) = (n : Int) - 1 := wrap_i64 _ (by omega) (by omega)
  unfold standB
  generalize hP : (nd l n).a = P at *
  have hen' : ndP (nd l n) = .agg (.vals 1 [.int .i64 (nd l n).k, .int .i64 P, .str (txt (nd l n).p), .str (txt (nd l n).l), .str (txt (nd l n).u), .str (txt (nd l n).t), .sl (dcR (nd l n).ds) (nd l n).dn, .sl (atR (nd l n).ms) (nd l n).mn]) := by rw [← hP]; rfl
  rw [hen'] at hen
  clear hen' hP
  refine Fn.of_body Tryd.func38 rfl ?_
  repeat (first | ((first | (with_reducible first | refine zP fun K_ hK_ => ?_ | refine zQ fun K_ hK_ => ?_ | refine zT ?_ | refine zU ?_ | refine zV ?_ | refine zW ?_ | refine zX ?_ | refine zY ?_) | ((with_reducible first | refine zR ?_ ?_ fun K_ hK_ => ?_ | refine zS ?_ ?_ fun K_ hK_ => ?_); (focus kernel_rfl); (focus kernel_rfl))); first | (simp (maxSteps := 1000000) (disch := refine hold_ ?_; first | (simp [w1, -List.getD_eq_getElem?_getD]; done) | omega) [w1, -List.getD_eq_getElem?_getD]; try first | (with_reducible refine zZ ?_) | subst hK_) | subst hK_) | (with_reducible first | refine zA ?_ | refine zB ?_ | refine zC ?_ | refine zD ?_ | refine zE ?_ | refine zF ?_ | refine zG ?_ | refine zH ?_ | refine zI ?_ | refine zJ ?_ | refine zK ?_ | refine zL ?_ | refine zM ?_ | refine zN ?_ | refine zO ?_) | ((with_reducible refine yG ?_ ?_); (focus decide)) | ((with_reducible refine yA ?_); refine yB rfl ?_; (with_reducible first | refine yC ?_ | refine yD ?_)))
  refine AW.iterI (τ := ⟨(.p (.sl (ndR l) nl) :: .p (.int .i64 n) :: V.junk :: V.junk :: V.junk :: .p (.int .i64 ((n : Int) - 1)) :: V.junk :: V.junk :: V.junk :: V.junk :: V.junk :: V.junk :: V.junk :: V.junk :: V.junk :: V.junk :: V.junk :: V.junk :: V.junk :: V.junk :: V.junk :: V.junk :: V.junk :: V.junk :: V.junk :: V.junk :: V.junk :: V.junk :: V.junk :: V.junk :: V.junk :: V.junk :: V.junk :: V.junk :: V.junk :: V.junk :: []), ⟨[], []⟩⟩) (true :: true :: false :: false :: false :: true :: false :: false :: false :: false :: false :: false :: false :: false :: false :: false :: false :: false :: false :: false :: false :: false :: false :: false :: false :: false :: false :: false :: false :: false :: false :: false :: false :: false :: false :: false :: []) n (fun k σ => ∃ c : Int, -1 ≤ c ∧ c < n ∧ (c + 1).toNat = k ∧ ab l P c = ab l P ((n : Int) - 1) ∧ σ = ⟨(.p (.sl (ndR l) nl) :: .p (.int .i64 n) :: V.junk :: V.junk :: V.junk :: .p (.int .i64 c) :: V.junk :: V.junk :: V.junk :: V.junk :: V.junk :: V.junk :: V.junk :: V.junk :: V.junk :: V.junk :: V.junk :: V.junk :: V.junk :: V.junk :: V.junk :: V.junk :: V.junk :: V.junk :: V.junk :: V.junk :: V.junk :: V.junk :: V.junk :: V.junk :: V.junk :: V.junk :: V.junk :: V.junk :: V.junk :: V.junk :: []), ⟨[], []⟩⟩) ?_ ⟨(n : Int) - 1, by omega, by omega, by omega, rfl, rfl⟩ ?_
  · simp (maxSteps := 1000000) (disch := refine hold_ ?_; first | (simp [-List.getD_eq_getElem?_getD]; done) | omega) [-List.getD_eq_getElem?_getD]
  rintro k σ ⟨c, hc1, hc2, rfl, hab, rfl⟩
  by_cases hc : 0 ≤ c
  · obtain ⟨q, rfl⟩ : ∃ q : Nat, c = q := ⟨c.toNat, by omega⟩
    have hq : q < l.length := by omega
    have he := nd_elem l q hq
    have hlt := h.lt (show q < n by omega)
    unfold ndP at he
    by_cases ha : P = q
    · subst ha
      rw [ab_self l _ hc] at hab
      rw [← hab, Int.toNat_natCast]
      generalize nd l q = y at *
      generalize hA : (y.k == 0) = A at *
      generalize hB : (y.k == 1) = B at *
      rcases orc A (spl B (trivial)) with rfl | ⟨rfl, ⟨rfl | rfl, _⟩⟩
      all_goals
        repeat (first | ((first | (with_reducible first | refine zP fun K_ hK_ => ?_ | refine zQ fun K_ hK_ => ?_ | refine zT ?_ | refine zU ?_ | refine zV ?_ | refine zW ?_ | refine zX ?_ | refine zY ?_) | ((with_reducible first | refine zR ?_ ?_ fun K_ hK_ => ?_ | refine zS ?_ ?_ fun K_ hK_ => ?_); (focus kernel_rfl); (focus kernel_rfl))); first | (simp (maxSteps := 1000000) (disch := refine hold_ ?_; first | (simp [hc, he, hq, hen, hn, hnz, hA, hB, -List.getD_eq_getElem?_getD]; done) | omega) [hc, he, hq, hen, hn, hnz, hA, hB, -List.getD_eq_getElem?_getD]; try first | (with_reducible refine zZ ?_) | subst hK_) | subst hK_) | (with_reducible first | refine zA ?_ | refine zB ?_ | refine zC ?_ | refine zD ?_ | refine zE ?_ | refine zF ?_ | refine zG ?_ | refine zH ?_ | refine zI ?_ | refine zJ ?_ | refine zK ?_ | refine zL ?_ | refine zM ?_ | refine zN ?_ | refine zO ?_) | ((with_reducible refine yG ?_ ?_); (focus decide)) | ((with_reducible refine yA ?_); refine yB rfl ?_; (with_reducible first | refine yC ?_ | refine yD ?_)))
        try simp (maxSteps := 1000000) (disch := refine hold_ ?_; first | (simp [-List.getD_eq_getElem?_getD]; done) | omega) [-List.getD_eq_getElem?_getD]
    · have hu := ab_up h hc hc2 ha
      rw [Int.toNat_natCast] at hu
      generalize nd l q = x at *
      have hb : ((q : Int) == P) = false := beq_eq_false_iff_ne.2 fun e => ha e.symm
      repeat (first | ((first | (with_reducible first | refine zP fun K_ hK_ => ?_ | refine zQ fun K_ hK_ => ?_ | refine zT ?_ | refine zU ?_ | refine zV ?_ | refine zW ?_ | refine zX ?_ | refine zY ?_) | ((with_reducible first | refine zR ?_ ?_ fun K_ hK_ => ?_ | refine zS ?_ ?_ fun K_ hK_ => ?_); (focus kernel_rfl); (focus kernel_rfl))); first | (simp (maxSteps := 1000000) (disch := refine hold_ ?_; first | (simp [hc, he, hq, hb, hen, hn, hnz, -List.getD_eq_getElem?_getD]; done) | omega) [hc, he, hq, hb, hen, hn, hnz, -List.getD_eq_getElem?_getD]; try first | (with_reducible refine zZ ?_) | subst hK_) | subst hK_) | (with_reducible first | refine zA ?_ | refine zB ?_ | refine zC ?_ | refine zD ?_ | refine zE ?_ | refine zF ?_ | refine zG ?_ | refine zH ?_ | refine zI ?_ | refine zJ ?_ | refine zK ?_ | refine zL ?_ | refine zM ?_ | refine zN ?_ | refine zO ?_) | ((with_reducible refine yG ?_ ?_); (focus decide)) | ((with_reducible refine yA ?_); refine yB rfl ?_; (with_reducible first | refine yC ?_ | refine yD ?_)))
      refine ⟨(x.a + 1).toNat, ⟨(.p (.sl (ndR l) nl) :: .p (.int .i64 n) :: V.junk :: V.junk :: V.junk :: .p (.int .i64 x.a) :: V.junk :: V.junk :: V.junk :: V.junk :: V.junk :: V.junk :: V.junk :: V.junk :: V.junk :: V.junk :: V.junk :: V.junk :: V.junk :: V.junk :: V.junk :: V.junk :: V.junk :: V.junk :: V.junk :: V.junk :: V.junk :: V.junk :: V.junk :: V.junk :: V.junk :: V.junk :: V.junk :: V.junk :: V.junk :: V.junk :: []), ⟨[], []⟩⟩, by omega, ?_, x.a, by omega, by omega, rfl, by rw [← hab, hu], rfl⟩
      simp (maxSteps := 1000000) (disch := refine hold_ ?_; first | (simp [-List.getD_eq_getElem?_getD]; done) | omega) [-List.getD_eq_getElem?_getD]
  · rw [ab_neg l P c (by omega)] at hab
    rw [← hab]
    repeat (first | ((first | (with_reducible first | refine zP fun K_ hK_ => ?_ | refine zQ fun K_ hK_ => ?_ | refine zT ?_ | refine zU ?_ | refine zV ?_ | refine zW ?_ | refine zX ?_ | refine zY ?_) | ((with_reducible first | refine zR ?_ ?_ fun K_ hK_ => ?_ | refine zS ?_ ?_ fun K_ hK_ => ?_); (focus kernel_rfl); (focus kernel_rfl))); first | (simp (maxSteps := 1000000) (disch := refine hold_ ?_; first | (simp [hc, -List.getD_eq_getElem?_getD]; done) | omega) [hc, -List.getD_eq_getElem?_getD]; try first | (with_reducible refine zZ ?_) | subst hK_) | subst hK_) | (with_reducible first | refine zA ?_ | refine zB ?_ | refine zC ?_ | refine zD ?_ | refine zE ?_ | refine zF ?_ | refine zG ?_ | refine zH ?_ | refine zI ?_ | refine zJ ?_ | refine zK ?_ | refine zL ?_ | refine zM ?_ | refine zN ?_ | refine zO ?_) | ((with_reducible refine yG ?_ ?_); (focus decide)) | ((with_reducible refine yA ?_); refine yB rfl ?_; (with_reducible first | refine yC ?_ | refine yD ?_)))
    all_goals (try simp (maxSteps := 1000000) (disch := refine hold_ ?_; first | (simp [-List.getD_eq_getElem?_getD]; done) | omega) [-List.getD_eq_getElem?_getD])
end Go.Av.Doc
end
section
set_option linter.unusedSimpArgs false
set_option linter.unusedVariables false
set_option linter.unusedSectionVars false
open Go Go.Av Go.Proofs
namespace Go.Av.Doc
variable [ML]
theorem mk48 (H : List (Nat × (Nat × HB))) (d n : Nat) (h : n ≤ 4000000) : amakeSlice Tryd.prog H d 48 (.p (.int .i64 n)) (.p (.int .i64 n)) = some (.own d (nextVer H d) 0 n n, upd H d (nextVer H d, .row (.ints .i64 (List.replicate n 0)))) := by
  have e : elemInfo Tryd.prog 48 = some (3, 1, 8, .int .i64 0) := by kernel_rfl
  unfold amakeSlice
  rw [e]
  simp only
  rw [if_pos ⟨trivial, by omega, by omega, by omega, by omega⟩]
  simp
def tabL (f : Nat → Int) (n : Nat) : List Int := (List.range n).map f
@[simp] theorem tabL_len (f : Nat → Int) (n : Nat) : (tabL f n).length = n := by simp [tabL]
theorem tabL_get (f : Nat → Int) (n k : Nat) (h : k < n) : (tabL f n).getD k 0 = f k := by simp [tabL, List.getD_eq_getElem?_getD, h]
theorem tabL_set (f g : Nat → Int) (n k : Nat) (v : Int) (hk : g k = v) (h : ∀ m, m < n → m ≠ k → g m = f m) : (tabL f n).set k v = tabL g n := by
  apply List.ext_getElem
  · simp
  · intro i h1 h2
    have hi : i < n := by simpa using h2
    rw [List.getElem_set]
    by_cases e : k = i
    · subst e; simp [tabL, hk]
    · rw [if_neg e]; simp [tabL, h i hi (fun e' => e e'.symm)]
theorem tabL_ext (f g : Nat → Int) (n : Nat) (h : ∀ m, m < n → f m = g m) : tabL f n = tabL g n := by
  unfold tabL; apply List.map_congr_left; intro m hm; exact h m (by simpa using hm)
theorem tabL_rep (n : Nat) (v : Int) : List.replicate n v = tabL (fun _ => v) n := by
  apply List.ext_getElem <;> simp [tabL]
def depF (l : List Nd) : Nat → Int → Nat
  | 0, _ => 0
  | f + 1, m => if 0 < m then depF l f (nd l m.toNat).a + 1 else 0
def dep (l : List Nd) (m : Int) : Nat := depF l (m.toNat + 1) m
theorem depF_more {l : List Nd} {n : Nat} (h : pOk l n) : ∀ (f g : Nat) (m : Int), m < n → m < f → m < g → 0 < f → 0 < g → depF l f m = depF l g m
  | 0, _, _, _, _, _, h1, _ => absurd h1 (Nat.lt_irrefl _)
  | _, 0, _, _, _, _, _, h1 => absurd h1 (Nat.lt_irrefl _)
  | f + 1, g + 1, m, hn, hf, hg, _, _ => by
    unfold depF
    split
    · have hm : m.toNat < n := by omega
      obtain ⟨q1, q2, q3⟩ := h.lt hm
      rw [depF_more h f g _ (by omega) (by omega) (by omega) (by omega) (by omega)]
    · rfl
theorem dep_zero (l : List Nd) (m : Int) (h : ¬ 0 < m) : dep l m = 0 := by unfold dep depF; rw [if_neg h]
theorem dep_up {l : List Nd} {n m : Nat} (hp : pOk l n) (hm : m < n) (h0 : 0 < m) : dep l m = dep l (nd l m).a + 1 := by
  obtain ⟨q1, q2, q3⟩ := hp.lt hm
  have := q3 h0
  show depF l (Int.toNat m + 1) m = depF l ((nd l m).a.toNat + 1) (nd l m).a + 1
  rw [depF, if_pos (by omega)]
  simp only [Int.toNat_natCast]
  rw [depF_more hp m ((nd l m).a.toNat + 1) (nd l m).a (by omega) (by omega) (by omega) (by omega) (by omega)]
def limB (l : List Nd) (n : Nat) : Bool := decide (dep l n ≤ 64) && decide ((nd l n).ds.length + (nd l n).ms.length ≤ 64)
def withB (l : List Nd) : Bool := decide (l.length ≤ 4000) && allB (limB l) l.length
def depR (l : List Nd) (n : Nat) : List Int := tabL (fun m => if m < n then (dep l m : Int) else 0) l.length
set_option maxHeartbeats 4000000 in
theorem within_ct (l : List Nd) (nl : Bool) (hp : pOk l l.length) (hl : l.length ≤ 4000000) (hok : ∀ x ∈ l, okN x) : Fn Tryd.prog 30 [.sl (ndR l) nl] [.p (.bool (withB l))] := by
  unfold withB
  by_cases h4 : l.length ≤ 4000
  case neg =>
    have hz : (4000 : Int) < l.length := by omega
    rw [decide_eq_false h4]
    refine Fn.of_body Tryd.func30 rfl ?_
    repeat (first | ((first | (with_reducible first | refine zP fun K_ hK_ => ?_ | refine zQ fun K_ hK_ => ?_ | refine zT ?_ | refine zU ?_ | refine zV ?_ | refine zW ?_ | refine zX ?_ | refine zY ?_) | ((with_reducible first | refine zR ?_ ?_ fun K_ hK_ => ?_ | refine zS ?_ ?_ fun K_ hK_ => ?_); (focus kernel_rfl); (focus kernel_rfl))); first | (simp (maxSteps := 1000000) (disch := refine hold_ ?_; first | (simp [hz, -List.getD_eq_getElem?_getD]; done) | omega) [hz, -List.getD_eq_getElem?_getD]; try first | (with_reducible refine zZ ?_) | subst hK_) | subst hK_) | (with_reducible first | refine zA ?_ | refine zB ?_ | refine zC ?_ | refine zD ?_ | refine zE ?_ | refine zF ?_ | refine zG ?_ | refine zH ?_ | refine zI ?_ | refine zJ ?_ | refine zK ?_ | refine zL ?_ | refine zM ?_ | refine zN ?_ | refine zO ?_) | ((with_reducible refine yG ?_ ?_); (focus decide)) | ((with_reducible refine yA ?_); refine yB rfl ?_; (with_reducible first | refine yC ?_ | refine yD ?_)))
    all_goals (try simp (maxSteps := 1000000) (disch := refine hold_ ?_; first | (simp [-List.getD_eq_getElem?_getD]; done) | omega) [-List.getD_eq_getElem?_getD])
  have hz : ¬ (4000 : Int) < l.length := by omega
  rw [decide_eq_true h4, Bool.true_and, allB_upto]
  have hN := upto_le (limB l) l.length
  have hall := upto_all (limB l) l.length
  have hno := upto_no (limB l) l.length
  generalize upto (limB l) l.length = N at *
  refine Fn.of_body Tryd.func30 rfl ?_
  repeat (first | ((first | (with_reducible first | refine zP fun K_ hK_ => ?_ | refine zQ fun K_ hK_ => ?_ | refine zT ?_ | refine zU ?_ | refine zV ?_ | refine zW ?_ | refine zX ?_ | refine zY ?_) | ((with_reducible first | refine zR ?_ ?_ fun K_ hK_ => ?_ | refine zS ?_ ?_ fun K_ hK_ => ?_); (focus kernel_rfl); (focus kernel_rfl))); first | (simp (maxSteps := 1000000) (disch := refine hold_ ?_; first | (simp [hz, mk48, hl, -List.getD_eq_getElem?_getD]; done) | omega) [hz, mk48, hl, -List.getD_eq_getElem?_getD]; try first | (with_reducible refine zZ ?_) | subst hK_) | subst hK_) | (with_reducible first | refine zA ?_ | refine zB ?_ | refine zC ?_ | refine zD ?_ | refine zE ?_ | refine zF ?_ | refine zG ?_ | refine zH ?_ | refine zI ?_ | refine zJ ?_ | refine zK ?_ | refine zL ?_ | refine zM ?_ | refine zN ?_ | refine zO ?_) | ((with_reducible refine yG ?_ ?_); (focus decide)) | ((with_reducible refine yA ?_); refine yB rfl ?_; (with_reducible first | refine yC ?_ | refine yD ?_)))
  refine AW.iter (true :: false :: false :: true :: false :: false :: false :: false :: false :: false :: false :: false :: true :: true :: true :: false :: false :: false :: false :: false :: false :: false :: false :: false :: false :: false :: false :: false :: false :: false :: false :: false :: false :: false :: false :: false :: false :: false :: false :: false :: false :: false :: false :: false :: false :: false :: []) N (fun k => ⟨(.p (.sl (ndR l) nl) :: V.junk :: V.junk :: .own 11 0 0 l.length l.length :: V.junk :: V.junk :: V.junk :: V.junk :: V.junk :: V.junk :: V.junk :: V.junk :: .p (.sl (ndR l) nl) :: .p (.int .i64 l.length) :: .p (.int .i64 k) :: V.junk :: V.junk :: V.junk :: V.junk :: V.junk :: V.junk :: V.junk :: V.junk :: V.junk :: V.junk :: V.junk :: V.junk :: V.junk :: V.junk :: V.junk :: V.junk :: V.junk :: V.junk :: V.junk :: V.junk :: V.junk :: V.junk :: V.junk :: V.junk :: V.junk :: V.junk :: V.junk :: V.junk :: V.junk :: V.junk :: V.junk :: []), ⟨[(11, 0, .row (.ints .i64 (depR l k)))], []⟩⟩) ?_ ?_
  · have e : List.replicate l.length (0 : Int) = depR l 0 := by rw [tabL_rep]; exact tabL_ext _ _ _ fun m _ => rfl
    rw [e]
    simp (maxSteps := 1000000) (disch := refine hold_ ?_; first | (simp [-List.getD_eq_getElem?_getD]; done) | omega) [-List.getD_eq_getElem?_getD]
  intro k hk
  have e0 := wrap_succ k N hk (by omega)
  by_cases hkm : k < l.length
  · have hkz : (k : Int) < l.length := by omega
    have he := nd_elem l k hkm
    have hx := hok _ (mem_getD l k default hkm)
    change okN (nd l k) at hx
    have hlen : (depR l k).length = l.length := tabL_len _ _
    have hsum : IntKind.i64.wrap (((nd l k).ds.length : Int) + (nd l k).ms.length) = (((nd l k).ds.length + (nd l k).ms.length : Nat) : Int) := by
      have := hx.dl; have := hx.ml
      rw [wrap_i64 _ (by omega) (by omega)]; omega
    have hget : (depR l (k + 1)).getD k 0 = dep l k := by rw [depR, tabL_get _ _ _ hkm, if_pos (by omega)]
    have hlen1 : (depR l (k + 1)).length = l.length := tabL_len _ _
    have hlim : limB l k = (decide (dep l k ≤ 64) && decide ((nd l k).ds.length + (nd l k).ms.length ≤ 64)) := rfl
    have hg : k < N → limB l k = true := hall k
    have hb : N = k → limB l k = false := fun e => by subst e; exact hno hkm
    clear hall hno
    have hd0 : k = 0 → depR l k = depR l (k + 1) := fun e => tabL_ext _ _ _ fun m hm => by
      subst e
      by_cases hm0 : m = 0
      · subst hm0; rw [if_neg (by omega), if_pos (by omega), dep_zero l _ (by omega)]; rfl
      · rw [if_neg (by omega), if_neg (by omega)]
    have hd1 : 0 < k → ∃ q : Nat, (nd l k).a = q ∧ q < l.length ∧ IntKind.i64.wrap ((depR l k).getD q 0 + 1) = dep l k ∧ (depR l k).set k (dep l k : Int) = depR l (k + 1) := fun h0 => by
      obtain ⟨q1, q2, q3⟩ := hp.lt hkm
      have q4 := q3 h0
      obtain ⟨q, hq⟩ : ∃ q : Nat, (nd l k).a = q := ⟨(nd l k).a.toNat, by omega⟩
      have hup := dep_up hp hkm h0
      rw [hq] at hup q2
      have hle : ∀ (n : Nat), n < l.length → dep l n ≤ n := by
        intro n
        induction n using Nat.strongRecOn with
        | ind n ih =>
          intro hn
          by_cases h0 : 0 < n
          · obtain ⟨r1, r2, r3⟩ := hp.lt hn
            have r4 := r3 h0
            obtain ⟨r, hr⟩ : ∃ r : Nat, (nd l n).a = r := ⟨(nd l n).a.toNat, by omega⟩
            rw [dep_up hp hn h0, hr]
            have := ih r (by omega) (by omega)
            omega
          · rw [dep_zero l _ (by omega)]; omega
      have := hle q (by omega)
      refine ⟨q, hq, by omega, ?_, ?_⟩
      · rw [depR, tabL_get _ _ _ (by omega), if_pos (by omega), wrap_i64 _ (by omega) (by omega), hup]; rfl
      · exact tabL_set _ _ _ _ _ (if_pos (by omega)) fun m hm hne => by
          by_cases hmk : m < k
          · rw [if_pos hmk, if_pos (by omega)]
          · rw [if_neg hmk, if_neg (by omega)]
    rw [hlim] at hg hb
    clear hlim
    generalize hA : decide (dep l k ≤ 64) = A at *
    generalize hB : decide ((nd l k).ds.length + (nd l k).ms.length ≤ 64) = B at *
    have hA1 : decide ((64 : Int) < (dep l k : Int)) = !A := by
      rw [← hA]; by_cases h : dep l k ≤ 64
      · rw [decide_eq_true h, decide_eq_false (by omega)]; rfl
      · rw [decide_eq_false h, decide_eq_true (by omega)]; rfl
    have hB1 : decide ((64 : Int) < (((nd l k).ds.length + (nd l k).ms.length : Nat) : Int)) = !B := by
      rw [← hB]; by_cases h : (nd l k).ds.length + (nd l k).ms.length ≤ 64
      · rw [decide_eq_true h, decide_eq_false (by omega)]; rfl
      · rw [decide_eq_false h, decide_eq_true (by omega)]; rfl
    clear hA hB
    generalize hE : (((nd l k).ds.length + (nd l k).ms.length : Nat) : Int) = E at *
    clear hE
    have hkl := hkm
    by_cases h0 : 0 < k
    · have h0z : (0 : Int) < k := by omega
      obtain ⟨q, hq, hql, w1, hset⟩ := hd1 h0
      have hn : (ndR l).elem k = .agg (.vals 1 [.int .i64 (nd l k).k, .int .i64 q, .str (txt (nd l k).p), .str (txt (nd l k).l), .str (txt (nd l k).u), .str (txt (nd l k).t), .sl (dcR (nd l k).ds) (nd l k).dn, .sl (atR (nd l k).ms) (nd l k).mn]) := by rw [he, ← hq]; rfl
      clear he hd0 hd1 hq
      generalize depR l (k + 1) = T1 at *
      generalize depR l k = T0 at *
      generalize (dep l k : Int) = DP at *
      generalize nd l k = x at *
      rcases anc A (spl B (trivial)) with rfl | ⟨rfl, ⟨rfl | rfl, _⟩⟩
      all_goals
        first
          | (have hkN : k = N := by
               rcases Nat.lt_or_ge k N with h1 | h1
               · have := hg h1; simp at this
               · omega
             have hne : N ≠ l.length := by omega
             repeat (first | ((first | (with_reducible first | refine zP fun K_ hK_ => ?_ | refine zQ fun K_ hK_ => ?_ | refine zT ?_ | refine zU ?_ | refine zV ?_ | refine zW ?_ | refine zX ?_ | refine zY ?_) | ((with_reducible first | refine zR ?_ ?_ fun K_ hK_ => ?_ | refine zS ?_ ?_ fun K_ hK_ => ?_); (focus kernel_rfl); (focus kernel_rfl))); first | (simp (maxSteps := 1000000) (disch := refine hold_ ?_; first | (simp [hkm, hkz, hn, e0, h0, h0z, w1, hset, hget, hlen, hlen1, hql, hA1, hB1, hsum, -List.getD_eq_getElem?_getD]; done) | omega) [hkm, hkz, hn, e0, h0, h0z, w1, hset, hget, hlen, hlen1, hql, hA1, hB1, hsum, -List.getD_eq_getElem?_getD]; try first | (with_reducible refine zZ ?_) | subst hK_) | subst hK_) | (with_reducible first | refine zA ?_ | refine zB ?_ | refine zC ?_ | refine zD ?_ | refine zE ?_ | refine zF ?_ | refine zG ?_ | refine zH ?_ | refine zI ?_ | refine zJ ?_ | refine zK ?_ | refine zL ?_ | refine zM ?_ | refine zN ?_ | refine zO ?_) | ((with_reducible refine yG ?_ ?_); (focus decide)) | ((with_reducible refine yA ?_); refine yB rfl ?_; (with_reducible first | refine yC ?_ | refine yD ?_)))
             simp (maxSteps := 1000000) (disch := refine hold_ ?_; first | (simp [hne, -List.getD_eq_getElem?_getD]; done) | omega) [hne, -List.getD_eq_getElem?_getD])
          | (have hkN : k < N := Nat.lt_of_le_of_ne hk fun e => by simpa using hb e.symm
             repeat (first | ((first | (with_reducible first | refine zP fun K_ hK_ => ?_ | refine zQ fun K_ hK_ => ?_ | refine zT ?_ | refine zU ?_ | refine zV ?_ | refine zW ?_ | refine zX ?_ | refine zY ?_) | ((with_reducible first | refine zR ?_ ?_ fun K_ hK_ => ?_ | refine zS ?_ ?_ fun K_ hK_ => ?_); (focus kernel_rfl); (focus kernel_rfl))); first | (simp (maxSteps := 1000000) (disch := refine hold_ ?_; first | (simp [hkm, hkz, hn, e0, h0, h0z, w1, hset, hget, hlen, hlen1, hql, hA1, hB1, hsum, -List.getD_eq_getElem?_getD]; done) | omega) [hkm, hkz, hn, e0, h0, h0z, w1, hset, hget, hlen, hlen1, hql, hA1, hB1, hsum, -List.getD_eq_getElem?_getD]; try first | (with_reducible refine zZ ?_) | subst hK_) | subst hK_) | (with_reducible first | refine zA ?_ | refine zB ?_ | refine zC ?_ | refine zD ?_ | refine zE ?_ | refine zF ?_ | refine zG ?_ | refine zH ?_ | refine zI ?_ | refine zJ ?_ | refine zK ?_ | refine zL ?_ | refine zM ?_ | refine zN ?_ | refine zO ?_) | ((with_reducible refine yG ?_ ?_); (focus decide)) | ((with_reducible refine yA ?_); refine yB rfl ?_; (with_reducible first | refine yC ?_ | refine yD ?_)))
             refine ⟨hkN, ?_⟩
             simp (maxSteps := 1000000) (disch := refine hold_ ?_; first | (simp [-List.getD_eq_getElem?_getD]; done) | omega) [-List.getD_eq_getElem?_getD])
    · have h0z : ¬ (0 : Int) < k := by omega
      rw [hd0 (by omega)]
      unfold ndP at he
      clear hd0 hd1
      generalize depR l (k + 1) = T1 at *
      generalize (dep l k : Int) = DP at *
      generalize nd l k = x at *
      rcases anc A (spl B (trivial)) with rfl | ⟨rfl, ⟨rfl | rfl, _⟩⟩
      all_goals
        first
          | (have hkN : k = N := by
               rcases Nat.lt_or_ge k N with h1 | h1
               · have := hg h1; simp at this
               · omega
             have hne : N ≠ l.length := by omega
             repeat (first | ((first | (with_reducible first | refine zP fun K_ hK_ => ?_ | refine zQ fun K_ hK_ => ?_ | refine zT ?_ | refine zU ?_ | refine zV ?_ | refine zW ?_ | refine zX ?_ | refine zY ?_) | ((with_reducible first | refine zR ?_ ?_ fun K_ hK_ => ?_ | refine zS ?_ ?_ fun K_ hK_ => ?_); (focus kernel_rfl); (focus kernel_rfl))); first | (simp (maxSteps := 1000000) (disch := refine hold_ ?_; first | (simp [hkm, hkz, he, e0, h0, h0z, hget, hlen1, hA1, hB1, hsum, -List.getD_eq_getElem?_getD]; done) | omega) [hkm, hkz, he, e0, h0, h0z, hget, hlen1, hA1, hB1, hsum, -List.getD_eq_getElem?_getD]; try first | (with_reducible refine zZ ?_) | subst hK_) | subst hK_) | (with_reducible first | refine zA ?_ | refine zB ?_ | refine zC ?_ | refine zD ?_ | refine zE ?_ | refine zF ?_ | refine zG ?_ | refine zH ?_ | refine zI ?_ | refine zJ ?_ | refine zK ?_ | refine zL ?_ | refine zM ?_ | refine zN ?_ | refine zO ?_) | ((with_reducible refine yG ?_ ?_); (focus decide)) | ((with_reducible refine yA ?_); refine yB rfl ?_; (with_reducible first | refine yC ?_ | refine yD ?_)))
             simp (maxSteps := 1000000) (disch := refine hold_ ?_; first | (simp [hne, -List.getD_eq_getElem?_getD]; done) | omega) [hne, -List.getD_eq_getElem?_getD])
          | (have hkN : k < N := Nat.lt_of_le_of_ne hk fun e => by simpa using hb e.symm
             repeat (first | ((first | (with_reducible first | refine zP fun K_ hK_ => ?_ | refine zQ fun K_ hK_ => ?_ | refine zT ?_ | refine zU ?_ | refine zV ?_ | refine zW ?_ | refine zX ?_ | refine zY ?_) | ((with_reducible first | refine zR ?_ ?_ fun K_ hK_ => ?_ | refine zS ?_ ?_ fun K_ hK_ => ?_); (focus kernel_rfl); (focus kernel_rfl))); first | (simp (maxSteps := 1000000) (disch := refine hold_ ?_; first | (simp [hkm, hkz, he, e0, h0, h0z, hget, hlen1, hA1, hB1, hsum, -List.getD_eq_getElem?_getD]; done) | omega) [hkm, hkz, he, e0, h0, h0z, hget, hlen1, hA1, hB1, hsum, -List.getD_eq_getElem?_getD]; try first | (with_reducible refine zZ ?_) | subst hK_) | subst hK_) | (with_reducible first | refine zA ?_ | refine zB ?_ | refine zC ?_ | refine zD ?_ | refine zE ?_ | refine zF ?_ | refine zG ?_ | refine zH ?_ | refine zI ?_ | refine zJ ?_ | refine zK ?_ | refine zL ?_ | refine zM ?_ | refine zN ?_ | refine zO ?_) | ((with_reducible refine yG ?_ ?_); (focus decide)) | ((with_reducible refine yA ?_); refine yB rfl ?_; (with_reducible first | refine yC ?_ | refine yD ?_)))
             refine ⟨hkN, ?_⟩
             simp (maxSteps := 1000000) (disch := refine hold_ ?_; first | (simp [-List.getD_eq_getElem?_getD]; done) | omega) [-List.getD_eq_getElem?_getD])
  · have hkz : ¬ (k : Int) < l.length := by omega
    have hkN : N = l.length := by omega
    repeat (first | ((first | (with_reducible first | refine zP fun K_ hK_ => ?_ | refine zQ fun K_ hK_ => ?_ | refine zT ?_ | refine zU ?_ | refine zV ?_ | refine zW ?_ | refine zX ?_ | refine zY ?_) | ((with_reducible first | refine zR ?_ ?_ fun K_ hK_ => ?_ | refine zS ?_ ?_ fun K_ hK_ => ?_); (focus kernel_rfl); (focus kernel_rfl))); first | (simp (maxSteps := 1000000) (disch := refine hold_ ?_; first | (simp [hkz, -List.getD_eq_getElem?_getD]; done) | omega) [hkz, -List.getD_eq_getElem?_getD]; try first | (with_reducible refine zZ ?_) | subst hK_) | subst hK_) | (with_reducible first | refine zA ?_ | refine zB ?_ | refine zC ?_ | refine zD ?_ | refine zE ?_ | refine zF ?_ | refine zG ?_ | refine zH ?_ | refine zI ?_ | refine zJ ?_ | refine zK ?_ | refine zL ?_ | refine zM ?_ | refine zN ?_ | refine zO ?_) | ((with_reducible refine yG ?_ ?_); (focus decide)) | ((with_reducible refine yA ?_); refine yB rfl ?_; (with_reducible first | refine yC ?_ | refine yD ?_)))
    all_goals (try simp (maxSteps := 1000000) (disch := refine hold_ ?_; first | (simp [hkN, -List.getD_eq_getElem?_getD]; done) | omega) [hkN, -List.getD_eq_getElem?_getD])
end Go.Av.Doc
end
