/- The walks of this seat's functions, and what is known of what they reckon (Docf). Conditions: those that each theorem names. -/
import Derived.Test.YtkphnlnphenphaaDoorDoce
import Derived.Deep.Slices
import Derived.Test.YtkphnlnphenphaaDoorRows
section
set_option linter.unusedSimpArgs false
set_option linter.unusedVariables false
set_option linter.unusedSectionVars false
open Go Go.Av Go.Proofs
namespace Go.Av
section
open Go.ChangeShapes Go.WideShapes Go.ChangeAt
variable {P : Program} {H : Type} {enc : TypeId × Value → H} {w : World} {base : Nat} {spare : Nat → Bool} {held : Bool}
def PartsOf (m : Nat → Nat → Option Value) (s : Nat) (ps : List PV) (cs : List Value) : Prop :=
  ps.length = s ∧ ∀ j, j < s → ∃ v, cs[j]? = some v ∧ RepP m (ps.getD j .ptr0) v ∧ (ps.getD j .ptr0).one = true
theorem open_rows {X : Type} [Inhabited X] (pv : X → List PV) (bk : X → DataW H → Prop) {t e s fuel : Nat} {cs : List Value} {x : DataW H × List MemPlace} (ht : P.underlying t = some (.slice e)) (hc : P.cellsOf e = s) (hs : 0 < s)
    (elem : ∀ n cs d pl, DataW.trod enc P w base spare held n e cs = some (d, pl) → ∃ x, PartsOf (cellsOf w) s (pv x) cs ∧ bk x d)
    (h : DataW.trod enc P w base spare held fuel t cs = some x) :
    ∃ (v : Value) (l : List X) (nl : Bool) (es : List (DataW H)), cs = [v] ∧ RepP (cellsOf w) (.sl (.vals s (l.map fun x => agP (pv x))) nl) v ∧ (nl = true → l = []) ∧ l.length ≤ maxLen ∧
      es.length = l.length ∧ (l = [] ∨ ∃ rest, x.1 = .slice es rest) ∧ ∀ i, i < l.length → bk (l.getD i default) (es.getD i .nil) := by
  rcases Go.Deep.open_slice ht h with ⟨rfl, rfl⟩ | ⟨a, len, cap, m, n, D, Pl, rfl, hb, hl, hm, hmm, rfl, hx⟩
  · exact ⟨_, [], true, [], rfl, .slNil _ rfl, fun _ => rfl, Nat.zero_le _, rfl, .inl rfl, fun i hi => by simp at hi⟩
  have hlm : len ≤ m := by rw [hmm]; split <;> omega
  have each : ∀ i, i < len → ∃ q : X, ∀ j, j < s → (∃ v, w.cell? (a.add (i * s + j)) = some v ∧ RepP (cellsOf w) ((pv q).getD j .ptr0) v ∧ ((pv q).getD j .ptr0).one = true) ∧ (pv q).length = s ∧ bk q (D i) := by
    intro i hi
    obtain ⟨cs', h1, h2⟩ := hx i (by omega)
    rw [hc] at h1
    obtain ⟨_, hlen, hcell⟩ := World.cells?_some h1
    obtain ⟨q, ⟨q1, q2⟩, q3⟩ := elem _ _ _ _ h2
    refine ⟨q, fun j hj => ⟨?_, q1, q3⟩⟩
    obtain ⟨v, hv, r, o⟩ := q2 j hj
    refine ⟨v, ?_, r, o⟩
    rw [← hv, ← hcell j hj, Go.Deep.add_add]
  obtain ⟨q, hq⟩ := Go.Deep.choose_lt each
  let l := (List.range len).map q
  have hll : l.length = len := by simp [l]
  have hlg : ∀ i, i < len → l.getD i default = q i := fun i hi => by simp [l, List.getD_eq_getElem?_getD, hi]
  refine ⟨_, l, false, (List.range len).map D, rfl, ?_, (fun h => absurd h (by decide)), by omega, by simp [l], .inr ⟨_, rfl⟩, ?_⟩
  · have hlen : (Row.vals s (l.map fun x => agP (pv x)) : Row PV).len = len := by simp [Row.len, l]
    have hel : ∀ i, i < len → (Row.vals s (l.map fun x => agP (pv x)) : Row PV).elem i = agP (pv (q i)) := fun i hi => by
      simp [Row.elem, l, List.getD_eq_getElem?_getD, hi]
    have fv : ∀ i, i < len → ∀ j, j < s → ∃ v, w.cell? (a.add (i * s + j)) = some v ∧ RepP (cellsOf w) ((pv (q i)).getD j .ptr0) v ∧ ((pv (q i)).getD j .ptr0).one = true := fun i hi j hj => (hq i hi j hj).1
    have := RepP.sl (m := cellsOf w) (.vals s (l.map fun x => agP (pv x))) a cap (fun i j => if hij : i < len ∧ j < s then (fv i hij.1 j hij.2).choose else undef) (by rw [hlen]; exact hl) ?_ ?_ ?_ ?_ ?_
    · rw [hlen] at this; exact this
    · by_cases h0 : len = 0
      · left; rw [hlen]; exact h0
      · right
        obtain ⟨v, hv, _⟩ := fv 0 (by omega) 0 hs
        have := World.cell?_spot hv
        simpa [Addr.add] using this
    · intro i hi
      rw [hlen] at hi
      rw [hel i hi]
      exact (hq i hi 0 hs).2.1
    · intro i j hi hj
      rw [hlen] at hi
      have hj : j < s := hj
      simp only [dif_pos (And.intro hi hj)]
      have hv := (fv i hi j hj).choose_spec.1
      have := cell_add hv
      show cellsOf w a.block (a.off + i * s + j) = _
      rw [Nat.add_assoc]; exact this
    · intro i j hi hj
      rw [hlen] at hi
      have hj : j < s := hj
      rw [hel i hi, agP_cell]
      exact (fv i hi j hj).choose_spec.2.2
    · intro i j hi hj
      rw [hlen] at hi
      have hj : j < s := hj
      simp only [dif_pos (And.intro hi hj)]
      rw [hel i hi, agP_cell]
      exact (fv i hi j hj).choose_spec.2.1
  · intro i hi
    rw [hll] at hi
    rw [hlg i hi]
    have : ((List.range len).map D).getD i .nil = D i := by simp [List.getD_eq_getElem?_getD, hi]
    rw [this]
    exact (hq i hi 0 hs).2.2
end
end Go.Av
namespace Go.Av.Doc
section
open Go.ChangeShapes Go.WideShapes Go.ChangeAt
open Go.Proofs.YtkphnlnphenphaaDoor
variable {H : Type} {enc : TypeId × Value → H} {w : World} {base : Nat} {spare : Nat → Bool} {held : Bool}
theorem bulk_part {d : DataW H} {l : List (DataW H)} (h : d ∈ l) : Rows.uptoBulk d ≤ Rows.uptoBulkAll l := by
  induction l with
  | nil => cases h
  | cons x r ih =>
    simp only [Rows.uptoBulkAll]
    rcases List.mem_cons.1 h with e | e
    · subst e; omega
    · have := ih e; omega
theorem bulk_pos (d : DataW H) : 1 ≤ Rows.uptoBulk d := by
  cases d with
  | lit l => cases l <;> simp [Rows.uptoBulk]
  | _ => simp [Rows.uptoBulk]
theorem bulk_len (l : List (DataW H)) : l.length ≤ Rows.uptoBulkAll l := by
  induction l with
  | nil => simp [Rows.uptoBulkAll]
  | cons x r ih => have := bulk_pos x; simp only [Rows.uptoBulkAll, List.length_cons]; omega
theorem bulk_slice {es rest : List (DataW H)} : Rows.uptoBulkAll es ≤ Rows.uptoBulk (.slice es rest) := by simp only [Rows.uptoBulk]; omega
theorem open_txt {n : Nat} {cs : List Value} {x : DataW H × List MemPlace} (h : DataW.trod enc Tryd.prog w base spare held n 9 cs = some x) :
    ∃ s : List (BitVec 8), cs = [.string (txt s)] ∧ (Rows.uptoBulk x.1 ≤ 1048576 → s.length ≤ 4000000) := by
  obtain ⟨s, rfl, rfl, _⟩ := DataW.trod_string Tryd.underlying9 h
  obtain ⟨l, rfl⟩ := txt_of s
  refine ⟨l, rfl, fun hb => ?_⟩
  have : Rows.uptoBulk (DataW.lit (H := H) (.string (txt l).data.toList)) = l.length + 1 := by
    simp [Rows.uptoBulk, txt_list]
  rw [this] at hb; omega
instance : Inhabited Dc := ⟨⟨[], []⟩⟩
instance : Inhabited At := ⟨at0⟩
def dcV (d : Dc) : List PV := [.str (txt d.p), .str (txt d.u)]
def atV (a : At) : List PV := [.str (txt a.p), .str (txt a.l), .str (txt a.u), .str (txt a.v)]
def ndV (x : Nd) : List PV := [.int .i64 x.k, .int .i64 x.a, .str (txt x.p), .str (txt x.l), .str (txt x.u), .str (txt x.t), .sl (dcR x.ds) x.dn, .sl (atR x.ms) x.mn]
theorem open_dc {n : Nat} {cs : List Value} {d : DataW H} {pl : List MemPlace} (h : DataW.trod enc Tryd.prog w base spare held n 45 cs = some (d, pl)) :
    ∃ x : Dc, PartsOf (cellsOf w) 2 (dcV x) cs ∧ (Rows.uptoBulk d ≤ 1048576 → okD x) := by
  obtain ⟨xs, k, _, hx, hl, hxl, hf⟩ := DataW.trod_struct Tryd.underlying45 h
  have hc : Tryd.prog.cellsOf 45 = 2 := by kernel_rfl
  have h9 : Tryd.prog.cellsOf 9 = 1 := by kernel_rfl
  rw [hc] at hl
  match xs, hxl, cs, hl with
  | [y0, y1], _, [v0, v1], _ =>
    have g0 := hf 0 _ rfl
    have g1 := hf 1 _ rfl
    simp only [h9, List.drop_zero, List.take_succ_cons, List.take_zero, List.drop_succ_cons, List.getElem?_cons_zero, List.getElem?_cons_succ] at g0 g1
    obtain ⟨s0, e0, b0⟩ := open_txt g0
    obtain ⟨s1, e1, b1⟩ := open_txt g1
    obtain rfl : v0 = .string (txt s0) := by simpa [h9] using e0
    obtain rfl : v1 = .string (txt s1) := by simpa [h9] using e1
    obtain rfl : d = .agg [y0.1, y1.1] := by simpa using congrArg Prod.fst hx
    refine ⟨⟨s0, s1⟩, ⟨rfl, fun j hj => ?_⟩, fun hb => ?_⟩
    · match j, hj with
      | 0, _ => exact ⟨_, rfl, .str _, rfl⟩
      | 1, _ => exact ⟨_, rfl, .str _, rfl⟩
    · have h1 : Rows.uptoBulkAll [y0.1, y1.1] ≤ 1048576 := by simp only [Rows.uptoBulk] at hb; omega
      exact ⟨b0 (Nat.le_trans (bulk_part (by simp)) h1), b1 (Nat.le_trans (bulk_part (by simp)) h1)⟩
theorem open_at {n : Nat} {cs : List Value} {d : DataW H} {pl : List MemPlace} (h : DataW.trod enc Tryd.prog w base spare held n 43 cs = some (d, pl)) :
    ∃ x : At, PartsOf (cellsOf w) 4 (atV x) cs ∧ (Rows.uptoBulk d ≤ 1048576 → okA x) := by
  obtain ⟨xs, k, _, hx, hl, hxl, hf⟩ := DataW.trod_struct Tryd.underlying43 h
  have hc : Tryd.prog.cellsOf 43 = 4 := by kernel_rfl
  have h9 : Tryd.prog.cellsOf 9 = 1 := by kernel_rfl
  rw [hc] at hl
  match xs, hxl, cs, hl with
  | [y0, y1, y2, y3], _, [v0, v1, v2, v3], _ =>
    have g0 := hf 0 _ rfl
    have g1 := hf 1 _ rfl
    have g2 := hf 2 _ rfl
    have g3 := hf 3 _ rfl
    simp only [h9, List.drop_zero, List.take_succ_cons, List.take_zero, List.drop_succ_cons, List.getElem?_cons_zero, List.getElem?_cons_succ] at g0 g1 g2 g3
    obtain ⟨s0, e0, b0⟩ := open_txt g0
    obtain ⟨s1, e1, b1⟩ := open_txt g1
    obtain ⟨s2, e2, b2⟩ := open_txt g2
    obtain ⟨s3, e3, b3⟩ := open_txt g3
    obtain rfl : v0 = .string (txt s0) := by simpa [h9] using e0
    obtain rfl : v1 = .string (txt s1) := by simpa [h9] using e1
    obtain rfl : v2 = .string (txt s2) := by simpa [h9] using e2
    obtain rfl : v3 = .string (txt s3) := by simpa [h9] using e3
    obtain rfl : d = .agg [y0.1, y1.1, y2.1, y3.1] := by simpa using congrArg Prod.fst hx
    refine ⟨⟨s0, s1, s2, s3⟩, ⟨rfl, fun j hj => ?_⟩, fun hb => ?_⟩
    · match j, hj with
      | 0, _ => exact ⟨_, rfl, .str _, rfl⟩
      | 1, _ => exact ⟨_, rfl, .str _, rfl⟩
      | 2, _ => exact ⟨_, rfl, .str _, rfl⟩
      | 3, _ => exact ⟨_, rfl, .str _, rfl⟩
    · have h1 : Rows.uptoBulkAll [y0.1, y1.1, y2.1, y3.1] ≤ 1048576 := by simp only [Rows.uptoBulk] at hb; omega
      exact ⟨b0 (Nat.le_trans (bulk_part (by simp)) h1), b1 (Nat.le_trans (bulk_part (by simp)) h1), b2 (Nat.le_trans (bulk_part (by simp)) h1), b3 (Nat.le_trans (bulk_part (by simp)) h1)⟩
theorem getD_in {α : Type} (l : List α) (k : Nat) (d : α) (h : k < l.length) : l.getD k d ∈ l := by
  rw [List.getD_eq_getElem?_getD, List.getElem?_eq_getElem h]; exact List.getElem_mem h
theorem each_ok {X : Type} [Inhabited X] {ok : X → Prop} {l : List X} {es : List (DataW H)} {d : DataW H} (hd : Rows.uptoBulk d ≤ 1048576) (hl : es.length = l.length) (hs : l = [] ∨ ∃ rest, d = .slice es rest)
    (h : ∀ i, i < l.length → (Rows.uptoBulk (es.getD i .nil) ≤ 1048576 → ok (l.getD i default))) : l.length ≤ 4000000 ∧ ∀ x ∈ l, ok x := by
  rcases hs with rfl | ⟨rest, rfl⟩
  · exact ⟨by simp, fun x hx => by cases hx⟩
  · have h1 : Rows.uptoBulkAll es ≤ 1048576 := Nat.le_trans bulk_slice hd
    refine ⟨by have := bulk_len es; omega, fun x hx => ?_⟩
    obtain ⟨i, hi, rfl⟩ := List.getElem_of_mem hx
    have := h i hi (Nat.le_trans (bulk_part (getD_in es i .nil (by omega))) h1)
    rwa [List.getD_eq_getElem?_getD, List.getElem?_eq_getElem hi] at this
theorem open_nd {n : Nat} {cs : List Value} {d : DataW H} {pl : List MemPlace} (h : DataW.trod enc Tryd.prog w base spare held n 37 cs = some (d, pl)) :
    ∃ x : Nd, PartsOf (cellsOf w) 8 (ndV x) cs ∧ (Rows.uptoBulk d ≤ 1048576 → okN x) := by
  obtain ⟨xs, k, _, hx, hl, hxl, hf⟩ := DataW.trod_struct Tryd.underlying37 h
  have hc : Tryd.prog.cellsOf 37 = 8 := by kernel_rfl
  have h9 : Tryd.prog.cellsOf 9 = 1 := by kernel_rfl
  have h3 : Tryd.prog.cellsOf 3 = 1 := by kernel_rfl
  have h34 : Tryd.prog.cellsOf 34 = 1 := by kernel_rfl
  have h35 : Tryd.prog.cellsOf 35 = 1 := by kernel_rfl
  rw [hc] at hl
  match xs, hxl, cs, hl with
  | [y0, y1, y2, y3, y4, y5, y6, y7], _, [v0, v1, v2, v3, v4, v5, v6, v7], _ =>
    have g0 := hf 0 _ rfl
    have g1 := hf 1 _ rfl
    have g2 := hf 2 _ rfl
    have g3 := hf 3 _ rfl
    have g4 := hf 4 _ rfl
    have g5 := hf 5 _ rfl
    have g6 := hf 6 _ rfl
    have g7 := hf 7 _ rfl
    simp only [h9, h3, h34, h35, List.drop_zero, List.take_succ_cons, List.take_zero, List.drop_succ_cons, List.getElem?_cons_zero, List.getElem?_cons_succ] at g0 g1 g2 g3 g4 g5 g6 g7
    obtain ⟨k0, e0, _, _⟩ := DataW.trod_int Tryd.underlying3 g0
    obtain ⟨k1, e1, _, _⟩ := DataW.trod_int Tryd.underlying3 g1
    obtain ⟨s2, e2, b2⟩ := open_txt g2
    obtain ⟨s3, e3, b3⟩ := open_txt g3
    obtain ⟨s4, e4, b4⟩ := open_txt g4
    obtain ⟨s5, e5, b5⟩ := open_txt g5
    obtain ⟨w6, l6, n6, es6, e6, r6, z6, m6, c6, d6, q6⟩ := open_rows dcV (fun x d => Rows.uptoBulk d ≤ 1048576 → okD x) Tryd.underlying34 (by kernel_rfl : Tryd.prog.cellsOf 45 = 2) (by decide) (fun _ _ _ _ h => open_dc h) g6
    obtain ⟨w7, l7, n7, es7, e7, r7, z7, m7, c7, d7, q7⟩ := open_rows atV (fun x d => Rows.uptoBulk d ≤ 1048576 → okA x) Tryd.underlying35 (by kernel_rfl : Tryd.prog.cellsOf 43 = 4) (by decide) (fun _ _ _ _ h => open_at h) g7
    obtain rfl : v0 = .int .i64 k0 := by simpa [h9, h3, h34, h35] using e0
    obtain rfl : v1 = .int .i64 k1 := by simpa [h9, h3, h34, h35] using e1
    obtain rfl : v2 = .string (txt s2) := by simpa [h9, h3, h34, h35] using e2
    obtain rfl : v3 = .string (txt s3) := by simpa [h9, h3, h34, h35] using e3
    obtain rfl : v4 = .string (txt s4) := by simpa [h9, h3, h34, h35] using e4
    obtain rfl : v5 = .string (txt s5) := by simpa [h9, h3, h34, h35] using e5
    obtain rfl : v6 = w6 := by simpa [h9, h3, h34, h35] using e6
    obtain rfl : v7 = w7 := by simpa [h9, h3, h34, h35] using e7
    obtain rfl : d = .agg [y0.1, y1.1, y2.1, y3.1, y4.1, y5.1, y6.1, y7.1] := by simpa using congrArg Prod.fst hx
    refine ⟨⟨k0, k1, s2, s3, s4, s5, l6, n6, l7, n7⟩, ⟨rfl, fun j hj => ?_⟩, fun hb => ?_⟩
    · match j, hj with
      | 0, _ => exact ⟨_, rfl, .int _ _, rfl⟩
      | 1, _ => exact ⟨_, rfl, .int _ _, rfl⟩
      | 2, _ => exact ⟨_, rfl, .str _, rfl⟩
      | 3, _ => exact ⟨_, rfl, .str _, rfl⟩
      | 4, _ => exact ⟨_, rfl, .str _, rfl⟩
      | 5, _ => exact ⟨_, rfl, .str _, rfl⟩
      | 6, _ => exact ⟨_, rfl, r6, rfl⟩
      | 7, _ => exact ⟨_, rfl, r7, rfl⟩
    · have h1 : Rows.uptoBulkAll [y0.1, y1.1, y2.1, y3.1, y4.1, y5.1, y6.1, y7.1] ≤ 1048576 := by simp only [Rows.uptoBulk] at hb; omega
      have p6 := each_ok (Nat.le_trans (bulk_part (by simp)) h1) c6 d6 q6
      have p7 := each_ok (Nat.le_trans (bulk_part (by simp)) h1) c7 d7 q7
      exact ⟨z6, z7, p6.1, p7.1, b2 (Nat.le_trans (bulk_part (by simp)) h1), b3 (Nat.le_trans (bulk_part (by simp)) h1), b4 (Nat.le_trans (bulk_part (by simp)) h1), b5 (Nat.le_trans (bulk_part (by simp)) h1), p6.2, p7.2⟩
theorem open_nodes {r : Reach} {b0 : Nat} {v : Value} {d : DataW H} {ps : List MemPlace} (hval : Value.okWide Tryd.prog w r b0 22 v) (hd : DataW.Trod enc Tryd.prog w base spare held 22 v d ps) (hb : Rows.uptoBulk d ≤ 1048576) :
    ∃ (l : List Nd) (nl : Bool), RepP (cellsOf w) (.sl (ndR l) nl) v ∧ l.length ≤ 4000000 ∧ ∀ x ∈ l, okN x := by
  obtain ⟨a0, len0, cap0, rfl⟩ := okWide_slice Tryd.underlying22 hval
  obtain ⟨fuel, hf⟩ := hd
  obtain ⟨w0, l, nl, es, e, rp, z, m, c, d0, q⟩ := open_rows ndV (fun x d => Rows.uptoBulk d ≤ 1048576 → okN x) Tryd.underlying22 (by kernel_rfl : Tryd.prog.cellsOf 37 = 8) (by decide) (fun _ _ _ _ h => open_nd h) hf
  obtain rfl : w0 = .slice a0 len0 cap0 := by simpa [Value.cells] using e.symm
  obtain ⟨p1, p2⟩ := each_ok hb c d0 q
  exact ⟨l, nl, rp, p1, p2⟩
end
end Go.Av.Doc
end
section
set_option linter.unusedSimpArgs false
set_option linter.unusedVariables false
set_option linter.unusedSectionVars false
open Go Go.Av Go.Proofs
namespace Go.Av.Doc
variable [ML]
set_option maxHeartbeats 8000000 in
theorem Check_ct (l : List Nd) (nl : Bool) (hl : l.length ≤ 4000000) (hok : ∀ x ∈ l, okN x) : Fn Tryd.prog 12 [.sl (ndR l) nl] [.p (.int .i64 (chkR l))] := by
  have k32 := formd_ct l nl hl hok
  unfold chkR
  cases hF : formdB l with
  | false =>
    rw [hF] at k32
    simp only [Bool.false_eq_true, if_false]
    refine Fn.of_body Tryd.func12 rfl ?_
    repeat (first | ((with_reducible first | refine callK_at 32 ?_); refine callK_p ?_; simp (maxSteps := 1000000) (disch := refine hold_ ?_; first | (simp [-List.getD_eq_getElem?_getD]; done) | omega) [-List.getD_eq_getElem?_getD]; (first | refine callK1_of (Fn.ct k32 Tryd.call32) ?_); (try simp (maxSteps := 1000000) (disch := refine hold_ ?_; first | (simp [-List.getD_eq_getElem?_getD]; done) | omega) [-List.getD_eq_getElem?_getD]); try first | (with_reducible refine zZ ?_) | subst hK_) | ((first | (with_reducible first | refine zP fun K_ hK_ => ?_ | refine zQ fun K_ hK_ => ?_ | refine zT ?_ | refine zU ?_ | refine zV ?_ | refine zW ?_ | refine zX ?_ | refine zY ?_) | ((with_reducible first | refine zR ?_ ?_ fun K_ hK_ => ?_ | refine zS ?_ ?_ fun K_ hK_ => ?_); (focus kernel_rfl); (focus kernel_rfl))); first | (simp (maxSteps := 1000000) (disch := refine hold_ ?_; first | (simp [-List.getD_eq_getElem?_getD]; done) | omega) [-List.getD_eq_getElem?_getD]; try first | (with_reducible refine zZ ?_) | subst hK_) | subst hK_) | (with_reducible first | refine zA ?_ | refine zB ?_ | refine zC ?_ | refine zD ?_ | refine zE ?_ | refine zF ?_ | refine zG ?_ | refine zH ?_ | refine zI ?_ | refine zJ ?_ | refine zK ?_ | refine zL ?_ | refine zM ?_ | refine zN ?_ | refine zO ?_) | ((with_reducible refine yG ?_ ?_); (focus decide)) | ((with_reducible refine yA ?_); refine yB rfl ?_; (with_reducible first | refine yC ?_ | refine yD ?_)))
    all_goals (try simp (maxSteps := 1000000) (disch := refine hold_ ?_; first | (simp [-List.getD_eq_getElem?_getD]; done) | omega) [-List.getD_eq_getElem?_getD])
  | true =>
  rw [hF] at k32
  simp only [if_true]
  obtain ⟨h0, hp⟩ := formd_pOk l hF
  unfold withB
  rw [allB_upto]
  have hN := upto_le (limB l) l.length
  have hall := upto_all (limB l) l.length
  have hno := upto_no (limB l) l.length
  generalize upto (limB l) l.length = N at *
  refine Fn.of_body Tryd.func12 rfl ?_
  repeat (first | ((with_reducible first | refine callK_at 32 ?_); refine callK_p ?_; simp (maxSteps := 1000000) (disch := refine hold_ ?_; first | (simp [-List.getD_eq_getElem?_getD]; done) | omega) [-List.getD_eq_getElem?_getD]; (first | refine callK1_of (Fn.ct k32 Tryd.call32) ?_); (try simp (maxSteps := 1000000) (disch := refine hold_ ?_; first | (simp [-List.getD_eq_getElem?_getD]; done) | omega) [-List.getD_eq_getElem?_getD]); try first | (with_reducible refine zZ ?_) | subst hK_) | ((first | (with_reducible first | refine zP fun K_ hK_ => ?_ | refine zQ fun K_ hK_ => ?_ | refine zT ?_ | refine zU ?_ | refine zV ?_ | refine zW ?_ | refine zX ?_ | refine zY ?_) | ((with_reducible first | refine zR ?_ ?_ fun K_ hK_ => ?_ | refine zS ?_ ?_ fun K_ hK_ => ?_); (focus kernel_rfl); (focus kernel_rfl))); first | (simp (maxSteps := 1000000) (disch := refine hold_ ?_; first | (simp [-List.getD_eq_getElem?_getD]; done) | omega) [-List.getD_eq_getElem?_getD]; try first | (with_reducible refine zZ ?_) | subst hK_) | subst hK_) | (with_reducible first | refine zA ?_ | refine zB ?_ | refine zC ?_ | refine zD ?_ | refine zE ?_ | refine zF ?_ | refine zG ?_ | refine zH ?_ | refine zI ?_ | refine zJ ?_ | refine zK ?_ | refine zL ?_ | refine zM ?_ | refine zN ?_ | refine zO ?_) | ((with_reducible refine yG ?_ ?_); (focus decide)) | ((with_reducible refine yA ?_); refine yB rfl ?_; (with_reducible first | refine yC ?_ | refine yD ?_)))
  refine AW.iter (true :: false :: false :: false :: false :: false :: false :: false :: true :: true :: false :: false :: false :: false :: false :: false :: false :: false :: false :: false :: false :: false :: false :: false :: false :: false :: false :: false :: false :: false :: false :: false :: false :: false :: false :: false :: []) N (fun k => ⟨(.p (.sl (ndR l) nl) :: V.junk :: V.junk :: V.junk :: V.junk :: V.junk :: V.junk :: V.junk :: .p (.int .i64 l.length) :: .p (.int .i64 k) :: V.junk :: V.junk :: V.junk :: V.junk :: V.junk :: V.junk :: V.junk :: V.junk :: V.junk :: V.junk :: V.junk :: V.junk :: V.junk :: V.junk :: V.junk :: V.junk :: V.junk :: V.junk :: V.junk :: V.junk :: V.junk :: V.junk :: V.junk :: V.junk :: V.junk :: V.junk :: []), ⟨[], []⟩⟩) ?_ ?_
  · simp (maxSteps := 1000000) (disch := refine hold_ ?_; first | (simp [-List.getD_eq_getElem?_getD]; done) | omega) [-List.getD_eq_getElem?_getD]
  intro k hk
  have e0 := wrap_succ k N hk (by omega)
  by_cases hkm : k < l.length
  · have hkz : (k : Int) < l.length := by omega
    have he := nd_elem l k hkm
    have hx := hok _ (mem_getD l k default hkm)
    change okN (nd l k) at hx
    have k33 := deep_ct l nl k hp hkm hl
    have hsum : IntKind.i64.wrap (((nd l k).ds.length : Int) + (nd l k).ms.length) = (((nd l k).ds.length + (nd l k).ms.length : Nat) : Int) := by
      have := hx.dl; have := hx.ml
      rw [wrap_i64 _ (by omega) (by omega)]; omega
    have hlim : limB l k = (decide (dep l k ≤ 64) && decide ((nd l k).ds.length + (nd l k).ms.length ≤ 64)) := rfl
    have hg : k < N → limB l k = true := hall k
    have hb : N = k → limB l k = false := fun e => by subst e; exact hno hkm
    clear hall hno k32
    rw [hlim] at hg hb
    clear hlim
    generalize hA : decide (dep l k ≤ 64) = A at *
    generalize hB : decide ((nd l k).ds.length + (nd l k).ms.length ≤ 64) = B at *
    have hA1 : decide ((64 : Int) < (dep l k : Int)) = !A := by
      rw [← hA]; by_cases h : dep l k ≤ 64
      · rw [decide_eq_true h, decide_eq_false (by omega)]; rfl
      · rw [decide_eq_false h, decide_eq_true (by omega)]; rfl
    have hB1 : decide ((64 : Int) < (((nd l k).ds.length + (nd l k).ms.length : Nat) : Int)) = !B := by
      rw [← hB]; by_cases h : (nd l k).ds.length + (nd l k).ms.length ≤ 64
      · rw [decide_eq_true h, decide_eq_false (by omega)]; rfl
      · rw [decide_eq_false h, decide_eq_true (by omega)]; rfl
    clear hA hB
    generalize hE : (((nd l k).ds.length + (nd l k).ms.length : Nat) : Int) = E at *
    clear hE
    unfold ndP at he
    generalize (dep l k : Int) = DP at *
    generalize nd l k = x at *
    rcases anc A (spl B (trivial)) with rfl | ⟨rfl, ⟨rfl | rfl, _⟩⟩
    all_goals
      first
        | (have hkN : k = N := by
             rcases Nat.lt_or_ge k N with h1 | h1
             · have := hg h1; simp at this
             · omega
           have hne : N ≠ l.length := by omega
           rw [decide_eq_false hne]
           repeat (first | ((with_reducible first | refine callK_at 33 ?_); refine callK_p ?_; simp (maxSteps := 1000000) (disch := refine hold_ ?_; first | (simp [hkm, hkz, he, hA1, hB1, hsum, -List.getD_eq_getElem?_getD]; done) | omega) [hkm, hkz, he, hA1, hB1, hsum, -List.getD_eq_getElem?_getD]; (first | refine callK1_of (Fn.ct k33 Tryd.call33) ?_); (try simp (maxSteps := 1000000) (disch := refine hold_ ?_; first | (simp [hkm, hkz, he, hA1, hB1, hsum, -List.getD_eq_getElem?_getD]; done) | omega) [hkm, hkz, he, hA1, hB1, hsum, -List.getD_eq_getElem?_getD]); try first | (with_reducible refine zZ ?_) | subst hK_) | ((first | (with_reducible first | refine zP fun K_ hK_ => ?_ | refine zQ fun K_ hK_ => ?_ | refine zT ?_ | refine zU ?_ | refine zV ?_ | refine zW ?_ | refine zX ?_ | refine zY ?_) | ((with_reducible first | refine zR ?_ ?_ fun K_ hK_ => ?_ | refine zS ?_ ?_ fun K_ hK_ => ?_); (focus kernel_rfl); (focus kernel_rfl))); first | (simp (maxSteps := 1000000) (disch := refine hold_ ?_; first | (simp [hkm, hkz, he, hA1, hB1, hsum, -List.getD_eq_getElem?_getD]; done) | omega) [hkm, hkz, he, hA1, hB1, hsum, -List.getD_eq_getElem?_getD]; try first | (with_reducible refine zZ ?_) | subst hK_) | subst hK_) | (with_reducible first | refine zA ?_ | refine zB ?_ | refine zC ?_ | refine zD ?_ | refine zE ?_ | refine zF ?_ | refine zG ?_ | refine zH ?_ | refine zI ?_ | refine zJ ?_ | refine zK ?_ | refine zL ?_ | refine zM ?_ | refine zN ?_ | refine zO ?_) | ((with_reducible refine yG ?_ ?_); (focus decide)) | ((with_reducible refine yA ?_); refine yB rfl ?_; (with_reducible first | refine yC ?_ | refine yD ?_)))
           simp (maxSteps := 1000000) (disch := refine hold_ ?_; first | (simp [-List.getD_eq_getElem?_getD]; done) | omega) [-List.getD_eq_getElem?_getD])
        | (have hkN : k < N := Nat.lt_of_le_of_ne hk fun e => by simpa using hb e.symm
           repeat (first | ((with_reducible first | refine callK_at 33 ?_); refine callK_p ?_; simp (maxSteps := 1000000) (disch := refine hold_ ?_; first | (simp [hkm, hkz, he, e0, hA1, hB1, hsum, -List.getD_eq_getElem?_getD]; done) | omega) [hkm, hkz, he, e0, hA1, hB1, hsum, -List.getD_eq_getElem?_getD]; (first | refine callK1_of (Fn.ct k33 Tryd.call33) ?_); (try simp (maxSteps := 1000000) (disch := refine hold_ ?_; first | (simp [hkm, hkz, he, e0, hA1, hB1, hsum, -List.getD_eq_getElem?_getD]; done) | omega) [hkm, hkz, he, e0, hA1, hB1, hsum, -List.getD_eq_getElem?_getD]); try first | (with_reducible refine zZ ?_) | subst hK_) | ((first | (with_reducible first | refine zP fun K_ hK_ => ?_ | refine zQ fun K_ hK_ => ?_ | refine zT ?_ | refine zU ?_ | refine zV ?_ | refine zW ?_ | refine zX ?_ | refine zY ?_) | ((with_reducible first | refine zR ?_ ?_ fun K_ hK_ => ?_ | refine zS ?_ ?_ fun K_ hK_ => ?_); (focus kernel_rfl); (focus kernel_rfl))); first | (simp (maxSteps := 1000000) (disch := refine hold_ ?_; first | (simp [hkm, hkz, he, e0, hA1, hB1, hsum, -List.getD_eq_getElem?_getD]; done) | omega) [hkm, hkz, he, e0, hA1, hB1, hsum, -List.getD_eq_getElem?_getD]; try first | (with_reducible refine zZ ?_) | subst hK_) | subst hK_) | (with_reducible first | refine zA ?_ | refine zB ?_ | refine zC ?_ | refine zD ?_ | refine zE ?_ | refine zF ?_ | refine zG ?_ | refine zH ?_ | refine zI ?_ | refine zJ ?_ | refine zK ?_ | refine zL ?_ | refine zM ?_ | refine zN ?_ | refine zO ?_) | ((with_reducible refine yG ?_ ?_); (focus decide)) | ((with_reducible refine yA ?_); refine yB rfl ?_; (with_reducible first | refine yC ?_ | refine yD ?_)))
           refine ⟨hkN, ?_⟩
           simp (maxSteps := 1000000) (disch := refine hold_ ?_; first | (simp [-List.getD_eq_getElem?_getD]; done) | omega) [-List.getD_eq_getElem?_getD])
  · have hkz : ¬ (k : Int) < l.length := by omega
    have hkN : N = l.length := by omega
    rw [decide_eq_true hkN, Bool.and_true]
    by_cases h4 : l.length ≤ 4000
    · have hz : ¬ (4000 : Int) < l.length := by omega
      rw [decide_eq_true h4]
      repeat (first | ((first | (with_reducible first | refine zP fun K_ hK_ => ?_ | refine zQ fun K_ hK_ => ?_ | refine zT ?_ | refine zU ?_ | refine zV ?_ | refine zW ?_ | refine zX ?_ | refine zY ?_) | ((with_reducible first | refine zR ?_ ?_ fun K_ hK_ => ?_ | refine zS ?_ ?_ fun K_ hK_ => ?_); (focus kernel_rfl); (focus kernel_rfl))); first | (simp (maxSteps := 1000000) (disch := refine hold_ ?_; first | (simp [hkz, hz, -List.getD_eq_getElem?_getD]; done) | omega) [hkz, hz, -List.getD_eq_getElem?_getD]; try first | (with_reducible refine zZ ?_) | subst hK_) | subst hK_) | (with_reducible first | refine zA ?_ | refine zB ?_ | refine zC ?_ | refine zD ?_ | refine zE ?_ | refine zF ?_ | refine zG ?_ | refine zH ?_ | refine zI ?_ | refine zJ ?_ | refine zK ?_ | refine zL ?_ | refine zM ?_ | refine zN ?_ | refine zO ?_) | ((with_reducible refine yG ?_ ?_); (focus decide)) | ((with_reducible refine yA ?_); refine yB rfl ?_; (with_reducible first | refine yC ?_ | refine yD ?_)))
      all_goals (try simp (maxSteps := 1000000) (disch := refine hold_ ?_; first | (simp [-List.getD_eq_getElem?_getD]; done) | omega) [-List.getD_eq_getElem?_getD])
    · have hz : (4000 : Int) < l.length := by omega
      rw [decide_eq_false h4]
      repeat (first | ((first | (with_reducible first | refine zP fun K_ hK_ => ?_ | refine zQ fun K_ hK_ => ?_ | refine zT ?_ | refine zU ?_ | refine zV ?_ | refine zW ?_ | refine zX ?_ | refine zY ?_) | ((with_reducible first | refine zR ?_ ?_ fun K_ hK_ => ?_ | refine zS ?_ ?_ fun K_ hK_ => ?_); (focus kernel_rfl); (focus kernel_rfl))); first | (simp (maxSteps := 1000000) (disch := refine hold_ ?_; first | (simp [hkz, hz, -List.getD_eq_getElem?_getD]; done) | omega) [hkz, hz, -List.getD_eq_getElem?_getD]; try first | (with_reducible refine zZ ?_) | subst hK_) | subst hK_) | (with_reducible first | refine zA ?_ | refine zB ?_ | refine zC ?_ | refine zD ?_ | refine zE ?_ | refine zF ?_ | refine zG ?_ | refine zH ?_ | refine zI ?_ | refine zJ ?_ | refine zK ?_ | refine zL ?_ | refine zM ?_ | refine zN ?_ | refine zO ?_) | ((with_reducible refine yG ?_ ?_); (focus decide)) | ((with_reducible refine yA ?_); refine yB rfl ?_; (with_reducible first | refine yC ?_ | refine yD ?_)))
      all_goals (try simp (maxSteps := 1000000) (disch := refine hold_ ?_; first | (simp [-List.getD_eq_getElem?_getD]; done) | omega) [-List.getD_eq_getElem?_getD])
end Go.Av.Doc
end
