/- What the walk over this seat's program leans on, part 5 of 5: values without addresses, and what each operation, region, loop and call does to them. Conditions: none. -/
import Derived.Test.YtdbojjoffmbjcaaGreatDoorAv4
import Derived.Lib.Overlaps
section
set_option linter.unusedVariables false
set_option linter.unusedSimpArgs false
set_option linter.unusedSectionVars false
namespace Go.Av
section
variable [Tables]
variable {P : Program} {ops : Array Oper} {G0 G : Gh} {w0 w : World} {σ : St} {a : Act}
end
end Go.Av
end
section
set_option linter.unusedVariables false
set_option linter.unusedSimpArgs false
set_option linter.unusedSectionVars false
namespace Go.Av
structure SameW (w' w1 : World) : Prop where
  heap : w'.heap = w1.heap
  os : w'.os = w1.os
  tape : w'.tape = w1.tape
  output : w'.output = w1.output
theorem ext_same {G G' : Gh} {w w1 w2 : World} (hh : SameW w2 w1) (k : Ext G w G' w1) : Ext G w G' w2 := by
  obtain ⟨h1, h2, h3, h4⟩ := hh
  exact ⟨h2.trans k.os, h3.trans k.tape, h4.trans k.output, by rw [h1]; exact k.size, fun b hb hs => by rw [h1]; exact k.free b hb hs,
    fun b o v hb hv => by rw [pm_heap h1]; exact k.row b o v hb hv, fun b x hx => by simp only [World.shape?, h1]; exact k.shp b x hx⟩
end Go.Av
end
section
set_option linter.unusedVariables false
set_option linter.unusedSimpArgs false
set_option linter.unusedSectionVars false
namespace Go.Av
section
variable {P : Program} {G : Gh} {h : HT} {w : World}
theorem upd_upd {α : Type} (l : List (Nat × α)) (n : Nat) (x y : α) : upd (upd l n x) n y = upd l n y := by
  induction l with
  | nil => simp [upd]
  | cons p l ih =>
    obtain ⟨k, v⟩ := p
    by_cases hk : k = n
    · simp [upd, hk]
    · simp [upd, hk, ih]
end
section
variable [Tables] {P : Program} {ops : Array Oper} {σ : St}
def XS (P : Program) (ops : Array Oper) (n : Nat) (σ : St) (K : St → Prop) : Prop :=
  ∀ (G0 : Gh) (w0 : World) (G : Gh) (a : Act) (w : World) (Q : Exit → Act → World → Prop) (next : Act → World → Prop), Rl G0 w0 σ G a w → (∀ σ' G' a' w', K σ' → Rl G0 w0 σ' G' a' w' → next a' w') → wpOp P ops Q n next a w
def runC (P : Program) (ops : Array Oper) : List Nat → Nat → St → (St → Prop) → Prop
  | [], i, σ, K => runE P ops (ops.toList.drop i) σ K
  | n :: ns, i, σ, K => ∀ F : St → Prop, F = (fun σ1 => XS P ops n σ1 fun σ2 => runC P ops ns (n + 1) σ2 K) → runE P ops ((ops.toList.drop i).take (n - i)) σ F
def okC (m : Nat) : List Nat → Nat → Bool
  | [], i => decide (i ≤ m)
  | n :: ns, i => decide (i ≤ n) && decide (n < m) && okC m ns (n + 1)
theorem seg_wpOps {G0 : Gh} {w0 : World} {K : St → Prop} {Q : Exit → Act → World → Prop} {rest : List Nat} (hn : ∀ σ' G' a' w', K σ' → Rl G0 w0 σ' G' a' w' → wpOps P ops Q rest a' w') :
    ∀ (l : List Nat) (os : List Oper) (σ : St) (G : Gh) (a : Act) (w : World), l.length = os.length → (∀ (k i : Nat), l[k]? = some i → ops[i]? = os[k]?) → Rl G0 w0 σ G a w → asteps P ops os σ K →
      wpOps P ops Q (l ++ rest) a w
  | [], os, σ, G, a, w, hl, hi, r, hs => by
    have : os = [] := by cases os <;> simp_all
    subst this
    exact hn _ _ _ _ hs r
  | i :: l, os, σ, G, a, w, hl, hi, r, hs => by
    cases os with
    | nil => simp at hl
    | cons o os =>
      rw [List.cons_append, wpOps_cons]
      have h0 : ops[i]? = some o := by simpa using hi 0 i rfl
      refine gstep_wp h0 r hs ?_
      intro σ' G' a' w' hk r'
      exact seg_wpOps hn l os σ' G' a' w' (by simpa using hl) (fun k i' hk' => by
        have := hi (k + 1) i' (by simpa using hk'); simpa using this) r' hk
theorem runC_wp {G0 : Gh} {w0 : World} {K : St → Prop} {Q : Exit → Act → World → Prop} (hn : ∀ σ' G' a' w', K σ' → Rl G0 w0 σ' G' a' w' → Q .normal a' w') :
    ∀ (ns : List Nat) (i : Nat) (σ : St) (G : Gh) (a : Act) (w : World), okC ops.size ns i = true → Rl G0 w0 σ G a w → runC P ops ns i σ K → wpOps P ops Q (List.range' i (ops.size - i)) a w
  | [], i, σ, G, a, w, hok, r, h => by
    have h1 := seg_wpOps (P := P) (ops := ops) (rest := []) (Q := Q) (fun σ' G' a' w' hk r' => hn σ' G' a' w' hk r') (List.range' i (ops.size - i)) (ops.toList.drop i) σ G a w (by simp) (by
      intro k j hk
      obtain ⟨h1, h2⟩ := List.getElem?_eq_some_iff.1 hk
      simp only [List.getElem_range', Nat.one_mul] at h2
      subst h2
      rw [List.getElem?_drop, Array.getElem?_toList]) r (runE_asteps _ _ _ h)
    simpa using h1
  | n :: ns, i, σ, G, a, w, hok, r, h => by
    simp only [okC, Bool.and_eq_true, decide_eq_true_eq] at hok
    obtain ⟨⟨h1, h2⟩, h3⟩ := hok
    have hs : List.range' i (ops.size - i) = List.range' i (n - i) ++ n :: List.range' (n + 1) (ops.size - (n + 1)) := by
      have e : ops.size - i = (n - i) + (1 + (ops.size - (n + 1))) := by omega
      rw [e, ← List.range'_append_1, ← List.range'_append_1, show i + (n - i) = n by omega]
      rfl
    rw [hs]
    refine seg_wpOps (K := fun σ1 => XS P ops n σ1 fun σ2 => runC P ops ns (n + 1) σ2 K) ?_ _ ((ops.toList.drop i).take (n - i)) σ G a w (by simp; omega) ?_ r (runE_asteps _ _ _ (h _ rfl))
    · intro σ' G' a' w' hk r'
      rw [wpOps_cons]
      exact hk G0 w0 G' a' w' Q _ r' fun σ2 G2 a2 w2 hk2 r2 => runC_wp hn ns (n + 1) σ2 G2 a2 w2 h3 r2 hk2
    · intro k j hk
      obtain ⟨q1, q2⟩ := List.getElem?_eq_some_iff.1 hk
      simp only [List.getElem_range', Nat.one_mul] at q2
      simp only [List.length_range'] at q1
      subst q2
      rw [List.getElem?_take, if_pos q1, List.getElem?_drop, Array.getElem?_toList]
theorem AW.regC {id : Nat} {Q : Exit → St → Prop} (ns : List Nat) (hok : okC ops.size ns 0 = true) (h : runC P ops ns 0 σ (Q .normal)) : AW P (.region id ops false) Q σ := by
  intro G0 w0 G a w hst r
  refine wp_region ?_
  have := runC_wp (K := Q .normal) (Q := fun e a' w' => ∃ σ' G', Q e σ' ∧ Rl G0 w0 σ' G' a' w') (fun σ' G' a' w' hk r' => ⟨σ', G', hk, r'⟩) ns 0 σ G a w hok r h
  rw [List.range_eq_range']
  simpa using this
theorem AW.regCSeq {id : Nat} {y : Code} {Q : Exit → St → Prop} (ns : List Nat) (hok : okC ops.size ns 0 = true) (h : ∀ L, L = AW P y Q → runC P ops ns 0 σ L) : AW P (.seq (.region id ops false) y) Q σ :=
  AW.seq (AW.regC ns hok (h _ rfl))
variable {n : Nat} {o : Oper} {K : St → Prop}
theorem XS.own {t len : Nat} {ps : Array (Nat × Operand)} (hi : ops[n]? = some o) (hg : o.guard = none) (hop : o.op = .buildSlice t len ps) (h : ownStep P o t len ps σ K) : XS P ops n σ K :=
  fun _ _ _ _ _ _ _ r hn => ownStep_wp hi hg hop r h hn
end
end Go.Av
end
section
set_option linter.unusedVariables false
set_option linter.unusedSimpArgs false
set_option linter.unusedSectionVars false
namespace Go.Av
def jnkV (d : Nat) (x : V) : V := if x.leads (onlyK d) = true then .junk else x
def jnkHB (d : Nat) : HB → HB
  | .cells l => .cells (l.map (jnkV d))
  | .row r => .row r
  | .iter s n => .iter s n
def dropL (d : Nat) : List (Nat × (Nat × HB)) → List (Nat × (Nat × HB))
  | [] => []
  | (id, (c, hb)) :: l => if id = d then dropL d l else (id, (c, jnkHB d hb)) :: dropL d l
def rwzV (d ver n cap : Nat) (y : V) (x : V) : V :=
  match x with
  | .own id v off len c => if id = d then (if v = ver ∧ off = 0 ∧ len = n ∧ c = cap then y else .junk) else x
  | x => jnkV d x
section
variable {G : Gh} {h : HT} {w : World} {d : Nat}
end
section
variable [Tables] {P : Program} {c : Code} {Q : Exit → St → Prop}
end
section
variable (d ver n cap : Nat) (y : V)
@[simp] theorem rwzV_junk : rwzV d ver n cap y .junk = .junk := rfl
@[simp] theorem rwzV_p (x : PV) : rwzV d ver n cap y (.p x) = .p x := rfl
@[simp] theorem rwzV_row (r : Row PV) (t v : Nat) (nl : Bool) : rwzV d ver n cap y (.row r t v nl) = .row r t v nl := rfl
@[simp] theorem rwzV_own (id v off len c : Nat) : rwzV d ver n cap y (.own id v off len c) = if id = d then (if v = ver ∧ off = 0 ∧ len = n ∧ c = cap then y else .junk) else .own id v off len c := rfl
@[simp] theorem rwzV_ptr (id v off : Nat) : rwzV d ver n cap y (.ptr id v off) = if id = d then .junk else .ptr id v off := by simp [rwzV, jnkV, V.leads]
@[simp] theorem rwzV_bnd (f id v off : Nat) : rwzV d ver n cap y (.bnd f id v off) = if id = d then .junk else .bnd f id v off := by simp [rwzV, jnkV, V.leads]
@[simp] theorem rwzV_tup (l : List V) : rwzV d ver n cap y (.tup l) = if V.leadsL (onlyK d) l = true then .junk else .tup l := by simp only [rwzV, jnkV, V.leads]; congr
@[simp] theorem rwzV_agg (l : List V) : rwzV d ver n cap y (.agg l) = if V.leadsL (onlyK d) l = true then .junk else .agg l := by simp only [rwzV, jnkV, V.leads]; congr
end
attribute [simp] dropL jnkHB
def plainV : V → V
  | .row r _ _ nl => .p (.sl r nl)
  | x => x
theorem plain_rep {G : Gh} {h : HT} {w : World} {x : V} {v : Value} (r : Rep G h w x v) : Rep G h w (plainV x) v := by
  cases r with
  | row r t ver cur nl a cap hc hle hr ht => exact .p hr
  | junk v => exact .junk v
  | p r => exact .p r
  | own id ver off len cap cur hb v hc hle hv => exact .own _ _ _ _ _ _ _ _ hc hle hv
  | ptr id ver off cur hb v hc hle hv => exact .ptr _ _ _ _ _ _ hc hle hv
  | adr id ver off e n cur hb v hc hle hv => exact .adr _ _ _ _ _ _ _ _ hc hle hv
  | bnd f id ver off cur hb v hc hle hv => exact .bnd _ _ _ _ _ _ _ hc hle hv
  | brow e r t ver nl v hr hty => exact .brow _ _ _ _ _ _ hr hty
  | agg l vs f hs hf h1 hr => exact .agg _ _ _ hs hf h1 hr
  | tup l vs f hs hf hr => exact .tup _ _ _ hs hf hr
section
variable [Tables] {P : Program} {f : FuncId} {E : List V} {h : HT} {d : Nat} {F : V → HT → Prop}
open Classical in
end
section
variable (r : Row PV) (t v : Nat) (nl : Bool)
@[simp] theorem plainV_row : plainV (.row r t v nl) = .p (.sl r nl) := rfl
@[simp] theorem plainV_p (x : PV) : plainV (.p x) = .p x := rfl
@[simp] theorem plainV_ptr (a b c : Nat) : plainV (.ptr a b c) = .ptr a b c := rfl
@[simp] theorem plainV_own (a b c d e : Nat) : plainV (.own a b c d e) = .own a b c d e := rfl
end
section
variable [Tables] {P : Program} {ops : Array Oper} {σ : St} {Q : Exit → St → Prop}
theorem AW.regCAt (id : Nat) {y : Code} (ns : List Nat) (hok : okC ops.size ns 0 = true) (h : ∀ L, L = AW P y Q → runC P ops ns 0 σ L) : AW P (.seq (.region id ops false) y) Q σ := AW.regCSeq ns hok h
theorem AW.regCAt1 (id : Nat) (ns : List Nat) (hok : okC ops.size ns 0 = true) (h : ∀ L, L = Q .normal → runC P ops ns 0 σ L) : AW P (.region id ops false) Q σ := AW.regC ns hok (h _ rfl)
theorem runC_cons {n : Nat} {ns : List Nat} {i : Nat} {K : St → Prop} (h : ∀ F : St → Prop, F = (fun σ1 => XS P ops n σ1 fun σ2 => runC P ops ns (n + 1) σ2 K) → runE P ops ((ops.toList.drop i).take (n - i)) σ F) : runC P ops (n :: ns) i σ K := h
theorem runC_nil {i : Nat} {K : St → Prop} (h : runE P ops (ops.toList.drop i) σ K) : runC P ops [] i σ K := h
theorem XS_at (n : Nat) {K : St → Prop} (h : XS P ops n σ K) : XS P ops n σ K := h
end
section
variable [Tables] {P : Program} {ops : Array Oper} {s : List V} {h : HT}
end
section
variable [Tables] {P : Program} {ops : Array Oper} {σ : St} {Q : Exit → St → Prop}
end
section
variable [Tables] {P : Program} {σ : St} {Q : Exit → St → Prop}
end
end Go.Av
end
section
set_option linter.unusedVariables false
set_option linter.unusedSimpArgs false
set_option linter.unusedSectionVars false
namespace Go.Av
section
variable [Tables] {P : Program} {ops : Array Oper} {K : St → Prop}
end
end Go.Av
end
section
set_option linter.unusedVariables false
set_option linter.unusedSimpArgs false
set_option linter.unusedSectionVars false
namespace Go.Av
section
variable {G : Gh} {h : HT} {w : World} {d : Nat}
end
section
variable [Tables] {P : Program} {ops : Array Oper} {s : List V} {h : HT}
theorem XS.flat {n : Nat} (d : Nat) {K : St → Prop} (hx : XS P ops n ⟨s.set d (plainV (s.getD d .junk)), h⟩ K) : XS P ops n ⟨s, h⟩ K := by
  intro G0 w0 G a w Q next rl hn
  refine hx G0 w0 G a w Q next ⟨rl.defers, by simpa using rl.size, ?_, rl.wf, rl.ext, rl.ids, rl.glob⟩ hn
  intro i hi
  simp only [List.length_set] at hi
  have := rl.slots i hi
  by_cases hd : d = i
  · subst hd
    have e : (s.set d (plainV (s.getD d .junk))).getD d .junk = plainV (s.getD d .junk) := by
      simp [List.getD_eq_getElem?_getD, hi]
    have h2 := plain_rep this
    rw [← e] at h2; exact h2
  · have e : (s.set d (plainV (s.getD d .junk))).getD i .junk = s.getD i .junk := by simp [List.getD_eq_getElem?_getD, List.getElem?_set_ne hd]
    have h2 := this
    rw [← e] at h2; exact h2
end
@[simp] theorem jnkV_p (d : Nat) (x : PV) : jnkV d (.p x) = .p x := by simp [jnkV, V.leads]
@[simp] theorem jnkV_row (d : Nat) (r : Row PV) (t v : Nat) (nl : Bool) : jnkV d (.row r t v nl) = .row r t v nl := by simp [jnkV, V.leads]
@[simp] theorem jnkV_junk (d : Nat) : jnkV d .junk = .junk := by simp [jnkV, V.leads]
end Go.Av
end
section
set_option linter.unusedVariables false
set_option linter.unusedSimpArgs false
set_option linter.unusedSectionVars false
namespace Go.Av
def frzVB (K : Nat → Bool) (H : List (Nat × (Nat × HB))) (x : V) : V :=
  if x.leads K = true then optV (deep K H 600 x) else x
def frzHBB (K : Nat → Bool) (H : List (Nat × (Nat × HB))) : HB → HB
  | .cells l => .cells (l.map (frzVB K H))
  | .row r => .row r
  | .iter s n => .iter s n
def frzLB (K : Nat → Bool) (H : List (Nat × (Nat × HB))) : List (Nat × (Nat × HB)) → List (Nat × (Nat × HB))
  | [] => []
  | (id, (c, hb)) :: l => if K id = true then frzLB K H l else (id, (c, frzHBB K H hb)) :: frzLB K H l
section
variable {G : Gh} {h : HT} {w : World} {K : Nat → Bool}
end
section
variable [Tables] {P : Program} {c : Code} {Q : Exit → St → Prop}
end
section
variable (K : Nat → Bool) (H : List (Nat × (Nat × HB)))
@[simp] theorem frzVB_p (x : PV) : frzVB K H (.p x) = .p x := rfl
@[simp] theorem frzVB_row (r : Row PV) (t v : Nat) (nl : Bool) : frzVB K H (.row r t v nl) = .row r t v nl := rfl
@[simp] theorem frzVB_junk : frzVB K H .junk = .junk := rfl
@[simp] theorem frzVB_own (id ver off len cap : Nat) : frzVB K H (.own id ver off len cap) = if K id = true then optV (deep K H 600 (.own id ver off len cap)) else .own id ver off len cap := by unfold frzVB; simp only [V.leads]; congr
@[simp] theorem frzVB_ptr (id ver off : Nat) : frzVB K H (.ptr id ver off) = if K id = true then optV (deep K H 600 (.ptr id ver off)) else .ptr id ver off := by unfold frzVB; simp only [V.leads]; congr
@[simp] theorem frzVB_agg (l : List V) : frzVB K H (.agg l) = if V.leadsL K l = true then optV (deep K H 600 (.agg l)) else .agg l := by unfold frzVB; simp only [V.leads]; congr
@[simp] theorem frzVB_tup (l : List V) : frzVB K H (.tup l) = if V.leadsL K l = true then .junk else .tup l := by
  simp only [frzVB, V.leads]; rw [show (600 : Nat) = 599 + 1 from rfl, deep]; rfl
end
attribute [simp] frzLB frzHBB
end Go.Av
end
section
set_option linter.unusedVariables false
set_option linter.unusedSimpArgs false
set_option linter.unusedSectionVars false
namespace Go.Av
def convX (P : Program) (s t : TypeId) (x : V) (h : HT) (d c : Nat) : Option (V × HT) :=
  match x with
  | .p (.str b) => if isBytes P t = true ∧ (P.underlying s).isSome = true then
      some (.own d (nextVer h.H d) 0 b.size (b.size + c), ⟨upd h.H d (nextVer h.H d, .row (.ints .u8 ((b.data.toList.map fun x : UInt8 => (x.toNat : Int)) ++ List.replicate c 0))), h.T⟩)
    else none
  | _ => none
section
variable {P : Program} {G : Gh} {h : HT} {w : World}
theorem convX_run {s t d : TypeId} {x : V} {vx : Value} (wf : WF G h w) (hres : ∀ c, (convX P s t x h d c).isSome = true) (rx : Rep G h w x vx) :
    ∃ c res h', convX P s t x h d c = some (res, h') ∧ ∃ v w' G', (convert s t vx).run P w = .ok v w' ∧ Rep G' h' w' res v ∧ Keeps G h w G' h' w' ∧ Ext G w G' w' ∧ WF G' h' w' := by
  have h0 := hres 0
  unfold convX at h0
  split at h0
  · rename_i b
    split at h0
    · rename_i hc
      obtain rfl := rx.str
      obtain ⟨e, hu, he⟩ := isBytes_spec hc.1
      obtain ⟨ds, hs⟩ := Option.isSome_iff_exists.1 hc.2
      generalize hcap : grownCap w b.size 0 e = cap
      have hge : b.size ≤ cap := by rw [← hcap]; exact grownCap_ge w b.size 0 e
      obtain ⟨c, hcc⟩ : ∃ c, cap = b.size + c := ⟨cap - b.size, by omega⟩
      generalize hcs : (b.data.map fun c : UInt8 => Value.int .u8 c.toNat) ++ Array.replicate (cap - b.size) (Value.int .u8 0) = cs
      have hsz : cs.size = cap := by rw [← hcs]; simp; omega
      have hcl : cs.toList = ((b.data.toList.map fun x : UInt8 => (x.toNat : Int)) ++ List.replicate c 0).map (Value.int .u8) := by
        rw [← hcs]; simp [hcc]
      generalize hL : (b.data.toList.map fun x : UInt8 => (x.toNat : Int)) ++ List.replicate c 0 = L at hcl
      have hLl : L.length = cap := by rw [← hsz, ← Array.length_toList, hcl, List.length_map]
      have hget : ∀ i, i < cap → cs[i]? = some (.int .u8 (L.getD i 0)) := by
        intro i hi
        rw [← Array.getElem?_toList, hcl, List.getElem?_map, List.getElem?_eq_getElem (by omega), List.getD_eq_getElem?_getD, List.getElem?_eq_getElem (by omega)]; rfl
      refine ⟨c, _, _, by unfold convX; exact if_pos hc, ?_⟩
      rw [hL, ← hcc]
      have hsame : SameW (w.drew.alloc (.cells cs e (cap, cap + 1))) (w.alloc (.cells cs e (cap, cap + 1))) := ⟨rfl, rfl, rfl, rfl⟩
      obtain ⟨k1, e1⟩ := made_keeps wf d (.row (.ints .u8 L)) (.cells cs e (cap, cap + 1))
      have wf1 : WF (G.made w.heap.size d) ⟨upd h.H d (nextVer h.H d, .row (.ints .u8 L)), h.T⟩ (w.alloc (.cells cs e (cap, cap + 1))) := by
        refine made_wf wf d _ _ (HRep.of_cells rfl ⟨cs, e, (cap, cap + 1), alloc_new, by rw [hsz]; exact hLl.symm, ?_, ?_⟩)
        · intro i hi
          have hi : i < cap := by rw [← hLl]; exact hi
          exact ⟨_, hget i hi, rfl, .p (.int _ _)⟩
        · intro i hi
          have hi : i < cap := by rw [← hLl]; exact hi
          have hn : (w.alloc (.cells cs e (cap, cap + 1))).heap[w.heap.size]? = some (.cells cs e (cap, cap + 1)) := alloc_new
          simp only [World.frozen?, hn]
          simp
          omega
      refine ⟨.slice (some ⟨w.heap.size, 0, none⟩) b.size cap, w.drew.alloc (.cells cs e (cap, cap + 1)), G.made w.heap.size d, ?_, ?_, keeps_heap hsame.heap k1, ext_same hsame e1, wf_heap hsame.heap wf1⟩
      · have hmk : (w.drew.alloc (.cells cs e)).freeze ⟨w.heap.size, cap, none⟩ 1 = w.drew.alloc (.cells cs e (cap, cap + 1)) := by
          unfold World.freeze
          rw [if_neg (by omega)]
          simp only [World.alloc]
          congr 1
          apply Array.ext_getElem?
          intro i
          rw [Array.getElem?_modify, Array.getElem?_push, Array.getElem?_push]
          by_cases hi : w.heap.size = i
          · subst hi; simp
          · rw [if_neg hi, if_neg (by simpa using Ne.symm hi), if_neg (by simpa using Ne.symm hi)]
        have hshape : (w.drew.alloc (.cells cs e)).shape? w.heap.size = some (e, cap) := by
          unfold World.shape?
          rw [show (w.drew.alloc (.cells cs e)).heap[w.heap.size]? = some (.cells cs e) from alloc_new (w := w.drew)]
          simp [hsz]
        have hcap' : (Question.appendCap b.size 0 e).cut (w.tape w.drawn (.appendCap b.size 0 e)) = cap := hcap
        simp only [convert, run_underlying hu, run_underlying hs, run_underlying he, Sem.run_bind, Result.andThen_ok, Conv.stringToBytes, run_choose, Question.forced, Bool.false_eq_true, if_false, hcap', newRow, run_newObj, Sem.run_pure, World.drew_eq, World.alloc_eq, World.size_drew, hcs, markStringish, run_shape, hshape, run_freeze, hmk]
      · refine .own _ _ _ _ _ _ _ _ (look_upd_same _ _ _) (Nat.le_refl _) (fun _ => ?_)
        simp only [Gh.made, if_pos]
    · simp at h0
  · simp at h0
end
section
variable [Tables] {P : Program} {ops : Array Oper} {σ : St} {n : Nat} {o : Oper} {K : St → Prop}
theorem XS.conv {s t : TypeId} {x : Operand} (hi : ops[n]? = some o) (hg : o.guard = none) (hop : o.op = .convert s t x)
    (h : ∀ c, bindO (convX P s t (σ.eval x) σ.h (o.dst.getD 0) c) fun v h' => K (σ.put o.dst v h')) : XS P ops n σ K := by
  intro G0 w0 G a w Q next r hn
  have hsome : ∀ c, ∃ v h', convX P s t (σ.eval x) σ.h (o.dst.getD 0) c = some (v, h') ∧ K (σ.put o.dst v h') := by
    intro c
    have h1 := h c
    cases hv : convX P s t (σ.eval x) σ.h (o.dst.getD 0) c with
    | none => rw [hv] at h1; exact h1.elim
    | some q => rw [hv] at h1; exact ⟨q.1, q.2, rfl, h1⟩
  obtain ⟨c, res, h', hv, hrun⟩ := convX_run (P := P) (d := o.dst.getD 0) r.wf (fun c => by obtain ⟨v, h', e, _⟩ := hsome c; rw [e]; rfl) (r.eval x)
  obtain ⟨v2, h2, e2, hk⟩ := hsome c
  rw [e2] at hv
  simp only [Option.some.injEq, Prod.mk.injEq] at hv
  obtain ⟨rfl, rfl⟩ := hv
  have hexec : execOp a.eval o = (do pure (.value (← convert s t (a.eval x)))) := by
    unfold execOp
    rw [hop]
  obtain ⟨v', w', G', hr, x1, x2, x3, x4⟩ := Done.turn (a := a) (o := o) hexec hrun
  unfold wpOp
  rw [hi]
  simp only
  have hw : Region.wanted o (yielded ops a.tmps) = true := by simp [Region.wanted, hg]
  rw [if_pos hw]
  refine .inl ?_
  unfold Oper.wp
  rcases hr with hr | ⟨hr, rfl⟩
  · rw [hr, Oper.upon_value]
    exact hn _ _ _ _ hk (r.put o.dst x2 x1 x4 x3)
  · rw [hr, Oper.upon_skip]
    exact hn _ _ _ _ hk (r.put o.dst x2 x1 x4 x3)
end
section
variable [Tables] {P : Program} {ops : Array Oper} {σ : St} {n : Nat} {o : Oper} {K : St → Prop}
theorem XS.ownNil {t u e : TypeId} {x y : Operand} {id ver off len cap : Nat} {r0 : Row PV} (hi : ops[n]? = some o) (hg : o.guard = none) (hop : o.op = .binOp .eql t x y u)
    (hx : σ.eval x = .own id ver off len cap) (hy : σ.eval y = .p (.sl r0 true)) (ht : P.underlying t = some (.slice e)) (hok : okV σ.h.H (.own id ver off len cap) = true)
    (h : K (σ.put o.dst (.p (.bool false)) σ.h)) : XS P ops n σ K := by
  intro G0 w0 G a w Q next r hn
  obtain ⟨hb, hl⟩ := okV_own hok
  have rx := r.eval x
  have ry := r.eval y
  rw [hx] at rx
  rw [hy] at ry
  have ex := rx.at_own hl rfl
  have ey : a.eval y = .slice none 0 0 := by
    generalize a.eval y = z at ry
    cases ry with | p ry => cases ry; rfl
  have he : (Op.equal t (.slice (some ⟨G.ι id, off, none⟩) len cap) (.slice none 0 0)).run P w = .ok false w := eqIn_slice_r ht 9999 _ _ _ _ _
  have hgd : (eqGuard .eql t x y (.slice (some ⟨G.ι id, off, none⟩) len cap) (.slice none 0 0)).run P w = .ok () w := by unfold eqGuard; simp
  have hd : Done P a o w G σ.h (.p (.bool false)) σ.h := by
    refine Done.still (s := do eqGuard .eql t x y (a.eval x) (a.eval y); binOp .eql t (a.eval x) (a.eval y)) r.wf (by unfold execOp; rw [hop]) ⟨.bool false, ?_, .p (.bool _)⟩
    rw [ex, ey]
    simp [binOp, he, hgd]
  obtain ⟨v', w', G', hr, x1, x2, x3, x4⟩ := hd
  unfold wpOp
  rw [hi]
  simp only
  have hw : Region.wanted o (yielded ops a.tmps) = true := by simp [Region.wanted, hg]
  rw [if_pos hw]
  refine .inl ?_
  unfold Oper.wp
  rcases hr with hr | ⟨hr, rfl⟩
  · rw [hr, Oper.upon_value]
    exact hn _ _ _ _ h (r.put o.dst x2 x1 x4 x3)
  · rw [hr, Oper.upon_skip]
    exact hn _ _ _ _ h (r.put o.dst x2 x1 x4 x3)
end
attribute [simp] convX
theorem conv_txt (l : List (BitVec 8)) (c : Nat) : ((txt l).data.toList.map fun x : UInt8 => (x.toNat : Int)) ++ List.replicate c 0 = (l ++ List.replicate c 0#8).map ub := by
  rw [txt_list, List.map_map, List.map_append, List.map_replicate]
  congr 1
end Go.Av
end
