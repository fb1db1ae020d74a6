/- What the walk over this seat's program leans on, part 5 of 5: values without addresses, and what each operation, region, loop and call does to them. Conditions: none. -/
import Derived.Test.YtdbojjoffmbjcaaDoorAv4
import Derived.Lib.Overlaps
section
set_option linter.unusedVariables false
set_option linter.unusedSimpArgs false
set_option linter.unusedSectionVars false
namespace Go.Av
section
variable [Tables]
variable {P : Program} {ops : Array Oper} {G0 G : Gh} {w0 w : World} {σ : St} {a : Act}
end
end Go.Av
end
section
set_option linter.unusedVariables false
set_option linter.unusedSimpArgs false
set_option linter.unusedSectionVars false
namespace Go.Av
structure SameW (w' w1 : World) : Prop where
  heap : w'.heap = w1.heap
  os : w'.os = w1.os
  tape : w'.tape = w1.tape
  output : w'.output = w1.output
theorem ext_same {G G' : Gh} {w w1 w2 : World} (hh : SameW w2 w1) (k : Ext G w G' w1) : Ext G w G' w2 := by
  obtain ⟨h1, h2, h3, h4⟩ := hh
  exact ⟨h2.trans k.os, h3.trans k.tape, h4.trans k.output, by rw [h1]; exact k.size, fun b hb hs => by rw [h1]; exact k.free b hb hs,
    fun b o v hb hv => by rw [pm_heap h1]; exact k.row b o v hb hv, fun b x hx => by simp only [World.shape?, h1]; exact k.shp b x hx⟩
end Go.Av
end
section
set_option linter.unusedVariables false
set_option linter.unusedSimpArgs false
set_option linter.unusedSectionVars false
namespace Go.Av
section
variable {P : Program} {G : Gh} {h : HT} {w : World}
end
section
variable [Tables] {P : Program} {ops : Array Oper} {σ : St}
def XS (P : Program) (ops : Array Oper) (n : Nat) (σ : St) (K : St → Prop) : Prop :=
  ∀ (G0 : Gh) (w0 : World) (G : Gh) (a : Act) (w : World) (Q : Exit → Act → World → Prop) (next : Act → World → Prop), Rl G0 w0 σ G a w → (∀ σ' G' a' w', K σ' → Rl G0 w0 σ' G' a' w' → next a' w') → wpOp P ops Q n next a w
variable {n : Nat} {o : Oper} {K : St → Prop}
theorem XS.own {t len : Nat} {ps : Array (Nat × Operand)} (hi : ops[n]? = some o) (hg : o.guard = none) (hop : o.op = .buildSlice t len ps) (h : ownStep P o t len ps σ K) : XS P ops n σ K :=
  fun _ _ _ _ _ _ _ r hn => ownStep_wp hi hg hop r h hn
end
end Go.Av
end
section
set_option linter.unusedVariables false
set_option linter.unusedSimpArgs false
set_option linter.unusedSectionVars false
namespace Go.Av
def jnkV (d : Nat) (x : V) : V := if x.leads (onlyK d) = true then .junk else x
def jnkHB (d : Nat) : HB → HB
  | .cells l => .cells (l.map (jnkV d))
  | .row r => .row r
  | .iter s n => .iter s n
def dropL (d : Nat) : List (Nat × (Nat × HB)) → List (Nat × (Nat × HB))
  | [] => []
  | (id, (c, hb)) :: l => if id = d then dropL d l else (id, (c, jnkHB d hb)) :: dropL d l
def rwzV (d ver n cap : Nat) (y : V) (x : V) : V :=
  match x with
  | .own id v off len c => if id = d then (if v = ver ∧ off = 0 ∧ len = n ∧ c = cap then y else .junk) else x
  | x => jnkV d x
section
variable {G : Gh} {h : HT} {w : World} {d : Nat}
end
section
variable [Tables] {P : Program} {c : Code} {Q : Exit → St → Prop}
end
section
variable (d ver n cap : Nat) (y : V)
@[simp] theorem rwzV_junk : rwzV d ver n cap y .junk = .junk := rfl
@[simp] theorem rwzV_p (x : PV) : rwzV d ver n cap y (.p x) = .p x := rfl
@[simp] theorem rwzV_row (r : Row PV) (t v : Nat) (nl : Bool) : rwzV d ver n cap y (.row r t v nl) = .row r t v nl := rfl
@[simp] theorem rwzV_own (id v off len c : Nat) : rwzV d ver n cap y (.own id v off len c) = if id = d then (if v = ver ∧ off = 0 ∧ len = n ∧ c = cap then y else .junk) else .own id v off len c := rfl
@[simp] theorem rwzV_ptr (id v off : Nat) : rwzV d ver n cap y (.ptr id v off) = if id = d then .junk else .ptr id v off := by simp [rwzV, jnkV, V.leads]
@[simp] theorem rwzV_bnd (f id v off : Nat) : rwzV d ver n cap y (.bnd f id v off) = if id = d then .junk else .bnd f id v off := by simp [rwzV, jnkV, V.leads]
@[simp] theorem rwzV_tup (l : List V) : rwzV d ver n cap y (.tup l) = if V.leadsL (onlyK d) l = true then .junk else .tup l := by simp only [rwzV, jnkV, V.leads]; congr
@[simp] theorem rwzV_agg (l : List V) : rwzV d ver n cap y (.agg l) = if V.leadsL (onlyK d) l = true then .junk else .agg l := by simp only [rwzV, jnkV, V.leads]; congr
end
attribute [simp] dropL jnkHB
def plainV : V → V
  | .row r _ _ nl => .p (.sl r nl)
  | x => x
theorem plain_rep {G : Gh} {h : HT} {w : World} {x : V} {v : Value} (r : Rep G h w x v) : Rep G h w (plainV x) v := by
  cases r with
  | row r t ver cur nl a cap hc hle hr ht => exact .p hr
  | junk v => exact .junk v
  | p r => exact .p r
  | own id ver off len cap cur hb v hc hle hv => exact .own _ _ _ _ _ _ _ _ hc hle hv
  | ptr id ver off cur hb v hc hle hv => exact .ptr _ _ _ _ _ _ hc hle hv
  | adr id ver off e n cur hb v hc hle hv => exact .adr _ _ _ _ _ _ _ _ hc hle hv
  | bnd f id ver off cur hb v hc hle hv => exact .bnd _ _ _ _ _ _ _ hc hle hv
  | brow e r t ver nl v hr hty => exact .brow _ _ _ _ _ _ hr hty
  | agg l vs f hs hf h1 hr => exact .agg _ _ _ hs hf h1 hr
  | tup l vs f hs hf hr => exact .tup _ _ _ hs hf hr
section
variable [Tables] {P : Program} {f : FuncId} {E : List V} {h : HT} {d : Nat} {F : V → HT → Prop}
open Classical in
end
section
variable (r : Row PV) (t v : Nat) (nl : Bool)
@[simp] theorem plainV_row : plainV (.row r t v nl) = .p (.sl r nl) := rfl
@[simp] theorem plainV_p (x : PV) : plainV (.p x) = .p x := rfl
@[simp] theorem plainV_ptr (a b c : Nat) : plainV (.ptr a b c) = .ptr a b c := rfl
@[simp] theorem plainV_own (a b c d e : Nat) : plainV (.own a b c d e) = .own a b c d e := rfl
end
section
variable [Tables] {P : Program} {ops : Array Oper} {σ : St} {Q : Exit → St → Prop}
end
section
variable [Tables] {P : Program} {ops : Array Oper} {s : List V} {h : HT}
end
section
variable [Tables] {P : Program} {ops : Array Oper} {σ : St} {Q : Exit → St → Prop}
end
section
variable [Tables] {P : Program} {σ : St} {Q : Exit → St → Prop}
end
end Go.Av
end
section
set_option linter.unusedVariables false
set_option linter.unusedSimpArgs false
set_option linter.unusedSectionVars false
namespace Go.Av
section
variable [Tables] {P : Program} {ops : Array Oper} {K : St → Prop}
end
end Go.Av
end
section
set_option linter.unusedVariables false
set_option linter.unusedSimpArgs false
set_option linter.unusedSectionVars false
namespace Go.Av
section
variable {G : Gh} {h : HT} {w : World} {d : Nat}
end
section
variable [Tables] {P : Program} {ops : Array Oper} {s : List V} {h : HT}
theorem XS.flat {n : Nat} (d : Nat) {K : St → Prop} (hx : XS P ops n ⟨s.set d (plainV (s.getD d .junk)), h⟩ K) : XS P ops n ⟨s, h⟩ K := by
  intro G0 w0 G a w Q next rl hn
  refine hx G0 w0 G a w Q next ⟨rl.defers, by simpa using rl.size, ?_, rl.wf, rl.ext, rl.ids, rl.glob⟩ hn
  intro i hi
  simp only [List.length_set] at hi
  have := rl.slots i hi
  by_cases hd : d = i
  · subst hd
    have e : (s.set d (plainV (s.getD d .junk))).getD d .junk = plainV (s.getD d .junk) := by
      simp [List.getD_eq_getElem?_getD, hi]
    have h2 := plain_rep this
    rw [← e] at h2; exact h2
  · have e : (s.set d (plainV (s.getD d .junk))).getD i .junk = s.getD i .junk := by simp [List.getD_eq_getElem?_getD, List.getElem?_set_ne hd]
    have h2 := this
    rw [← e] at h2; exact h2
end
@[simp] theorem jnkV_p (d : Nat) (x : PV) : jnkV d (.p x) = .p x := by simp [jnkV, V.leads]
@[simp] theorem jnkV_row (d : Nat) (r : Row PV) (t v : Nat) (nl : Bool) : jnkV d (.row r t v nl) = .row r t v nl := by simp [jnkV, V.leads]
@[simp] theorem jnkV_junk (d : Nat) : jnkV d .junk = .junk := by simp [jnkV, V.leads]
end Go.Av
end
section
set_option linter.unusedVariables false
set_option linter.unusedSimpArgs false
set_option linter.unusedSectionVars false
namespace Go.Av
def frzVB (K : Nat → Bool) (H : List (Nat × (Nat × HB))) (x : V) : V :=
  if x.leads K = true then optV (deep K H 600 x) else x
def frzHBB (K : Nat → Bool) (H : List (Nat × (Nat × HB))) : HB → HB
  | .cells l => .cells (l.map (frzVB K H))
  | .row r => .row r
  | .iter s n => .iter s n
def frzLB (K : Nat → Bool) (H : List (Nat × (Nat × HB))) : List (Nat × (Nat × HB)) → List (Nat × (Nat × HB))
  | [] => []
  | (id, (c, hb)) :: l => if K id = true then frzLB K H l else (id, (c, frzHBB K H hb)) :: frzLB K H l
section
variable {G : Gh} {h : HT} {w : World} {K : Nat → Bool}
end
section
variable [Tables] {P : Program} {c : Code} {Q : Exit → St → Prop}
end
section
variable (K : Nat → Bool) (H : List (Nat × (Nat × HB)))
@[simp] theorem frzVB_p (x : PV) : frzVB K H (.p x) = .p x := rfl
@[simp] theorem frzVB_row (r : Row PV) (t v : Nat) (nl : Bool) : frzVB K H (.row r t v nl) = .row r t v nl := rfl
@[simp] theorem frzVB_junk : frzVB K H .junk = .junk := rfl
@[simp] theorem frzVB_own (id ver off len cap : Nat) : frzVB K H (.own id ver off len cap) = if K id = true then optV (deep K H 600 (.own id ver off len cap)) else .own id ver off len cap := by unfold frzVB; simp only [V.leads]; congr
@[simp] theorem frzVB_ptr (id ver off : Nat) : frzVB K H (.ptr id ver off) = if K id = true then optV (deep K H 600 (.ptr id ver off)) else .ptr id ver off := by unfold frzVB; simp only [V.leads]; congr
@[simp] theorem frzVB_agg (l : List V) : frzVB K H (.agg l) = if V.leadsL K l = true then optV (deep K H 600 (.agg l)) else .agg l := by unfold frzVB; simp only [V.leads]; congr
@[simp] theorem frzVB_tup (l : List V) : frzVB K H (.tup l) = if V.leadsL K l = true then .junk else .tup l := by
  simp only [frzVB, V.leads]; rw [show (600 : Nat) = 599 + 1 from rfl, deep]; rfl
end
attribute [simp] frzLB frzHBB
end Go.Av
end
section
set_option linter.unusedVariables false
set_option linter.unusedSimpArgs false
set_option linter.unusedSectionVars false
namespace Go.Av
def convX (P : Program) (s t : TypeId) (x : V) (h : HT) (d c : Nat) : Option (V × HT) :=
  match x with
  | .p (.str b) => if isBytes P t = true ∧ (P.underlying s).isSome = true then
      some (.own d (nextVer h.H d) 0 b.size (b.size + c), ⟨upd h.H d (nextVer h.H d, .row (.ints .u8 ((b.data.toList.map fun x : UInt8 => (x.toNat : Int)) ++ List.replicate c 0))), h.T⟩)
    else none
  | _ => none
section
variable {P : Program} {G : Gh} {h : HT} {w : World}
theorem convX_run {s t d : TypeId} {x : V} {vx : Value} (wf : WF G h w) (hres : ∀ c, (convX P s t x h d c).isSome = true) (rx : Rep G h w x vx) :
    ∃ c res h', convX P s t x h d c = some (res, h') ∧ ∃ v w' G', (convert s t vx).run P w = .ok v w' ∧ Rep G' h' w' res v ∧ Keeps G h w G' h' w' ∧ Ext G w G' w' ∧ WF G' h' w' := by
  have h0 := hres 0
  unfold convX at h0
  split at h0
  · rename_i b
    split at h0
    · rename_i hc
      obtain rfl := rx.str
      obtain ⟨e, hu, he⟩ := isBytes_spec hc.1
      obtain ⟨ds, hs⟩ := Option.isSome_iff_exists.1 hc.2
      generalize hcap : grownCap w b.size 0 e = cap
      have hge : b.size ≤ cap := by rw [← hcap]; exact grownCap_ge w b.size 0 e
      obtain ⟨c, hcc⟩ : ∃ c, cap = b.size + c := ⟨cap - b.size, by omega⟩
      generalize hcs : (b.data.map fun c : UInt8 => Value.int .u8 c.toNat) ++ Array.replicate (cap - b.size) (Value.int .u8 0) = cs
      have hsz : cs.size = cap := by rw [← hcs]; simp; omega
      have hcl : cs.toList = ((b.data.toList.map fun x : UInt8 => (x.toNat : Int)) ++ List.replicate c 0).map (Value.int .u8) := by
        rw [← hcs]; simp [hcc]
      generalize hL : (b.data.toList.map fun x : UInt8 => (x.toNat : Int)) ++ List.replicate c 0 = L at hcl
      have hLl : L.length = cap := by rw [← hsz, ← Array.length_toList, hcl, List.length_map]
      have hget : ∀ i, i < cap → cs[i]? = some (.int .u8 (L.getD i 0)) := by
        intro i hi
        rw [← Array.getElem?_toList, hcl, List.getElem?_map, List.getElem?_eq_getElem (by omega), List.getD_eq_getElem?_getD, List.getElem?_eq_getElem (by omega)]; rfl
      refine ⟨c, _, _, by unfold convX; exact if_pos hc, ?_⟩
      rw [hL, ← hcc]
      have hsame : SameW (w.drew.alloc (.cells cs e (cap, cap + 1))) (w.alloc (.cells cs e (cap, cap + 1))) := ⟨rfl, rfl, rfl, rfl⟩
      obtain ⟨k1, e1⟩ := made_keeps wf d (.row (.ints .u8 L)) (.cells cs e (cap, cap + 1))
      have wf1 : WF (G.made w.heap.size d) ⟨upd h.H d (nextVer h.H d, .row (.ints .u8 L)), h.T⟩ (w.alloc (.cells cs e (cap, cap + 1))) := by
        refine made_wf wf d _ _ (HRep.of_cells rfl ⟨cs, e, (cap, cap + 1), alloc_new, by rw [hsz]; exact hLl.symm, ?_, ?_⟩)
        · intro i hi
          have hi : i < cap := by rw [← hLl]; exact hi
          exact ⟨_, hget i hi, rfl, .p (.int _ _)⟩
        · intro i hi
          have hi : i < cap := by rw [← hLl]; exact hi
          have hn : (w.alloc (.cells cs e (cap, cap + 1))).heap[w.heap.size]? = some (.cells cs e (cap, cap + 1)) := alloc_new
          simp only [World.frozen?, hn]
          simp
          omega
      refine ⟨.slice (some ⟨w.heap.size, 0, none⟩) b.size cap, w.drew.alloc (.cells cs e (cap, cap + 1)), G.made w.heap.size d, ?_, ?_, keeps_heap hsame.heap k1, ext_same hsame e1, wf_heap hsame.heap wf1⟩
      · have hmk : (w.drew.alloc (.cells cs e)).freeze ⟨w.heap.size, cap, none⟩ 1 = w.drew.alloc (.cells cs e (cap, cap + 1)) := by
          unfold World.freeze
          rw [if_neg (by omega)]
          simp only [World.alloc]
          congr 1
          apply Array.ext_getElem?
          intro i
          rw [Array.getElem?_modify, Array.getElem?_push, Array.getElem?_push]
          by_cases hi : w.heap.size = i
          · subst hi; simp
          · rw [if_neg hi, if_neg (by simpa using Ne.symm hi), if_neg (by simpa using Ne.symm hi)]
        have hshape : (w.drew.alloc (.cells cs e)).shape? w.heap.size = some (e, cap) := by
          unfold World.shape?
          rw [show (w.drew.alloc (.cells cs e)).heap[w.heap.size]? = some (.cells cs e) from alloc_new (w := w.drew)]
          simp [hsz]
        have hcap' : (Question.appendCap b.size 0 e).cut (w.tape w.drawn (.appendCap b.size 0 e)) = cap := hcap
        simp only [convert, run_underlying hu, run_underlying hs, run_underlying he, Sem.run_bind, Result.andThen_ok, Conv.stringToBytes, run_choose, Question.forced, Bool.false_eq_true, if_false, hcap', newRow, run_newObj, Sem.run_pure, World.drew_eq, World.alloc_eq, World.size_drew, hcs, markStringish, run_shape, hshape, run_freeze, hmk]
      · refine .own _ _ _ _ _ _ _ _ (look_upd_same _ _ _) (Nat.le_refl _) (fun _ => ?_)
        simp only [Gh.made, if_pos]
    · simp at h0
  · simp at h0
end
section
variable [Tables] {P : Program} {ops : Array Oper} {σ : St} {n : Nat} {o : Oper} {K : St → Prop}
theorem XS.conv {s t : TypeId} {x : Operand} (hi : ops[n]? = some o) (hg : o.guard = none) (hop : o.op = .convert s t x)
    (h : ∀ c, bindO (convX P s t (σ.eval x) σ.h (o.dst.getD 0) c) fun v h' => K (σ.put o.dst v h')) : XS P ops n σ K := by
  intro G0 w0 G a w Q next r hn
  have hsome : ∀ c, ∃ v h', convX P s t (σ.eval x) σ.h (o.dst.getD 0) c = some (v, h') ∧ K (σ.put o.dst v h') := by
    intro c
    have h1 := h c
    cases hv : convX P s t (σ.eval x) σ.h (o.dst.getD 0) c with
    | none => rw [hv] at h1; exact h1.elim
    | some q => rw [hv] at h1; exact ⟨q.1, q.2, rfl, h1⟩
  obtain ⟨c, res, h', hv, hrun⟩ := convX_run (P := P) (d := o.dst.getD 0) r.wf (fun c => by obtain ⟨v, h', e, _⟩ := hsome c; rw [e]; rfl) (r.eval x)
  obtain ⟨v2, h2, e2, hk⟩ := hsome c
  rw [e2] at hv
  simp only [Option.some.injEq, Prod.mk.injEq] at hv
  obtain ⟨rfl, rfl⟩ := hv
  have hexec : execOp a.eval o = (do pure (.value (← convert s t (a.eval x)))) := by
    unfold execOp
    rw [hop]
  obtain ⟨v', w', G', hr, x1, x2, x3, x4⟩ := Done.turn (a := a) (o := o) hexec hrun
  unfold wpOp
  rw [hi]
  simp only
  have hw : Region.wanted o (yielded ops a.tmps) = true := by simp [Region.wanted, hg]
  rw [if_pos hw]
  refine .inl ?_
  unfold Oper.wp
  rcases hr with hr | ⟨hr, rfl⟩
  · rw [hr, Oper.upon_value]
    exact hn _ _ _ _ hk (r.put o.dst x2 x1 x4 x3)
  · rw [hr, Oper.upon_skip]
    exact hn _ _ _ _ hk (r.put o.dst x2 x1 x4 x3)
end
section
variable [Tables] {P : Program} {ops : Array Oper} {σ : St} {n : Nat} {o : Oper} {K : St → Prop}
end
attribute [simp] convX
end Go.Av
end
