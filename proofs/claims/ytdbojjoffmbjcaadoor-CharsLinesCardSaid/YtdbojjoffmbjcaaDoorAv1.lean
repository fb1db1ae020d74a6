/- What the walk over this seat's program leans on, part 1 of 5: values without addresses, and what each operation, region, loop and call does to them. Conditions: none. -/
import Derived.Calls
import Derived.Deep.LoopGhost
import Derived.Laws.AppendOwn
import Derived.Laws.Rows
import Derived.Laws.Concat
import Derived.Laws.Slices
import Derived.Laws.BytesArg
section
set_option linter.unusedVariables false
set_option linter.unusedSimpArgs false
set_option linter.unusedSectionVars false
namespace Go.Av
inductive Row (α : Type) where
  | ints (k : IntKind) (l : List Int)
  | strs (l : List ByteArray)
  | vals (sz : Nat) (l : List α)
inductive PV where
  | bool (b : Bool)
  | int (k : IntKind) (n : Int)
  | str (s : ByteArray)
  | agg (r : Row PV)
  | sl (r : Row PV) (nl : Bool)
  | ptr0
  | eptr (r : Row PV) (i j : Nat)
  | iface0
  | fn (f : FuncId) (r : Row PV)
  | ifc (t : Nat) (x : PV)
inductive V where
  | junk
  | p (x : PV)
  | row (r : Row PV) (t v : Nat) (nl : Bool)
  | own (id ver off len cap : Nat)
  | ptr (id ver off : Nat)
  | adr (id ver off : Nat) (e : Nat) (n : Nat)
  | bnd (f : Nat) (id ver off : Nat)
  | brow (e : Nat) (r : Row PV) (t v : Nat) (nl : Bool)
  | agg (l : List V)
  | tup (l : List V)
inductive HB where
  | cells (l : List V)
  | row (r : Row PV)
  | iter (s : ByteArray) (pos : Nat)
namespace Row
variable {α : Type}
def len : Row α → Nat
  | ints _ l => l.length
  | strs l => l.length
  | vals _ l => l.length
def sz : Row α → Nat
  | ints _ _ => 1
  | strs _ => 1
  | vals s _ => s
end Row
def PV.one : PV → Bool
  | .agg _ => false
  | _ => true
def Row.elem : Row PV → Nat → PV
  | .ints k l, i => .int k (l.getD i 0)
  | .strs l, i => .str (l.getD i ByteArray.empty)
  | .vals _ l, i => l.getD i .ptr0
def PV.width : PV → Nat
  | .agg r => r.len
  | _ => 1
def PV.cell : PV → Nat → PV
  | .agg r, j => r.elem j
  | x, _ => x
inductive Owner where
  | free
  | obj (id : Nat)
  | row (t : Nat)
  | hid (n : Nat)
  deriving DecidableEq
def Owner.still : Owner → Bool
  | .free => true
  | .hid _ => true
  | _ => false
structure Gh where
  own : Nat → Owner
  ι : Nat → Nat
  τ : Nat → Nat
  tend : Nat → Nat
def pm (G : Gh) (w : World) (b o : Nat) : Option Value :=
  match G.own b with
  | .free => w.cell? ⟨b, o, none⟩
  | .obj _ => none
  | .row t => if o < G.tend t then w.cell? ⟨b, o, none⟩ else none
  | .hid n => if o < n then w.cell? ⟨b, o, none⟩ else none
inductive RepP (m : Nat → Nat → Option Value) : PV → Value → Prop
  | bool (b : Bool) : RepP m (.bool b) (.bool b)
  | int (k : IntKind) (n : Int) : RepP m (.int k n) (.int k n)
  | str (s : ByteArray) : RepP m (.str s) (.string s)
  | ptr0 : RepP m .ptr0 (.pointer none)
  | iface0 : RepP m .iface0 .nilIface
  | ifc (t : TypeId) (x : PV) (v : Value) (hr : RepP m x v) : RepP m (.ifc t x) (.iface t v)
  | fn (fi : FuncId) (r : Row PV) (vs : Array Value) (f : Nat → Value) (hs : vs.size = r.len) (hf : ∀ i, i < r.len → vs[i]? = some (f i))
      (hr : ∀ i, i < r.len → RepP m (r.elem i) (f i)) : RepP m (.fn fi r) (.func (.func fi) #[] vs)
  | agg (r : Row PV) (vs : Array Value) (f : Nat → Value) (hs : vs.size = r.len) (hf : ∀ i, i < r.len → vs[i]? = some (f i))
      (h1 : ∀ i, i < r.len → (r.elem i).one = true) (hr : ∀ i, i < r.len → RepP m (r.elem i) (f i)) : RepP m (.agg r) (.agg vs)
  | slNil (r : Row PV) (h : r.len = 0) : RepP m (.sl r true) (.slice none 0 0)
  | sl (r : Row PV) (a : Addr) (cap : Nat) (f : Nat → Nat → Value) (hc : r.len ≤ cap) (ha : r.len = 0 ∨ a.spot = none)
      (hw : ∀ i, i < r.len → (r.elem i).width = r.sz)
      (hf : ∀ i j, i < r.len → j < r.sz → m a.block (a.off + i * r.sz + j) = some (f i j))
      (h1 : ∀ i j, i < r.len → j < r.sz → ((r.elem i).cell j).one = true)
      (hr : ∀ i j, i < r.len → j < r.sz → RepP m ((r.elem i).cell j) (f i j)) : RepP m (.sl r false) (.slice (some a) r.len cap)
  | eptr (r : Row PV) (i0 j0 : Nat) (b off : Nat) (f : Nat → Nat → Value)
      (hi : i0 < r.len)
      (hw : ∀ i, i < r.len → (r.elem i).width = r.sz)
      (hf : ∀ i j, i < r.len → j < r.sz → m b (off + i * r.sz + j) = some (f i j))
      (h1 : ∀ i j, i < r.len → j < r.sz → ((r.elem i).cell j).one = true)
      (hr : ∀ i j, i < r.len → j < r.sz → RepP m ((r.elem i).cell j) (f i j)) : RepP m (.eptr r i0 j0) (.pointer (some ⟨b, off + i0 * r.sz + j0, none⟩))
theorem RepP.mono {m m' : Nat → Nat → Option Value} (h : ∀ b o v, m b o = some v → m' b o = some v) {x : PV} {v : Value} (r : RepP m x v) : RepP m' x v := by
  induction r with
  | bool b => exact .bool b
  | int k n => exact .int k n
  | str s => exact .str s
  | ptr0 => exact .ptr0
  | iface0 => exact .iface0
  | ifc t x v _ ih => exact .ifc t x v ih
  | fn fi r vs f hs hf _ ih => exact .fn fi r vs f hs hf ih
  | agg r vs f hs hf h1 _ ih => exact .agg r vs f hs hf h1 ih
  | slNil r h => exact .slNil r h
  | sl r a cap f hc ha hw hf h1 _ ih => exact .sl r a cap f hc ha hw (fun i j hi hj => h _ _ _ (hf i j hi hj)) h1 ih
  | eptr r i0 j0 b off f hi hw hf h1 _ ih => exact .eptr r i0 j0 b off f hi hw (fun i j hi hj => h _ _ _ (hf i j hi hj)) h1 ih
theorem RepP.oneCell {m : Nat → Nat → Option Value} {x : PV} {v : Value} (r : RepP m x v) (h : x.one = true) : v.oneCell' = true := by
  cases r <;> first | rfl | (simp [PV.one] at h)
def look {α : Type} : List (Nat × α) → Nat → Option α
  | [], _ => none
  | (k, v) :: l, n => if k = n then some v else look l n
def upd {α : Type} : List (Nat × α) → Nat → α → List (Nat × α)
  | [], n, x => [(n, x)]
  | (k, v) :: l, n, x => if k = n then (k, x) :: l else (k, v) :: upd l n x
theorem look_upd_same {α : Type} (l : List (Nat × α)) (n : Nat) (x : α) : look (upd l n x) n = some x := by
  induction l with
  | nil => simp [upd, look]
  | cons p l ih => obtain ⟨k, v⟩ := p; by_cases h : k = n <;> simp [upd, look, h, ih]
theorem look_upd_other {α : Type} (l : List (Nat × α)) (n m : Nat) (x : α) (hne : m ≠ n) : look (upd l n x) m = look l m := by
  induction l with
  | nil => simp [upd, look, Ne.symm hne]
  | cons p l ih =>
    obtain ⟨k, v⟩ := p
    by_cases h : k = n
    · subst h; simp [upd, look, Ne.symm hne]
    · by_cases h2 : k = m
      · subst h2; simp [upd, look, h]
      · simp [upd, look, h, h2, ih]
structure HT where
  H : List (Nat × (Nat × HB))
  T : List (Nat × Nat)
def HB.size : HB → Nat
  | .cells l => l.length
  | .row r => r.len
  | .iter _ _ => 0
def HB.get : HB → Nat → V
  | .cells l, i => l.getD i .junk
  | .row r, i => .p (r.elem i)
  | .iter _ _, _ => .junk
def BufAt (w : World) (e : TypeId) (v : Value) : Prop := ∀ a l c, v = .slice (some a) l c → c ≠ 0 → a.off = 0 ∧ ∃ vs fz, w.heap[a.block]? = some (.cells vs e fz)
inductive Rep (G : Gh) (h : HT) (w : World) : V → Value → Prop
  | junk (v : Value) : Rep G h w .junk v
  | p {x : PV} {v : Value} (r : RepP (pm G w) x v) : Rep G h w (.p x) v
  | row (r : Row PV) (t ver cur : Nat) (nl : Bool) (a : Option Addr) (cap : Nat) (hc : look h.T t = some cur) (hle : ver ≤ cur)
      (hr : RepP (pm G w) (.sl r nl) (.slice a r.len cap))
      (ht : ver = cur → cap = 0 ∨ ∃ off vs ty fz, a = some ⟨G.τ t, off, none⟩ ∧ G.own (G.τ t) = .row t ∧ off + r.len * r.sz = G.tend t ∧ 0 < r.sz ∧
        w.heap[G.τ t]? = some (.cells vs ty fz) ∧ off + cap * r.sz ≤ vs.size ∧ ∀ o, G.tend t ≤ o → o < off + cap * r.sz → w.frozen? ⟨G.τ t, o, none⟩ = false) :
      Rep G h w (.row r t ver nl) (.slice a r.len cap)
  | own (id ver off len cap cur : Nat) (hb : HB) (v : Value) (hc : look h.H id = some (cur, hb)) (hle : ver ≤ cur)
      (hv : ver = cur → v = .slice (some ⟨G.ι id, off, none⟩) len cap) : Rep G h w (.own id ver off len cap) v
  | ptr (id ver off cur : Nat) (hb : HB) (v : Value) (hc : look h.H id = some (cur, hb)) (hle : ver ≤ cur)
      (hv : ver = cur → v = .pointer (some ⟨G.ι id, off, none⟩)) : Rep G h w (.ptr id ver off) v
  | adr (id ver off : Nat) (e : TypeId) (n cur : Nat) (hb : HB) (v : Value) (hc : look h.H id = some (cur, hb)) (hle : ver ≤ cur)
      (hv : ver = cur → (v = .pointer none ∨ v = .pointer (some ⟨G.ι id, off, none⟩)) ∧ w.shape? (G.ι id) = some (e, n)) : Rep G h w (.adr id ver off e n) v
  | bnd (f : FuncId) (id ver off cur : Nat) (hb : HB) (v : Value) (hc : look h.H id = some (cur, hb)) (hle : ver ≤ cur)
      (hv : ver = cur → v = .func (.func f) #[.pointer (some ⟨G.ι id, off, none⟩)] #[]) : Rep G h w (.bnd f id ver off) v
  | brow (e : TypeId) (r : Row PV) (t ver : Nat) (nl : Bool) (v : Value) (hr : Rep G h w (.row r t ver nl) v) (hty : look h.T t = some ver → BufAt w e v) : Rep G h w (.brow e r t ver nl) v
  | agg (l : List V) (vs : Array Value) (f : Nat → Value) (hs : vs.size = l.length) (hf : ∀ i, i < l.length → vs[i]? = some (f i))
      (h1 : ∀ i, i < l.length → (f i).oneCell' = true) (hr : ∀ i, i < l.length → Rep G h w (l.getD i .junk) (f i)) : Rep G h w (.agg l) (.agg vs)
  | tup (l : List V) (vs : Array Value) (f : Nat → Value) (hs : vs.size = l.length) (hf : ∀ i, i < l.length → vs[i]? = some (f i))
      (hr : ∀ i, i < l.length → Rep G h w (l.getD i .junk) (f i)) : Rep G h w (.tup l) (.tuple vs)
def HRep (G : Gh) (h : HT) (w : World) (b : Nat) : HB → Prop
  | .iter s pos => w.heap[b]? = some (.stringIter s pos)
  | hb => ∃ vs ty fz, w.heap[b]? = some (.cells vs ty fz) ∧ vs.size = hb.size ∧
      (∀ i, i < hb.size → ∃ v, vs[i]? = some v ∧ v.oneCell' = true ∧ Rep G h w (hb.get i) v) ∧ (∀ i, i < hb.size → w.frozen? ⟨b, i, none⟩ = false)
structure WF (G : Gh) (h : HT) (w : World) : Prop where
  fresh : ∀ b, w.heap.size ≤ b → G.own b = .free
  rows : ∀ b t, G.own b = .row t → b = G.τ t
  objs : ∀ id ver hb, look h.H id = some (ver, hb) → G.own (G.ι id) = .obj id ∧ G.ι id < w.heap.size ∧ HRep G h w (G.ι id) hb
structure Ext (G : Gh) (w : World) (G' : Gh) (w' : World) : Prop where
  os : w'.os = w.os
  tape : w'.tape = w.tape
  output : w'.output = w.output
  size : w.heap.size ≤ w'.heap.size
  free : ∀ b, b < w.heap.size → (G.own b).still = true → G'.own b = G.own b ∧ w'.heap[b]? = w.heap[b]?
  row : ∀ b o v, b < w.heap.size → pm G w b o = some v → pm G' w' b o = some v
  shp : ∀ b x, w.shape? b = some x → w'.shape? b = some x
theorem Ext.refl (G : Gh) (w : World) : Ext G w G w := ⟨rfl, rfl, rfl, Nat.le_refl _, fun _ _ _ => ⟨rfl, rfl⟩, fun _ _ _ _ h => h, fun _ _ h => h⟩
theorem Ext.trans {G G1 G2 : Gh} {w w1 w2 : World} (h : Ext G w G1 w1) (h' : Ext G1 w1 G2 w2) : Ext G w G2 w2 :=
  ⟨h'.os.trans h.os, h'.tape.trans h.tape, h'.output.trans h.output, Nat.le_trans h.size h'.size,
   fun b hb hf =>
     have h1 := h.free b hb hf
     have h2 := h'.free b (Nat.lt_of_lt_of_le hb h.size) (by rw [h1.1]; exact hf)
     ⟨h2.1.trans h1.1, h2.2.trans h1.2⟩,
   fun b o v hb hv => h'.row b o v (Nat.lt_of_lt_of_le hb h.size) (h.row b o v hb hv), fun b x hx => h'.shp b x (h.shp b x hx)⟩
theorem pm_lt {G : Gh} {w : World} {b o : Nat} {v : Value} (h : pm G w b o = some v) : b < w.heap.size := by
  have key : ∀ {v}, w.cell? ⟨b, o, none⟩ = some v → b < w.heap.size := fun h => World.block_lt_of_cell? w ⟨b, o, none⟩ h
  unfold pm at h
  split at h
  · exact key h
  · simp at h
  · split at h
    · exact key h
    · simp at h
  · split at h
    · exact key h
    · simp at h
theorem Ext.pm {G G' : Gh} {w w' : World} (h : Ext G w G' w') {b o : Nat} {v : Value} (hv : pm G w b o = some v) : Av.pm G' w' b o = some v :=
  h.row b o v (pm_lt hv) hv
end Go.Av
end
section
set_option linter.unusedVariables false
set_option linter.unusedSimpArgs false
set_option linter.unusedSectionVars false
namespace Go.Av
structure Keeps (G : Gh) (h : HT) (w : World) (G' : Gh) (h' : HT) (w' : World) : Prop where
  mem : ∀ b o v, pm G w b o = some v → pm G' w' b o = some v
  toks : ∀ t cur, look h.T t = some cur → ∃ cur', look h'.T t = some cur' ∧ cur ≤ cur' ∧
    (cur' = cur → G'.τ t = G.τ t ∧ G'.tend t = G.tend t ∧ (G.own (G.τ t) = .row t → G'.own (G.τ t) = .row t ∧
      (∀ vs ty fz, w.heap[G.τ t]? = some (.cells vs ty fz) → w'.heap[G.τ t]? = some (.cells vs ty fz))))
  objs : ∀ id cur hb, look h.H id = some (cur, hb) → ∃ cur' hb', look h'.H id = some (cur', hb') ∧ cur ≤ cur' ∧ (cur' = cur → G'.ι id = G.ι id)
  shp : ∀ b x, w.shape? b = some x → w'.shape? b = some x
theorem frozen_of_heap {w w' : World} {b : Nat} (h : w'.heap[b]? = w.heap[b]?) (o : Nat) : w'.frozen? ⟨b, o, none⟩ = w.frozen? ⟨b, o, none⟩ := by
  simp [World.frozen?, h]
theorem Rep.mono {G G' : Gh} {h h' : HT} {w w' : World} (k : Keeps G h w G' h' w') {x : V} {v : Value} (r : Rep G h w x v) : Rep G' h' w' x v := by
  induction r with
  | junk v => exact .junk v
  | p r => exact .p (r.mono k.mem)
  | row r t ver cur nl a cap hc hle hr ht =>
    obtain ⟨cur', hc', hle', hsame⟩ := k.toks t cur hc
    refine .row r t ver cur' nl a cap hc' (Nat.le_trans hle hle') (hr.mono k.mem) ?_
    intro hv
    have h1 : cur' = cur := Nat.le_antisymm (hv ▸ hle) hle'
    have h2 : ver = cur := hv.trans h1
    rcases ht h2 with h3 | ⟨off, vs, ty, fz, ha, hown, hend, hs0, hblk, hsz, hfz⟩
    · exact .inl h3
    · obtain ⟨e1, e2, e3⟩ := hsame h1
      obtain ⟨e4, e5⟩ := e3 hown
      refine .inr ⟨off, vs, ty, fz, ?_, ?_, ?_, hs0, ?_, hsz, ?_⟩
      · rw [e1]; exact ha
      · rw [e1]; exact e4
      · rw [e2]; exact hend
      · rw [e1]; exact e5 _ _ _ hblk
      · intro o ho1 ho2
        rw [e1]
        rw [frozen_of_heap (w := w) ((e5 _ _ _ hblk).trans hblk.symm)]
        exact hfz o (e2 ▸ ho1) ho2
  | own id ver off len cap cur hb v hc hle hv =>
    obtain ⟨cur', hb', hc', hle', hsame⟩ := k.objs id cur hb hc
    refine .own id ver off len cap cur' hb' v hc' (Nat.le_trans hle hle') ?_
    intro hvv
    have h1 : cur' = cur := Nat.le_antisymm (hvv ▸ hle) hle'
    rw [hsame h1]; exact hv (hvv.trans h1)
  | ptr id ver off cur hb v hc hle hv =>
    obtain ⟨cur', hb', hc', hle', hsame⟩ := k.objs id cur hb hc
    refine .ptr id ver off cur' hb' v hc' (Nat.le_trans hle hle') ?_
    intro hvv
    have h1 : cur' = cur := Nat.le_antisymm (hvv ▸ hle) hle'
    rw [hsame h1]; exact hv (hvv.trans h1)
  | adr id ver off e n cur hb v hc hle hv =>
    obtain ⟨cur', hb', hc', hle', hsame⟩ := k.objs id cur hb hc
    refine .adr id ver off e n cur' hb' v hc' (Nat.le_trans hle hle') ?_
    intro hvv
    have h1 : cur' = cur := Nat.le_antisymm (hvv ▸ hle) hle'
    obtain ⟨q1, q2⟩ := hv (hvv.trans h1)
    rw [hsame h1]; exact ⟨q1, k.shp _ _ q2⟩
  | bnd f id ver off cur hb v hc hle hv =>
    obtain ⟨cur', hb', hc', hle', hsame⟩ := k.objs id cur hb hc
    refine .bnd f id ver off cur' hb' v hc' (Nat.le_trans hle hle') ?_
    intro hvv
    have h1 : cur' = cur := Nat.le_antisymm (hvv ▸ hle) hle'
    rw [hsame h1]; exact hv (hvv.trans h1)
  | brow e r t ver nl v hr hty ih =>
    refine .brow e r t ver nl v ih ?_
    intro hl
    cases hr with
    | row _ _ _ cur _ a cap hc hle hr ht =>
    obtain ⟨cur', hc', hle', hsame⟩ := k.toks t cur hc
    rw [hc'] at hl
    have hcv : cur' = ver := Option.some.inj hl
    have h1 : cur' = cur := Nat.le_antisymm (hcv ▸ hle) hle'
    have h2 : ver = cur := hcv.symm.trans h1
    intro a0 l0 c0 hv0 hne
    obtain ⟨q1, vs, fz, q2⟩ := hty (by rw [h2]; exact hc) a0 l0 c0 hv0 hne
    refine ⟨q1, ?_⟩
    rcases ht h2 with h3 | ⟨off, vs1, ty, fz1, ha, hown, hend, hs0, hblk, hsz, hfz⟩
    · simp only [Value.slice.injEq] at hv0; exact absurd (hv0.2.2.symm.trans h3) hne
    · obtain ⟨e1, e2, e3⟩ := hsame h1
      simp only [Value.slice.injEq] at hv0
      rw [ha] at hv0
      have hab : a0.block = G.τ t := by rw [← Option.some.inj hv0.1]
      rw [hab] at q2 ⊢
      exact ⟨vs, fz, (e3 hown).2 _ _ _ q2⟩
  | agg l vs f hs hf h1 _ ih => exact .agg l vs f hs hf h1 ih
  | tup l vs f hs hf _ ih => exact .tup l vs f hs hf ih
theorem Keeps.refl (G : Gh) (h : HT) (w : World) : Keeps G h w G h w :=
  ⟨fun _ _ _ h => h, fun t cur hc => ⟨cur, hc, Nat.le_refl _, fun _ => ⟨rfl, rfl, fun h => ⟨h, fun _ _ _ h => h⟩⟩⟩,
   fun id cur hb hc => ⟨cur, hb, hc, Nat.le_refl _, fun _ => rfl⟩, fun _ _ h => h⟩
structure St where
  s : List V
  h : HT
class Tables where
  gl : Nat → Option (Row PV)
  mode : Nat → Nat
def ofConst : Value → V
  | .bool b => .p (.bool b)
  | .int k n => .p (.int k n)
  | .string s => .p (.str s)
  | .pointer none => .p .ptr0
  | .slice none 0 0 => .p (.sl (.vals 1 []) true)
  | .nilIface => .p .iface0
  | _ => .junk
theorem rep_const (G : Gh) (h : HT) (w : World) (v : Value) : Rep G h w (ofConst v) v := by
  unfold ofConst
  split
  · exact .p (.bool _)
  · exact .p (.int _ _)
  · exact .p (.str _)
  · exact .p .ptr0
  · exact .p (.slNil _ rfl)
  · exact .p .iface0
  · exact .junk _
section
variable [Tables]
def St.eval (σ : St) : Operand → V
  | .tmp t => σ.s.getD t .junk
  | .const v => ofConst v
  | .global g => match Tables.gl g with
    | some r => .p (.eptr r 0 0)
    | none => .junk
  | .func f => .p (.fn f (.vals 1 []))
def St.put (σ : St) (d : Option Tmp) (v : V) (h : HT) : St :=
  match d with
  | some d => ⟨σ.s.set d v, h⟩
  | none => ⟨σ.s, h⟩
structure Rl (G0 : Gh) (w0 : World) (σ : St) (G : Gh) (a : Act) (w : World) : Prop where
  defers : a.defers = []
  size : a.tmps.size = σ.s.length
  slots : ∀ i, i < σ.s.length → Rep G σ.h w (σ.s.getD i .junk) (a.tmps.getD i undef)
  wf : WF G σ.h w
  ext : Ext G0 w0 G w
  ids : ∀ b id, G0.own b = .obj id → 10000 ≤ id ∧ ∃ ver hb, look σ.h.H id = some (ver, hb) ∧ (ver = 0 → G.ι id = b)
  glob : ∀ g r, Tables.gl g = some r → RepP (pm G0 w0) (.eptr r 0 0) (.pointer (some ⟨g, 0, none⟩))
theorem Rl.ids_keep {G0 : Gh} {w0 : World} {σ : St} {G G' : Gh} {a : Act} {w w' : World} {h' : HT} (r : Rl G0 w0 σ G a w) (k : Keeps G σ.h w G' h' w') :
    ∀ b id, G0.own b = .obj id → 10000 ≤ id ∧ ∃ ver hb, look h'.H id = some (ver, hb) ∧ (ver = 0 → G'.ι id = b) := by
  intro b id hb
  obtain ⟨h0, ver, hb1, h1, h2⟩ := r.ids b id hb
  obtain ⟨ver', hb2, h3, h4, h5⟩ := k.objs id ver hb1 h1
  exact ⟨h0, ver', hb2, h3, fun e => by rw [h5 (by omega)]; exact h2 (by omega)⟩
theorem Rl.eval {G0 : Gh} {w0 : World} {σ : St} {G : Gh} {a : Act} {w : World} (r : Rl G0 w0 σ G a w) (x : Operand) : Rep G σ.h w (σ.eval x) (a.eval x) := by
  cases x with
  | tmp t =>
    by_cases h : t < σ.s.length
    · exact r.slots t h
    · have : σ.s.getD t V.junk = .junk := by simp [List.getD, List.getElem?_eq_none (Nat.le_of_not_lt h)]
      simp only [St.eval, this]; exact .junk _
  | const v => exact rep_const _ _ _ v
  | global g =>
    simp only [St.eval]
    split
    · rename_i rr hg
      exact .p ((r.glob g rr hg).mono fun b o v hv => r.ext.pm hv)
    · exact .junk _
  | func f => exact .p (.fn f (.vals 1 []) #[] (fun _ => undef) rfl (fun i hi => absurd hi (Nat.not_lt_zero _)) (fun i hi => absurd hi (Nat.not_lt_zero _)))
theorem Rl.put {G0 : Gh} {w0 : World} {σ : St} {G G' : Gh} {a : Act} {w w' : World} (r : Rl G0 w0 σ G a w) (d : Option Tmp) {x : V} {v : Value} {h' : HT}
    (k : Keeps G σ.h w G' h' w') (hx : Rep G' h' w' x v) (wf : WF G' h' w') (e : Ext G w G' w') : Rl G0 w0 (σ.put d x h') G' (a.put d v) w' := by
  cases d with
  | none => exact ⟨r.defers, r.size, fun i hi => (r.slots i hi).mono k, wf, r.ext.trans e, r.ids_keep k, r.glob⟩
  | some d =>
    refine ⟨r.defers, by simp [St.put, Act.put, r.size], ?_, wf, r.ext.trans e, r.ids_keep k, r.glob⟩
    intro i hi
    simp only [St.put, List.length_set] at hi
    have hi' : i < a.tmps.size := r.size ▸ hi
    by_cases hd : d = i
    · subst hd
      have e1 : (σ.s.set d x).getD d .junk = x := by simp [List.getD, hi]
      have e2 : (a.tmps.setIfInBounds d v).getD d undef = v := by simp [Array.getD, hi']
      simp only [St.put, Act.put, e1, e2]; exact hx
    · have e1 : (σ.s.set d x).getD i .junk = σ.s.getD i .junk := by simp [List.getD, List.getElem?_set_ne hd]
      have e2 : (a.tmps.setIfInBounds d v).getD i undef = a.tmps.getD i undef := by
        simp only [Array.getD_eq_getD_getElem?]
        rw [Array.getElem?_setIfInBounds_ne hd]
      simp only [St.put, Act.put, e1, e2]; exact (r.slots i hi).mono k
end
section
variable {G : Gh} {h : HT} {w : World} {v : Value}
theorem Rep.bool {b : Bool} (r : Rep G h w (.p (.bool b)) v) : v = .bool b := by cases r with | p r => cases r; rfl
theorem Rep.int {k : IntKind} {n : Int} (r : Rep G h w (.p (.int k n)) v) : v = .int k n := by cases r with | p r => cases r; rfl
theorem Rep.str {s : ByteArray} (r : Rep G h w (.p (.str s)) v) : v = .string s := by cases r with | p r => cases r; rfl
theorem Rep.ptr0 (r : Rep G h w (.p .ptr0) v) : v = .pointer none := by cases r with | p r => cases r; rfl
theorem Rep.sl {r0 : Row PV} {nl : Bool} (r : Rep G h w (.p (.sl r0 nl)) v) : RepP (pm G w) (.sl r0 nl) v := by cases r with | p r => exact r
theorem RepP.slice {m : Nat → Nat → Option Value} {r0 : Row PV} {nl : Bool} (r : RepP m (.sl r0 nl) v) : ∃ a cap, v = .slice a r0.len cap ∧ a.isNone = nl := by
  cases r with
  | slNil _ h => exact ⟨none, 0, by rw [h], rfl⟩
  | sl _ a cap f hc ha hw hf h1 hr => exact ⟨some a, cap, rfl, rfl⟩
theorem Rep.at_ptr {id ver off cur : Nat} {hb : HB} (r : Rep G h w (.ptr id ver off) v) (hl : look h.H id = some (cur, hb)) (hv : ver = cur) : v = .pointer (some ⟨G.ι id, off, none⟩) := by
  cases r with
  | ptr _ _ _ cur' hb' _ hc hle hv' =>
    rw [hl] at hc
    simp only [Option.some.injEq, Prod.mk.injEq] at hc
    exact hv' (hv.trans hc.1)
theorem Rep.at_bnd {f : FuncId} {id ver off cur : Nat} {hb : HB} (r : Rep G h w (.bnd f id ver off) v) (hl : look h.H id = some (cur, hb)) (hv : ver = cur) : v = .func (.func f) #[.pointer (some ⟨G.ι id, off, none⟩)] #[] := by
  cases r with
  | bnd _ _ _ _ cur' hb' _ hc hle hv' =>
    rw [hl] at hc
    simp only [Option.some.injEq, Prod.mk.injEq] at hc
    exact hv' (hv.trans hc.1)
theorem Rep.at_own {id ver off len cap cur : Nat} {hb : HB} (r : Rep G h w (.own id ver off len cap) v) (hl : look h.H id = some (cur, hb)) (hv : ver = cur) : v = .slice (some ⟨G.ι id, off, none⟩) len cap := by
  cases r with
  | own _ _ _ _ _ cur' hb' _ hc hle hv' =>
    rw [hl] at hc
    simp only [Option.some.injEq, Prod.mk.injEq] at hc
    exact hv' (hv.trans hc.1)
end
end Go.Av
end
section
set_option linter.unusedVariables false
set_option linter.unusedSimpArgs false
set_option linter.unusedSectionVars false
namespace Go.Av
def intBin (op : BinOp) (k : IntKind) (a b : Int) : Option PV :=
  match op with
  | .add => some (.int k (k.wrap (a + b)))
  | .sub => some (.int k (k.wrap (a - b)))
  | .mul => some (.int k (k.wrap (a * b)))
  | .quo => if b = 0 then none else some (.int k (k.wrap (a.tdiv b)))
  | .rem => if b = 0 then none else some (.int k (a.tmod b))
  | .and => some (.int k (k.wrap (BitVec.ofInt k.bits a &&& BitVec.ofInt k.bits b).toNat))
  | .or => some (.int k (k.wrap (BitVec.ofInt k.bits a ||| BitVec.ofInt k.bits b).toNat))
  | .xor => some (.int k (k.wrap (BitVec.ofInt k.bits a ^^^ BitVec.ofInt k.bits b).toNat))
  | .andNot => some (.int k (k.wrap (BitVec.ofInt k.bits a &&& ~~~BitVec.ofInt k.bits b).toNat))
  | .eql => some (.bool (a == b))
  | .neq => some (.bool (a != b))
  | .lss => some (.bool (a < b))
  | .leq => some (.bool (a ≤ b))
  | .gtr => some (.bool (a > b))
  | .geq => some (.bool (a ≥ b))
  | _ => none
def shiftBin (op : BinOp) (k : IntKind) (a b : Int) : Option PV :=
  if b < 0 then none else
  match op with
  | .shl => some (.int k (k.wrap (a * 2 ^ (min b.toNat k.bits))))
  | .shr => some (.int k (a.fdiv (2 ^ (min b.toNat k.bits))))
  | _ => none
def strBin (op : BinOp) (x y : ByteArray) : Option PV :=
  match op with
  | .add => if x.size + y.size ≤ 9223372036854775807 then some (.str (x ++ y)) else none
  | .eql => some (.bool (x.toList == y.toList))
  | .neq => some (.bool !(x.toList == y.toList))
  | .lss => some (.bool (Op.bytesLess x.toList y.toList))
  | .leq => some (.bool (Op.bytesLess x.toList y.toList || x.toList == y.toList))
  | .gtr => some (.bool !(Op.bytesLess x.toList y.toList || x.toList == y.toList))
  | .geq => some (.bool !(Op.bytesLess x.toList y.toList))
  | _ => none
def nilS : V → Option Bool
  | .p (.sl _ nl) => some nl
  | .row _ _ _ nl => some nl
  | _ => none
def nilP : V → Option Bool
  | .p .ptr0 => some true
  | .p (.eptr _ _ _) => some false
  | _ => none
def structD (P : Program) (t : TypeId) : Option (List (Nat × Nat)) :=
  match P.underlying t with
  | some (.struct fs) =>
    if P.stoodInHeld t = false ∧ P.eqGuardType P.depth t = false then
      fs.toList.mapM fun f => if f.name = "_" then none else match P.underlying f.type with
        | some (.int _) => some (f.offset, 0)
        | some .string => some (f.offset, 1)
        | some .bool => some (f.offset, 2)
        | _ => none
    else none
  | _ => none
def eqAt : Nat → PV → PV → Option Bool
  | 0, .int k a, .int k' b => if k = k' then some (a == b) else none
  | 1, .str a, .str b => some (a == b)
  | 2, .bool a, .bool b => some (a == b)
  | _, _, _ => none
def eqAts (r s : Row PV) : List (Nat × Nat) → Option Bool
  | [] => some true
  | q :: l => if q.1 < r.len ∧ q.1 < s.len then
      match eqAt q.2 (r.elem q.1) (s.elem q.1), eqAts r s l with
      | some b, some c => some (b && c)
      | _, _ => none
    else none
def eqNil (P : Program) (t : TypeId) (x y : V) : Option Bool :=
  match P.underlying t with
  | some (.slice _) =>
    match nilS x, nilS y with
    | some a, some true => some a
    | some true, some b => some b
    | _, _ => none
  | some (.pointer _) =>
    match nilP x, nilP y with
    | some a, some true => some a
    | some true, some b => some b
    | _, _ => none
  | some .bool =>
    match x, y with
    | .p (.bool a), .p (.bool b) => some (a == b)
    | _, _ => none
  | some (.array n e) =>
    match P.underlying e, x, y with
    | some (.int k), .p (.agg (.ints ka a)), .p (.agg (.ints kb b)) =>
      if ka = k ∧ kb = k ∧ a.length = n ∧ b.length = n ∧ (P.info? e).map (·.size) = some 1 ∧ P.eqGuardType P.depth t = false then some (a == b) else none
    | _, _, _ => none
  | some (.struct _) =>
    match structD P t, x, y with
    | some L, .p (.agg r), .p (.agg s) => eqAts r s L
    | _, _, _ => none
  | _ => none
def abin (P : Program) (op : BinOp) (t : TypeId) (x y : V) : Option V :=
  match x, y with
  | .p (.int k a), .p (.int k' b) =>
    match op with
    | .shl => (shiftBin .shl k a b).map .p
    | .shr => (shiftBin .shr k a b).map .p
    | op => if k = k' then (intBin op k a b).map .p else none
  | .p (.str a), .p (.str b) => (strBin op a b).map .p
  | x, y =>
    match op with
    | .eql => (eqNil P t x y).map fun b => .p (.bool b)
    | .neq => (eqNil P t x y).map fun b => .p (.bool !b)
    | _ => none
section
variable {P : Program} {G : Gh} {h : HT} {w : World}
theorem intBin_run {op : BinOp} {k : IntKind} {a b : Int} {x : PV} (t : TypeId) (hop : op ≠ .shl) (hop' : op ≠ .shr) (hx : intBin op k a b = some x) :
    ∃ v, (binOp op t (.int k a) (.int k b)).run P w = .ok v w ∧ RepP (pm G w) x v := by
  cases op <;> simp only [intBin, Option.some.injEq, reduceCtorEq] at hx
  case quo =>
    split at hx
    · simp at hx
    · simp only [Option.some.injEq] at hx; subst hx
      exact ⟨_, by (simp [binOp, Op.intDiv, *]; try rfl), .int _ _⟩
  case rem =>
    split at hx
    · simp at hx
    · simp only [Option.some.injEq] at hx; subst hx
      exact ⟨_, by (simp [binOp, Op.intDiv, *]; try rfl), .int _ _⟩
  all_goals
    subst hx
    first
    | exact ⟨_, by (simp [binOp, Op.intArith, Op.intBits, Op.intCmp]; try rfl), .int _ _⟩
    | exact ⟨_, by (simp [binOp, Op.intArith, Op.intBits, Op.intCmp]; try rfl), .bool _⟩
theorem shiftBin_run {op : BinOp} {k k' : IntKind} {a b : Int} {x : PV} (t : TypeId) (hx : shiftBin op k a b = some x) :
    ∃ v, (binOp op t (.int k a) (.int k' b)).run P w = .ok v w ∧ RepP (pm G w) x v := by
  unfold shiftBin at hx
  split at hx
  · simp at hx
  · rename_i hb
    cases op <;> simp only [Option.some.injEq, reduceCtorEq] at hx
    all_goals
      subst hx
      exact ⟨_, by (simp [binOp, Op.shift, hb]; try rfl), .int _ _⟩
theorem strBin_run {op : BinOp} {a b : ByteArray} {x : PV} (t : TypeId) (hx : strBin op a b = some x) :
    ∃ v, (binOp op t (.string a) (.string b)).run P w = .ok v w ∧ RepP (pm G w) x v := by
  cases op <;> simp only [strBin, Option.some.injEq, reduceCtorEq] at hx
  case add =>
    split at hx
    · rename_i hs
      simp only [Option.some.injEq] at hx; subst hx
      exact ⟨_, by simp only [binOp]; exact run_string_add_sum w a b hs, .str _⟩
    · simp at hx
  all_goals
    subst hx
    exact ⟨_, by (simp [binOp, Op.stringOp]; try rfl), .bool _⟩
end
end Go.Av
end
section
set_option linter.unusedVariables false
set_option linter.unusedSimpArgs false
set_option linter.unusedSectionVars false
namespace Go.Av
def Row.cut {α : Type} : Row α → Nat → Nat → Row α
  | .ints k l, lo, hi => .ints k ((l.take hi).drop lo)
  | .strs l, lo, hi => .strs ((l.take hi).drop lo)
  | .vals s l, lo, hi => .vals s ((l.take hi).drop lo)
def bnd (x : Option V) (d : Nat) : Option Nat :=
  match x with
  | none => some d
  | some (.p (.int _ n)) => if 0 ≤ n then some n.toNat else none
  | _ => none
def esz (P : Program) (t : TypeId) : Option Nat :=
  match P.underlying t with
  | some (.slice e) => (P.info? e).map (·.size)
  | some (.array _ e) => (P.info? e).map (·.size)
  | _ => none
def isSlice (P : Program) (t : TypeId) : Bool := match P.underlying t with | some (.slice _) => true | _ => false
def isString (P : Program) (t : TypeId) : Bool := match P.underlying t with | some .string => true | _ => false
def arrLen (P : Program) (t : TypeId) : Option Nat := match P.underlying t with | some (.array n _) => some n | _ => none
def aslice (P : Program) (t : TypeId) (x : V) (lo hi : Option V) : Option V :=
  match x with
  | .p (.str s) =>
    if isString P t then
      match bnd lo 0, bnd hi s.size with
      | some l, some h => if l ≤ h ∧ h ≤ s.size then some (.p (.str (s.extract l h))) else none
      | _, _ => none
    else none
  | .p (.sl r nl) =>
    match isSlice P t, esz P t, bnd lo 0, bnd hi r.len with
    | true, some e, some l, some h => if l ≤ h ∧ h ≤ r.len ∧ (e = r.sz ∨ r.len = 0) then some (.p (.sl (r.cut l h) nl)) else none
    | _, _, _, _ => none
  | .row r tk v nl =>
    match isSlice P t, esz P t, bnd lo 0 with
    | true, some e, some l =>
      match hi with
      | none => if l ≤ r.len ∧ (e = r.sz ∨ r.len = 0) then some (.row (r.cut l r.len) tk v nl) else none
      | some hv => match bnd (some hv) r.len with
        | some h => if l ≤ h ∧ h ≤ r.len ∧ (e = r.sz ∨ r.len = 0) then some (.p (.sl (r.cut l h) nl)) else none
        | none => none
    | _, _, _ => none
  | .own id ver off len cap =>
    match isSlice P t, esz P t, bnd lo 0, bnd hi len with
    | true, some e, some l, some h => if l ≤ h ∧ h ≤ cap then some (.own id ver (if cap = l then off else off + l * e) (h - l) (cap - l)) else none
    | _, _, _, _ => none
  | .ptr id ver off =>
    match arrLen P t, esz P t with
    | some n, some e => match bnd lo 0, bnd hi n with
      | some l, some h => if l ≤ h ∧ h ≤ n then some (.own id ver (if n = l then off else off + l * e) (h - l) (n - l)) else none
      | _, _ => none
    | _, _ => none
  | .p (.eptr r i j) =>
    match r.elem i with
    | .agg r' => match arrLen P t, esz P t with
      | some n, some e => match bnd lo 0, bnd hi n with
        | some l, some h => if l ≤ h ∧ h ≤ n ∧ n = r'.len ∧ e = 1 ∧ r'.sz = 1 ∧ j = 0 ∧ i < r.len then some (.p (.sl (r'.cut l h) false)) else none
        | _, _ => none
      | _, _ => none
    | _ => none
  | _ => none
def aindexAddr (P : Program) (t : TypeId) (x i : V) : Option V :=
  match i, esz P t with
  | .p (.int _ n), some e =>
    if 0 ≤ n then
      match x with
      | .ptr id ver off => match arrLen P t with
        | some len => if n < len then some (.ptr id ver (off + n.toNat * e)) else none
        | none => none
      | .own id ver off len cap => if isSlice P t ∧ n < len then some (.ptr id ver (off + n.toNat * e)) else none
      | .p (.sl r _) => if isSlice P t ∧ n < r.len ∧ e = r.sz then some (.p (.eptr r n.toNat 0)) else none
      | .row r _ _ _ => if isSlice P t ∧ n < r.len ∧ e = r.sz then some (.p (.eptr r n.toNat 0)) else none
      | .p (.eptr r i0 j) => match arrLen P t with
        | some len => if n < len then some (.p (.eptr r i0 (j + n.toNat * e))) else none
        | none => none
      | _ => none
    else none
  | _, _ => none
def afieldAddr (P : Program) (t : TypeId) (x : V) (f : Nat) : Option V :=
  match P.underlying t with
  | some (.struct fs) => match fs[f]? with
    | some fd => match P.info? fd.type with
      | some i => if i.size = 0 then none else
        match x with
        | .ptr id ver off => some (.ptr id ver (off + fd.offset))
        | .p (.eptr r i0 j) => some (.p (.eptr r i0 (j + fd.offset)))
        | _ => none
      | none => none
    | none => none
  | _ => none
def plainT (P : Program) (e : TypeId) : Bool := match P.underlying e with
  | some (.struct _) => false
  | some (.array _ _) => false
  | some _ => true
  | none => false
def arrElem (P : Program) (t : TypeId) : Option Nat := match P.underlying t with
  | some (.array n e) => if (P.info? e).map (·.size) = some 1 ∧ plainT P e = true then some n else none
  | _ => none
def aindex (P : Program) (t : TypeId) (x i : V) : Option V :=
  match x, i with
  | .p (.str s), .p (.int _ n) => if isString P t ∧ 0 ≤ n ∧ n < s.size then some (.p (.int .u8 ((s.data.toList.getD n.toNat 0).toNat : Nat))) else none
  | .p (.agg r), .p (.int _ n) => match arrElem P t with
    | some m => if 0 ≤ n ∧ n < m ∧ n < r.len then some (.p (r.elem n.toNat)) else none
    | none => none
  | _, _ => none
section
variable {P : Program} {G : Gh} {h : HT} {w : World}
theorem run_sliceBounds_two (isS : Bool) (len cap : Nat) (lo hi : Option V) (vlo vhi : Option Value) (l hh : Nat)
    (hlo : ∀ x, lo = some x → ∃ v, vlo = some v ∧ Rep G h w x v) (hlo' : lo = none → vlo = none)
    (hhi : ∀ x, hi = some x → ∃ v, vhi = some v ∧ Rep G h w x v) (hhi' : hi = none → vhi = none)
    (bl : bnd lo 0 = some l) (bh : bnd hi len = some hh) (h1 : l ≤ hh) (h2 : hh ≤ cap) :
    (Instr.sliceBounds isS len cap vlo vhi none).run P w = .ok (l, hh, cap) w := by
  have key : ∀ (x : Option V) (vx : Option Value) (d k : Nat), (∀ y, x = some y → ∃ v, vx = some v ∧ Rep G h w y v) → (x = none → vx = none) →
      bnd x d = some k → (vx = none ∧ k = d) ∨ ∃ kk n, vx = some (.int kk n) ∧ 0 ≤ n ∧ n.toNat = k := by
    intro x vx d k hx hx' hb
    cases x with
    | none => left; simp only [bnd, Option.some.injEq] at hb; exact ⟨hx' rfl, hb.symm⟩
    | some y =>
      right
      obtain ⟨v, rfl, hr⟩ := hx y rfl
      unfold bnd at hb
      split at hb
      · simp at *
      · rename_i k0 n heq
        simp only [Option.some.injEq] at heq; subst heq
        split at hb
        · rename_i h0
          simp only [Option.some.injEq] at hb
          exact ⟨k0, n, by rw [hr.int], h0, hb⟩
        · simp at hb
      · simp at hb
  rcases key lo vlo 0 l hlo hlo' bl with ⟨rfl, rfl⟩ | ⟨kl, nl, rfl, h0l, rfl⟩ <;>
  rcases key hi vhi len hh hhi hhi' bh with ⟨rfl, rfl⟩ | ⟨kh, nh, rfl, h0h, rfl⟩
  · simp [Instr.sliceBounds]
  · simp [Instr.sliceBounds, run_sliceBound w kh nh cap _ h0h (by omega)]
  · simp [Instr.sliceBounds, run_sliceBound w kl nl hh _ h0l (by omega)]
  · simp [Instr.sliceBounds, run_sliceBound w kh nh cap _ h0h (by omega), run_sliceBound w kl nl nh.toNat _ h0l (by omega)]
theorem Row.len_cut {α : Type} (r : Row α) (l hh : Nat) (h1 : l ≤ hh) (h2 : hh ≤ r.len) : (r.cut l hh).len = hh - l := by
  cases r <;> simp [Row.cut, Row.len] at * <;> omega
theorem Row.sz_cut {α : Type} (r : Row α) (l hh : Nat) : (r.cut l hh).sz = r.sz := by cases r <;> rfl
theorem Row.elem_cut (r : Row PV) (l hh i : Nat) (h2 : hh ≤ r.len) (hi : i < hh - l) : (r.cut l hh).elem i = r.elem (l + i) := by
  have e1 : ∀ {α : Type} (l0 : List α) (d : α), ((l0.take hh).drop l).getD i d = l0.getD (l + i) d := by
    intro α l0 d
    simp only [List.getD_eq_getElem?_getD, List.getElem?_drop, List.getElem?_take]
    rw [if_pos (by omega)]
  cases r <;> simp only [Row.cut, Row.elem] <;> rw [e1]
theorem RepP.cut {m : Nat → Nat → Option Value} {r : Row PV} {nl : Bool} {a : Option Addr} {cap l hh : Nat} (hr : RepP m (.sl r nl) (.slice a r.len cap))
    (h1 : l ≤ hh) (h2 : hh ≤ r.len) (e : Nat) (he : e = r.sz ∨ r.len = 0) : RepP m (.sl (r.cut l hh) nl) (sliced a l hh cap e) := by
  have hlen := Row.len_cut r l hh h1 h2
  generalize hv : Value.slice a r.len cap = v at hr
  cases hr with
  | slNil _ h =>
    have h3 : hh = 0 := by omega
    have h4 : l = 0 := by omega
    subst h3 h4
    simp only [Value.slice.injEq] at hv
    obtain ⟨rfl, _, rfl⟩ := hv
    simp only [sliced, if_true, Nat.sub_self]
    exact .slNil _ (by simpa using hlen)
  | sl _ a0 cap0 f hc ha hw hf h1' hr' =>
    simp only [Value.slice.injEq, true_and] at hv
    obtain ⟨rfl, rfl⟩ := hv
    have hsz := Row.sz_cut r l hh
    unfold sliced
    by_cases hcl : cap = l
    · have h5 : hh - l = 0 := by omega
      rw [if_pos hcl]
      rw [h5] at hlen
      have := RepP.sl (m := m) (r.cut l hh) a0 (cap - l) f (by omega) (.inl hlen) (fun i hi => by omega) (fun i j hi => by omega) (fun i j hi => by omega) (fun i j hi => by omega)
      rw [hlen] at this; rw [h5]; exact this
    · rw [if_neg hcl]
      simp only [Option.map_some]
      by_cases h0 : r.len = 0
      · have h5 : hh - l = 0 := by omega
        rw [h5] at hlen
        have := RepP.sl (m := m) (r.cut l hh) (a0.add (l * e)) (cap - l) f (by omega) (.inl hlen) (fun i hi => by omega) (fun i j hi => by omega) (fun i j hi => by omega) (fun i j hi => by omega)
        rw [hlen] at this; rw [h5]; exact this
      · have hsp : a0.spot = none := by rcases ha with h | h; exact absurd h h0; exact h
        have he' : e = r.sz := by rcases he with h | h; exact h; exact absurd h h0
        have hadd : a0.add (l * e) = ⟨a0.block, a0.off + l * e, none⟩ := by
          unfold Addr.add; split
          · rename_i hz; cases a0; simp_all
          · rfl
        rw [hadd]
        have := RepP.sl (m := m) (r.cut l hh) ⟨a0.block, a0.off + l * e, none⟩ (cap - l) (fun i j => f (l + i) j) (by omega) (.inr rfl)
          (fun i hi => by rw [Row.elem_cut r l hh i h2 (by omega), hsz]; exact hw _ (by omega))
          (fun i j hi hj => by
            rw [hsz] at hj
            have := hf (l + i) j (by omega) hj
            simp only [hsz, he']
            rw [← this]; congr 1
            rw [Nat.add_mul]; omega)
          (fun i j hi hj => by rw [Row.elem_cut r l hh i h2 (by omega)]; exact h1' _ _ (by omega) (hsz ▸ hj))
          (fun i j hi hj => by rw [Row.elem_cut r l hh i h2 (by omega)]; exact hr' _ _ (by omega) (hsz ▸ hj))
        rw [hlen] at this; exact this
end
end Go.Av
end
section
set_option linter.unusedVariables false
set_option linter.unusedSimpArgs false
set_option linter.unusedSectionVars false
namespace Go.Av
section
variable {P : Program} {G : Gh} {h : HT} {w : World}
theorem esz_slice {t e : Nat} (hs : isSlice P t = true) (he : esz P t = some e) : ∃ el i, P.underlying t = some (.slice el) ∧ P.info? el = some i ∧ i.size = e := by
  unfold isSlice at hs; unfold esz at he
  split at hs
  · rename_i el hu
    rw [hu] at he
    simp only [Option.map_eq_some_iff] at he
    obtain ⟨i, hi, rfl⟩ := he
    exact ⟨el, i, hu, hi, rfl⟩
  · simp at hs
theorem esz_arr {t e n : Nat} (hs : arrLen P t = some n) (he : esz P t = some e) : ∃ el i, P.underlying t = some (.array n el) ∧ P.info? el = some i ∧ i.size = e := by
  unfold arrLen at hs; unfold esz at he
  split at hs
  · rename_i k el hu
    rw [hu] at he
    simp only [Option.some.injEq] at hs; subst hs
    simp only [Option.map_eq_some_iff] at he
    obtain ⟨i, hi, rfl⟩ := he
    exact ⟨el, i, hu, hi, rfl⟩
  · simp at hs
theorem isString_eq {t : Nat} (hs : isString P t = true) : P.underlying t = some .string := by
  unfold isString at hs
  split at hs
  · assumption
  · simp at hs
theorem run_info {e : TypeId} {i : TypeInfo} (hi : P.info? e = some i) (w : World) : (typeInfo e).run P w = .ok i w := by
  simp [typeInfo, hi]
theorem run_sizeOf_eq {e : TypeId} {i : TypeInfo} (hi : P.info? e = some i) (w : World) : (sizeOf e).run P w = .ok i.size w := by
  simp [sizeOf, run_info hi]
theorem RepP.capOk {m : Nat → Nat → Option Value} {r : Row PV} {nl : Bool} {a : Option Addr} {n cap : Nat} (hr : RepP m (.sl r nl) (.slice a n cap)) : r.len ≤ cap := by
  generalize hv : Value.slice a n cap = v at hr
  cases hr with
  | slNil _ h => simp only [Value.slice.injEq] at hv; omega
  | sl _ a cap f hc => simp only [Value.slice.injEq] at hv; omega
theorem aslice_run {t : TypeId} {x : V} {lo hi_ : Option V} {vx : Value} {vlo vhi : Option Value} {res : V}
    (hres : aslice P t x lo hi_ = some res) (rx : Rep G h w x vx)
    (hwf : ∀ id ver off, x = .ptr id ver off → ∃ hb, look h.H id = some (ver, hb))
    (hwf2 : ∀ id ver off len cap, x = .own id ver off len cap → ∃ hb, look h.H id = some (ver, hb))
    (hlo : ∀ x, lo = some x → ∃ v, vlo = some v ∧ Rep G h w x v) (hlo' : lo = none → vlo = none)
    (hhi : ∀ x, hi_ = some x → ∃ v, vhi = some v ∧ Rep G h w x v) (hhi' : hi_ = none → vhi = none) :
    ∃ v, (Instr.sliceAt t vx vlo vhi none).run P w = .ok v w ∧ Rep G h w res v := by
  unfold aslice at hres
  split at hres
  ·
    rename_i s
    split at hres
    · rename_i hs
      split at hres
      · rename_i l hh bl bh
        split at hres
        · rename_i hb
          simp only [Option.some.injEq] at hres; subst hres
          obtain rfl := rx.str
          refine ⟨.string (s.extract l hh), ?_, .p (.str _)⟩
          have hu := isString_eq hs
          simp [Instr.sliceAt, Instr.slice, run_underlying hu, run_sliceBounds_two false s.size s.size lo hi_ vlo vhi l hh hlo hlo' hhi hhi' bl bh hb.1 hb.2]
        · simp at hres
      · simp at hres
    · simp at hres
  ·
    rename_i r nl
    split at hres
    · rename_i e l hh hs he bl bh
      split at hres
      · rename_i hb
        simp only [Option.some.injEq] at hres; subst hres
        have hr := rx.sl
        obtain ⟨a, cap, rfl, ha⟩ := hr.slice
        obtain ⟨el, i, hu, hi, rfl⟩ := esz_slice hs he
        have hcap : r.len ≤ cap := hr.capOk
        refine ⟨sliced a l hh cap i.size, ?_, .p (hr.cut hb.1 hb.2.1 _ hb.2.2)⟩
        simp [Instr.sliceAt, Instr.slice, run_underlying hu, run_sizeOf_eq hi, sliced, run_sliceBounds_two true r.len cap lo hi_ vlo vhi l hh hlo hlo' hhi hhi' bl bh hb.1 (by omega)]
      · simp at hres
    · simp at hres
  ·
    rename_i r tk ver nl
    cases rx with
    | row _ _ _ cur _ a cap hc hle hr ht =>
    have hcap : r.len ≤ cap := hr.capOk
    split at hres
    · rename_i e l hs he bl
      obtain ⟨el, i, hu, hi, rfl⟩ := esz_slice hs he
      split at hres
      · split at hres
        · rename_i hb
          simp only [Option.some.injEq] at hres; subst hres
          obtain rfl := hhi' rfl
          refine ⟨sliced a l r.len cap i.size, ?_, ?_⟩
          · simp [Instr.sliceAt, Instr.slice, run_underlying hu, run_sizeOf_eq hi, sliced, run_sliceBounds_two true r.len cap lo none vlo none l r.len hlo hlo' (by simp) (by simp) bl rfl hb.1 (by omega)]
          · have hcut := hr.cut hb.1 (Nat.le_refl _) _ hb.2
            have hlen := Row.len_cut r l r.len hb.1 (Nat.le_refl _)
            unfold sliced at hcut ⊢
            rw [← hlen] at hcut ⊢
            refine .row _ _ _ cur _ _ _ hc hle hcut ?_
            intro hv
            rcases ht hv with h3 | ⟨off, vs, ty, fz, rfl, hown, hend, hs0, hblk, hsz, hfz⟩
            · left; omega
            · by_cases hcl : cap = l
              · left; omega
              · right
                rw [if_neg hcl]
                by_cases h0 : r.len = 0
                · have hl0 : l = 0 := by omega
                  subst hl0
                  refine ⟨off, vs, ty, fz, by simp [Addr.add], hown, ?_, ?_, hblk, ?_, ?_⟩
                  · rw [hlen, Row.sz_cut]; simpa using hend
                  · rw [Row.sz_cut]; exact hs0
                  · rw [Row.sz_cut]; simpa using hsz
                  · rw [Row.sz_cut]; simpa using hfz
                · have he' : i.size = r.sz := by rcases hb.2 with h | h; exact h; exact absurd h h0
                  have hm : (cap - l) * r.sz = cap * r.sz - l * r.sz := Nat.sub_mul ..
                  have hm2 : (r.len - l) * r.sz = r.len * r.sz - l * r.sz := Nat.sub_mul ..
                  have hm3 : l * r.sz ≤ r.len * r.sz := Nat.mul_le_mul_right _ hb.1
                  have hm4 : r.len * r.sz ≤ cap * r.sz := Nat.mul_le_mul_right _ hcap
                  refine ⟨off + l * i.size, vs, ty, fz, ?_, hown, ?_, ?_, hblk, ?_, ?_⟩
                  · simp only [Option.map_some, Addr.add]; split
                    · rename_i hz; rw [hz]; simp
                    · rfl
                  · rw [hlen, Row.sz_cut, he']; omega
                  · rw [Row.sz_cut]; exact hs0
                  · rw [Row.sz_cut, he']; omega
                  · rw [Row.sz_cut, he']; intro o ho1 ho2; exact hfz o ho1 (by omega)
        · simp at hres
      · rename_i hv
        split at hres
        · rename_i hh bh
          split at hres
          · rename_i hb
            simp only [Option.some.injEq] at hres; subst hres
            refine ⟨sliced a l hh cap i.size, ?_, .p (hr.cut hb.1 hb.2.1 _ hb.2.2)⟩
            simp [Instr.sliceAt, Instr.slice, run_underlying hu, run_sizeOf_eq hi, sliced, run_sliceBounds_two true r.len cap lo (some hv) vlo vhi l hh hlo hlo' hhi hhi' bl bh hb.1 (by omega)]
          · simp at hres
        · simp at hres
    · simp at hres
  ·
    rename_i id ver off len cap
    split at hres
    · rename_i e l hh hs he bl bh
      split at hres
      · rename_i hb
        simp only [Option.some.injEq] at hres; subst hres
        obtain ⟨el, i, hu, hi, rfl⟩ := esz_slice hs he
        obtain ⟨hb0, hlk⟩ := hwf2 _ _ _ _ _ rfl
        obtain rfl := rx.at_own hlk rfl
        refine ⟨_, ?_, .own _ _ _ _ _ ver hb0 _ hlk (Nat.le_refl _) (fun _ => rfl)⟩
        have hb' := run_sliceBounds_two (P := P) true len cap lo hi_ vlo vhi l hh hlo hlo' hhi hhi' bl bh hb.1 hb.2
        simp only [Instr.sliceAt, Instr.slice, run_underlying hu, Sem.run_bind, Result.andThen_ok, hb', run_sizeOf_eq hi, Sem.run_pure]
        by_cases hcl : cap = l
        · simp [hcl]
        · simp only [if_neg hcl, Option.map_some, Addr.add]
          split
          · rename_i hz; rw [hz]; simp
          · rfl
      · simp at hres
    · simp at hres
  ·
    rename_i id ver off
    split at hres
    · rename_i n e hn he
      split at hres
      · rename_i l hh bl bh
        split at hres
        · rename_i hb
          simp only [Option.some.injEq] at hres; subst hres
          obtain ⟨el, i, hu, hi, rfl⟩ := esz_arr hn he
          obtain ⟨hb0, hlk⟩ := hwf _ _ _ rfl
          obtain rfl := rx.at_ptr hlk rfl
          refine ⟨_, ?_, .own _ _ _ _ _ ver hb0 _ hlk (Nat.le_refl _) (fun _ => rfl)⟩
          have hb' := run_sliceBounds_two (P := P) false n n lo hi_ vlo vhi l hh hlo hlo' hhi hhi' bl bh hb.1 hb.2
          simp only [Instr.sliceAt, run_underlying hu, Sem.run_bind, Result.andThen_ok, Instr.sureAddr, hb', run_sizeOf_eq hi, Sem.run_pure]
          by_cases hcl : n = l
          · simp [hcl]
          · simp only [if_neg hcl, Addr.add]
            split
            · rename_i hz; rw [hz]; simp
            · rfl
        · simp at hres
      · simp at hres
    · simp at hres
  ·
    rename_i r i0 j0
    split at hres
    · rename_i r' hel
      split at hres
      · rename_i n e hn he
        split at hres
        · rename_i l hh bl bh
          split at hres
          · rename_i hb
            simp only [Option.some.injEq] at hres; subst hres
            obtain ⟨el, i, hu, hi, rfl⟩ := esz_arr hn he
            obtain ⟨hb1, hb2, rfl, he2, hs1, rfl, hi0⟩ := hb
            cases rx with
            | p rp =>
            cases rp with
            | eptr _ _ _ b off f _ hw hf h1 hr' =>
            have hlen : r'.len = r.sz := by have := hw i0 hi0; rw [hel] at this; exact this
            have hone : ∀ k, k < r'.len → (r'.elem k).one = true := by
              intro k hk
              have := h1 i0 k hi0 (by omega)
              rw [hel] at this; exact this
            have hwid : ∀ {x : PV}, x.one = true → x.width = 1 := by intro x hx; cases x <;> first | rfl | simp [PV.one] at hx
            have hcl1 : ∀ {x : PV}, x.one = true → x.cell 0 = x := by intro x hx; cases x <;> first | rfl | simp [PV.one] at hx
            have hsl : RepP (pm G w) (.sl r' false) (.slice (some ⟨b, off + i0 * r.sz, none⟩) r'.len r'.len) := by
              refine .sl r' ⟨b, off + i0 * r.sz, none⟩ r'.len (fun k _ => f i0 k) (Nat.le_refl _) (.inr rfl) (fun k hk => by rw [hs1]; exact hwid (hone k hk)) ?_ ?_ ?_
              · intro k q hk hq
                rw [hs1] at hq ⊢
                obtain rfl : q = 0 := by omega
                have := hf i0 k hi0 (by omega)
                simpa using this
              · intro k q hk hq
                rw [hs1] at hq
                obtain rfl : q = 0 := by omega
                rw [hcl1 (hone k hk)]; exact hone k hk
              · intro k q hk hq
                rw [hs1] at hq
                obtain rfl : q = 0 := by omega
                have := hr' i0 k hi0 (by omega)
                rw [hel] at this
                rw [hcl1 (hone k hk)]; exact this
            refine ⟨sliced (some ⟨b, off + i0 * r.sz, none⟩) l hh r'.len i.size, ?_, .p (hsl.cut hb1 hb2 _ (.inl (he2.trans hs1.symm)))⟩
            have hb' := run_sliceBounds_two (P := P) false r'.len r'.len lo hi_ vlo vhi l hh hlo hlo' hhi hhi' bl bh hb1 hb2
            simp only [Instr.sliceAt, run_underlying hu, Sem.run_bind, Result.andThen_ok, Instr.sureAddr, hb', run_sizeOf_eq hi, Sem.run_pure, sliced, Nat.add_zero]
            by_cases hcl : r'.len = l
            · simp [hcl]
            · simp only [if_neg hcl, Option.map_some]
          · simp at hres
        · simp at hres
      · simp at hres
    · simp at hres
  · simp at hres
end
end Go.Av
end
section
set_option linter.unusedVariables false
set_option linter.unusedSimpArgs false
set_option linter.unusedSectionVars false
namespace Go.Av
theorem eqIn_int {P : Program} {w : World} {t : TypeId} {k : IntKind} (hu : P.underlying t = some (.int k)) (d : Nat) (a b : Int) :
    (Op.equalIn (d + 1) t (.int k a) (.int k b)).run P w = .ok (a == b) w := by
  simp [Op.equalIn, run_underlying hu]
theorem eqLoop {P : Program} {w : World} (F : Nat → Option Bool × Unit → Sem (ForInStep (Option Bool × Unit))) (g : Nat → Bool) : ∀ (l : List Nat),
    (∀ i, i ∈ l → ∀ s, (F i s).run P w = .ok (if g i then .yield (none, ()) else .done (some false, ())) w) →
    (forIn l ((none, ()) : Option Bool × Unit) F).run P w = .ok (if l.all g then (none, ()) else (some false, ())) w
  | [], _ => by simp
  | i :: l, h => by
    have h1 := h i (by simp) (none, ())
    have ih := eqLoop F g l (fun j hj => h j (by simp [hj]))
    simp only [List.forIn_cons, Sem.run_bind, h1, Result.andThen_ok]
    cases hg : g i
    · simp [hg]
    · simp only [if_true, ih, List.all_cons, hg, Bool.true_and]
theorem part_int {P : Program} {w : World} {e : TypeId} {k : IntKind} (hue : P.underlying e = some (.int k)) (cs : Array Value) (i : Nat) {v : Value} (h : cs[i]? = some v) :
    (part e cs i).run P w = .ok v w := by
  simp [part, isAgg, run_underlying hue, h]
theorem eqIn_ints {P : Program} {w : World} {t e : TypeId} {k : IntKind} {n : Nat} (hu : P.underlying t = some (.array n e)) (hue : P.underlying e = some (.int k))
    (hsz : (sizeOf e).run P w = .ok 1 w) (d : Nat) (xs ys : Array Value) (a b : Nat → Int) (ha : ∀ i, i < n → xs[i]? = some (.int k (a i))) (hb : ∀ i, i < n → ys[i]? = some (.int k (b i))) :
    (Op.equalIn (d + 2) t (.agg xs) (.agg ys)).run P w = .ok ((List.range n).all fun i => a i == b i) w := by
  unfold Op.equalIn
  simp [run_underlying hu, hsz]
  rw [eqLoop _ (fun i => a i == b i)]
  · simp only [Result.andThen_ok, List.range_eq_range']
    cases (List.range' 0 n).all fun i => a i == b i <;> simp
  · intro i hi s
    have hi : i < n := by simp at hi; omega
    simp only [Sem.run_bind, part_int hue _ _ (ha i hi), part_int hue _ _ (hb i hi), eqIn_int hue, Result.andThen_ok]
    cases a i == b i <;> simp
theorem eqGuard_agg {P : Program} {w : World} {t : TypeId} (h : P.eqGuardType P.depth t = false) (op : BinOp) (ox oy : Operand) (xs ys : Array Value) :
    (eqGuard op t ox oy (.agg xs) (.agg ys)).run P w = .ok () w := by
  unfold eqGuard
  split <;> simp [h]
theorem allEq : ∀ (n : Nat) (a b : List Int), a.length = n → b.length = n → ((List.range n).all fun i => a.getD i 0 == b.getD i 0) = (a == b)
  | 0, a, b, ha, hb => by
    obtain rfl := List.eq_nil_of_length_eq_zero ha; obtain rfl := List.eq_nil_of_length_eq_zero hb; rfl
  | n + 1, x :: a, y :: b, ha, hb => by
    rw [List.range_succ_eq_map, List.all_cons, List.all_map]
    have := allEq n a b (by simpa using ha) (by simpa using hb)
    simp only [List.getD_cons_zero, Function.comp_def, List.getD_cons_succ, this]
    rfl
  | n + 1, [], _, ha, _ => by simp at ha
  | n + 1, _ :: _, [], _, hb => by simp at hb
def okV (H : List (Nat × (Nat × HB))) : V → Bool
  | .ptr id ver _ => match look H id with | some (c, _) => c == ver | none => false
  | .own id ver _ _ _ => match look H id with | some (c, _) => c == ver | none => false
  | .adr _ _ _ _ _ => false
  | .bnd _ _ _ _ => false
  | _ => true
section
variable {P : Program} {G : Gh} {h : HT} {w : World}
theorem okV_ptr {id ver off : Nat} (hk : okV h.H (.ptr id ver off) = true) : ∃ hb, look h.H id = some (ver, hb) := by
  unfold okV at hk
  simp only at hk
  split at hk
  · rename_i c hb hl
    have : c = ver := by simpa using hk
    subst this; exact ⟨hb, hl⟩
  · simp at hk
theorem okV_own {id ver off len cap : Nat} (hk : okV h.H (.own id ver off len cap) = true) : ∃ hb, look h.H id = some (ver, hb) := by
  unfold okV at hk
  simp only at hk
  split at hk
  · rename_i c hb hl
    have : c = ver := by simpa using hk
    subst this; exact ⟨hb, hl⟩
  · simp at hk
theorem addr_add (b off n : Nat) : Addr.add ⟨b, off, none⟩ n = ⟨b, off + n, none⟩ := by
  unfold Addr.add; split
  · rename_i hz; subst hz; rfl
  · rfl
theorem RepP.at_ {m : Nat → Nat → Option Value} {r : Row PV} {nl : Bool} {v : Value} (hr : RepP m (.sl r nl) v) (h0 : 0 < r.len) (j0 : Nat) :
    ∃ b off cap, v = .slice (some ⟨b, off, none⟩) r.len cap ∧ ∀ i0 j0, i0 < r.len → RepP m (.eptr r i0 j0) (.pointer (some ⟨b, off + i0 * r.sz + j0, none⟩)) := by
  cases hr with
  | slNil _ h => omega
  | sl _ a cap f hc ha hw hf h1 hr =>
    have hsp : a.spot = none := by rcases ha with h | h; omega; exact h
    obtain ⟨b, off, sp⟩ := a
    simp only at hsp; subst hsp
    exact ⟨b, off, cap, rfl, fun i0 j0 hi => .eptr r i0 j0 b off f hi hw hf h1 hr⟩
theorem aindexAddr_run {t : TypeId} {x i : V} {vx vi : Value} {res : V} (hres : aindexAddr P t x i = some res) (hk : okV h.H x = true)
    (rx : Rep G h w x vx) (ri : Rep G h w i vi) : ∃ v, (Instr.indexAt t vx vi).run P w = .ok v w ∧ Rep G h w res v := by
  unfold aindexAddr at hres
  split at hres
  · rename_i k n e he
    obtain rfl := ri.int
    split at hres
    · rename_i h0
      split at hres
      ·
        rename_i id ver off
        split at hres
        · rename_i len hl
          split at hres
          · rename_i hn
            simp only [Option.some.injEq] at hres; subst hres
            obtain ⟨el, inf, hu, hi, rfl⟩ := esz_arr hl he
            obtain ⟨hb, hlk⟩ := okV_ptr hk
            obtain rfl := rx.at_ptr hlk rfl
            refine ⟨_, ?_, .ptr _ _ _ ver hb _ hlk (Nat.le_refl _) (fun _ => rfl)⟩
            simp [Instr.indexAt, asIntOf, run_underlying hu, Instr.sureAddr, run_sizeOf_eq hi, h0, hn, addr_add]
          · simp at hres
        · simp at hres
      · rename_i id ver off len cap
        split at hres
        · rename_i hn
          simp only [Option.some.injEq] at hres; subst hres
          obtain ⟨el, inf, hu, hi, rfl⟩ := esz_slice hn.1 he
          obtain ⟨hb, hlk⟩ := okV_own hk
          obtain rfl := rx.at_own hlk rfl
          refine ⟨_, ?_, .ptr _ _ _ ver hb _ hlk (Nat.le_refl _) (fun _ => rfl)⟩
          simp [Instr.indexAt, asIntOf, run_underlying hu, run_sizeOf_eq hi, h0, hn.2, addr_add]
        · simp at hres
      · rename_i r nl
        split at hres
        · rename_i hn
          simp only [Option.some.injEq] at hres; subst hres
          obtain ⟨el, inf, hu, hi, rfl⟩ := esz_slice hn.1 he
          obtain ⟨b, off, cap, rfl, hp⟩ := rx.sl.at_ (by omega) 0
          refine ⟨_, ?_, .p (hp n.toNat 0 (by omega))⟩
          simp [Instr.indexAt, asIntOf, run_underlying hu, run_sizeOf_eq hi, h0, hn.2.1, addr_add, hn.2.2]
        · simp at hres
      · rename_i r tk ver nl
        split at hres
        · rename_i hn
          simp only [Option.some.injEq] at hres; subst hres
          obtain ⟨el, inf, hu, hi, rfl⟩ := esz_slice hn.1 he
          cases rx with
          | row _ _ _ cur _ a cap hc hle hr ht =>
          obtain ⟨b, off, cap', hv, hp⟩ := hr.at_ (by omega) 0
          rw [hv]
          refine ⟨_, ?_, .p (hp n.toNat 0 (by omega))⟩
          simp [Instr.indexAt, asIntOf, run_underlying hu, run_sizeOf_eq hi, h0, hn.2.1, addr_add, hn.2.2]
        · simp at hres
      · rename_i r i0 j
        split at hres
        · rename_i len hl
          split at hres
          · rename_i hn
            simp only [Option.some.injEq] at hres; subst hres
            obtain ⟨el, inf, hu, hi, rfl⟩ := esz_arr hl he
            cases rx with
            | p rp =>
            cases rp with
            | eptr _ _ _ b off f hi0 hw hf h1 hr =>
            refine ⟨_, ?_, .p (.eptr r i0 (j + n.toNat * inf.size) b off f hi0 hw hf h1 hr)⟩
            simp [Instr.indexAt, asIntOf, run_underlying hu, Instr.sureAddr, run_sizeOf_eq hi, h0, hn, addr_add, Nat.add_assoc]
          · simp at hres
        · simp at hres
      · simp at hres
    · simp at hres
  · simp at hres
theorem afieldAddr_run {t : TypeId} {x : V} {f : Nat} {vx : Value} {res : V} (hres : afieldAddr P t x f = some res) (hk : okV h.H x = true)
    (rx : Rep G h w x vx) : ∃ v, (Instr.fieldAt t vx f).run P w = .ok v w ∧ Rep G h w res v := by
  unfold afieldAddr at hres
  split at hres
  · rename_i fs hu
    split at hres
    · rename_i fd hfd
      split at hres
      · rename_i i hi
        split at hres
        · simp at hres
        · rename_i hsz
          split at hres
          · rename_i id ver off
            simp only [Option.some.injEq] at hres; subst hres
            obtain ⟨hb, hlk⟩ := okV_ptr hk
            obtain rfl := rx.at_ptr hlk rfl
            refine ⟨_, ?_, .ptr _ _ _ ver hb _ hlk (Nat.le_refl _) (fun _ => rfl)⟩
            simp [Instr.fieldAt, run_underlying hu, hfd, Instr.sureAddr, fieldPlace, run_sizeOf_eq hi, hsz, addr_add]
          · rename_i r i0 j
            simp only [Option.some.injEq] at hres; subst hres
            cases rx with
            | p rp =>
            cases rp with
            | eptr _ _ _ b off f hi0 hw hf h1 hr =>
            refine ⟨_, ?_, .p (.eptr r i0 (j + fd.offset) b off f hi0 hw hf h1 hr)⟩
            simp [Instr.fieldAt, run_underlying hu, hfd, Instr.sureAddr, fieldPlace, run_sizeOf_eq hi, hsz, addr_add, Nat.add_assoc]
          · simp at hres
      · simp at hres
    · simp at hres
  · simp at hres
theorem aindex_run {t : TypeId} {x i : V} {vx vi : Value} {res : V} (hres : aindex P t x i = some res)
    (rx : Rep G h w x vx) (ri : Rep G h w i vi) : ∃ v, (Instr.index t vx vi).run P w = .ok v w ∧ Rep G h w res v := by
  unfold aindex at hres
  split at hres
  · rename_i s k n
    split at hres
    · rename_i hn
      simp only [Option.some.injEq] at hres; subst hres
      obtain rfl := rx.str
      obtain rfl := ri.int
      have hu := isString_eq hn.1
      have hlt : n.toNat < s.size := by omega
      have e1 : s[n.toNat]? = some (s.data.toList.getD n.toNat 0) := by
        rw [getElem?_pos s n.toNat hlt]
        congr 1
        have : n.toNat < s.data.toList.length := by simpa using hlt
        rw [List.getD_eq_getElem?_getD, List.getElem?_eq_getElem this]
        rfl
      refine ⟨_, ?_, .p (.int _ _)⟩
      simp [Instr.index, asIntOf, run_underlying hu, hn.2.1, e1]
    · simp at hres
  · rename_i r k n
    split at hres
    · rename_i m hm
      split at hres
      · rename_i hc
        simp only [Option.some.injEq] at hres; subst hres
        obtain rfl := ri.int
        cases rx with
        | p rp =>
          cases rp with
          | agg _ vs f hs hf h1 hr =>
            have hlt : n.toNat < r.len := by omega
            unfold arrElem at hm
            split at hm
            · rename_i n' e hu
              split at hm
              · rename_i hs1
                obtain ⟨hs1, hs2⟩ := hs1
                simp only [Option.some.injEq] at hm; subst hm
                simp only [Option.map_eq_some_iff] at hs1
                obtain ⟨inf, hi, hsz⟩ := hs1
                have hagg : (isAgg e).run P w = .ok false w := by
                  unfold plainT at hs2
                  split at hs2 <;> first | (simp at hs2; done) | skip
                  rename_i d hd1 hd2 hd
                  simp only [isAgg, Sem.run_bind, run_underlying hd, Result.andThen_ok]
                  cases d <;> first | rfl | exact absurd rfl (hd1 _) | exact absurd rfl (hd2 _ _)
                refine ⟨f n.toNat, ?_, .p (hr _ hlt)⟩
                simp [Instr.index, asIntOf, run_underlying hu, run_sizeOf_eq hi, hsz, hc.1, hc.2.1, part, hagg, hf _ hlt]
              · simp at hm
            · simp at hm
      · simp at hres
    · simp at hres
  · simp at hres
theorem nilS_slice {x : V} {v : Value} {b : Bool} (hb : nilS x = some b) (rx : Rep G h w x v) : ∃ a n c, v = .slice a n c ∧ a.isNone = b := by
  unfold nilS at hb
  split at hb <;> simp only [Option.some.injEq, reduceCtorEq] at hb
  · subst hb
    obtain ⟨a, cap, rfl, ha⟩ := rx.sl.slice
    exact ⟨a, _, cap, rfl, ha⟩
  · subst hb
    cases rx with
    | row _ _ _ cur _ a cap hc hle hr ht =>
    obtain ⟨a', cap', hv, ha⟩ := hr.slice
    simp only [Value.slice.injEq, true_and] at hv
    exact ⟨a, _, cap, rfl, hv.1 ▸ ha⟩
theorem nilP_ptr {x : V} {v : Value} {b : Bool} (hb : nilP x = some b) (rx : Rep G h w x v) : ∃ a, v = .pointer a ∧ a.isNone = b := by
  unfold nilP at hb
  split at hb <;> simp only [Option.some.injEq, reduceCtorEq] at hb
  · subst hb; obtain rfl := rx.ptr0; exact ⟨none, rfl, rfl⟩
  · subst hb
    cases rx with
    | p rp => cases rp with
      | eptr _ _ _ b off f => exact ⟨_, rfl, rfl⟩
theorem eqIn_slice_r {t e : TypeId} (hu : P.underlying t = some (.slice e)) (d : Nat) (a : Option Addr) (n c n' c' : Nat) :
    (Op.equalIn (d + 1) t (.slice a n c) (.slice none n' c')).run P w = .ok a.isNone w := by
  cases a <;> simp [Op.equalIn, run_underlying hu]
theorem eqIn_slice_l {t e : TypeId} (hu : P.underlying t = some (.slice e)) (d : Nat) (a : Option Addr) (n c n' c' : Nat) :
    (Op.equalIn (d + 1) t (.slice none n c) (.slice a n' c')).run P w = .ok a.isNone w := by
  cases a <;> simp [Op.equalIn, run_underlying hu]
theorem eqIn_ptr_r {t e : TypeId} (hu : P.underlying t = some (.pointer e)) (d : Nat) (a : Option Addr) :
    (Op.equalIn (d + 1) t (.pointer a) (.pointer none)).run P w = .ok a.isNone w := by
  cases a <;> simp [Op.equalIn, run_underlying hu]
theorem eqIn_ptr_l {t e : TypeId} (hu : P.underlying t = some (.pointer e)) (d : Nat) (a : Option Addr) :
    (Op.equalIn (d + 1) t (.pointer none) (.pointer a)).run P w = .ok a.isNone w := by
  cases a <;> simp [Op.equalIn, run_underlying hu]
theorem eqIn_bool {t : TypeId} (hu : P.underlying t = some .bool) (d : Nat) (a b : Bool) :
    (Op.equalIn (d + 1) t (.bool a) (.bool b)).run P w = .ok (a == b) w := by
  simp [Op.equalIn, run_underlying hu]
theorem aggInts {k : IntKind} {a : List Int} {v : Value} (rx : Rep G h w (.p (.agg (.ints k a))) v) :
    ∃ xs : Array Value, v = .agg xs ∧ ∀ i, i < a.length → xs[i]? = some (.int k (a.getD i 0)) := by
  cases rx with
  | p r => cases r with
    | agg _ vs f hs hf h1 hr =>
      refine ⟨vs, rfl, fun i hi => ?_⟩
      rw [hf i hi]
      have := hr i hi
      simp only [Row.elem] at this
      rw [(Rep.p (G := G) (h := h) this).int]
theorem eqLoopL {α : Type} {P : Program} {w : World} (F : α → Option Bool × Unit → Sem (ForInStep (Option Bool × Unit))) (g : α → Bool) : ∀ (l : List α),
    (∀ i, i ∈ l → ∀ s, (F i s).run P w = .ok (if g i then .yield (none, ()) else .done (some false, ())) w) →
    (forIn l ((none, ()) : Option Bool × Unit) F).run P w = .ok (if l.all g then (none, ()) else (some false, ())) w
  | [], _ => by simp
  | i :: l, h => by
    have h1 := h i (by simp) (none, ())
    have ih := eqLoopL F g l (fun j hj => h j (by simp [hj]))
    simp only [List.forIn_cons, Sem.run_bind, h1, Result.andThen_ok]
    cases hg : g i
    · simp [hg]
    · simp only [if_true, ih, List.all_cons, hg, Bool.true_and]
theorem _root_.Go.Av.RepP.int_ {m : Nat → Nat → Option Value} {k : IntKind} {n : Int} {v : Value} (r : RepP m (.int k n) v) : v = .int k n := by cases r; rfl
theorem _root_.Go.Av.RepP.str_ {m : Nat → Nat → Option Value} {s : ByteArray} {v : Value} (r : RepP m (.str s) v) : v = .string s := by cases r; rfl
theorem _root_.Go.Av.RepP.bool_ {m : Nat → Nat → Option Value} {b : Bool} {v : Value} (r : RepP m (.bool b) v) : v = .bool b := by cases r; rfl
theorem aggRow {r : Row PV} {v : Value} (rx : Rep G h w (.p (.agg r)) v) : ∃ (xs : Array Value) (f : Nat → Value), v = .agg xs ∧ ∀ i, i < r.len → xs[i]? = some (f i) ∧ RepP (pm G w) (r.elem i) (f i) := by
  cases rx with
  | p rp => cases rp with
    | agg _ vs f hs hf h1 hr => exact ⟨vs, f, rfl, fun i hi => ⟨hf i hi, hr i hi⟩⟩
theorem eqIn_str {t : TypeId} (hu : P.underlying t = some .string) (d : Nat) (a b : ByteArray) :
    (Op.equalIn (d + 1) t (.string a) (.string b)).run P w = .ok (a == b) w := by
  simp [Op.equalIn, run_underlying hu]
theorem part_atom {e : TypeId} {td : TypeDesc} (hue : P.underlying e = some td) (h1 : ∀ n e', td ≠ .array n e') (h2 : ∀ fs, td ≠ .struct fs) (cs : Array Value) (i : Nat) {v : Value} (hv : cs[i]? = some v) :
    (part e cs i).run P w = .ok v w := by
  cases td <;> first | (simp [part, isAgg, run_underlying hue, hv]; done) | exact absurd rfl (h1 _ _) | exact absurd rfl (h2 _)
theorem eqIn_struct {t : TypeId} {fs : Array Field} (hu : P.underlying t = some (.struct fs)) (hst : P.stoodInHeld t = false) (d : Nat) (xs ys : Array Value) (g : Field → Bool)
    (hg : ∀ f, f ∈ fs.toList → f.name ≠ "_" ∧ ∃ a b, (part f.type xs f.offset).run P w = .ok a w ∧ (part f.type ys f.offset).run P w = .ok b w ∧ (Op.equalIn d f.type a b).run P w = .ok (g f) w) :
    (Op.equalIn (d + 1) t (.agg xs) (.agg ys)).run P w = .ok (fs.toList.all g) w := by
  unfold Op.equalIn
  simp only [Sem.run_bind, run_underlying hu, Result.andThen_ok, run_program, hst, Bool.false_eq_true, if_false]
  rw [← Array.forIn_toList]
  rw [eqLoopL _ g]
  · cases fs.toList.all g <;> simp
  · intro f hf s
    obtain ⟨hn, a, b, h1, h2, h3⟩ := hg f hf
    simp only [if_pos hn, Sem.run_bind, h1, h2, h3, Result.andThen_ok]
    cases g f <;> simp
theorem eqAts_run {r s : Row PV} {xs ys : Array Value} {f g : Nat → Value} (hf : ∀ i, i < r.len → xs[i]? = some (f i) ∧ RepP (pm G w) (r.elem i) (f i)) (hg : ∀ i, i < s.len → ys[i]? = some (g i) ∧ RepP (pm G w) (s.elem i) (g i)) (d : Nat) :
    ∀ (fl : List Field) (L : List (Nat × Nat)) (b : Bool), (fl.mapM fun f => if f.name = "_" then none else match P.underlying f.type with
        | some (.int _) => some (f.offset, 0)
        | some .string => some (f.offset, 1)
        | some .bool => some (f.offset, 2)
        | _ => none) = some L → eqAts r s L = some b →
      ∃ gg : Field → Bool, (∀ e, e ∈ fl → e.name ≠ "_" ∧ ∃ a c, (part e.type xs e.offset).run P w = .ok a w ∧ (part e.type ys e.offset).run P w = .ok c w ∧ (Op.equalIn (d + 1) e.type a c).run P w = .ok (gg e) w) ∧ fl.all gg = b := by
  have one : ∀ (e : Field) (q : Nat × Nat) (b0 : Bool), (if e.name = "_" then none else match P.underlying e.type with
        | some (.int _) => some (e.offset, 0)
        | some .string => some (e.offset, 1)
        | some .bool => some (e.offset, 2)
        | _ => none) = some q → q.1 < r.len → q.1 < s.len → eqAt q.2 (r.elem q.1) (s.elem q.1) = some b0 →
        e.name ≠ "_" ∧ ∃ a c, (part e.type xs e.offset).run P w = .ok a w ∧ (part e.type ys e.offset).run P w = .ok c w ∧ (Op.equalIn (d + 1) e.type a c).run P w = .ok b0 w := by
    intro e q b0 hq h1 h2 hb
    split at hq
    · simp at hq
    rename_i hn
    refine ⟨hn, ?_⟩
    split at hq
    · rename_i k hu
      simp only [Option.some.injEq] at hq; subst hq
      obtain ⟨x1, x2⟩ := hf _ h1
      obtain ⟨y1, y2⟩ := hg _ h2
      try dsimp only at hb x1 x2 y1 y2
      unfold eqAt at hb
      split at hb <;> (try simp only [Option.some.injEq, reduceCtorEq] at hb)
      · rename_i k1 a1 k2 b1 ex ey
        split at hb
        · rename_i hk
          subst hk
          simp only [Option.some.injEq] at hb; subst hb
          rw [ex] at x2; rw [ey] at y2
          have ea := x2.int_
          have eb := y2.int_
          rw [ea] at x1; rw [eb] at y1
          refine ⟨_, _, part_atom hu (by simp) (by simp) xs _ x1, part_atom hu (by simp) (by simp) ys _ y1, ?_⟩
          simp [Op.equalIn, run_underlying hu]
        · simp at hb
      · rename_i e0 e1 e2; exact absurd e0 (by decide)
      · rename_i e0 e1 e2; exact absurd e0 (by decide)
    · rename_i hu
      simp only [Option.some.injEq] at hq; subst hq
      obtain ⟨x1, x2⟩ := hf _ h1
      obtain ⟨y1, y2⟩ := hg _ h2
      try dsimp only at hb x1 x2 y1 y2
      unfold eqAt at hb
      split at hb <;> (try simp only [Option.some.injEq, reduceCtorEq] at hb)
      · rename_i e0 e1 e2; exact absurd e0 (by decide)
      · rename_i a1 b1 ex ey
        subst hb
        rw [ex] at x2; rw [ey] at y2
        have ea := x2.str_
        have eb := y2.str_
        rw [ea] at x1; rw [eb] at y1
        exact ⟨_, _, part_atom hu (by simp) (by simp) xs _ x1, part_atom hu (by simp) (by simp) ys _ y1, eqIn_str hu d _ _⟩
      · rename_i e0 e1 e2; exact absurd e0 (by decide)
    · rename_i hu
      simp only [Option.some.injEq] at hq; subst hq
      obtain ⟨x1, x2⟩ := hf _ h1
      obtain ⟨y1, y2⟩ := hg _ h2
      try dsimp only at hb x1 x2 y1 y2
      unfold eqAt at hb
      split at hb <;> (try simp only [Option.some.injEq, reduceCtorEq] at hb)
      · rename_i e0 e1 e2; exact absurd e0 (by decide)
      · rename_i e0 e1 e2; exact absurd e0 (by decide)
      · rename_i a1 b1 ex ey
        subst hb
        rw [ex] at x2; rw [ey] at y2
        have ea := x2.bool_
        have eb := y2.bool_
        rw [ea] at x1; rw [eb] at y1
        exact ⟨_, _, part_atom hu (by simp) (by simp) xs _ x1, part_atom hu (by simp) (by simp) ys _ y1, eqIn_bool hu d _ _⟩
    · simp at hq
  intro fl
  induction fl with
  | nil =>
    intro L b hL hb
    simp only [List.mapM_nil, Option.pure_def, Option.some.injEq] at hL
    subst hL
    simp only [eqAts, Option.some.injEq] at hb
    exact ⟨fun _ => true, fun e he => by simp at he, by simp [hb]⟩
  | cons e fl ih =>
    intro L b hL hb
    rw [List.mapM_cons] at hL
    simp only [Option.bind_eq_bind, Option.bind_eq_some_iff] at hL
    obtain ⟨q, hq, L', hL', hcons⟩ := hL
    simp only [Option.pure_def, Option.some.injEq] at hcons
    subst hcons
    simp only [eqAts] at hb
    split at hb
    · rename_i hlt
      split at hb
      · rename_i b0 c0 h0 hc
        simp only [Option.some.injEq] at hb
        obtain ⟨gg, g1, g2⟩ := ih L' c0 hL' hc
        by_cases hmem : e ∈ fl
        · have he := g1 e hmem
          obtain ⟨o1, a, c, o2, o3, o4⟩ := one e q b0 hq hlt.1 hlt.2 h0
          obtain ⟨_, a', c', p2, p3, p4⟩ := he
          rw [o2] at p2; rw [o3] at p3
          simp only [Result.ok.injEq, and_true] at p2 p3
          subst p2 p3
          rw [o4] at p4
          simp only [Result.ok.injEq, and_true] at p4
          refine ⟨gg, ?_, ?_⟩
          · intro e' he'
            rcases List.mem_cons.1 he' with rfl | h'
            · exact g1 _ hmem
            · exact g1 e' h'
          · rw [List.all_cons, g2, ← p4]; exact hb
        · have hnd : ∀ e', e' ∈ fl → ¬ e' = e := fun e' h' h => hmem (h ▸ h')
          refine ⟨fun x => if x.name = e.name ∧ x.offset = e.offset ∧ x.type = e.type then b0 else gg x, ?_, ?_⟩
          · intro e' he'
            by_cases hs : e'.name = e.name ∧ e'.offset = e.offset ∧ e'.type = e.type
            · dsimp only
              rw [if_pos hs, hs.1, hs.2.1, hs.2.2]; exact one e q b0 hq hlt.1 hlt.2 h0
            · dsimp only
              rw [if_neg hs]
              rcases List.mem_cons.1 he' with rfl | h'
              · exact absurd ⟨rfl, rfl, rfl⟩ hs
              · exact g1 e' h'
          · rw [List.all_cons, if_pos ⟨rfl, rfl, rfl⟩, ← hb]
            congr 1
            rw [← g2]
            rw [Bool.eq_iff_iff, List.all_eq_true, List.all_eq_true]
            have same : ∀ e', e' ∈ fl → (if e'.name = e.name ∧ e'.offset = e.offset ∧ e'.type = e.type then b0 else gg e') = gg e' := by
              intro e' h'
              by_cases hs : e'.name = e.name ∧ e'.offset = e.offset ∧ e'.type = e.type
              · rw [if_pos hs]
                obtain ⟨_, a, c, o2, o3, o4⟩ := one e q b0 hq hlt.1 hlt.2 h0
                obtain ⟨_, a', c', p2, p3, p4⟩ := g1 e' h'
                rw [hs.2.1, hs.2.2] at p2 p3
                rw [hs.2.2] at p4
                rw [o2] at p2; rw [o3] at p3
                simp only [Result.ok.injEq, and_true] at p2 p3
                subst p2 p3
                rw [o4] at p4
                simpa using p4
              · rw [if_neg hs]
            constructor
            · intro hall e' h'; rw [← same e' h']; exact hall e' h'
            · intro hall e' h'; rw [same e' h']; exact hall e' h'
      · simp at hb
    · simp at hb
theorem eqNil_run {t : TypeId} {x y : V} {vx vy : Value} {b : Bool} (hb : eqNil P t x y = some b) (rx : Rep G h w x vx) (ry : Rep G h w y vy) :
    (Op.equal t vx vy).run P w = .ok b w := by
  unfold eqNil at hb
  split at hb
  · rename_i e hu
    split at hb
    · rename_i a hx hy
      simp only [Option.some.injEq] at hb; subst hb
      obtain ⟨a, n, c, rfl, ha⟩ := nilS_slice hx rx
      obtain ⟨a', n', c', rfl, ha'⟩ := nilS_slice hy ry
      cases a' with
      | some _ => simp at ha'
      | none => rw [← ha]; exact eqIn_slice_r hu 9999 _ _ _ _ _
    · rename_i b' _ hx hy
      simp only [Option.some.injEq] at hb; subst hb
      obtain ⟨a, n, c, rfl, ha⟩ := nilS_slice hx rx
      obtain ⟨a', n', c', rfl, ha'⟩ := nilS_slice hy ry
      cases a with
      | some _ => simp at ha
      | none => rw [← ha']; exact eqIn_slice_l hu 9999 _ _ _ _ _
    · simp at hb
  · rename_i e hu
    split at hb
    · rename_i a hx hy
      simp only [Option.some.injEq] at hb; subst hb
      obtain ⟨a, rfl, ha⟩ := nilP_ptr hx rx
      obtain ⟨a', rfl, ha'⟩ := nilP_ptr hy ry
      cases a' with
      | some _ => simp at ha'
      | none => rw [← ha]; exact eqIn_ptr_r hu 9999 _
    · rename_i b' _ hx hy
      simp only [Option.some.injEq] at hb; subst hb
      obtain ⟨a, rfl, ha⟩ := nilP_ptr hx rx
      obtain ⟨a', rfl, ha'⟩ := nilP_ptr hy ry
      cases a with
      | some _ => simp at ha
      | none => rw [← ha']; exact eqIn_ptr_l hu 9999 _
    · simp at hb
  · rename_i hu
    split at hb
    · rename_i a b'
      simp only [Option.some.injEq] at hb; subst hb
      obtain rfl := rx.bool
      obtain rfl := ry.bool
      exact eqIn_bool hu 9999 _ _
    · simp at hb
  · rename_i n e hu
    split at hb
    · rename_i k ka a kb b' hue
      split at hb
      · rename_i hc
        obtain ⟨rfl, rfl, hla, hlb, hs, hg⟩ := hc
        simp only [Option.some.injEq] at hb; subst hb
        simp only [Option.map_eq_some_iff] at hs
        obtain ⟨inf, hi, hsz⟩ := hs
        obtain ⟨xs, rfl, hxs⟩ := aggInts rx
        obtain ⟨ys, rfl, hys⟩ := aggInts ry
        have := eqIn_ints (w := w) hu hue (by rw [run_sizeOf_eq hi, hsz]) 9998 xs ys (fun i => a.getD i 0) (fun i => b'.getD i 0) (fun i hi => hxs i (by omega)) (fun i hi => hys i (by omega))
        rw [allEq n a b' hla hlb] at this
        exact this
      · simp at hb
    · simp at hb
  · rename_i fs hu
    split at hb
    · rename_i L r s hL
      obtain ⟨xs, f, rfl, hf⟩ := aggRow rx
      obtain ⟨ys, g, rfl, hg⟩ := aggRow ry
      unfold structD at hL
      rw [hu] at hL
      simp only at hL
      split at hL
      · rename_i hc
        obtain ⟨gg, g1, g2⟩ := eqAts_run hf hg 9998 fs.toList L b hL hb
        rw [← g2]
        exact eqIn_struct hu hc.1 9999 xs ys gg g1
      · simp at hL
    · simp at hb
  · simp at hb
end
end Go.Av
end
section
set_option linter.unusedVariables false
set_option linter.unusedSimpArgs false
set_option linter.unusedSectionVars false
namespace Go.Av
def xcells : V → Option (Nat × (Nat → V))
  | .p (.agg r) => some (r.len, fun i => .p (r.elem i))
  | .agg l => some (l.length, fun i => l.getD i .junk)
  | .junk => none
  | .tup _ => none
  | x => some (1, fun _ => x)
def splice {α : Type} (l : List α) (off : Nat) (l' : List α) : List α := l.take off ++ l' ++ l.drop (off + l'.length)
def intsK (k : IntKind) : List PV → Option (List Int)
  | [] => some []
  | .int k' n :: l => if k' = k then (intsK k l).map (n :: ·) else none
  | _ :: _ => none
theorem intsK_map {k : IntKind} : ∀ {l : List PV} {ns : List Int}, intsK k l = some ns → l = ns.map (PV.int k)
  | [], ns, h => by simp [intsK] at h; subst h; rfl
  | x :: l, ns, h => by
    cases x <;> simp only [intsK, reduceCtorEq] at h
    rename_i k' n
    split at h
    · rename_i hk
      simp only [Option.map_eq_some_iff] at h
      obtain ⟨m, hm, rfl⟩ := h
      subst hk
      rw [intsK_map hm]; rfl
    · simp at h
def storeHB (hb : HB) (off : Nat) (x : V) : Option HB :=
  match hb, x with
  | .row (.ints k l), .p (.int k' n) => if k = k' ∧ off < l.length then some (.row (.ints k (l.set off n))) else none
  | .row (.ints k l), .p (.agg (.ints k' l')) => if k = k' ∧ off = 0 ∧ l'.length = l.length then some (.row (.ints k' l')) else none
  | .row (.ints k l), .p (.agg (.vals _ ps)) => match intsK k ps with
    | some l' => if off = 0 ∧ l'.length = l.length then some (.row (.ints k l')) else none
    | none => none
  | .row (.strs l), .p (.str s) => if off < l.length then some (.row (.strs (l.set off s))) else none
  | .cells l, .p (.agg r) => if off + r.len ≤ l.length then some (.cells (splice l off ((List.range r.len).map fun i => .p (r.elem i)))) else none
  | .cells l, .agg l' => if off + l'.length ≤ l.length then some (.cells (splice l off l')) else none
  | .cells l, .p x => if off < l.length then some (.cells (l.set off (.p x))) else none
  | .cells l, .row r t v nl => if off < l.length then some (.cells (l.set off (.row r t v nl))) else none
  | .cells l, .brow e r t v nl => if off < l.length then some (.cells (l.set off (.brow e r t v nl))) else none
  | .cells l, .ptr a b c => if off < l.length then some (.cells (l.set off (.ptr a b c))) else none
  | .cells l, .own a b c d e => if off < l.length then some (.cells (l.set off (.own a b c d e))) else none
  | _, _ => none
def isAggT (P : Program) (t : TypeId) : Option Bool :=
  match P.underlying t with
  | some (.struct _) => some true
  | some (.array _ _) => some true
  | some _ => some false
  | none => none
def tsize (P : Program) (t : TypeId) : Option Nat := (P.info? t).map (·.size)
def loadHB (ag : Bool) (n : Nat) (hb : HB) (off : Nat) : Option V :=
  if ag then
    match hb with
    | .row r => if off = 0 ∧ n = r.len then some (.p (.agg r)) else if off + n ≤ r.len then some (.p (.agg (r.cut off (off + n)))) else none
    | .cells l => if off + n ≤ l.length then some (.agg ((l.drop off).take n)) else none
    | .iter _ _ => none
  else if off < hb.size then some (hb.get off) else none
def loadE (ag : Bool) (n : Nat) (r : Row PV) (i j : Nat) : Option V :=
  if ag then
    if j = 0 ∧ n = r.sz ∧ r.sz ≠ 1 then some (.p (r.elem i))
    else if j + n ≤ r.sz then some (.p (.agg (.vals 1 ((List.range n).map fun k => (r.elem i).cell (j + k))))) else none
  else if j < r.sz then some (.p ((r.elem i).cell j)) else none
def aload (P : Program) (H : List (Nat × (Nat × HB))) (t : TypeId) (x : V) : Option V :=
  match isAggT P t, tsize P t with
  | some ag, some n =>
    match x with
    | .ptr id ver off => match look H id with
      | some (c, hb) => if c = ver then loadHB ag n hb off else none
      | none => none
    | .p (.eptr r i j) => loadE ag n r i j
    | _ => none
  | _, _ => none
section
variable {P : Program} {G : Gh} {h : HT} {w : World}
theorem run_isAgg {t : TypeId} {b : Bool} (hb : isAggT P t = some b) (w : World) : (isAgg t).run P w = .ok b w := by
  unfold isAggT at hb
  cases hu : P.underlying t with
  | none => rw [hu] at hb; simp at hb
  | some d =>
    rw [hu] at hb
    cases d <;> simp only [Option.some.injEq] at hb <;> subst hb <;> simp [isAgg, run_underlying hu]
theorem tsize_run {t : TypeId} {n : Nat} (hn : tsize P t = some n) (w : World) : (sizeOf t).run P w = .ok n w := by
  unfold tsize at hn
  simp only [Option.map_eq_some_iff] at hn
  obtain ⟨i, hi, rfl⟩ := hn
  exact run_sizeOf_eq hi w
theorem cell_of_block {b o : Nat} {vs : Array Value} {ty : TypeId} {fz : Nat × Nat} (hb : w.heap[b]? = some (.cells vs ty fz)) : w.cell? ⟨b, o, none⟩ = vs[o]? := by
  simp [World.cell?, hb]
theorem run_loadOne {a : Addr} {v : Value} (hc : w.cell? a = some v) : (Go.load a).run P w = .ok v w := by
  simp [Go.load, Sem.run, hc]
theorem pm_cell {b o : Nat} {v : Value} (hv : pm G w b o = some v) : w.cell? ⟨b, o, none⟩ = some v := by
  unfold pm at hv
  split at hv
  · exact hv
  · simp at hv
  · split at hv
    · exact hv
    · simp at hv
  · split at hv
    · exact hv
    · simp at hv
theorem HRep.cells {b : Nat} {hb : HB} (hr : HRep G h w b hb) (hs : 0 < hb.size) : ∃ vs ty fz, w.heap[b]? = some (.cells vs ty fz) ∧ vs.size = hb.size ∧
      (∀ i, i < hb.size → ∃ v, vs[i]? = some v ∧ v.oneCell' = true ∧ Rep G h w (hb.get i) v) ∧ (∀ i, i < hb.size → w.frozen? ⟨b, i, none⟩ = false) := by
  cases hb with
  | iter s pos => simp [HB.size] at hs
  | cells l => exact hr
  | row r => exact hr
theorem one_of_cell {v : Value} {x : PV} {m : Nat → Nat → Option Value} (hr : RepP m x v) (h1 : v.oneCell' = true) : x.one = true := by
  cases hr <;> first | rfl | (simp [Value.oneCell'] at h1)
theorem run_loadVar_agg {t : TypeId} {n : Nat} (ha : isAggT P t = some true) (hn : tsize P t = some n) (a : Addr) (f : Nat → Value)
    (hc : ∀ j, j < n → w.cell? (a.add j) = some (f j)) : (loadVar t a).run P w = .ok (.agg ((List.range n).map f).toArray) w := by
  simp [loadVar, run_isAgg ha, tsize_run hn, run_loadCells w a n f hc]
theorem run_loadVar_one {t : TypeId} {v : Value} (ha : isAggT P t = some false) (a : Addr) (hc : w.cell? a = some v) : (loadVar t a).run P w = .ok v w := by
  simp only [loadVar, Sem.run_bind, run_isAgg ha, Result.andThen_ok, Bool.false_eq_true, if_false]
  exact run_loadOne hc
theorem Row.elem_cut' (r : Row PV) (l n i : Nat) (h2 : l + n ≤ r.len) (hi : i < n) : (r.cut l (l + n)).elem i = r.elem (l + i) :=
  Row.elem_cut r l (l + n) i h2 (by omega)
theorem aload_run {t : TypeId} {x : V} {vx : Value} {res : V} (wf : WF G h w) (hres : aload P h.H t x = some res)
    (rx : Rep G h w x vx) : ∃ v, (Instr.loadAt t vx).run P w = .ok v w ∧ Rep G h w res v := by
  unfold aload at hres
  split at hres
  · rename_i ag n hag hn
    split at hres
    · rename_i id ver off
      split at hres
      · rename_i c hb hlk
        split at hres
        · rename_i hc
          subst hc
          obtain rfl := rx.at_ptr hlk rfl
          obtain ⟨hown, hlt, hrep⟩ := wf.objs id c hb hlk
          simp only [Instr.loadAt, Instr.sureAddr, Sem.run_bind, Sem.run_pure, Result.andThen_ok]
          unfold loadHB at hres
          cases ag with
          | true =>
            simp only [if_true] at hres
            have key : ∀ (m : Nat) (_ : off + m ≤ hb.size) (_ : 0 < hb.size), n = m → ∃ f : Nat → Value, (loadVar t ⟨G.ι id, off, none⟩).run P w = .ok (.agg ((List.range n).map f).toArray) w ∧
                ∀ j, j < n → (f j).oneCell' = true ∧ Rep G h w (hb.get (off + j)) (f j) := by
              intro m hm h0 hnm
              subst hnm
              obtain ⟨vs, ty, fz, hblk, hsz, hcell, _⟩ := hrep.cells h0
              have hc : ∀ j, j < n → ∃ v, vs[off + j]? = some v ∧ v.oneCell' = true ∧ Rep G h w (hb.get (off + j)) v := fun j hj => hcell _ (by omega)
              refine ⟨fun j => if hj : j < n then (hc j hj).choose else undef, ?_, ?_⟩
              · refine run_loadVar_agg hag hn _ _ fun j hj => ?_
                rw [addr_add, cell_of_block hblk]
                simp only [hj, dif_pos]
                exact (hc j hj).choose_spec.1
              · intro j hj
                simp only [hj, dif_pos]
                exact (hc j hj).choose_spec.2
            have fin : ∀ f : Nat → Value, ((List.range n).map f).toArray.size = n ∧ ∀ i, i < n → ((List.range n).map f).toArray[i]? = some (f i) := by
              intro f
              refine ⟨by simp, fun i hi => by simp [hi]⟩
            split at hres
            · rename_i r
              split at hres
              · rename_i hz
                simp only [Option.some.injEq] at hres; subst hres
                obtain ⟨rfl, rfl⟩ := hz
                by_cases h0 : 0 < r.len
                · obtain ⟨f, hrun, hf⟩ := key r.len (by simp [HB.size]) (by simpa [HB.size] using h0) rfl
                  refine ⟨_, hrun, .p (.agg r _ f (fin f).1 (fin f).2 ?_ ?_)⟩
                  · intro i hi
                    have := hf i hi
                    simp only [Nat.zero_add, HB.get] at this
                    cases this.2 with | p rp => exact one_of_cell rp this.1
                  · intro i hi
                    have := (hf i hi).2
                    simp only [Nat.zero_add, HB.get] at this
                    cases this with | p rp => exact rp
                · have hr0 : r.len = 0 := by omega
                  refine ⟨_, run_loadVar_agg hag hn _ (fun _ => undef) (fun j hj => by omega), .p (.agg r _ (fun _ => undef) (fin _).1 (fin _).2 (fun i hi => by omega) (fun i hi => by omega))⟩
              · split at hres
                · rename_i hle
                  simp only [Option.some.injEq] at hres; subst hres
                  by_cases h0 : 0 < n
                  · obtain ⟨f, hrun, hf⟩ := key n (by simpa [HB.size] using hle) (by simp only [HB.size]; omega) rfl
                    have hlen : (r.cut off (off + n)).len = n := by rw [Row.len_cut _ _ _ (by omega) hle]; omega
                    refine ⟨_, hrun, .p (.agg _ _ f (by rw [hlen]; exact (fin f).1) (by rw [hlen]; exact (fin f).2) ?_ ?_)⟩
                    · intro i hi
                      rw [hlen] at hi
                      rw [Row.elem_cut' r off n i hle hi]
                      have := hf i hi
                      simp only [HB.get] at this
                      cases this.2 with | p rp => exact one_of_cell rp this.1
                    · intro i hi
                      rw [hlen] at hi
                      rw [Row.elem_cut' r off n i hle hi]
                      have := (hf i hi).2
                      simp only [HB.get] at this
                      cases this with | p rp => exact rp
                  · have hn0 : n = 0 := by omega
                    subst hn0
                    have hlen : (r.cut off (off + 0)).len = 0 := by rw [Row.len_cut _ _ _ (by omega) hle]; omega
                    refine ⟨_, run_loadVar_agg hag hn _ (fun _ => undef) (fun j hj => by omega), .p (.agg _ _ (fun _ => undef) (by rw [hlen]; rfl) (fun i hi => by rw [hlen] at hi; omega) (fun i hi => by rw [hlen] at hi; omega) (fun i hi => by rw [hlen] at hi; omega))⟩
                · simp at hres
            · rename_i l
              split at hres
              · rename_i hle
                simp only [Option.some.injEq] at hres; subst hres
                have hlen : ((l.drop off).take n).length = n := by simp; omega
                by_cases h0 : 0 < n
                · obtain ⟨f, hrun, hf⟩ := key n (by simpa [HB.size] using hle) (by simp only [HB.size]; omega) rfl
                  refine ⟨_, hrun, .agg _ _ f (by rw [hlen]; exact (fin f).1) (by rw [hlen]; exact (fin f).2) (fun i hi => (hf i (hlen ▸ hi)).1) ?_⟩
                  intro i hi
                  rw [hlen] at hi
                  have := (hf i hi).2
                  simp only [HB.get] at this
                  have e1 : ((l.drop off).take n).getD i .junk = l.getD (off + i) .junk := by
                    simp only [List.getD_eq_getElem?_getD, List.getElem?_take, List.getElem?_drop, if_pos hi]
                  rw [e1]; exact this
                · have hn0 : n = 0 := by omega
                  subst hn0
                  refine ⟨_, run_loadVar_agg hag hn _ (fun _ => undef) (fun j hj => by omega), .agg _ _ (fun _ => undef) (by rw [hlen]; rfl) (fun i hi => by rw [hlen] at hi; omega) (fun i hi => by rw [hlen] at hi; omega) (fun i hi => by rw [hlen] at hi; omega)⟩
              · simp at hres
            · simp at hres
          | false =>
            simp only [Bool.false_eq_true, if_false] at hres
            split at hres
            · rename_i hoff
              simp only [Option.some.injEq] at hres; subst hres
              obtain ⟨vs, ty, fz, hblk, hsz, hcell, _⟩ := hrep.cells (by omega)
              obtain ⟨v, hv, h1, hr⟩ := hcell off hoff
              exact ⟨v, run_loadVar_one hag _ (by rw [cell_of_block hblk]; exact hv), hr⟩
            · simp at hres
        · simp at hres
      · simp at hres
    ·
      rename_i r i j
      cases rx with
      | p rp =>
      cases rp with
      | eptr _ _ _ b off f hi0 hw hf h1 hr =>
      simp only [Instr.loadAt, Instr.sureAddr, Sem.run_bind, Sem.run_pure, Result.andThen_ok]
      have hcell : ∀ k, k < r.sz → w.cell? ⟨b, off + i * r.sz + k, none⟩ = some (f i k) := fun k hk => pm_cell (hf i k hi0 hk)
      unfold loadE at hres
      cases ag with
      | true =>
        simp only [if_true] at hres
        split at hres
        · rename_i hz
          simp only [Option.some.injEq] at hres; subst hres
          obtain ⟨rfl, rfl, hne⟩ := hz
          have hwi := hw i hi0
          cases hel : r.elem i with
          | agg r' =>
            rw [hel] at hwi
            simp only [PV.width] at hwi
            refine ⟨_, run_loadVar_agg hag hn ⟨b, off + i * r.sz + 0, none⟩ (f i) (fun k hk => by rw [addr_add]; simpa using hcell k hk), .p (.agg r' _ (f i) (by simp [hwi]) (fun k hk => by simp [hwi ▸ hk]) ?_ ?_)⟩
            · intro k hk
              have := h1 i k hi0 (hwi ▸ hk)
              rw [hel] at this; exact this
            · intro k hk
              have := hr i k hi0 (hwi ▸ hk)
              rw [hel] at this; exact this
          | _ => rw [hel] at hwi; simp only [PV.width] at hwi; omega
        · split at hres
          · rename_i hle
            simp only [Option.some.injEq] at hres; subst hres
            refine ⟨_, run_loadVar_agg hag hn ⟨b, off + i * r.sz + j, none⟩ (fun k => f i (j + k)) (fun k hk => by rw [addr_add, Nat.add_assoc]; exact hcell (j + k) (by omega)), .p (.agg _ _ (fun k => f i (j + k)) (by simp [Row.len]) (fun k hk => ?_) ?_ ?_)⟩
            · simp only [Row.len, List.length_map, List.length_range] at hk
              simp [hk]
            · intro k hk
              simp only [Row.len, List.length_map, List.length_range] at hk
              have := h1 i (j + k) hi0 (by omega)
              simpa [Row.elem, hk] using this
            · intro k hk
              simp only [Row.len, List.length_map, List.length_range] at hk
              have := hr i (j + k) hi0 (by omega)
              simpa [Row.elem, hk] using this
          · simp at hres
      | false =>
        simp only [Bool.false_eq_true, if_false] at hres
        split at hres
        · rename_i hj
          simp only [Option.some.injEq] at hres; subst hres
          exact ⟨_, run_loadVar_one hag _ (hcell j hj), .p (hr i j hi0 hj)⟩
        · simp at hres
    · simp at hres
  · simp at hres
end
end Go.Av
end
section
set_option linter.unusedVariables false
set_option linter.unusedSimpArgs false
set_option linter.unusedSectionVars false
namespace Go.Av
def World.withRow (w : World) (b : Nat) (vs : Array Value) (ty : TypeId) (fz : Nat × Nat) : World :=
  { w with heap := w.heap.setIfInBounds b (.cells vs ty fz) }
def spliceA (vs : Array Value) (off : Nat) (l : List Value) : Array Value :=
  match l with
  | [] => vs
  | v :: l => spliceA (vs.setIfInBounds off v) (off + 1) l
theorem spliceA_size (l : List Value) : ∀ (vs : Array Value) (off : Nat), (spliceA vs off l).size = vs.size := by
  induction l with
  | nil => intro vs off; rfl
  | cons v l ih => intro vs off; simp [spliceA, ih]
theorem spliceA_get (l : List Value) : ∀ (vs : Array Value) (off i : Nat), off + l.length ≤ vs.size →
    (spliceA vs off l)[i]? = if off ≤ i ∧ i < off + l.length then l[i - off]? else vs[i]? := by
  induction l with
  | nil => intro vs off i h; simp [spliceA]; omega
  | cons v l ih =>
    intro vs off i h
    simp only [List.length_cons] at h
    simp only [spliceA]
    rw [ih _ _ _ (by simp; omega)]
    by_cases h1 : i = off
    · subst h1
      rw [if_neg (by omega), if_pos (by simp only [List.length_cons]; omega)]
      simp only [Nat.sub_self, List.getElem?_cons_zero]
      rw [Array.getElem?_setIfInBounds_self_of_lt (by omega)]
    · by_cases h2 : off + 1 ≤ i ∧ i < off + 1 + l.length
      · rw [if_pos h2, if_pos (by simp only [List.length_cons]; omega)]
        obtain ⟨k, rfl⟩ : ∃ k, i = off + 1 + k := ⟨i - (off + 1), by omega⟩
        have e1 : off + 1 + k - (off + 1) = k := by omega
        have e2 : off + 1 + k - off = k + 1 := by omega
        rw [e1, e2, List.getElem?_cons_succ]
      · rw [if_neg h2, if_neg (by simp only [List.length_cons]; omega), Array.getElem?_setIfInBounds_ne (by omega)]
theorem setCell_row {w : World} {b off : Nat} {vs : Array Value} {ty : TypeId} {fz : Nat × Nat} (hb : w.heap[b]? = some (.cells vs ty fz)) (v : Value) :
    w.setCell ⟨b, off, none⟩ v = World.withRow w b (vs.setIfInBounds off v) ty fz := by
  have hlt : b < w.heap.size := by
    rcases Nat.lt_or_ge b w.heap.size with h | h
    · exact h
    · simp [Array.getElem?_eq_none h] at hb
  have hg : w.heap[b] = .cells vs ty fz := by simpa [Array.getElem?_eq_getElem hlt] using hb
  unfold World.setCell World.withRow
  congr 1
  apply Array.ext_getElem?
  intro i
  rw [Array.getElem?_modify, Array.getElem?_setIfInBounds]
  by_cases hi : b = i
  · subst hi; simp [hb, hlt, hg]
  · simp [hi]
theorem withRow_get {w : World} {b : Nat} {vs : Array Value} {ty : TypeId} {fz : Nat × Nat} (hlt : b < w.heap.size) : (World.withRow w b vs ty fz).heap[b]? = some (.cells vs ty fz) := by
  simp [World.withRow, hlt]
theorem withRow_other {w : World} {b k : Nat} {vs : Array Value} {ty : TypeId} {fz : Nat × Nat} (hne : k ≠ b) : (World.withRow w b vs ty fz).heap[k]? = w.heap[k]? := by
  simp only [World.withRow]; rw [Array.getElem?_setIfInBounds_ne (Ne.symm hne)]
theorem withRow_size {w : World} {b : Nat} {vs : Array Value} {ty : TypeId} {fz : Nat × Nat} : (World.withRow w b vs ty fz).heap.size = w.heap.size := by
  simp [World.withRow]
theorem withRow_twice {w : World} {b : Nat} {vs vs' : Array Value} {ty : TypeId} {fz : Nat × Nat} :
    World.withRow (World.withRow w b vs ty fz) b vs' ty fz = World.withRow w b vs' ty fz := by
  simp only [World.withRow]
  congr 1
  apply Array.ext_getElem?
  intro i
  rw [Array.getElem?_setIfInBounds, Array.getElem?_setIfInBounds, Array.getElem?_setIfInBounds]
  by_cases hi : b = i <;> simp [hi]
theorem withRow_same {w : World} {b : Nat} {vs : Array Value} {ty : TypeId} {fz : Nat × Nat} (hb : w.heap[b]? = some (.cells vs ty fz)) : World.withRow w b vs ty fz = w := by
  have hlt : b < w.heap.size := by
    rcases Nat.lt_or_ge b w.heap.size with h | h
    · exact h
    · simp [Array.getElem?_eq_none h] at hb
  have hg : w.heap[b] = .cells vs ty fz := by simpa [Array.getElem?_eq_getElem hlt] using hb
  unfold World.withRow
  have : w.heap.setIfInBounds b (.cells vs ty fz) = w.heap := by
    apply Array.ext
    · simp
    · intro i h1 h2
      rw [Array.getElem_setIfInBounds]
      split
      · rename_i h; subst h; exact hg.symm
      · rfl
  rw [this]
theorem lt_of_get {w : World} {b : Nat} {o : Obj} (hb : w.heap[b]? = some o) : b < w.heap.size := by
  rcases Nat.lt_or_ge b w.heap.size with h | h
  · exact h
  · simp [Array.getElem?_eq_none h] at hb
theorem run_storeCells {P : Program} (l : List Value) : ∀ (w : World) (b off i : Nat) (vs : Array Value) (ty : TypeId) (fz : Nat × Nat),
    w.heap[b]? = some (.cells vs ty fz) → off + i + l.length ≤ vs.size → (∀ v ∈ l, v.oneCell' = true) →
    (∀ o, off + i ≤ o → o < off + i + l.length → w.frozen? ⟨b, o, none⟩ = false) →
    (storeCells ⟨b, off, none⟩ l i).run P w = .ok () (World.withRow w b (spliceA vs (off + i) l) ty fz) := by
  induction l with
  | nil =>
    intro w b off i vs ty fz hb _ _ _
    simp [storeCells, spliceA, withRow_same hb]
  | cons v l ih =>
    intro w b off i vs ty fz hb hsz h1 hfz
    simp only [List.length_cons] at hsz hfz
    have hlt := lt_of_get hb
    have hc : w.cell? ⟨b, off + i, none⟩ = vs[off + i]? := cell_of_block hb
    have hsome : ∃ u, vs[off + i]? = some u := ⟨vs[off + i]'(by omega), by rw [Array.getElem?_eq_getElem]⟩
    obtain ⟨u, hu⟩ := hsome
    have hst : (Go.store ⟨b, off + i, none⟩ v).run P w = .ok () (World.withRow w b (vs.setIfInBounds (off + i) v) ty fz) := by
      rw [run_store P w _ v _ (h1 v (List.mem_cons_self ..))]
      simp only [stored, hc, hu, hfz (off + i) (Nat.le_refl _) (by omega), setCell_row hb]
      rfl
    simp only [storeCells, Sem.run_bind, addr_add, hst, Result.andThen_ok]
    rw [ih _ b off (i + 1) _ ty fz (withRow_get hlt) (by simp; omega) (fun v hv => h1 v (List.mem_cons_of_mem _ hv)) ?_]
    · simp only [spliceA]
      rw [withRow_twice]; rfl
    · intro o ho1 ho2
      have : (World.withRow w b (vs.setIfInBounds (off + i) v) ty fz).frozen? ⟨b, o, none⟩ = w.frozen? ⟨b, o, none⟩ := by
        simp only [World.frozen?, withRow_get hlt, hb]
      rw [this]; exact hfz o (by omega) (by omega)
end Go.Av
end
section
set_option linter.unusedVariables false
set_option linter.unusedSimpArgs false
set_option linter.unusedSectionVars false
namespace Go.Av
section
variable {P : Program} {G : Gh} {h : HT} {w : World}
theorem xcells_rep {x : V} {v : Value} {n : Nat} {c : Nat → V} (hx : xcells x = some (n, c)) (hk : okV h.H x = true) (rx : Rep G h w x v) :
    v.cells.size = n ∧ ∀ i, i < n → ∃ vi, v.cells[i]? = some vi ∧ vi.oneCell' = true ∧ Rep G h w (c i) vi := by
  unfold xcells at hx
  have one : ∀ {x : V} {v : Value}, v.oneCell' = true → Rep G h w x v → v.cells.size = 1 ∧ ∀ i, i < 1 → ∃ vi, v.cells[i]? = some vi ∧ vi.oneCell' = true ∧ Rep G h w x vi := by
    intro x v h1 hr
    have e : v.cells = #[v] := by cases v <;> first | rfl | (simp [Value.oneCell'] at h1)
    rw [e]
    refine ⟨rfl, fun i hi => ?_⟩
    obtain rfl : i = 0 := by omega
    exact ⟨v, rfl, h1, hr⟩
  split at hx
  · rename_i r
    simp only [Option.some.injEq, Prod.mk.injEq] at hx
    obtain ⟨rfl, rfl⟩ := hx
    cases rx with
    | p rp => cases rp with
      | agg _ vs f hs hf h1 hr =>
        exact ⟨hs, fun i hi => ⟨f i, hf i hi, (hr i hi).oneCell (h1 i hi), .p (hr i hi)⟩⟩
  · rename_i l
    simp only [Option.some.injEq, Prod.mk.injEq] at hx
    obtain ⟨rfl, rfl⟩ := hx
    cases rx with
    | agg _ vs f hs hf h1 hr => exact ⟨hs, fun i hi => ⟨f i, hf i hi, h1 i hi, hr i hi⟩⟩
  · simp at hx
  · simp at hx
  · rename_i hna _ _ _
    simp only [Option.some.injEq, Prod.mk.injEq] at hx
    obtain ⟨rfl, rfl⟩ := hx
    refine one ?_ rx
    cases rx with
    | junk v => simp at *
    | p rp =>
      cases rp <;> first | rfl | exact absurd rfl (hna _)
    | row r t ver cur nl a cap hc hle hr ht => rfl
    | own id ver off len cap cur hb v hc hle hv =>
      obtain ⟨hb', hl⟩ := okV_own hk
      rw [hl] at hc; simp only [Option.some.injEq, Prod.mk.injEq] at hc
      rw [hv hc.1]; rfl
    | ptr id ver off cur hb v hc hle hv =>
      obtain ⟨hb', hl⟩ := okV_ptr hk
      rw [hl] at hc; simp only [Option.some.injEq, Prod.mk.injEq] at hc
      rw [hv hc.1]; rfl
    | adr id ver off e n cur hb v hc hle hv => simp [okV] at hk
    | bnd f id ver off cur hb v hc hle hv => simp [okV] at hk
    | brow e r t ver nl v hr hty => cases hr with | row _ _ _ _ _ _ _ _ _ _ _ => rfl
    | agg l vs f hs hf h1 hr => simp at *
    | tup l vs f hs hf hr => simp at *
theorem splice_get {α : Type} (l : List α) (off : Nat) (l' : List α) (d : α) (hle : off + l'.length ≤ l.length) (i : Nat) :
    (splice l off l').getD i d = if off ≤ i ∧ i < off + l'.length then l'.getD (i - off) d else l.getD i d := by
  unfold splice
  have h0 : (l.take off).length = off := by simp; omega
  simp only [List.getD_eq_getElem?_getD]
  by_cases h1 : i < off
  · rw [if_neg (by omega), List.append_assoc, List.getElem?_append_left (by omega), List.getElem?_take, if_pos h1]
  · by_cases h2 : i < off + l'.length
    · rw [if_pos ⟨by omega, h2⟩, List.append_assoc, List.getElem?_append_right (by omega), h0, List.getElem?_append_left (by omega)]
    · rw [if_neg (by omega), List.getElem?_append_right (by simp; omega), List.getElem?_drop]
      congr 2; simp; omega
theorem splice_length {α : Type} (l : List α) (off : Nat) (l' : List α) (hle : off + l'.length ≤ l.length) : (splice l off l').length = l.length := by
  unfold splice; simp; omega
theorem set_getD {α : Type} (l : List α) (k i : Nat) (x d : α) (hk : k < l.length) : (l.set k x).getD i d = if i = k then x else l.getD i d := by
  simp only [List.getD_eq_getElem?_getD, List.getElem?_set]
  by_cases h1 : k = i
  · subst h1; simp [hk]
  · rw [if_neg h1, if_neg (Ne.symm h1)]
def HB.isIter : HB → Bool
  | .iter _ _ => true
  | _ => false
theorem HRep.cells' {b : Nat} {hb : HB} (hr : HRep G h w b hb) (hi : hb.isIter = false) : ∃ vs ty fz, w.heap[b]? = some (.cells vs ty fz) ∧ vs.size = hb.size ∧
      (∀ i, i < hb.size → ∃ v, vs[i]? = some v ∧ v.oneCell' = true ∧ Rep G h w (hb.get i) v) ∧ (∀ i, i < hb.size → w.frozen? ⟨b, i, none⟩ = false) := by
  cases hb with
  | iter s pos => simp [HB.isIter] at hi
  | cells l => exact hr
  | row r => exact hr
theorem HRep.of_cells {b : Nat} {hb : HB} (hi : hb.isIter = false) (hr : ∃ vs ty fz, w.heap[b]? = some (.cells vs ty fz) ∧ vs.size = hb.size ∧
      (∀ i, i < hb.size → ∃ v, vs[i]? = some v ∧ v.oneCell' = true ∧ Rep G h w (hb.get i) v) ∧ (∀ i, i < hb.size → w.frozen? ⟨b, i, none⟩ = false)) : HRep G h w b hb := by
  cases hb with
  | iter s pos => simp [HB.isIter] at hi
  | cells l => exact hr
  | row r => exact hr
theorem storeHB_spec {hb hb' : HB} {off : Nat} {x : V} (hs : storeHB hb off x = some hb') :
    ∃ n c, xcells x = some (n, c) ∧ off + n ≤ hb.size ∧ hb'.size = hb.size ∧ hb.isIter = false ∧ hb'.isIter = false ∧
      ∀ i, i < hb.size → hb'.get i = if off ≤ i ∧ i < off + n then c (i - off) else hb.get i := by
  have one : ∀ {i}, (off ≤ i ∧ i < off + 1) ↔ i = off := by intro i; omega
  unfold storeHB at hs
  split at hs
  · rename_i k l k' n
    split at hs
    · rename_i hc
      simp only [Option.some.injEq] at hs; subst hs
      obtain ⟨rfl, hlt⟩ := hc
      refine ⟨1, _, rfl, by simp [HB.size, Row.len]; omega, by simp [HB.size, Row.len], rfl, rfl, ?_⟩
      intro i hi
      simp only [HB.get, Row.elem, set_getD _ _ _ _ _ hlt, one]
      split <;> rfl
    · simp at hs
  · rename_i k l k' l'
    split at hs
    · rename_i hc
      simp only [Option.some.injEq] at hs; subst hs
      obtain ⟨rfl, rfl, hlen⟩ := hc
      refine ⟨l'.length, _, rfl, by simp [HB.size, Row.len]; omega, by simp [HB.size, Row.len]; omega, rfl, rfl, ?_⟩
      intro i hi
      simp only [HB.size, Row.len] at hi
      rw [if_pos ⟨by omega, by omega⟩]; simp [HB.get]
    · simp at hs
  · rename_i k l sz ps
    split at hs
    · rename_i l' hl'
      split at hs
      · rename_i hc
        simp only [Option.some.injEq] at hs; subst hs
        obtain ⟨rfl, hlen⟩ := hc
        obtain rfl := intsK_map hl'
        refine ⟨l'.length, _, by simp [xcells, Row.len]; rfl, by simp [HB.size, Row.len]; omega, by simp [HB.size, Row.len]; omega, rfl, rfl, ?_⟩
        intro i hi
        simp only [HB.size, Row.len] at hi
        have hi2 : i < l'.length := by omega
        rw [if_pos ⟨by omega, by omega⟩]
        simp [HB.get, Row.elem, List.getD_eq_getElem?_getD, hi2]
      · simp at hs
    · simp at hs
  · rename_i l s
    split at hs
    · rename_i hlt
      simp only [Option.some.injEq] at hs; subst hs
      refine ⟨1, _, rfl, by simp [HB.size, Row.len]; omega, by simp [HB.size, Row.len], rfl, rfl, ?_⟩
      intro i hi
      simp only [HB.get, Row.elem, set_getD _ _ _ _ _ hlt, one]
      split <;> rfl
    · simp at hs
  · rename_i l r
    split at hs
    · rename_i hle
      simp only [Option.some.injEq] at hs; subst hs
      have hlen : ((List.range r.len).map fun i => V.p (r.elem i)).length = r.len := by simp
      refine ⟨r.len, _, rfl, by simpa [HB.size] using hle, by simp only [HB.size]; rw [splice_length _ _ _ (by rw [hlen]; exact hle)], rfl, rfl, ?_⟩
      intro i hi
      simp only [HB.get]
      rw [splice_get _ _ _ _ (by rw [hlen]; exact hle), hlen]
      split
      · rename_i hc
        simp [List.getD_eq_getElem?_getD, show i - off < r.len by omega]
      · rfl
    · simp at hs
  · rename_i l l'
    split at hs
    · rename_i hle
      simp only [Option.some.injEq] at hs; subst hs
      refine ⟨l'.length, _, rfl, by simpa [HB.size] using hle, by simp only [HB.size]; rw [splice_length _ _ _ hle], rfl, rfl, ?_⟩
      intro i hi
      simp only [HB.get]
      rw [splice_get _ _ _ _ hle]
    · simp at hs
  · rename_i l x hna
    split at hs
    · rename_i hlt
      simp only [Option.some.injEq] at hs; subst hs
      refine ⟨1, fun _ => .p x, ?_, by simp [HB.size]; omega, by simp [HB.size], rfl, rfl, ?_⟩
      · cases x <;> first | rfl | exact absurd rfl (hna _)
      · intro i hi
        simp only [HB.get, set_getD _ _ _ _ _ hlt, one]
    · simp at hs
  all_goals first
    | (split at hs
       · rename_i hlt
         simp only [Option.some.injEq] at hs; subst hs
         refine ⟨1, _, rfl, by simp [HB.size]; omega, by simp [HB.size], rfl, rfl, ?_⟩
         intro i hi
         simp only [HB.get, set_getD _ _ _ _ _ hlt, one]
       · simp at hs)
    | simp at hs
end
end Go.Av
end
section
set_option linter.unusedVariables false
set_option linter.unusedSimpArgs false
set_option linter.unusedSectionVars false
namespace Go.Av
section
variable {P : Program} {G : Gh} {h : HT} {w : World}
theorem pm_other {G : Gh} {w w' : World} {b0 : Nat} (hne : ∀ k, k ≠ b0 → w'.heap[k]? = w.heap[k]?) (hb : ∃ id, G.own b0 = .obj id) (b o : Nat) : pm G w' b o = pm G w b o := by
  unfold pm
  by_cases hk : b = b0
  · subst hk; obtain ⟨id, hid⟩ := hb; rw [hid]
  · have e : w'.cell? ⟨b, o, none⟩ = w.cell? ⟨b, o, none⟩ := by simp [World.cell?, hne b hk]
    rw [e]
theorem shp_withRow {b : Nat} {vs vs' : Array Value} {ty : TypeId} {fz fz' : Nat × Nat} (hb : w.heap[b]? = some (.cells vs ty fz)) (hs : vs'.size = vs.size) (k : Nat) (x : TypeId × Nat)
    (hx : w.shape? k = some x) : (World.withRow w b vs' ty fz').shape? k = some x := by
  by_cases hk : k = b
  · subst hk
    simp only [World.shape?, hb, withRow_get (lt_of_get hb)] at hx ⊢
    rw [hs]; exact hx
  · simp only [World.shape?, withRow_other hk] at hx ⊢; exact hx
theorem shp_old {w w' : World} (h : ∀ (k : Nat) (o : Obj), w.heap[k]? = some o → w'.heap[k]? = some o) (k : Nat) (x : TypeId × Nat) (hx : w.shape? k = some x) : w'.shape? k = some x := by
  simp only [World.shape?] at hx ⊢
  cases hk : w.heap[k]? with
  | none => rw [hk] at hx; simp at hx
  | some o => rw [hk] at hx; rw [h k o hk]; exact hx
theorem turned (wf : WF G h w) {id c : Nat} {hb hb' : HB} (hl : look h.H id = some (c, hb)) {vs' : Array Value} {ty : TypeId} {fz : Nat × Nat}
    (hi' : hb'.isIter = false) (hsz : vs'.size = hb'.size) (hblk : ∃ vs, w.heap[G.ι id]? = some (.cells vs ty fz) ∧ vs'.size = vs.size)
    (hfz : ∀ i, i < hb'.size → w.frozen? ⟨G.ι id, i, none⟩ = false)
    (hcell : ∀ i, i < hb'.size → ∃ v, vs'[i]? = some v ∧ v.oneCell' = true ∧ Rep G h w (hb'.get i) v) :
    let h' : HT := ⟨upd h.H id (c, hb'), h.T⟩
    let w' := World.withRow w (G.ι id) vs' ty fz
    Keeps G h w G h' w' ∧ Ext G w G w' ∧ WF G h' w' := by
  intro h' w'
  obtain ⟨hown, hlt, hrep⟩ := wf.objs id c hb hl
  obtain ⟨vs, hvs, hss⟩ := hblk
  have hshp := shp_withRow (fz' := fz) hvs hss
  have hother : ∀ k, k ≠ G.ι id → w'.heap[k]? = w.heap[k]? := fun k hk => withRow_other hk
  have hpm : ∀ b o, pm G w' b o = pm G w b o := pm_other hother ⟨id, hown⟩
  have hk : Keeps G h w G h' w' := by
    refine ⟨fun b o v hv => (hpm b o).trans hv, ?_, ?_, hshp⟩
    · intro t cur ht
      refine ⟨cur, ht, Nat.le_refl _, fun _ => ⟨rfl, rfl, fun ho => ⟨ho, ?_⟩⟩⟩
      intro vs0 ty0 fz0 h0
      have : G.τ t ≠ G.ι id := by intro he; rw [he, hown] at ho; exact absurd ho (by simp)
      rw [hother _ this]; exact h0
    · intro i cur hb0 hl0
      by_cases hid : i = id
      · subst hid
        rw [hl] at hl0; simp only [Option.some.injEq, Prod.mk.injEq] at hl0
        exact ⟨c, hb', look_upd_same _ _ _, by omega, fun _ => rfl⟩
      · exact ⟨cur, hb0, (look_upd_other _ _ _ _ hid).trans hl0, Nat.le_refl _, fun _ => rfl⟩
  refine ⟨hk, ?_, ?_⟩
  · refine ⟨rfl, rfl, rfl, by simp [w', withRow_size], ?_, fun b o v _ hv => (hpm b o).trans hv, hshp⟩
    intro b hb0 hf
    have : b ≠ G.ι id := by intro he; rw [he, hown] at hf; exact absurd hf (by simp [Owner.still])
    exact ⟨rfl, hother _ this⟩
  · refine ⟨fun b hb0 => wf.fresh b (by simpa [w', withRow_size] using hb0), wf.rows, ?_⟩
    intro i ver hb0 hl0
    by_cases hid : i = id
    · subst hid
      rw [look_upd_same] at hl0; simp only [Option.some.injEq, Prod.mk.injEq] at hl0
      obtain ⟨rfl, rfl⟩ := hl0
      refine ⟨hown, by simpa [w', withRow_size] using hlt, ?_⟩
      refine HRep.of_cells hi' ⟨vs', ty, fz, withRow_get hlt, hsz, ?_, ?_⟩
      · intro k hk0
        obtain ⟨v, h1, h2, h3⟩ := hcell k hk0
        exact ⟨v, h1, h2, h3.mono hk⟩
      · intro k hk0
        have : w'.frozen? ⟨G.ι i, k, none⟩ = w.frozen? ⟨G.ι i, k, none⟩ := by
          simp only [World.frozen?, w', withRow_get hlt, hvs]
        rw [this]; exact hfz k hk0
    · rw [look_upd_other _ _ _ _ hid] at hl0
      obtain ⟨o1, o2, o3⟩ := wf.objs i ver hb0 hl0
      have hne : G.ι i ≠ G.ι id := by intro he; rw [he, hown] at o1; simp only [Owner.obj.injEq] at o1; exact hid o1.symm
      refine ⟨o1, by simpa [w', withRow_size] using o2, ?_⟩
      cases hit : hb0.isIter with
      | true =>
        cases hb0 with
        | iter s pos => exact (hother _ hne).trans o3
        | cells l => simp [HB.isIter] at hit
        | row r => simp [HB.isIter] at hit
      | false =>
        obtain ⟨vs0, ty0, fz0, a1, a2, a3, a4⟩ := o3.cells' hit
        refine HRep.of_cells hit ⟨vs0, ty0, fz0, (hother _ hne).trans a1, a2, ?_, ?_⟩
        · intro k hk0
          obtain ⟨v, b1, b2, b3⟩ := a3 k hk0
          exact ⟨v, b1, b2, b3.mono hk⟩
        · intro k hk0
          rw [frozen_of_heap (w := w) (hother _ hne)]; exact a4 k hk0
def astore (P : Program) (H : List (Nat × (Nat × HB))) (t : TypeId) (x v : V) : Option (List (Nat × (Nat × HB))) :=
  match x with
  | .ptr id ver off =>
    match look H id with
    | some (c, hb) =>
      if c = ver ∧ okV H v = true ∧ (xcells v).map (·.1) = tsize P t then (storeHB hb off v).map fun hb' => upd H id (c, hb') else none
    | none => none
  | _ => none
theorem astore_run {t : TypeId} {x y : V} {vx vy : Value} {H' : List (Nat × (Nat × HB))} (wf : WF G h w) (hres : astore P h.H t x y = some H')
    (rx : Rep G h w x vx) (ry : Rep G h w y vy) :
    ∃ w', (Instr.storeAt t vx vy).run P w = .ok () w' ∧ Keeps G h w G ⟨H', h.T⟩ w' ∧ Ext G w G w' ∧ WF G ⟨H', h.T⟩ w' := by
  unfold astore at hres
  split at hres
  · rename_i id ver off
    split at hres
    · rename_i c hb hl
      split at hres
      · rename_i hc
        obtain ⟨rfl, hok, hsz⟩ := hc
        simp only [Option.map_eq_some_iff] at hres
        obtain ⟨hb', hst, rfl⟩ := hres
        obtain ⟨n, cc, hx, hle, hsame, hi, hi', hget⟩ := storeHB_spec hst
        obtain rfl := rx.at_ptr hl rfl
        obtain ⟨hown, hlt, hrep⟩ := wf.objs id c hb hl
        obtain ⟨vs, ty, fz, hblk, hvs, hcell, hfz⟩ := hrep.cells' hi
        obtain ⟨hn, hcells⟩ := xcells_rep hx hok ry
        rw [hx] at hsz
        simp only [Option.map_some] at hsz
        have hlen : vy.cells.toList.length = n := by simpa using hn
        have hone : ∀ v ∈ vy.cells.toList, v.oneCell' = true := by
          intro v hv
          obtain ⟨i, hi0, rfl⟩ := List.getElem_of_mem hv
          obtain ⟨vi, g1, g2, _⟩ := hcells i (by omega)
          have : vy.cells.toList[i] = vi := by
            have e := g1
            rw [← Array.getElem?_toList, List.getElem?_eq_getElem hi0] at e
            exact Option.some.inj e
          rw [this]; exact g2
        have hrun := run_storeCells (P := P) vy.cells.toList w (G.ι id) off 0 vs ty fz hblk (by rw [hlen]; omega) hone (fun o h1 h2 => hfz o (by rw [hlen] at h2; omega))
        refine ⟨_, ?_, turned (vs' := spliceA vs (off + 0) vy.cells.toList) wf hl hi' ?_ ⟨vs, hblk, spliceA_size _ _ _⟩ (fun i hi0 => hfz i (by omega)) ?_⟩
        · simp only [Instr.storeAt, Instr.sureAddr, Sem.run_bind, Sem.run_pure, Result.andThen_ok, storeVar, tsize_run hsz.symm]
          rw [if_neg (by rw [hn]; simp)]
          exact hrun
        · rw [spliceA_size]; omega
        · intro i hi0
          rw [Nat.add_zero, spliceA_get _ _ _ _ (by rw [hlen]; omega), hlen, hget i (by omega)]
          split
          · rename_i hc0
            obtain ⟨vi, g1, g2, g3⟩ := hcells (i - off) (by omega)
            exact ⟨vi, by rw [Array.getElem?_toList]; exact g1, g2, g3⟩
          · exact hcell i (by omega)
      · simp at hres
    · simp at hres
  · simp at hres
end
end Go.Av
end
section
set_option linter.unusedVariables false
set_option linter.unusedSimpArgs false
set_option linter.unusedSectionVars false
namespace Go.Av
def nextVer (H : List (Nat × (Nat × HB))) (d : Nat) : Nat := match look H d with | some (c, _) => c + 1 | none => 0
def Gh.made (G : Gh) (b d : Nat) : Gh := { G with own := fun k => if k = b then .obj d else G.own k, ι := fun i => if i = d then b else G.ι i }
section
variable {P : Program} {G : Gh} {h : HT} {w : World}
theorem alloc_old {o : Obj} {k : Nat} (hk : k < w.heap.size) : (w.alloc o).heap[k]? = w.heap[k]? := by
  simp only [World.alloc]; rw [Array.getElem?_push_lt hk, Array.getElem?_eq_getElem hk]
theorem alloc_new {o : Obj} : (w.alloc o).heap[w.heap.size]? = some o := by simp only [World.alloc]; exact Array.getElem?_push_size
theorem alloc_old' {o : Obj} {k : Nat} {x : Obj} (hk : w.heap[k]? = some x) : (w.alloc o).heap[k]? = some x := (alloc_old (lt_of_get hk)).trans hk
theorem made_keeps (wf : WF G h w) (d : Nat) (hb : HB) (o : Obj) :
    Keeps G h w (G.made w.heap.size d) ⟨upd h.H d (nextVer h.H d, hb), h.T⟩ (w.alloc o) ∧ Ext G w (G.made w.heap.size d) (w.alloc o) := by
  have hpm : ∀ b off v, pm G w b off = some v → pm (G.made w.heap.size d) (w.alloc o) b off = some v := by
    intro b off v hv
    have hlt := pm_lt hv
    have e1 : (w.alloc o).cell? ⟨b, off, none⟩ = w.cell? ⟨b, off, none⟩ := by simp only [World.cell?, alloc_old hlt]
    have e2 : (G.made w.heap.size d).own b = G.own b := by simp only [Gh.made, if_neg (Nat.ne_of_lt hlt)]
    unfold pm at hv ⊢
    rw [e2, e1]; exact hv
  have hshp := fun k x => shp_old (w := w) (w' := w.alloc o) (fun k x hk => alloc_old' hk) k x
  refine ⟨⟨hpm, ?_, ?_, hshp⟩, ⟨rfl, rfl, rfl, by simp, ?_, fun b off v _ hv => hpm b off v hv, hshp⟩⟩
  · intro t cur ht
    refine ⟨cur, ht, Nat.le_refl _, fun _ => ⟨rfl, rfl, fun ho => ?_⟩⟩
    have hlt : G.τ t < w.heap.size := by
      rcases Nat.lt_or_ge (G.τ t) w.heap.size with h1 | h1
      · exact h1
      · rw [wf.fresh _ h1] at ho; exact absurd ho (by simp)
    exact ⟨by simp only [Gh.made, if_neg (Nat.ne_of_lt hlt)]; exact ho, fun vs ty fz h0 => alloc_old' h0⟩
  · intro id cur hb0 hl
    by_cases hid : id = d
    · subst hid
      refine ⟨_, hb, look_upd_same _ _ _, ?_, ?_⟩
      · simp [nextVer, hl]
      · intro he; simp [nextVer, hl] at he
    · exact ⟨cur, hb0, (look_upd_other _ _ _ _ hid).trans hl, Nat.le_refl _, fun _ => by simp [Gh.made, hid]⟩
  · intro b hlt hf
    exact ⟨by simp only [Gh.made, if_neg (Nat.ne_of_lt hlt)], alloc_old hlt⟩
theorem HRep.mono {G' : Gh} {h' : HT} {w' : World} {b : Nat} {hb : HB} (hk : Keeps G h w G' h' w') (hr : HRep G h w b hb) (he : w'.heap[b]? = w.heap[b]?) : HRep G' h' w' b hb := by
  cases hit : hb.isIter with
  | true =>
    cases hb with
    | iter s pos => exact he.trans hr
    | cells l => simp [HB.isIter] at hit
    | row r => simp [HB.isIter] at hit
  | false =>
    obtain ⟨vs0, ty0, fz0, a1, a2, a3, a4⟩ := hr.cells' hit
    refine HRep.of_cells hit ⟨vs0, ty0, fz0, he.trans a1, a2, ?_, ?_⟩
    · intro k hk0
      obtain ⟨v, b1, b2, b3⟩ := a3 k hk0
      exact ⟨v, b1, b2, b3.mono hk⟩
    · intro k hk0
      rw [frozen_of_heap (w := w) he]; exact a4 k hk0
theorem made_wf (wf : WF G h w) (d : Nat) (hb : HB) (o : Obj)
    (hr : HRep (G.made w.heap.size d) ⟨upd h.H d (nextVer h.H d, hb), h.T⟩ (w.alloc o) w.heap.size hb) :
    WF (G.made w.heap.size d) ⟨upd h.H d (nextVer h.H d, hb), h.T⟩ (w.alloc o) := by
  have hk := (made_keeps wf d hb o).1
  refine ⟨?_, ?_, ?_⟩
  · intro b hb0
    simp only [World.size_alloc] at hb0
    simp only [Gh.made, if_neg (show b ≠ w.heap.size by omega)]
    exact wf.fresh b (by omega)
  · intro b t hb0
    simp only [Gh.made] at hb0 ⊢
    by_cases h : b = w.heap.size
    · rw [if_pos h] at hb0; simp at hb0
    · rw [if_neg h] at hb0; exact wf.rows b t hb0
  · intro id ver hb0 hl
    by_cases hid : id = d
    · subst hid
      rw [look_upd_same] at hl; simp only [Option.some.injEq, Prod.mk.injEq] at hl
      obtain ⟨rfl, rfl⟩ := hl
      refine ⟨by simp [Gh.made], by simp [Gh.made], ?_⟩
      have e : (G.made w.heap.size id).ι id = w.heap.size := by simp [Gh.made]
      rw [e]; exact hr
    · rw [look_upd_other _ _ _ _ hid] at hl
      obtain ⟨o1, o2, o3⟩ := wf.objs id ver hb0 hl
      have e : (G.made w.heap.size d).ι id = G.ι id := by simp [Gh.made, hid]
      rw [e]
      exact ⟨by simp only [Gh.made, if_neg (Nat.ne_of_lt o2)]; exact o1, by simp; omega, o3.mono hk (alloc_old o2)⟩
theorem made_cells (wf : WF G h w) (d : Nat) (hb : HB) (vs : Array Value) (ty : TypeId) (hi : hb.isIter = false) (hs : vs.size = hb.size)
    (hc : ∀ i, i < hb.size → ∃ v, vs[i]? = some v ∧ v.oneCell' = true ∧ Rep G h w (hb.get i) v) :
    WF (G.made w.heap.size d) ⟨upd h.H d (nextVer h.H d, hb), h.T⟩ (w.alloc (.cells vs ty)) := by
  have hk := (made_keeps wf d hb (.cells vs ty)).1
  refine made_wf wf d hb _ (HRep.of_cells hi ⟨vs, ty, (0, 0), alloc_new, hs, ?_, ?_⟩)
  · intro i hi0
    obtain ⟨v, a, b, c⟩ := hc i hi0
    exact ⟨v, a, b, c.mono hk⟩
  · intro i hi0; simp
def intsOf : List Value → Option (IntKind × List Int)
  | [] => none
  | [.int k n] => some (k, [n])
  | .int k n :: l => match intsOf l with
    | some (k', ns) => if k = k' then some (k, n :: ns) else none
    | none => none
  | _ => none
theorem intsOf_map : ∀ (l : List Value) (k : IntKind) (ns : List Int), intsOf l = some (k, ns) → l = ns.map (Value.int k)
  | [], k, ns, h => by simp [intsOf] at h
  | [v], k, ns, h => by
    cases v <;> simp [intsOf] at h
    obtain ⟨rfl, rfl⟩ := h; rfl
  | v :: u :: l, k, ns, h => by
    cases v <;> simp only [intsOf, reduceCtorEq] at h
    rename_i k0 n
    split at h
    · rename_i k' ns' he
      split at h
      · rename_i hk
        simp only [Option.some.injEq, Prod.mk.injEq] at h
        obtain ⟨rfl, rfl⟩ := h
        subst hk
        rw [intsOf_map (u :: l) k0 ns' he]; rfl
      · simp at h
    · simp at h
def cellsHB (l : List Value) : HB :=
  match intsOf l with
  | some (k, ns) => .row (.ints k ns)
  | none => .cells (l.map ofConst)
theorem cellsHB_size (l : List Value) : (cellsHB l).size = l.length := by
  unfold cellsHB
  split
  · rename_i k ns he
    rw [intsOf_map l k ns he]; simp [HB.size, Row.len]
  · simp [HB.size]
theorem cellsHB_iter (l : List Value) : (cellsHB l).isIter = false := by unfold cellsHB; split <;> rfl
theorem cellsHB_rep (l : List Value) (i : Nat) (v : Value) (hv : l[i]? = some v) : Rep G h w ((cellsHB l).get i) v := by
  unfold cellsHB
  split
  · rename_i k ns he
    have := intsOf_map l k ns he
    rw [this] at hv
    simp only [List.getElem?_map, Option.map_eq_some_iff] at hv
    obtain ⟨n, hn, rfl⟩ := hv
    simp only [HB.get, Row.elem, List.getD_eq_getElem?_getD, hn, Option.getD_some]
    exact .p (.int k n)
  · simp only [HB.get, List.getD_eq_getElem?_getD, List.getElem?_map, hv, Option.map_some, Option.getD_some]
    exact rep_const _ _ _ v
def zeroOf (P : Program) (t : TypeId) : Option Value := (P.info? t).bind (·.zero)
theorem run_zero {t : TypeId} {z : Value} (hz : zeroOf P t = some z) (w : World) : (zeroValue t).run P w = .ok z w := by
  unfold zeroOf at hz
  cases hi : P.info? t with
  | none => rw [hi] at hz; simp at hz
  | some i =>
    rw [hi] at hz
    simp only [Option.bind_some] at hz
    simp [zeroValue, run_info hi, hz]
def oneCells (l : List Value) : Bool := l.all Value.oneCell'
def isBld (P : Program) (t : TypeId) : Bool :=
  match P.underlying t with
  | some (.struct fs) => match fs.toList with
    | [f, g] => (match P.underlying f.type with
        | some (.pointer u) => u == t
        | _ => false) && (match P.underlying g.type with
        | some (.slice e) => (match P.underlying e with
          | some (.int .u8) => true
          | _ => false)
        | _ => false)
    | _ => false
  | _ => false
def bldOff (P : Program) (t : TypeId) : Option Nat :=
  if isBld P t then some 0 else
  match P.underlying t with
  | some (.struct fs) => fs.toList.findSome? fun f => if isBld P f.type then some f.offset else none
  | _ => none
def tagHB (id ver : Nat) (e : TypeId) (n : Nat) (off : Option Nat) (hb : HB) : HB :=
  match off, hb with
  | some o, .cells l => match l.getD o .junk with
    | .p .ptr0 => .cells (l.set o (.adr id ver o e n))
    | _ => .cells l
  | _, hb => hb
theorem tagHB_size (id ver : Nat) (e : TypeId) (n : Nat) (off : Option Nat) (hb : HB) : (tagHB id ver e n off hb).size = hb.size := by
  unfold tagHB
  split
  · split <;> simp [HB.size]
  · rfl
theorem tagHB_iter (id ver : Nat) (e : TypeId) (n : Nat) (off : Option Nat) (hb : HB) : (tagHB id ver e n off hb).isIter = hb.isIter := by
  unfold tagHB
  split
  · split <;> rfl
  · rfl
theorem tagHB_get (id ver : Nat) (e : TypeId) (n : Nat) (off : Option Nat) (hb : HB) (i : Nat) (hi : i < hb.size) :
    (tagHB id ver e n off hb).get i = hb.get i ∨ ∃ o, (tagHB id ver e n off hb).get i = .adr id ver o e n ∧ hb.get i = .p .ptr0 := by
  unfold tagHB
  split
  · rename_i o l
    split
    · rename_i hl
      simp only [HB.get, HB.size] at hi ⊢
      by_cases ho : o = i
      · subst ho
        right; exact ⟨o, by simp [List.getD_eq_getElem?_getD, hi], hl⟩
      · left; simp [List.getD_eq_getElem?_getD, List.getElem?_set_ne ho]
    · exact .inl rfl
  · exact .inl rfl
theorem made_cells2 (wf : WF G h w) (d : Nat) (hb : HB) (vs : Array Value) (ty : TypeId) (hi : hb.isIter = false) (hs : vs.size = hb.size)
    (hc : ∀ i, i < hb.size → ∃ v, vs[i]? = some v ∧ v.oneCell' = true ∧ Rep (G.made w.heap.size d) ⟨upd h.H d (nextVer h.H d, hb), h.T⟩ (w.alloc (.cells vs ty)) (hb.get i) v) :
    WF (G.made w.heap.size d) ⟨upd h.H d (nextVer h.H d, hb), h.T⟩ (w.alloc (.cells vs ty)) :=
  made_wf wf d hb _ (HRep.of_cells hi ⟨vs, ty, (0, 0), alloc_new, hs, hc, fun i hi0 => by simp⟩)
def aalloc (P : Program) (H : List (Nat × (Nat × HB))) (d : Nat) (t : TypeId) : Option (V × List (Nat × (Nat × HB))) :=
  match zeroOf P t with
  | some z => if oneCells z.cells.toList then some (.ptr d (nextVer H d) 0, upd H d (nextVer H d, tagHB d (nextVer H d) t z.cells.size (bldOff P t) (cellsHB z.cells.toList))) else none
  | none => none
theorem aalloc_run {d : Nat} {t : TypeId} {x : V} {H' : List (Nat × (Nat × HB))} (wf : WF G h w) (hres : aalloc P h.H d t = some (x, H')) :
    ∃ v w' G', (Instr.alloc t true (.tuple #[])).run P w = .ok v w' ∧ Rep G' ⟨H', h.T⟩ w' x v ∧ Keeps G h w G' ⟨H', h.T⟩ w' ∧ Ext G w G' w' ∧ WF G' ⟨H', h.T⟩ w' := by
  unfold aalloc at hres
  split at hres
  · rename_i z hz
    split at hres
    · rename_i hone
      simp only [Option.some.injEq, Prod.mk.injEq] at hres
      obtain ⟨rfl, rfl⟩ := hres
      obtain ⟨hk, he⟩ := made_keeps wf d (tagHB d (nextVer h.H d) t z.cells.size (bldOff P t) (cellsHB z.cells.toList)) (.cells z.cells t)
      refine ⟨.pointer (some ⟨w.heap.size, 0, none⟩), w.alloc (.cells z.cells t), G.made w.heap.size d, ?_, ?_, hk, he, made_cells2 wf d _ _ t ((tagHB_iter _ _ _ _ _ _).trans (cellsHB_iter _)) (by rw [tagHB_size, cellsHB_size]; simp) ?_⟩
      · simp [Instr.alloc, run_zero hz, newVar, newRow]
      · exact .ptr _ _ _ _ _ _ (look_upd_same _ _ _) (Nat.le_refl _) (fun _ => by simp [Gh.made])
      · intro i hi
        rw [tagHB_size] at hi
        have hi2 := hi
        rw [cellsHB_size] at hi
        refine ⟨z.cells[i]'(by simpa using hi), by rw [Array.getElem?_eq_getElem], ?_, ?_⟩
        · unfold oneCells at hone
          rw [List.all_eq_true] at hone
          exact hone _ (by simp)
        · have hrep := cellsHB_rep (G := G.made w.heap.size d) (h := ⟨upd h.H d (nextVer h.H d, tagHB d (nextVer h.H d) t z.cells.size (bldOff P t) (cellsHB z.cells.toList)), h.T⟩) (w := w.alloc (.cells z.cells t)) z.cells.toList i (z.cells[i]'(by simpa using hi)) (by rw [List.getElem?_eq_getElem hi]; simp)
          rcases tagHB_get d (nextVer h.H d) t z.cells.size (bldOff P t) (cellsHB z.cells.toList) i hi2 with e | ⟨o, e, e2⟩
          · rw [e]; exact hrep
          · rw [e]
            rw [e2] at hrep
            have hv : z.cells[i]'(by simpa using hi) = .pointer none := by
              generalize z.cells[i]'(by simpa using hi) = u at hrep
              cases hrep with | p rp => cases rp with | ptr0 => rfl
            refine .adr _ _ _ _ _ _ _ _ (look_upd_same _ _ _) (Nat.le_refl _) (fun _ => ⟨.inl hv, ?_⟩)
            have e3 : (G.made w.heap.size d).ι d = w.heap.size := by simp [Gh.made]
            rw [e3]
            simp only [World.shape?, alloc_new]
    · simp at hres
  · simp at hres
def boxHB (x : V) : Option HB :=
  match x with
  | .p (.agg (.vals k l)) => some (.cells (l.map .p))
  | .p (.agg r) => some (.row r)
  | .agg l => some (.cells l)
  | .junk => none
  | .tup _ => none
  | x => some (.cells [x])
def abox (H : List (Nat × (Nat × HB))) (d : Nat) (x : V) : Option (V × List (Nat × (Nat × HB))) :=
  if okV H x then (boxHB x).map fun hb => (.ptr d (nextVer H d) 0, upd H d (nextVer H d, hb)) else none
theorem boxHB_spec {x : V} {hb : HB} (hx : boxHB x = some hb) : hb.isIter = false ∧ ∃ c, xcells x = some (hb.size, c) ∧ ∀ i, i < hb.size → hb.get i = c i := by
  unfold boxHB at hx
  split at hx <;> simp only [Option.some.injEq, reduceCtorEq] at hx <;> subst hx
  · rename_i k l
    refine ⟨rfl, fun i => .p ((Row.vals k l).elem i), by simp [xcells, HB.size, Row.len], ?_⟩
    intro i hi
    simp only [HB.size, List.length_map] at hi
    simp [HB.get, Row.elem, List.getD_eq_getElem?_getD, hi]
  · exact ⟨rfl, _, rfl, fun i _ => rfl⟩
  · exact ⟨rfl, _, rfl, fun i _ => rfl⟩
  · rename_i h0 h1 h2 h3 h4
    refine ⟨rfl, fun _ => x, ?_, ?_⟩
    · cases x with
      | p y => cases y <;> first | rfl | exact absurd rfl (h1 _)
      | agg l => exact absurd rfl (h2 _)
      | junk => exact absurd rfl h3
      | tup l => exact absurd rfl (h4 _)
      | _ => rfl
    · intro i hi
      simp only [HB.size, List.length_singleton] at hi
      obtain rfl : i = 0 := by omega
      rfl
theorem abox_run {d : Nat} {t : TypeId} {y x : V} {vy : Value} {H' : List (Nat × (Nat × HB))} (wf : WF G h w) (hres : abox h.H d y = some (x, H')) (ry : Rep G h w y vy) :
    ∃ v w' G', (Instr.box t vy).run P w = .ok v w' ∧ Rep G' ⟨H', h.T⟩ w' x v ∧ Keeps G h w G' ⟨H', h.T⟩ w' ∧ Ext G w G' w' ∧ WF G' ⟨H', h.T⟩ w' := by
  unfold abox at hres
  split at hres
  · rename_i hok
    simp only [Option.map_eq_some_iff, Prod.mk.injEq] at hres
    obtain ⟨hb, hbx, rfl, rfl⟩ := hres
    obtain ⟨hi, c, hx, hget⟩ := boxHB_spec hbx
    obtain ⟨hn, hcells⟩ := xcells_rep hx hok ry
    obtain ⟨hk, he⟩ := made_keeps wf d hb (.cells vy.cells t)
    refine ⟨.pointer (some ⟨w.heap.size, 0, none⟩), w.alloc (.cells vy.cells t), G.made w.heap.size d, ?_, ?_, hk, he, made_cells wf d _ _ t hi hn ?_⟩
    · simp [Instr.box, newVar, newRow]
    · exact .ptr _ _ _ _ _ _ (look_upd_same _ _ _) (Nat.le_refl _) (fun _ => by simp [Gh.made])
    · intro i hi0
      rw [hget i hi0]; exact hcells i hi0
  · simp at hres
end
end Go.Av
end
section
set_option linter.unusedVariables false
set_option linter.unusedSimpArgs false
set_option linter.unusedSectionVars false
namespace Go.Av
def intsP : List PV → Option (IntKind × List Int)
  | [] => none
  | [.int k n] => some (k, [n])
  | .int k n :: l => match intsP l with
    | some (k', ns) => if k = k' then some (k, n :: ns) else none
    | none => none
  | _ => none
def strsP : List PV → Option (List ByteArray)
  | [] => none
  | [.str s] => some [s]
  | .str s :: l => match strsP l with
    | some ss => some (s :: ss)
    | none => none
  | _ => none
def kindRow (l : List PV) : Row PV :=
  match intsP l with
  | some (k, ns) => .ints k ns
  | none => match strsP l with
    | some ss => .strs ss
    | none => .vals 1 l
def pv1 : V → Option PV
  | .p x => if x.one then some x else none
  | .row r _ _ nl => some (.sl r nl)
  | _ => none
def pv1s : List V → Option (List PV)
  | [] => some []
  | x :: l => match pv1 x, pv1s l with
    | some y, some m => some (y :: m)
    | _, _ => none
def pvOf : V → Option PV
  | .p x => some x
  | .row r _ _ nl => some (.sl r nl)
  | .agg l => (pv1s l).map fun c => .agg (kindRow c)
  | _ => none
def pvsOf : List V → Option (List PV)
  | [] => some []
  | x :: l => match pvOf x, pvsOf l with
    | some y, some m => some (y :: m)
    | _, _ => none
theorem intsP_map : ∀ (l : List PV) (k : IntKind) (ns : List Int), intsP l = some (k, ns) → l = ns.map (PV.int k)
  | [], k, ns, h => by simp [intsP] at h
  | [v], k, ns, h => by
    cases v <;> simp [intsP] at h
    obtain ⟨rfl, rfl⟩ := h; rfl
  | v :: u :: l, k, ns, h => by
    cases v <;> simp only [intsP, reduceCtorEq] at h
    rename_i k0 n
    split at h
    · rename_i k' ns' he
      split at h
      · rename_i hk
        simp only [Option.some.injEq, Prod.mk.injEq] at h
        obtain ⟨rfl, rfl⟩ := h
        subst hk
        rw [intsP_map (u :: l) k0 ns' he]; rfl
      · simp at h
    · simp at h
theorem strsP_map : ∀ (l : List PV) (ss : List ByteArray), strsP l = some ss → l = ss.map PV.str
  | [], ss, h => by simp [strsP] at h
  | [v], ss, h => by
    cases v <;> simp [strsP] at h
    subst h; rfl
  | v :: u :: l, ss, h => by
    cases v <;> simp only [strsP, reduceCtorEq] at h
    rename_i s
    split at h
    · rename_i ss' he
      simp only [Option.some.injEq] at h
      subst h
      rw [strsP_map (u :: l) ss' he]; rfl
    · simp at h
theorem kindRow_len (l : List PV) : (kindRow l).len = l.length := by
  unfold kindRow
  split
  · rename_i k ns h; rw [intsP_map l k ns h]; simp [Row.len]
  · split
    · rename_i ss h; rw [strsP_map l ss h]; simp [Row.len]
    · rfl
theorem kindRow_sz (l : List PV) : (kindRow l).sz = 1 := by
  unfold kindRow
  split
  · rfl
  · split <;> rfl
theorem kindRow_elem (l : List PV) (i : Nat) (hi : i < l.length) : (kindRow l).elem i = l.getD i .ptr0 := by
  unfold kindRow
  split
  · rename_i k ns h
    have e := intsP_map l k ns h
    rw [e] at hi ⊢
    simp only [List.length_map] at hi
    simp [Row.elem, List.getD_eq_getElem?_getD, hi]
  · split
    · rename_i ss h
      have e := strsP_map l ss h
      rw [e] at hi ⊢
      simp only [List.length_map] at hi
      simp [Row.elem, List.getD_eq_getElem?_getD, hi]
    · rfl
def cellsRow (e n : Nat) (c : List PV) : Row PV :=
  if e = 1 then kindRow c
  else .vals e ((List.range n).map fun i => .agg (.vals 1 ((List.range e).map fun j => c.getD (i * e + j) .ptr0)))
structure RowRep (m : Nat → Nat → Option Value) (r : Row PV) (f : Nat → Nat → Value) : Prop where
  width : ∀ i, i < r.len → (r.elem i).width = r.sz
  one : ∀ i j, i < r.len → j < r.sz → ((r.elem i).cell j).one = true
  rep : ∀ i j, i < r.len → j < r.sz → RepP m ((r.elem i).cell j) (f i j)
theorem cellsRow_rep {m : Nat → Nat → Option Value} {e n : Nat} {c : List PV} (he : 0 < e) (hl : c.length = n * e) (g : Nat → Value)
    (h1 : ∀ k, k < n * e → (c.getD k .ptr0).one = true) (hr : ∀ k, k < n * e → RepP m (c.getD k .ptr0) (g k)) :
    (cellsRow e n c).len = n ∧ (n = 0 ∨ (cellsRow e n c).sz = e) ∧ RowRep m (cellsRow e n c) (fun i j => g (i * e + j)) := by
  unfold cellsRow
  split
  · rename_i h
    subst h
    have hlen : (kindRow c).len = n := by rw [kindRow_len]; omega
    refine ⟨hlen, .inr (kindRow_sz c), ?_, ?_, ?_⟩
    · intro i hi
      rw [hlen] at hi
      have := h1 i (by omega)
      rw [kindRow_sz, kindRow_elem c i (by omega)]
      generalize c.getD i .ptr0 = x at this
      cases x <;> first | rfl | simp [PV.one] at this
    · intro i j hi hj
      rw [hlen] at hi; rw [kindRow_sz] at hj
      obtain rfl : j = 0 := by omega
      have := h1 i (by omega)
      rw [kindRow_elem c i (by omega)]
      generalize c.getD i .ptr0 = x at this ⊢
      cases x <;> first | exact this | simp [PV.one] at this
    · intro i j hi hj
      rw [hlen] at hi; rw [kindRow_sz] at hj
      obtain rfl : j = 0 := by omega
      have h2 := h1 i (by omega)
      have := hr i (by omega)
      rw [kindRow_elem c i (by omega)]
      simp only [Nat.mul_one, Nat.add_zero]
      generalize c.getD i .ptr0 = x at this h2 ⊢
      cases x <;> first | exact this | simp [PV.one] at h2
  · rename_i hne
    have hlen : (Row.vals e ((List.range n).map fun i => PV.agg (.vals 1 ((List.range e).map fun j => c.getD (i * e + j) .ptr0)))).len = n := by simp [Row.len]
    have hel : ∀ i, i < n → (Row.vals e ((List.range n).map fun i => PV.agg (.vals 1 ((List.range e).map fun j => c.getD (i * e + j) .ptr0)))).elem i =
        .agg (.vals 1 ((List.range e).map fun j => c.getD (i * e + j) .ptr0)) := by
      intro i hi; simp [Row.elem, List.getD_eq_getElem?_getD, hi]
    have hk : ∀ i j, i < n → j < e → i * e + j < n * e := by
      intro i j hi hj
      have : (i + 1) * e ≤ n * e := Nat.mul_le_mul_right e hi
      rw [Nat.add_mul] at this; omega
    have hcell : ∀ i j, i < n → j < e → (PV.agg (.vals 1 ((List.range e).map fun j => c.getD (i * e + j) .ptr0))).cell j = c.getD (i * e + j) .ptr0 := by
      intro i j hi hj; simp [PV.cell, Row.elem, List.getD_eq_getElem?_getD, hj]
    refine ⟨hlen, .inr rfl, ?_, ?_, ?_⟩
    · intro i hi
      rw [hlen] at hi
      rw [hel i hi]; simp [PV.width, Row.len, Row.sz]
    · intro i j hi hj
      rw [hlen] at hi
      rw [hel i hi, hcell i j hi hj]; exact h1 _ (hk i j hi hj)
    · intro i j hi hj
      rw [hlen] at hi
      rw [hel i hi, hcell i j hi hj]; exact hr _ (hk i j hi hj)
theorem RepP.rowRep {m : Nat → Nat → Option Value} {r : Row PV} {nl : Bool} {v : Value} (hr : RepP m (.sl r nl) v) :
    ∃ f, RowRep m r f ∧ ((v = .slice none 0 0 ∧ r.len = 0) ∨ ∃ a cap, v = .slice (some a) r.len cap ∧ (r.len = 0 ∨ a.spot = none) ∧
      ∀ i j, i < r.len → j < r.sz → m a.block (a.off + i * r.sz + j) = some (f i j)) := by
  cases hr with
  | slNil _ h => exact ⟨fun _ _ => undef, ⟨fun i hi => by omega, fun i j hi => by omega, fun i j hi => by omega⟩, .inl ⟨rfl, h⟩⟩
  | sl _ a cap f hc ha hw hf h1 hr => exact ⟨f, ⟨hw, h1, hr⟩, .inr ⟨a, cap, rfl, ha, hf⟩⟩
def flat (r : Row PV) (f : Nat → Nat → Value) : List Value := (List.range (r.len * r.sz)).map fun k => f (k / r.sz) (k % r.sz)
theorem flat_length (r : Row PV) (f : Nat → Nat → Value) : (flat r f).length = r.len * r.sz := by simp [flat]
theorem flat_get (r : Row PV) (f : Nat → Nat → Value) (i j : Nat) (hi : i < r.len) (hj : j < r.sz) : (flat r f)[i * r.sz + j]? = some (f i j) := by
  have hlt : i * r.sz + j < r.len * r.sz := by
    have : (i + 1) * r.sz ≤ r.len * r.sz := Nat.mul_le_mul_right _ hi
    rw [Nat.add_mul] at this; omega
  have e1 : (i * r.sz + j) / r.sz = i := by
    rw [Nat.mul_comm, Nat.mul_add_div (by omega), Nat.div_eq_of_lt hj, Nat.add_zero]
  have e2 : (i * r.sz + j) % r.sz = j := by
    rw [Nat.mul_comm, Nat.mul_add_mod, Nat.mod_eq_of_lt hj]
  simp [flat, hlt, e1, e2]
theorem flat_split (r : Row PV) {k : Nat} (hk : k < r.len * r.sz) : k / r.sz < r.len ∧ k % r.sz < r.sz ∧ k / r.sz * r.sz + k % r.sz = k := by
  have hs : 0 < r.sz := by
    rcases Nat.eq_zero_or_pos r.sz with h | h
    · rw [h] at hk; simp at hk
    · exact h
  exact ⟨(Nat.div_lt_iff_lt_mul hs).2 hk, Nat.mod_lt _ hs, by rw [Nat.mul_comm]; exact Nat.div_add_mod k r.sz⟩
structure Src (P : Program) (G : Gh) (w : World) (s : Nat) (v : Value) (r : Row PV) (f : Nat → Nat → Value) : Prop where
  rep : RowRep (pm G w) r f
  one : ∀ i j, i < r.len → j < r.sz → (f i j).oneCell' = true
  sz : r.len = 0 ∨ s = r.sz
  len : ∀ w, (Builtin.lenOf v).run P w = .ok r.len w
  cells : ∀ w1 : World, (∀ a, w1.cell? a = w.cell? a) → ∀ n, n ≤ r.len → (Builtin.firstCells s n v).run P w1 = .ok ((flat r f).take (n * s)).toArray w1
theorem rowRep_one {m : Nat → Nat → Option Value} {r : Row PV} {f : Nat → Nat → Value} (h : RowRep m r f) (i j : Nat) (hi : i < r.len) (hj : j < r.sz) : (f i j).oneCell' = true :=
  (h.rep i j hi hj).oneCell (h.one i j hi hj)
theorem src_slice {P : Program} {G : Gh} {w : World} {s : Nat} {v : Value} {r : Row PV} {nl : Bool} (hr : RepP (pm G w) (.sl r nl) v) (hs : r.len = 0 ∨ s = r.sz) :
    ∃ f, Src P G w s v r f := by
  obtain ⟨f, hrep, hv⟩ := hr.rowRep
  refine ⟨f, hrep, rowRep_one hrep, hs, ?_, ?_⟩
  · intro w
    rcases hv with ⟨rfl, h0⟩ | ⟨a, cap, rfl, _, _⟩
    · simp [Builtin.lenOf, h0]
    · simp [Builtin.lenOf]
  · intro w1 hw1 n hn
    rcases hv with ⟨rfl, h0⟩ | ⟨a, cap, rfl, ha, hf⟩
    · have e : (flat r f).take (n * s) = [] := by
        have : (flat r f).length = 0 := by rw [flat_length, h0, Nat.zero_mul]
        simp [List.length_eq_zero_iff.1 this]
      rw [e]; simp [Builtin.firstCells]
    · rcases Nat.eq_zero_or_pos n with h0 | h0
      · subst h0; simp [Builtin.firstCells, loadCells, loadCellsFrom]
      · have hsz : s = r.sz := by rcases hs with h | h; omega; exact h
        have hsp : a.spot = none := by rcases ha with h | h; omega; exact h
        obtain ⟨b, off, sp⟩ := a
        simp only at hsp; subst hsp
        subst hsz
        refine run_firstCells_some w1 r.sz n ⟨b, off, none⟩ r.len cap _ ?_ ?_
        · rw [List.length_take, flat_length, Nat.min_eq_left (Nat.mul_le_mul_right _ hn)]
        · intro k u hk
          have hlt : k < n * r.sz := by
            rcases Nat.lt_or_ge k (n * r.sz) with h | h
            · exact h
            · rw [List.getElem?_take, if_neg (by omega)] at hk; simp at hk
          rw [List.getElem?_take, if_pos hlt] at hk
          have hlt2 : k < r.len * r.sz := Nat.lt_of_lt_of_le hlt (Nat.mul_le_mul_right _ hn)
          obtain ⟨h1, h2, h3⟩ := flat_split r hlt2
          rw [← h3, flat_get r f _ _ h1 h2] at hk
          simp only [Option.some.injEq] at hk
          subst hk
          rw [hw1, addr_add]
          have := pm_cell (hf _ _ h1 h2)
          simp only at this
          rw [Nat.add_assoc, h3] at this
          exact this
def bytesRow (s : ByteArray) : Row PV := .ints .u8 (s.data.toList.map fun b => (b.toNat : Int))
theorem src_string {P : Program} {G : Gh} {w : World} (s : ByteArray) : ∃ f, Src P G w 1 (.string s) (bytesRow s) f := by
  have hlen : (bytesRow s).len = s.size := by simp [bytesRow, Row.len]
  have hrep : RowRep (pm G w) (bytesRow s) (fun i _ => .int .u8 ((s.data.toList.map fun b => (b.toNat : Int)).getD i 0)) := by
    refine ⟨fun i _ => rfl, fun i j _ _ => rfl, fun i j _ _ => .int _ _⟩
  refine ⟨_, hrep, fun i j _ _ => rfl, .inr rfl, fun w => by simp [Builtin.lenOf, hlen], ?_⟩
  intro w1 _ n hn
  rw [hlen] at hn
  simp only [Builtin.firstCells, Sem.run_pure]
  congr 1
  apply Array.ext'
  apply List.ext_getElem?
  intro k
  simp only [Nat.mul_one, List.getElem?_take, flat, List.getElem?_map, List.getElem?_range, Array.toList_map]
  have hl2 : (bytesRow s).len * (bytesRow s).sz = s.size := by rw [hlen]; simp [bytesRow, Row.sz]
  rw [hl2]
  have e0 : (s.extract 0 n).data.toList = s.data.toList.take n := by
    simp [ByteArray.data_extract]
  rw [e0, List.getElem?_take]
  by_cases hk : k < n
  · rw [if_pos hk, if_pos hk]
    have : k < s.data.toList.length := by simpa using Nat.lt_of_lt_of_le hk hn
    have h3 : k < s.size := by omega
    simp [bytesRow, Row.sz, List.getElem?_eq_getElem this, h3, List.getD_eq_getElem?_getD]
  · rw [if_neg hk, if_neg hk]; rfl
end Go.Av
end
section
set_option linter.unusedVariables false
set_option linter.unusedSimpArgs false
set_option linter.unusedSectionVars false
namespace Go.Av
def appRow (r r2 : Row PV) : Option (Row PV) :=
  match r, r2 with
  | .ints k a, .ints k' b => if k = k' then some (.ints k (a ++ b)) else if b.length = 0 then some (.ints k a) else if a.length = 0 then some (.ints k' b) else none
  | .strs a, .strs b => some (.strs (a ++ b))
  | .vals s a, .vals s' b => if s = s' then some (.vals s (a ++ b)) else if b.length = 0 then some (.vals s a) else if a.length = 0 then some (.vals s' b) else none
  | r, r2 => if r2.len = 0 then some r else if r.len = 0 then some r2 else none
structure IsApp (r r2 r3 : Row PV) : Prop where
  len : r3.len = r.len + r2.len
  lo : ∀ i, i < r.len → r3.elem i = r.elem i
  hi : ∀ i, i < r2.len → r3.elem (r.len + i) = r2.elem i
  sz1 : r.len ≠ 0 → r3.sz = r.sz
  sz2 : r2.len ≠ 0 → r3.sz = r2.sz
  sz3 : r2.len = 0 → r3.sz = r.sz
theorem getD_app_lo {α : Type} (a b : List α) (d : α) (i : Nat) (h : i < a.length) : (a ++ b).getD i d = a.getD i d := by
  simp [List.getD_eq_getElem?_getD, List.getElem?_append_left h]
theorem getD_app_hi {α : Type} (a b : List α) (d : α) (i : Nat) : (a ++ b).getD (a.length + i) d = b.getD i d := by
  simp [List.getD_eq_getElem?_getD, List.getElem?_append_right]
theorem appRow_spec {r r2 r3 : Row PV} (h : appRow r r2 = some r3) : IsApp r r2 r3 := by
  have left : ∀ {r r2 : Row PV}, r.len = 0 → r2.len ≠ 0 → IsApp r r2 r2 := fun h0 h1 => ⟨by omega, fun i hi => by omega, fun i hi => by rw [h0, Nat.zero_add], fun h => absurd h0 h, fun _ => rfl, fun h => absurd h h1⟩
  have right : ∀ {r r2 : Row PV}, r2.len = 0 → IsApp r r2 r := fun h0 => ⟨by omega, fun i hi => rfl, fun i hi => by omega, fun _ => rfl, fun h => absurd h0 h, fun _ => rfl⟩
  unfold appRow at h
  split at h
  · split at h
    · rename_i hk
      simp only [Option.some.injEq] at h; subst h; subst hk
      exact ⟨by simp [Row.len], fun i hi => by simp only [Row.elem]; rw [getD_app_lo _ _ _ _ (by simpa [Row.len] using hi)], fun i hi => by simp only [Row.elem, Row.len]; rw [getD_app_hi], fun _ => rfl, fun _ => rfl, fun _ => rfl⟩
    · split at h
      · rename_i h0; simp only [Option.some.injEq] at h; subst h; exact right h0
      · rename_i h1
        split at h
        · rename_i h0; simp only [Option.some.injEq] at h; subst h; exact left h0 h1
        · simp at h
  · simp only [Option.some.injEq] at h; subst h
    exact ⟨by simp [Row.len], fun i hi => by simp only [Row.elem]; rw [getD_app_lo _ _ _ _ (by simpa [Row.len] using hi)], fun i hi => by simp only [Row.elem, Row.len]; rw [getD_app_hi], fun _ => rfl, fun _ => rfl, fun _ => rfl⟩
  · split at h
    · rename_i hk
      simp only [Option.some.injEq] at h; subst h; subst hk
      exact ⟨by simp [Row.len], fun i hi => by simp only [Row.elem]; rw [getD_app_lo _ _ _ _ (by simpa [Row.len] using hi)], fun i hi => by simp only [Row.elem, Row.len]; rw [getD_app_hi], fun _ => rfl, fun _ => rfl, fun _ => rfl⟩
    · split at h
      · rename_i h0; simp only [Option.some.injEq] at h; subst h; exact right h0
      · rename_i h1
        split at h
        · rename_i h0; simp only [Option.some.injEq] at h; subst h; exact left h0 h1
        · simp at h
  · split at h
    · rename_i h0; simp only [Option.some.injEq] at h; subst h; exact right h0
    · rename_i h1
      split at h
      · rename_i h0; simp only [Option.some.injEq] at h; subst h; exact left h0 h1
      · simp at h
theorem IsApp.rowRep {m m' : Nat → Nat → Option Value} {r r2 r3 : Row PV} (ha : IsApp r r2 r3) {f f2 : Nat → Nat → Value}
    (h1 : RowRep m r f) (h2 : RowRep m r2 f2) (hm : ∀ b o v, m b o = some v → m' b o = some v) :
    RowRep m' r3 (fun i j => if i < r.len then f i j else f2 (i - r.len) j) := by
  have key : ∀ i, i < r3.len → (i < r.len ∧ r3.elem i = r.elem i ∧ r3.sz = r.sz) ∨ (¬ i < r.len ∧ i - r.len < r2.len ∧ r3.elem i = r2.elem (i - r.len) ∧ r3.sz = r2.sz) := by
    intro i hi
    by_cases h : i < r.len
    · exact .inl ⟨h, ha.lo i h, ha.sz1 (by omega)⟩
    · have hl := ha.len
      refine .inr ⟨h, by omega, ?_, ha.sz2 (by omega)⟩
      have := ha.hi (i - r.len) (by omega)
      rw [show r.len + (i - r.len) = i by omega] at this; exact this
  refine ⟨?_, ?_, ?_⟩
  · intro i hi
    rcases key i hi with ⟨a, b, c⟩ | ⟨a, a', b, c⟩
    · rw [b, c]; exact h1.width i a
    · rw [b, c]; exact h2.width _ a'
  · intro i j hi hj
    rcases key i hi with ⟨a, b, c⟩ | ⟨a, a', b, c⟩
    · rw [b]; exact h1.one i j a (c ▸ hj)
    · rw [b]; exact h2.one _ j a' (c ▸ hj)
  · intro i j hi hj
    rcases key i hi with ⟨a, b, c⟩ | ⟨a, a', b, c⟩
    · rw [b]; simp only [if_pos a]; exact (h1.rep i j a (c ▸ hj)).mono hm
    · rw [b]; simp only [if_neg a]; exact (h2.rep _ j a' (c ▸ hj)).mono hm
theorem IsApp.cells {r r2 r3 : Row PV} (ha : IsApp r r2 r3) (f f2 : Nat → Nat → Value) (s : Nat) (h1 : r.len = 0 ∨ s = r.sz) (h2 : r2.len = 0 ∨ s = r2.sz)
    (rest : List Value) (i j : Nat) (hi : i < r3.len) (hj : j < r3.sz) :
    (((flat r f).take (r.len * s)) ++ ((flat r2 f2).take (r2.len * s)) ++ rest)[i * s + j]? = some (if i < r.len then f i j else f2 (i - r.len) j) := by
  have hl := ha.len
  have e1 : ((flat r f).take (r.len * s)).length = r.len * s := by
    rw [List.length_take, flat_length]
    rcases h1 with h | h
    · rw [h]; simp
    · rw [h]; simp
  have e2 : ((flat r2 f2).take (r2.len * s)).length = r2.len * s := by
    rw [List.length_take, flat_length]
    rcases h2 with h | h
    · rw [h]; simp
    · rw [h]; simp
  by_cases h : i < r.len
  · have hs : s = r.sz := by rcases h1 with h0 | h0; omega; exact h0
    have hs3 : r3.sz = r.sz := ha.sz1 (by omega)
    rw [if_pos h]
    have hlt : i * s + j < r.len * s := by
      have : (i + 1) * s ≤ r.len * s := Nat.mul_le_mul_right _ h
      rw [Nat.add_mul] at this; omega
    rw [List.append_assoc, List.getElem?_append_left (by omega), List.getElem?_take, if_pos hlt, hs]
    exact flat_get r f i j h (hs3 ▸ hj)
  · have hs : s = r2.sz := by rcases h2 with h0 | h0; omega; exact h0
    have hs3 : r3.sz = r2.sz := ha.sz2 (by omega)
    rw [if_neg h]
    obtain ⟨k, rfl⟩ : ∃ k, i = r.len + k := ⟨i - r.len, by omega⟩
    have hk : k < r2.len := by omega
    have hlt : k * s + j < r2.len * s := by
      have : (k + 1) * s ≤ r2.len * s := Nat.mul_le_mul_right _ hk
      rw [Nat.add_mul] at this; omega
    have e3 : (r.len + k) * s = r.len * s + k * s := Nat.add_mul ..
    rw [List.append_assoc, List.getElem?_append_right (by omega), e1, List.getElem?_append_left (by omega), List.getElem?_take, if_pos (by omega),
      show (r.len + k) * s + j - r.len * s = k * s + j by omega, show r.len + k - r.len = k by omega, hs]
    exact flat_get r2 f2 k j hk (hs3 ▸ hj)
section
variable {P : Program} {G : Gh} {h : HT} {w : World}
structure ElemOf (P : Program) (t e : TypeId) (s bytes : Nat) (z : Value) : Prop where
  under : P.underlying t = some (.slice e)
  info : ∃ i, P.info? e = some i ∧ i.size = s ∧ i.bytes = bytes ∧ i.zero = some z
  zero : z.cells.size = s
theorem run_append_more {t u e s bytes : Nat} {z : Value} (he : ElemOf P t e s bytes z) {d : TypeDesc} (hu : P.underlying u = some d) (hd : ∀ k, d ≠ .int k) (ty : TypeId)
    (base : Option Addr) (sLen sCap : Nat) (vx : Value) (n : Nat) (olds news : List Value)
    (hlen : ∀ w, (Builtin.lenOf vx).run P w = .ok n w)
    (hold : (Builtin.firstCells s sLen (.slice base sLen sCap)).run P w.drew = .ok olds.toArray w.drew)
    (hnew : (Builtin.firstCells s n vx).run P w.drew = .ok news.toArray w.drew)
    (hg : sCap < sLen + n) (hb : (sLen + n) * bytes ≤ 140737488355328) (h63 : sLen + n ≤ 9223372036854775807) :
    (Builtin.append_ #[t, u] ty #[.slice base sLen sCap, vx]).run P w =
      .ok (.slice (some ⟨w.heap.size, 0, none⟩) (sLen + n) (grownCap w (sLen + n) sCap e))
        (w.drew.alloc (.cells (olds ++ news ++ (Builtin.zeroCells z.cells (grownCap w (sLen + n) sCap e - (sLen + n))).toList).toArray e)) := by
  obtain ⟨i, hi, hs, hby, hz⟩ := he.info
  have hn : ¬ (sLen + n ≤ sCap) := by omega
  have h63' : ¬ (9223372036854775807 < ((sLen : Int) + (n : Int))) := by omega
  have hfit : Builtin.nextslicecap (sLen + n) sCap * i.bytes ≤ 281474976710656 := growslice_fits (by omega) (hby ▸ hb)
  have h48' : ¬ (281474976710656 < Builtin.nextslicecap (sLen + n) sCap * i.bytes) := by omega
  have hdi : (d matches .int _) = false := by
    cases d <;> first | rfl | exact absurd rfl (hd _)
  subst hs
  simp only [Builtin.append_, List.getElem?_toArray, List.getElem?_cons_zero, List.getElem?_cons_succ, Sem.run_bind, run_underlying he.under, run_underlying hu, Result.andThen_ok,
    run_sizeOf_eq hi, Sem.run_pure, hdi, Bool.false_eq_true, if_false, hlen, run_info hi]
  rw [if_neg hn]
  have hzz : zeroOf P e = some z := by simp [zeroOf, hi, hz]
  have hmax : ¬ (9223372036854775807 < (sLen : Int) + (n : Int) ∧ i.bytes = 0) := by omega
  have h48 : ¬ (Builtin.nextslicecap (sLen + n) sCap * i.bytes > 2 ^ 48) := by omega
  simp only [Sem.run_bind, run_info hi, Result.andThen_ok]
  simp [hmax, h48, h48', Question.forced, hold, hnew, newRow, grownCap, run_info hi, run_zero hzz]
  congr 2
  apply Array.ext'
  simp
theorem run_append_in {t u e s bytes : Nat} {z : Value} (he : ElemOf P t e s bytes z) {d : TypeDesc} (hu : P.underlying u = some d) (hd : ∀ k, d ≠ .int k) (ty : TypeId)
    (base : Option Addr) (sLen sCap : Nat) (vx : Value) (n : Nat) (news : List Value) (w' : World)
    (hlen : ∀ w, (Builtin.lenOf vx).run P w = .ok n w)
    (hnew : (Builtin.firstCells s n vx).run P w = .ok news.toArray w)
    (hroom : sLen + n ≤ sCap) (hst : ∀ a, base = some a → (storeCells (a.add (sLen * s)) news).run P w = .ok () w') (hno : base = none → w' = w) :
    (Builtin.append_ #[t, u] ty #[.slice base sLen sCap, vx]).run P w = .ok (.slice base (sLen + n) sCap) w' := by
  obtain ⟨i, hi, hs, hby, hz⟩ := he.info
  have hdi : (d matches .int _) = false := by
    cases d <;> first | rfl | exact absurd rfl (hd _)
  subst hs
  simp only [Builtin.append_, List.getElem?_toArray, List.getElem?_cons_zero, List.getElem?_cons_succ, Sem.run_bind, run_underlying he.under, run_underlying hu, Result.andThen_ok,
    run_sizeOf_eq hi, Sem.run_pure, hdi, Bool.false_eq_true, if_false, hlen, run_info hi]
  rw [if_pos hroom]
  cases base with
  | none =>
    obtain rfl := hno rfl
    simp [hnew]
  | some a =>
    simp [hnew, hst a rfl]
end
end Go.Av
end
section
set_option linter.unusedVariables false
set_option linter.unusedSimpArgs false
set_option linter.unusedSectionVars false
namespace Go.Av
def nextTok (T : List (Nat × Nat)) (d : Nat) : Nat := match look T d with | some c => c + 1 | none => 0
def Gh.grown (G : Gh) (b t e : Nat) : Gh :=
  { G with own := fun k => if k = b then .row t else if G.own k = .row t then .free else G.own k, τ := fun k => if k = t then b else G.τ k, tend := fun k => if k = t then e else G.tend k }
def Gh.filled (G : Gh) (t e : Nat) : Gh := { G with tend := fun k => if k = t then e else G.tend k }
section
variable {P : Program} {G : Gh} {h : HT} {w : World}
theorem pm_of_heap {w w' : World} {b : Nat} (he : w'.heap[b]? = w.heap[b]?) (o : Nat) : w'.cell? ⟨b, o, none⟩ = w.cell? ⟨b, o, none⟩ := by
  simp [World.cell?, he]
theorem grown_keeps (wf : WF G h w) (t e ver : Nat) (hv : ∀ c, look h.T t = some c → c < ver) (o : Obj) :
    Keeps G h w (G.grown w.heap.size t e) ⟨h.H, upd h.T t ver⟩ (w.drew.alloc o) ∧ Ext G w (G.grown w.heap.size t e) (w.drew.alloc o) ∧
    WF (G.grown w.heap.size t e) ⟨h.H, upd h.T t ver⟩ (w.drew.alloc o) := by
  have hheap : ∀ k, k < w.heap.size → (w.drew.alloc o).heap[k]? = w.heap[k]? := fun k hk => alloc_old (w := w.drew) hk
  have hpm : ∀ b off v, pm G w b off = some v → pm (G.grown w.heap.size t e) (w.drew.alloc o) b off = some v := by
    intro b off v hv
    have hlt := pm_lt hv
    have hne : b ≠ w.heap.size := Nat.ne_of_lt hlt
    have e1 := pm_of_heap (hheap b hlt) off
    have hc := pm_cell hv
    unfold pm at hv ⊢
    simp only [Gh.grown, if_neg hne]
    rw [e1]
    by_cases ho : G.own b = .row t
    · rw [if_pos ho]; exact hc
    · rw [if_neg ho]
      cases hob : G.own b with
      | free => exact hc
      | obj id => rw [hob] at hv; simp at hv
      | hid n => rw [hob] at hv; exact hv
      | row t' =>
        rw [hob] at hv
        have hne' : t' ≠ t := by intro h; subst h; exact ho hob
        simp only [if_neg hne']
        exact hv
  have hshp := fun k x => shp_old (w := w) (w' := w.drew.alloc o) (fun k x hk => alloc_old' (w := w.drew) hk) k x
  have hk : Keeps G h w (G.grown w.heap.size t e) ⟨h.H, upd h.T t ver⟩ (w.drew.alloc o) := by
    refine ⟨hpm, ?_, ?_, hshp⟩
    · intro t' cur ht
      by_cases he : t' = t
      · subst he
        exact ⟨ver, look_upd_same _ _ _, Nat.le_of_lt (hv cur ht), fun h => absurd (hv cur ht) (by omega)⟩
      · refine ⟨cur, (look_upd_other _ _ _ _ he).trans ht, Nat.le_refl _, fun _ => ⟨by simp [Gh.grown, he], by simp [Gh.grown, he], fun ho => ?_⟩⟩
        have hlt : G.τ t' < w.heap.size := by
          rcases Nat.lt_or_ge (G.τ t') w.heap.size with h1 | h1
          · exact h1
          · rw [wf.fresh _ h1] at ho; exact absurd ho (by simp)
        refine ⟨?_, fun vs ty fz h0 => (hheap _ hlt).trans h0⟩
        simp only [Gh.grown, if_neg (Nat.ne_of_lt hlt)]
        rw [if_neg (by rw [ho]; simp [he])]; exact ho
    · intro id cur hb hl
      exact ⟨cur, hb, hl, Nat.le_refl _, fun _ => rfl⟩
  refine ⟨hk, ⟨rfl, rfl, rfl, by simp, ?_, fun b off v _ hv => hpm b off v hv, hshp⟩, ⟨?_, ?_, ?_⟩⟩
  · intro b hlt hf
    refine ⟨?_, hheap b hlt⟩
    simp only [Gh.grown, if_neg (Nat.ne_of_lt hlt)]
    rw [if_neg (by intro h; rw [h] at hf; simp [Owner.still] at hf)]
  · intro b hb
    simp only [World.size_alloc, World.size_drew] at hb
    simp only [Gh.grown, if_neg (show b ≠ w.heap.size by omega)]
    have := wf.fresh b (by omega)
    rw [this]; simp
  · intro b t' hb
    simp only [Gh.grown] at hb ⊢
    by_cases h1 : b = w.heap.size
    · rw [if_pos h1] at hb; simp only [Owner.row.injEq] at hb; rw [if_pos hb.symm]; exact h1
    · rw [if_neg h1] at hb
      by_cases h2 : G.own b = .row t
      · rw [if_pos h2] at hb; simp at hb
      · rw [if_neg h2] at hb
        have h3 : t' ≠ t := by intro h; subst h; exact h2 hb
        rw [if_neg h3]; exact wf.rows b t' hb
  · intro id ver' hb hl
    obtain ⟨o1, o2, o3⟩ := wf.objs id ver' hb hl
    refine ⟨?_, by simp [Gh.grown]; omega, o3.mono hk (hheap _ o2)⟩
    simp only [Gh.grown, if_neg (Nat.ne_of_lt o2)]
    rw [if_neg (by rw [o1]; simp)]; exact o1
theorem filled_keeps (wf : WF G h w) (t e ver : Nat) (hv : ∀ c, look h.T t = some c → c < ver) (hown : G.own (G.τ t) = .row t) (he : G.tend t ≤ e)
    {vs vs' : Array Value} {ty : TypeId} {fz fz' : Nat × Nat} (hblk : w.heap[G.τ t]? = some (.cells vs ty fz)) (hsame : ∀ o, o < G.tend t → vs'[o]? = vs[o]?)
    (hss : vs'.size = vs.size) :
    Keeps G h w (G.filled t e) ⟨h.H, upd h.T t ver⟩ (World.withRow w (G.τ t) vs' ty fz') ∧ Ext G w (G.filled t e) (World.withRow w (G.τ t) vs' ty fz') ∧
    WF (G.filled t e) ⟨h.H, upd h.T t ver⟩ (World.withRow w (G.τ t) vs' ty fz') := by
  have hlt := lt_of_get hblk
  have hheap : ∀ k, k ≠ G.τ t → (World.withRow w (G.τ t) vs' ty fz').heap[k]? = w.heap[k]? := fun k hk => withRow_other hk
  have hpm : ∀ b off v, pm G w b off = some v → pm (G.filled t e) (World.withRow w (G.τ t) vs' ty fz') b off = some v := by
    intro b off v hv
    by_cases hb : b = G.τ t
    · subst hb
      have hc := pm_cell hv
      unfold pm at hv ⊢
      simp only [Gh.filled]
      rw [hown] at hv ⊢
      simp only [if_true] at hv ⊢
      split at hv
      · rename_i hlt2
        rw [if_pos (by omega), cell_of_block (withRow_get hlt), hsame off hlt2, ← cell_of_block hblk]
        exact hv
      · simp at hv
    · have hc := pm_cell hv
      have e1 := pm_of_heap (hheap b hb) off
      unfold pm at hv ⊢
      simp only [Gh.filled]
      rw [e1]
      cases hob : G.own b with
      | free => exact hc
      | obj id => rw [hob] at hv; simp at hv
      | hid n => rw [hob] at hv; exact hv
      | row t' =>
        rw [hob] at hv
        have hne' : t' ≠ t := by intro h; subst h; exact hb (wf.rows b _ hob)
        simp only [if_neg hne']; exact hv
  have hshp := shp_withRow (fz' := fz') hblk hss
  have hk : Keeps G h w (G.filled t e) ⟨h.H, upd h.T t ver⟩ (World.withRow w (G.τ t) vs' ty fz') := by
    refine ⟨hpm, ?_, fun id cur hb hl => ⟨cur, hb, hl, Nat.le_refl _, fun _ => rfl⟩, hshp⟩
    intro t' cur ht
    by_cases he' : t' = t
    · subst he'
      exact ⟨ver, look_upd_same _ _ _, Nat.le_of_lt (hv cur ht), fun h => absurd (hv cur ht) (by omega)⟩
    · refine ⟨cur, (look_upd_other _ _ _ _ he').trans ht, Nat.le_refl _, fun _ => ⟨rfl, by simp [Gh.filled, he'], fun ho => ⟨ho, ?_⟩⟩⟩
      intro vs0 ty0 fz0 h0
      have : G.τ t' ≠ G.τ t := by intro h; rw [h, hown] at ho; simp only [Owner.row.injEq] at ho; exact he' ho.symm
      exact (hheap _ this).trans h0
  refine ⟨hk, ⟨rfl, rfl, rfl, by simp [withRow_size], ?_, fun b off v _ hv => hpm b off v hv, hshp⟩, ⟨?_, ?_, ?_⟩⟩
  · intro b _ hf
    have : b ≠ G.τ t := by intro h; rw [h, hown] at hf; exact absurd hf (by simp [Owner.still])
    exact ⟨rfl, hheap b this⟩
  · intro b hb
    exact wf.fresh b (by simpa [withRow_size] using hb)
  · exact wf.rows
  · intro id ver' hb hl
    obtain ⟨o1, o2, o3⟩ := wf.objs id ver' hb hl
    have : G.ι id ≠ G.τ t := by intro h; rw [h, hown] at o1; exact absurd o1 (by simp)
    exact ⟨o1, by rw [withRow_size]; exact o2, o3.mono hk (hheap _ this)⟩
end
end Go.Av
end
section
set_option linter.unusedVariables false
set_option linter.unusedSimpArgs false
set_option linter.unusedSectionVars false
namespace Go.Av
section
variable {P : Program} {G : Gh} {h : HT} {w : World}
theorem frozen_new {o : Array Value} {ty : TypeId} (k i : Nat) (hk : k = w.heap.size) : (w.alloc (.cells o ty)).frozen? ⟨k, i, none⟩ = false := by
  subst hk; simp
theorem flat_take_length (r : Row PV) (f : Nat → Nat → Value) (s : Nat) (hs : r.len = 0 ∨ s = r.sz) : ((flat r f).take (r.len * s)).length = r.len * s := by
  rw [List.length_take, flat_length]
  rcases hs with h | h
  · rw [h]; simp
  · rw [h]; simp
theorem grow_row (wf : WF G h w) {t u e s bytes : Nat} {z : Value} (he : ElemOf P t e s bytes z) {d : TypeDesc} (hu : P.underlying u = some d) (hd : ∀ k, d ≠ .int k) (ty : TypeId)
    (tk ver : Nat) (hv : ∀ c, look h.T tk = some c → c < ver) {base : Option Addr} {cap : Nat} {r r2 r3 : Row PV} {f f2 : Nat → Nat → Value} {vy : Value}
    (src1 : Src P G w s (.slice base r.len cap) r f) (src2 : Src P G w s vy r2 f2) (happ : IsApp r r2 r3) (hs0 : 0 < s)
    (hcap : cap < r.len + r2.len) (hb : r3.len * bytes ≤ 140737488355328) (h63 : r3.len ≤ 9223372036854775807) :
    ∃ v w' G', (Builtin.append_ #[t, u] ty #[.slice base r.len cap, vy]).run P w = .ok v w' ∧ Rep G' ⟨h.H, upd h.T tk ver⟩ w' (.row r3 tk ver false) v ∧
      Keeps G h w G' ⟨h.H, upd h.T tk ver⟩ w' ∧ Ext G w G' w' ∧ WF G' ⟨h.H, upd h.T tk ver⟩ w' ∧ BufAt w' e v := by
  have hlen := happ.len
  have hn0 : r3.len ≠ 0 := by omega
  have hsz3 : r3.sz = s := by
    by_cases h0 : r.len = 0
    · have : r2.len ≠ 0 := by omega
      rw [happ.sz2 this]
      rcases src2.sz with h | h
      · exact absurd h this
      · exact h.symm
    · rw [happ.sz1 h0]
      rcases src1.sz with h | h
      · exact absurd h h0
      · exact h.symm
  have hsame : ∀ a, w.drew.cell? a = w.cell? a := fun a => rfl
  have hrun := run_append_more he hu hd ty base r.len cap vy r2.len _ _ src2.len (src1.cells w.drew hsame r.len (Nat.le_refl _)) (src2.cells w.drew hsame r2.len (Nat.le_refl _)) hcap (hlen ▸ hb) (hlen ▸ h63)
  generalize hcells : ((flat r f).take (r.len * s) ++ (flat r2 f2).take (r2.len * s) ++ (Builtin.zeroCells z.cells (grownCap w (r.len + r2.len) cap e - (r.len + r2.len))).toList) = cs at hrun
  obtain ⟨hk, hext, hwf⟩ := grown_keeps wf tk (r3.len * s) ver hv (.cells cs.toArray e)
  have hge := grownCap_ge w (r.len + r2.len) cap e
  have hcs : cs.length = grownCap w (r.len + r2.len) cap e * s := by
    rw [← hcells]
    simp only [List.length_append, flat_take_length _ _ _ src1.sz, flat_take_length _ _ _ src2.sz, Array.length_toList, size_zeroCells, he.zero]
    rw [Nat.sub_mul, Nat.add_mul]
    have : (r.len + r2.len) * s ≤ grownCap w (r.len + r2.len) cap e * s := Nat.mul_le_mul_right _ hge
    rw [Nat.add_mul] at this
    omega
  have hblk : (w.drew.alloc (.cells cs.toArray e)).heap[w.heap.size]? = some (.cells cs.toArray e (0, 0)) := alloc_new (w := w.drew)
  have hrep := happ.rowRep src1.rep src2.rep hk.mem
  have hmul : r3.len * s ≤ grownCap w (r.len + r2.len) cap e * s := Nat.mul_le_mul_right _ (hlen ▸ hge)
  refine ⟨_, _, G.grown w.heap.size tk (r3.len * s), hrun, ?_, hk, hext, hwf, ?_⟩
  rotate_left
  · intro a0 l0 c0 hv0 _
    simp only [Value.slice.injEq, Option.some.injEq] at hv0
    obtain ⟨rfl, _, _⟩ := hv0
    exact ⟨rfl, _, _, hblk⟩
  rw [← hlen]
  refine .row r3 tk ver ver false _ _ (look_upd_same _ _ _) (Nat.le_refl _) ?_ ?_
  · refine .sl r3 ⟨w.heap.size, 0, none⟩ _ _ (hlen ▸ hge) (.inr rfl) hrep.width ?_ hrep.one hrep.rep
    intro i j hi hj
    have hlt : i * r3.sz + j < r3.len * s := by
      have : (i + 1) * r3.sz ≤ r3.len * r3.sz := Nat.mul_le_mul_right _ hi
      rw [Nat.add_mul] at this; rw [hsz3] at this hj ⊢; omega
    simp only [pm, Gh.grown, if_true, Nat.zero_add]
    rw [if_pos hlt, cell_of_block hblk, hsz3]
    have := happ.cells f f2 s src1.sz src2.sz (Builtin.zeroCells z.cells (grownCap w (r.len + r2.len) cap e - (r.len + r2.len))).toList i j hi hj
    rw [hcells] at this
    simpa using this
  · intro _
    refine .inr ⟨0, cs.toArray, e, (0, 0), by simp [Gh.grown], by simp [Gh.grown], by simp [Gh.grown, hsz3], by omega, by simpa [Gh.grown] using hblk, ?_, ?_⟩
    · rw [hsz3]; simp [hcs, hlen]
    · intro o _ _
      simp only [Gh.grown, if_true]
      exact frozen_new (w := w.drew) w.heap.size o rfl
end
end Go.Av
end
section
set_option linter.unusedVariables false
set_option linter.unusedSimpArgs false
set_option linter.unusedSectionVars false
namespace Go.Av
section
variable {P : Program} {G : Gh} {h : HT} {w : World}
theorem bump_keeps (wf : WF G h w) (t ver : Nat) (hv : ∀ c, look h.T t = some c → c < ver) :
    Keeps G h w G ⟨h.H, upd h.T t ver⟩ w ∧ Ext G w G w ∧ WF G ⟨h.H, upd h.T t ver⟩ w := by
  have hk : Keeps G h w G ⟨h.H, upd h.T t ver⟩ w := by
    refine ⟨fun _ _ _ h => h, ?_, fun id cur hb hl => ⟨cur, hb, hl, Nat.le_refl _, fun _ => rfl⟩, fun _ _ h => h⟩
    intro t' cur ht
    by_cases he' : t' = t
    · subst he'
      exact ⟨ver, look_upd_same _ _ _, Nat.le_of_lt (hv cur ht), fun h => absurd (hv cur ht) (by omega)⟩
    · exact ⟨cur, (look_upd_other _ _ _ _ he').trans ht, Nat.le_refl _, fun _ => ⟨rfl, rfl, fun ho => ⟨ho, fun _ _ _ h => h⟩⟩⟩
  exact ⟨hk, Ext.refl _ _, ⟨wf.fresh, wf.rows, fun id ver' hb hl => let ⟨a, b, c⟩ := wf.objs id ver' hb hl; ⟨a, b, c.mono hk rfl⟩⟩⟩
theorem append_row (wf : WF G h w) {t u e s bytes : Nat} {z : Value} (he : ElemOf P t e s bytes z) {d : TypeDesc} (hu : P.underlying u = some d) (hd : ∀ k, d ≠ .int k) (ty : TypeId)
    {tk v0 : Nat} {r r2 r3 : Row PV} {nl : Bool} {f2 : Nat → Nat → Value} {vx vy : Value} (rx : Rep G h w (.row r tk v0 nl) vx) (hlk : look h.T tk = some v0)
    (hsz0 : s = r.sz ∨ nl = true) (src2 : Src P G w s vy r2 f2) (happ : IsApp r r2 r3) (hs0 : 0 < s)
    (hb : r3.len * bytes ≤ 140737488355328) (h63 : r3.len ≤ 9223372036854775807) :
    ∃ v w' G', (Builtin.append_ #[t, u] ty #[vx, vy]).run P w = .ok v w' ∧ Rep G' ⟨h.H, upd h.T tk (v0 + 1)⟩ w' (.row r3 tk (v0 + 1) (nl && r2.len == 0)) v ∧
      Keeps G h w G' ⟨h.H, upd h.T tk (v0 + 1)⟩ w' ∧ Ext G w G' w' ∧ WF G' ⟨h.H, upd h.T tk (v0 + 1)⟩ w' ∧ (BufAt w e vx → BufAt w' e v) := by
  have hv : ∀ c, look h.T tk = some c → c < v0 + 1 := by intro c hc; rw [hlk] at hc; simp only [Option.some.injEq] at hc; omega
  cases rx with
  | row _ _ _ cur _ a cap hc hle hr ht =>
  have hcur : v0 = cur := by rw [hlk] at hc; exact Option.some.inj hc
  subst hcur
  have ht := ht rfl
  have hnil : nl = true → r.len = 0 ∧ cap = 0 ∧ a = none := by
    rintro rfl
    generalize hvv : Value.slice a r.len cap = vv at hr
    cases hr with
    | slNil _ h0 =>
      simp only [Value.slice.injEq] at hvv
      exact ⟨h0, hvv.2.2, hvv.1⟩
  have hsz : r.len = 0 ∨ s = r.sz := by
    rcases hsz0 with h | h
    · exact .inr h
    · exact .inl (hnil h).1
  obtain ⟨f, src1⟩ := src_slice (P := P) (s := s) hr hsz
  have hlen := happ.len
  have hcapok := hr.capOk
  by_cases hroom : r.len + r2.len ≤ cap
  · by_cases hn : r2.len = 0
    ·
      have hrun := run_append_in he hu hd ty a r.len cap vy r2.len [] w src2.len (by
          have := src2.cells w (fun _ => rfl) r2.len (Nat.le_refl _)
          rw [hn, Nat.zero_mul, List.take_zero] at this; rw [hn]; exact this) hroom (fun a _ => by simp [storeCells]) (fun _ => rfl)
      obtain ⟨hk, hext, hwf⟩ := bump_keeps wf tk (v0 + 1) hv
      refine ⟨_, w, G, hrun, ?_, hk, hext, hwf, fun hB => by rw [hn, Nat.add_zero]; exact hB⟩
      have e3 : r3.len = r.len := by omega
      have esz : r3.sz = r.sz := happ.sz3 hn
      have hrr : RepP (pm G w) (.sl r3 nl) (.slice a r3.len cap) := by
        obtain ⟨f0, hrep, hcase⟩ := hr.rowRep
        have hrep3 := happ.rowRep hrep (f2 := f0) (r2 := r2) ⟨fun i hi => by omega, fun i j hi => by omega, fun i j hi => by omega⟩ (m' := pm G w) (fun _ _ _ h => h)
        generalize hvv : Value.slice a r.len cap = vv at hr hcase
        cases hr with
        | slNil _ h0 =>
          simp only [Value.slice.injEq] at hvv
          obtain ⟨rfl, _, rfl⟩ := hvv
          have : r3.len = 0 := by omega
          rw [this]; exact .slNil _ this
        | sl _ a0 cap0 _ hc0 ha0 _ _ _ _ =>
          simp only [Value.slice.injEq, true_and] at hvv
          obtain ⟨rfl, rfl⟩ := hvv
          rcases hcase with ⟨hbad, _⟩ | ⟨a1, cap1, hv1, ha1, hf1⟩
          · simp at hbad
          · simp only [Value.slice.injEq, Option.some.injEq, true_and] at hv1
            obtain ⟨rfl, rfl⟩ := hv1
            refine .sl r3 a0 cap _ (by omega) (by rw [e3]; exact ha0) hrep3.width ?_ hrep3.one hrep3.rep
            intro i j hi hj
            rw [e3] at hi; rw [esz] at hj ⊢
            rw [if_pos hi]; exact hf1 i j hi hj
      have e2 : (nl && r2.len == 0) = nl := by simp [hn]
      rw [e2, hn, Nat.add_zero, ← e3]
      refine .row r3 tk (v0 + 1) (v0 + 1) nl a cap (look_upd_same _ _ _) (Nat.le_refl _) hrr (fun _ => ?_)
      rw [e3, esz]; exact ht
    ·
      rcases ht with h3 | ⟨off, vs, ty0, fz, rfl, hown, hend, hsz0, hblk, hfit, hfz⟩
      · omega
      · have hs3 : r3.sz = r2.sz := happ.sz2 hn
        have hs2 : s = r2.sz := by rcases src2.sz with h | h; exact absurd h hn; exact h
        have hnl : nl = false := by
          cases nl with
          | false => rfl
          | true => have := (hnil rfl).2.2; simp at this
        subst hnl
        have hsr : s = r.sz := by rcases hsz0 with h | h; exact h; simp at h
        have hsr3 : r3.sz = s := hs3.trans hs2.symm
        have hoff : off + r.len * s = G.tend tk := by rw [hsr]; exact hend
        have hmul : (r.len + r2.len) * s ≤ cap * s := Nat.mul_le_mul_right _ hroom
        have hmul2 : (r.len + r2.len) * s = r.len * s + r2.len * s := Nat.add_mul ..
        have hfit' : off + cap * s ≤ vs.size := by rw [hsr]; exact hfit
        have hnewl := flat_take_length r2 f2 s src2.sz
        have hone : ∀ v ∈ (flat r2 f2).take (r2.len * s), v.oneCell' = true := by
          intro v hv'
          obtain ⟨k, hk, rfl⟩ := List.getElem_of_mem hv'
          rw [hnewl] at hk
          obtain ⟨q1, q2, q3⟩ := flat_split r2 (k := k) (by rw [← hs2]; exact hk)
          have hg := flat_get r2 f2 _ _ q1 q2
          rw [q3] at hg
          have : ((flat r2 f2).take (r2.len * s))[k]? = some (f2 (k / r2.sz) (k % r2.sz)) := by rw [List.getElem?_take, if_pos hk]; exact hg
          rw [List.getElem?_eq_getElem (by rw [hnewl]; exact hk)] at this
          rw [Option.some.inj this]; exact src2.one _ _ q1 q2
        have hst := run_storeCells (P := P) ((flat r2 f2).take (r2.len * s)) w (G.τ tk) (G.tend tk) 0 vs ty0 fz hblk (by rw [hnewl]; omega) hone
          (fun o h1 h2 => hfz o (by omega) (by rw [hnewl] at h2; rw [← hsr]; omega))
        rw [Nat.add_zero] at hst
        generalize hws : spliceA vs (G.tend tk) ((flat r2 f2).take (r2.len * s)) = vs' at hst
        have hget : ∀ o, vs'[o]? = if G.tend tk ≤ o ∧ o < G.tend tk + r2.len * s then ((flat r2 f2).take (r2.len * s))[o - G.tend tk]? else vs[o]? := by
          intro o
          rw [← hws, spliceA_get _ _ _ _ (by rw [hnewl]; omega), hnewl]
        obtain ⟨hk, hext, hwf⟩ := filled_keeps wf tk (G.tend tk + r2.len * s) (v0 + 1) hv hown (by omega) (vs' := vs') hblk (fun o ho => by rw [hget, if_neg (by omega)]) (by rw [← hws, spliceA_size])
        have hrun := run_append_in he hu hd ty (some ⟨G.τ tk, off, none⟩) r.len cap vy r2.len _ _ src2.len (src2.cells w (fun _ => rfl) r2.len (Nat.le_refl _)) hroom
          (fun a ha => by simp only [Option.some.injEq] at ha; subst ha; rw [addr_add, hoff]; exact hst) (by simp)
        refine ⟨_, _, G.filled tk (G.tend tk + r2.len * s), hrun, ?_, hk, hext, hwf, fun hB => ?_⟩
        rotate_left
        · intro a0 l0 c0 hv0 hne
          simp only [Value.slice.injEq, Option.some.injEq] at hv0
          obtain ⟨rfl, _, rfl⟩ := hv0
          obtain ⟨q1, vs1, fz1, q2⟩ := hB _ _ _ rfl hne
          simp only at q1 q2
          rw [hblk] at q2
          simp only [Option.some.injEq, Obj.cells.injEq] at q2
          obtain ⟨_, rfl, _⟩ := q2
          exact ⟨q1, _, _, withRow_get (lt_of_get hblk)⟩
        simp only [Bool.false_and]
        rw [← hlen]
        have hblk' : (World.withRow w (G.τ tk) vs' ty0 fz).heap[G.τ tk]? = some (.cells vs' ty0 fz) := withRow_get (lt_of_get hblk)
        obtain ⟨f1, hrep1, hcase⟩ := hr.rowRep
        have hf1 : ∀ i j, i < r.len → j < r.sz → pm G w (G.τ tk) (off + i * r.sz + j) = some (f1 i j) := by
          rcases hcase with ⟨hbad, _⟩ | ⟨a1, cap1, hv1, ha1, hf1⟩
          · simp at hbad
          · simp only [Value.slice.injEq, Option.some.injEq, true_and] at hv1
            obtain ⟨rfl, rfl⟩ := hv1
            exact hf1
        have hrep := happ.rowRep hrep1 src2.rep hk.mem
        refine .row r3 tk (v0 + 1) (v0 + 1) false _ cap (look_upd_same _ _ _) (Nat.le_refl _) ?_ ?_
        · refine .sl r3 ⟨G.τ tk, off, none⟩ cap _ (by omega) (.inr rfl) hrep.width ?_ hrep.one hrep.rep
          intro i j hi hj
          rw [hsr3] at hj ⊢
          by_cases hil : i < r.len
          · rw [if_pos hil]
            have := hk.mem _ _ _ (hf1 i j hil (hsr ▸ hj))
            rw [← hsr] at this; exact this
          · rw [if_neg hil]
            obtain ⟨k, rfl⟩ : ∃ k, i = r.len + k := ⟨i - r.len, by omega⟩
            have hk2 : k < r2.len := by omega
            have hlt : k * s + j < r2.len * s := by
              have : (k + 1) * s ≤ r2.len * s := Nat.mul_le_mul_right _ hk2
              rw [Nat.add_mul] at this; omega
            have e3 : (r.len + k) * s = r.len * s + k * s := Nat.add_mul ..
            simp only [pm, Gh.filled, hown, if_true]
            rw [if_pos (by omega), cell_of_block hblk', hget, if_pos (by omega), List.getElem?_take, if_pos (by omega),
              show off + (r.len + k) * s + j - G.tend tk = k * s + j by omega, show r.len + k - r.len = k by omega, hs2]
            exact flat_get r2 f2 k j hk2 (hs2 ▸ hj)
        · intro _
          refine .inr ⟨off, vs', ty0, fz, rfl, hown, ?_, by omega, hblk', ?_, ?_⟩
          · simp only [Gh.filled, if_true]; rw [hsr3, hlen]; omega
          · rw [hsr3, ← hws, spliceA_size]; omega
          · intro o ho1 ho2
            have e : (World.withRow w (G.τ tk) vs' ty0 fz).frozen? ⟨G.τ tk, o, none⟩ = w.frozen? ⟨G.τ tk, o, none⟩ := by
              simp only [World.frozen?, hblk', hblk]
            simp only [Gh.filled, if_true] at ho1
            simp only [Gh.filled]
            rw [e]; exact hfz o (by omega) (by rw [hsr3] at ho2; rw [← hsr]; exact ho2)
  ·
    have hn : r2.len ≠ 0 := by omega
    have e2 : (nl && r2.len == 0) = false := by simp [hn]
    rw [e2]
    obtain ⟨v, w', G', g1, g2, g3, g4, g5, g6⟩ := grow_row wf he hu hd ty tk (v0 + 1) hv src1 src2 happ hs0 (by omega) hb h63
    exact ⟨v, w', G', g1, g2, g3, g4, g5, fun _ => g6⟩
end
end Go.Av
end
section
set_option linter.unusedVariables false
set_option linter.unusedSimpArgs false
set_option linter.unusedSectionVars false
namespace Go.Av
def ownRow (e : Nat) (hb : HB) (off len : Nat) : Option (Row PV) :=
  match hb with
  | .row r => if e = 1 ∧ r.sz = 1 ∧ off + len ≤ r.len then some (if off = 0 ∧ len = r.len then r else r.cut off (off + len)) else none
  | .cells l => if 0 < e ∧ off + len * e ≤ l.length then (pvsOf ((l.drop off).take (len * e))).map fun c => cellsRow e len c else none
  | .iter _ _ => none
def srcV (H : List (Nat × (Nat × HB))) (e : Nat) (x : V) : Option (Row PV) :=
  match x with
  | .p (.str s) => if e = 1 then some (bytesRow s) else none
  | .p (.sl r _) => if e = r.sz ∨ r.len = 0 then some r else none
  | .row r _ _ _ => if e = r.sz ∨ r.len = 0 then some r else none
  | .own id ver off len cap =>
    match look H id with
    | some (c, hb) => if c = ver then ownRow e hb off len else none
    | none => none
  | _ => none
def elemInfo (P : Program) (t : TypeId) : Option (Nat × Nat × Nat × Value) :=
  match P.underlying t with
  | some (.slice e) => match P.info? e with
    | some i => match i.zero with
      | some z => if z.cells.size = i.size ∧ 0 < i.size ∧ 0 < i.bytes then some (e, i.size, i.bytes, z) else none
      | none => none
    | none => none
  | _ => none
def notInt (P : Program) (t : TypeId) : Bool :=
  match P.underlying t with
  | some (.int _) => false
  | some _ => true
  | none => false
def aappend (P : Program) (h : HT) (d t u : Nat) (x y : V) : Option (V × List (Nat × Nat)) :=
  match elemInfo P t, notInt P u with
  | some (e, s, bytes, z), true =>
    match srcV h.H s y with
    | some r2 =>
      match x with
      | .row r tk v nl =>
        if look h.T tk = some v ∧ (s = r.sz ∨ nl = true) then
          match appRow r r2 with
          | some r3 => if r3.len * bytes ≤ 140737488355328 then some (.row r3 tk (v + 1) (nl && r2.len == 0), upd h.T tk (v + 1)) else none
          | none => none
        else none
      | .brow eb r tk v nl =>
        if eb = e ∧ look h.T tk = some v ∧ (s = r.sz ∨ nl = true) then
          match appRow r r2 with
          | some r3 => if r3.len * bytes ≤ 140737488355328 then some (.brow eb r3 tk (v + 1) (nl && r2.len == 0), upd h.T tk (v + 1)) else none
          | none => none
        else none
      | .p (.sl r true) =>
        if r2.len * bytes ≤ 140737488355328 then some (.row r2 d (nextTok h.T d) (r2.len == 0), upd h.T d (nextTok h.T d)) else none
      | .own id ver off 0 0 =>
        if r2.len * bytes ≤ 140737488355328 ∧ okV h.H x = true then some (.row r2 d (nextTok h.T d) false, upd h.T d (nextTok h.T d)) else none
      | .own id ver off len cap =>
        match srcV h.H s x with
        | some r => if len = cap ∧ 0 < r2.len then
            match appRow r r2 with
            | some r3 => if r3.len * bytes ≤ 140737488355328 then some (.row r3 d (nextTok h.T d) false, upd h.T d (nextTok h.T d)) else none
            | none => none
          else none
        | none => none
      | _ => none
    | none => none
  | _, _ => none
section
variable {P : Program} {G : Gh} {h : HT} {w : World}
theorem elemInfo_spec {t e s b : Nat} {z : Value} (hh : elemInfo P t = some (e, s, b, z)) : ElemOf P t e s b z ∧ 0 < s ∧ 0 < b := by
  unfold elemInfo at hh
  split at hh
  · rename_i e' hu
    split at hh
    · rename_i i hi
      split at hh
      · rename_i z' hz
        split at hh
        · rename_i hc
          simp only [Option.some.injEq, Prod.mk.injEq] at hh
          obtain ⟨rfl, rfl, rfl, rfl⟩ := hh
          exact ⟨⟨hu, ⟨i, hi, rfl, rfl, hz⟩, hc.1⟩, hc.2.1, hc.2.2⟩
        · simp at hh
      · simp at hh
    · simp at hh
  · simp at hh
theorem notInt_spec {u : Nat} (hh : notInt P u = true) : ∃ d, P.underlying u = some d ∧ ∀ k, d ≠ .int k := by
  unfold notInt at hh
  split at hh
  · simp at hh
  · rename_i d hne hu
    exact ⟨d, hu, fun k hk => by subst hk; exact hne k rfl⟩
  · simp at hh
theorem pv1_rep {x : V} {y : PV} {v : Value} (hy : pv1 x = some y) (r : Rep G h w x v) : RepP (pm G w) y v ∧ y.one = true := by
  unfold pv1 at hy
  split at hy
  · split at hy
    · rename_i h1
      simp only [Option.some.injEq] at hy; subst hy
      cases r with | p r => exact ⟨r, h1⟩
    · simp at hy
  · simp only [Option.some.injEq] at hy; subst hy
    cases r with
    | row _ _ _ cur _ a cap hc hle hr ht => exact ⟨hr, rfl⟩
  · simp at hy
theorem pv1s_get : ∀ (l : List V) (c : List PV), pv1s l = some c → c.length = l.length ∧ ∀ i, i < l.length → pv1 (l.getD i .junk) = some (c.getD i .ptr0)
  | [], c, h => by simp [pv1s] at h; subst h; simp
  | x :: l, c, h => by
    simp only [pv1s] at h
    split at h
    · rename_i y m hy hm
      simp only [Option.some.injEq] at h; subst h
      obtain ⟨h1, h2⟩ := pv1s_get l m hm
      refine ⟨by simp [h1], ?_⟩
      intro i hi
      cases i with
      | zero => simpa using hy
      | succ i => simpa using h2 i (by simpa using hi)
    · simp at h
theorem agg_rep {m : Nat → Nat → Option Value} {c : List PV} {vs : Array Value} (hs : vs.size = c.length)
    (hr : ∀ i, i < c.length → ∃ v, vs[i]? = some v ∧ (c.getD i .ptr0).one = true ∧ RepP m (c.getD i .ptr0) v) : RepP m (.agg (kindRow c)) (.agg vs) := by
  refine .agg (kindRow c) vs (fun i => vs.getD i undef) (by rw [kindRow_len]; exact hs) ?_ ?_ ?_
  · intro i hi
    rw [kindRow_len] at hi
    have : i < vs.size := by omega
    simp [Array.getD, this]
  · intro i hi
    rw [kindRow_len] at hi
    rw [kindRow_elem _ _ hi]
    obtain ⟨v, _, h1, _⟩ := hr i hi
    exact h1
  · intro i hi
    rw [kindRow_len] at hi
    rw [kindRow_elem _ _ hi]
    obtain ⟨v, h0, _, h2⟩ := hr i hi
    have : i < vs.size := by omega
    simp [Array.getElem?_eq_getElem this] at h0
    simp [Array.getD, this, h0]; exact h2
theorem pvOf_rep {x : V} {y : PV} {v : Value} (hy : pvOf x = some y) (r : Rep G h w x v) : RepP (pm G w) y v := by
  unfold pvOf at hy
  split at hy
  · simp only [Option.some.injEq] at hy; subst hy; cases r with | p r => exact r
  · simp only [Option.some.injEq] at hy; subst hy
    cases r with
    | row _ _ _ cur _ a cap hc hle hr ht => exact hr
  · simp only [Option.map_eq_some_iff] at hy
    obtain ⟨c, hc, rfl⟩ := hy
    obtain ⟨c1, c2⟩ := pv1s_get _ _ hc
    cases r with
    | agg l vs f hs hf h1 hr =>
      refine agg_rep (hs.trans c1.symm) ?_
      intro i hi
      rw [c1] at hi
      obtain ⟨r1, r2⟩ := pv1_rep (c2 i hi) (hr i hi)
      exact ⟨f i, hf i hi, r2, r1⟩
  · simp at hy
theorem pvsOf_get : ∀ (l : List V) (c : List PV), pvsOf l = some c → c.length = l.length ∧ ∀ i, i < l.length → pvOf (l.getD i .junk) = some (c.getD i .ptr0)
  | [], c, h => by simp [pvsOf] at h; subst h; simp
  | x :: l, c, h => by
    simp only [pvsOf] at h
    split at h
    · rename_i y m hy hm
      simp only [Option.some.injEq] at h; subst h
      obtain ⟨h1, h2⟩ := pvsOf_get l m hm
      refine ⟨by simp [h1], ?_⟩
      intro i hi
      cases i with
      | zero => simpa using hy
      | succ i => simpa using h2 i (by simpa using hi)
    · simp at h
theorem firstCells_list {s n : Nat} {b off len cap : Nat} {l : List Value} (hl : n * s ≤ l.length) (w1 : World)
    (hc : ∀ j v, j < n * s → l[j]? = some v → w1.cell? ⟨b, off + j, none⟩ = some v) :
    (Builtin.firstCells s n (.slice (some ⟨b, off, none⟩) len cap)).run P w1 = .ok (l.take (n * s)).toArray w1 := by
  refine run_firstCells_some w1 s n ⟨b, off, none⟩ len cap _ (by rw [List.length_take]; omega) ?_
  intro j v hj
  have hlt : j < n * s := by
    rcases Nat.lt_or_ge j (n * s) with h | h
    · exact h
    · rw [List.getElem?_take, if_neg (by omega)] at hj; simp at hj
  rw [List.getElem?_take, if_pos hlt] at hj
  rw [addr_add]; exact hc j v hlt hj
theorem width_one {x : PV} (h : x.one = true) : x.width = 1 := by cases x <;> first | rfl | simp [PV.one] at h
theorem cell_one {x : PV} (h : x.one = true) (j : Nat) : x.cell j = x := by cases x <;> first | rfl | simp [PV.one] at h
theorem src_cells {e b off cap : Nat} {r : Row PV} (g : Nat → Value) (hrep : RowRep (pm G w) r (fun i j => g (i * r.sz + j)))
    (hs : r.len = 0 ∨ e = r.sz) (hc : ∀ k, k < r.len * e → w.cell? ⟨b, off + k, none⟩ = some (g k)) :
    Src P G w e (.slice (some ⟨b, off, none⟩) r.len cap) r (fun i j => g (i * r.sz + j)) := by
  refine ⟨hrep, rowRep_one hrep, hs, fun w => by simp [Builtin.lenOf], ?_⟩
  intro w1 hw1 n hn
  refine firstCells_list ?_ w1 ?_
  · rw [flat_length]
    rcases hs with h | h
    · rw [h] at hn ⊢; obtain rfl : n = 0 := by omega
      simp
    · rw [h]; exact Nat.mul_le_mul_right _ hn
  · intro j v hj hv
    have hne : r.len ≠ 0 := by intro h; rw [h] at hn; obtain rfl : n = 0 := by omega
                               simp at hj
    have he : e = r.sz := by rcases hs with h | h; exact absurd h hne; exact h
    have hj2 : j < r.len * r.sz := by
      rw [← he]; exact Nat.lt_of_lt_of_le hj (Nat.mul_le_mul_right _ hn)
    obtain ⟨q1, q2, q3⟩ := flat_split r hj2
    have hg := flat_get r (fun i j => g (i * r.sz + j)) _ _ q1 q2
    rw [q3, hv] at hg
    rw [hw1, hc j (by rw [he]; exact hj2)]
    exact hg.symm
theorem src_own (wf : WF G h w) {id ver off len cap e : Nat} {hb : HB} {r : Row PV} (hl : look h.H id = some (ver, hb)) (hr : ownRow e hb off len = some r) :
    r.len = len ∧ ∃ f, Src P G w e (.slice (some ⟨G.ι id, off, none⟩) len cap) r f := by
  obtain ⟨hown, hlt, hrep⟩ := wf.objs id ver hb hl
  unfold ownRow at hr
  split at hr
  · rename_i r0
    split at hr
    · rename_i hc
      obtain ⟨rfl, hs1, hle⟩ := hc
      obtain ⟨vs, ty, fz, hblk, hsz, hcell, _⟩ := hrep.cells' rfl
      have hspec : r.len = len ∧ r.sz = r0.sz ∧ ∀ i, i < len → r.elem i = r0.elem (off + i) := by
        simp only [Option.some.injEq] at hr
        split at hr
        · rename_i hz
          subst hr
          obtain ⟨rfl, rfl⟩ := hz
          exact ⟨rfl, rfl, fun i hi => by rw [Nat.zero_add]⟩
        · subst hr
          exact ⟨by rw [Row.len_cut _ _ _ (by omega) hle]; omega, Row.sz_cut _ _ _, fun i hi => Row.elem_cut' r0 off len i hle hi⟩
      obtain ⟨hlen, hrsz, hel⟩ := hspec
      have hcell' : ∀ i, i < len → ∃ v, vs[off + i]? = some v ∧ v.oneCell' = true ∧ RepP (pm G w) (r.elem i) v := by
        intro i hi
        obtain ⟨v, a, b, c⟩ := hcell (off + i) (by simp only [HB.size]; omega)
        refine ⟨v, a, b, ?_⟩
        rw [hel i hi]
        simp only [HB.get] at c
        cases c with | p c => exact c
      have hr1 : r.sz = 1 := hrsz.trans hs1
      refine ⟨hlen, ?_⟩
      subst hlen
      refine ⟨_, src_cells (fun k => if hk : k < r.len then (hcell' k hk).choose else undef) ⟨?_, ?_, ?_⟩ (.inr hr1.symm) ?_⟩
      · intro i hi
        rw [hr1]; exact width_one (one_of_cell (hcell' i hi).choose_spec.2.2 (hcell' i hi).choose_spec.2.1)
      · intro i j hi hj
        have := one_of_cell (hcell' i hi).choose_spec.2.2 (hcell' i hi).choose_spec.2.1
        rw [cell_one this]; exact this
      · intro i j hi hj
        obtain rfl : j = 0 := by omega
        have := one_of_cell (hcell' i hi).choose_spec.2.2 (hcell' i hi).choose_spec.2.1
        rw [cell_one this]
        simp only [hr1, Nat.mul_one, Nat.add_zero, hi, dif_pos]
        exact (hcell' i hi).choose_spec.2.2
      · intro k hk
        rw [Nat.mul_one] at hk
        rw [cell_of_block hblk]
        simp only [hk, dif_pos]
        exact (hcell' k hk).choose_spec.1
    · simp at hr
  · rename_i l
    split at hr
    · rename_i hc
      obtain ⟨he0, hle⟩ := hc
      simp only [Option.map_eq_some_iff] at hr
      obtain ⟨c, hp, rfl⟩ := hr
      obtain ⟨vs, ty, fz, hblk, hsz, hcell, _⟩ := hrep.cells' rfl
      obtain ⟨hcl, hcg⟩ := pvsOf_get _ _ hp
      have hll : ((l.drop off).take (len * e)).length = len * e := by simp; omega
      have hcell' : ∀ k, k < len * e → ∃ v, vs[off + k]? = some v ∧ v.oneCell' = true ∧ RepP (pm G w) (c.getD k .ptr0) v := by
        intro k hk
        obtain ⟨v, a, b, d⟩ := hcell (off + k) (by simp only [HB.size]; omega)
        refine ⟨v, a, b, ?_⟩
        have h1 := hcg k (by omega)
        have e1 : ((l.drop off).take (len * e)).getD k .junk = l.getD (off + k) .junk := by
          simp only [List.getD_eq_getElem?_getD, List.getElem?_take, List.getElem?_drop, if_pos hk]
        rw [e1] at h1
        exact pvOf_rep h1 d
      obtain ⟨g, hg⟩ : ∃ g : Nat → Value, ∀ k, k < len * e → vs[off + k]? = some (g k) ∧ (g k).oneCell' = true ∧ RepP (pm G w) (c.getD k .ptr0) (g k) :=
        ⟨fun k => if hk : k < len * e then (hcell' k hk).choose else undef, fun k hk => by simp only [hk, dif_pos]; exact (hcell' k hk).choose_spec⟩
      obtain ⟨r1, r2, r3⟩ := cellsRow_rep (m := pm G w) (n := len) he0 (by omega) g
        (fun k hk => one_of_cell (hg k hk).2.2 (hg k hk).2.1) (fun k hk => (hg k hk).2.2)
      refine ⟨r1, ?_⟩
      have hse : (cellsRow e len c).len = 0 ∨ e = (cellsRow e len c).sz := by
        rcases r2 with h | h
        · left; rw [r1]; exact h
        · right; exact h.symm
      have r3' : RowRep (pm G w) (cellsRow e len c) (fun i j => g (i * (cellsRow e len c).sz + j)) := by
        rcases hse with h | h
        · exact ⟨fun i hi => by omega, fun i j hi => by omega, fun i j hi => by omega⟩
        · rw [← h]; exact r3
      have := src_cells (P := P) (b := G.ι id) (off := off) (cap := cap) (e := e) g r3' hse (by
        intro k hk
        rw [r1] at hk
        rw [cell_of_block hblk]
        exact (hg k hk).1)
      rw [r1] at this
      exact ⟨_, this⟩
    · simp at hr
  · simp at hr
theorem srcV_src (wf : WF G h w) {e : Nat} {x : V} {v : Value} {r : Row PV} (hr : srcV h.H e x = some r) (rx : Rep G h w x v) : ∃ f, Src P G w e v r f := by
  unfold srcV at hr
  split at hr
  · rename_i s
    split at hr
    · rename_i he
      simp only [Option.some.injEq] at hr; subst hr; subst he
      obtain rfl := rx.str
      exact src_string s
    · simp at hr
  · rename_i r0 nl
    split at hr
    · rename_i hc
      simp only [Option.some.injEq] at hr; subst hr
      exact src_slice rx.sl hc.symm
    · simp at hr
  · rename_i r0 tk v0 nl
    split at hr
    · rename_i hc
      simp only [Option.some.injEq] at hr; subst hr
      cases rx with
      | row _ _ _ cur _ a cap hc' hle hr' ht => exact src_slice hr' hc.symm
    · simp at hr
  · rename_i id ver off len cap
    split at hr
    · rename_i c hb hl
      split at hr
      · rename_i hc
        subst hc
        obtain rfl := rx.at_own hl rfl
        exact (src_own wf hl hr).2
      · simp at hr
    · simp at hr
  · simp at hr
theorem nextTok_lt {T : List (Nat × Nat)} {d c : Nat} (h : look T d = some c) : c < nextTok T d := by simp [nextTok, h]
theorem src_empty {s : Nat} (base : Option Addr) : Src P G w s (.slice base (Row.vals s ([] : List PV)).len 0) (Row.vals s []) (fun _ _ => undef) := by
  refine ⟨⟨fun i hi => absurd hi (Nat.not_lt_zero _), fun i j hi => absurd hi (Nat.not_lt_zero _), fun i j hi => absurd hi (Nat.not_lt_zero _)⟩, fun i j hi => absurd hi (Nat.not_lt_zero _), .inl rfl, fun w => by simp [Builtin.lenOf, Row.len], ?_⟩
  intro w1 _ n hn
  have : n = 0 := Nat.le_zero.1 hn
  subst this
  cases base <;> simp [Builtin.firstCells, flat, Row.len, loadCells, loadCellsFrom]
theorem isApp_empty {s : Nat} {r2 : Row PV} (h1 : r2.len ≠ 0) : IsApp (Row.vals s []) r2 r2 :=
  ⟨by simp [Row.len], fun i hi => absurd hi (Nat.not_lt_zero _), fun i hi => by simp [Row.len], fun h => absurd rfl h, fun _ => rfl, fun h => absurd h h1⟩
theorem append_empty (wf : WF G h w) {t u e s bytes : Nat} {z : Value} (he : ElemOf P t e s bytes z) {dd : TypeDesc} (hu : P.underlying u = some dd) (hd : ∀ k, dd ≠ .int k) (ty d : TypeId)
    (base : Option Addr) {r2 : Row PV} {f2 : Nat → Nat → Value} {vy : Value} (src2 : Src P G w s vy r2 f2) (hs0 : 0 < s) (hb : r2.len * bytes ≤ 140737488355328) (h63 : r2.len ≤ 9223372036854775807) :
    ∃ v w' G', (Builtin.append_ #[t, u] ty #[.slice base 0 0, vy]).run P w = .ok v w' ∧ Rep G' ⟨h.H, upd h.T d (nextTok h.T d)⟩ w' (.row r2 d (nextTok h.T d) (base.isNone && r2.len == 0)) v ∧
      Keeps G h w G' ⟨h.H, upd h.T d (nextTok h.T d)⟩ w' ∧ Ext G w G' w' ∧ WF G' ⟨h.H, upd h.T d (nextTok h.T d)⟩ w' := by
  by_cases hn : r2.len = 0
  · have hnew := src2.cells w (fun _ => rfl) r2.len (Nat.le_refl _)
    rw [hn, Nat.zero_mul, List.take_zero] at hnew
    have hrun := run_append_in he hu hd ty base 0 0 vy 0 [] w (fun w => by rw [src2.len w, hn]) hnew (by omega) (fun a ha => by simp [storeCells]) (fun _ => rfl)
    obtain ⟨hk, hext, hwf⟩ := bump_keeps wf d (nextTok h.T d) (fun c hc => nextTok_lt hc)
    refine ⟨_, w, G, hrun, ?_, hk, hext, hwf⟩
    have hsl : RepP (pm G w) (.sl r2 (base.isNone && r2.len == 0)) (.slice base r2.len 0) := by
      cases base with
      | none =>
        have e : ((none : Option Addr).isNone && r2.len == 0) = true := by simp [hn]
        rw [e, hn]; exact .slNil _ hn
      | some a =>
        have e : ((some a : Option Addr).isNone && r2.len == 0) = false := rfl
        rw [e]
        exact .sl r2 a 0 (fun _ _ => undef) (by omega) (.inl hn) (fun i hi => by omega) (fun i j hi => by omega) (fun i j hi => by omega) (fun i j hi => by omega)
    have := Rep.row (G := G) (h := ⟨h.H, upd h.T d (nextTok h.T d)⟩) (w := w) r2 d (nextTok h.T d) (nextTok h.T d) _ base 0 (look_upd_same _ _ _) (Nat.le_refl _) hsl (fun _ => .inl rfl)
    rw [hn] at this ⊢; exact this
  · have e2 : (base.isNone && r2.len == 0) = false := by simp [hn]
    rw [e2]
    have hg := grow_row (base := base) (cap := 0) (r := Row.vals s []) wf he hu hd ty d (nextTok h.T d) (fun c hc => nextTok_lt hc) (src_empty base) src2 (isApp_empty hn) hs0 (Nat.lt_of_lt_of_le (Nat.pos_of_ne_zero hn) (Nat.le_add_left _ _)) hb h63
    have e0 : (Row.vals s ([] : List PV)).len = 0 := rfl
    rw [e0] at hg
    obtain ⟨v, w', G', g1, g2, g3, g4, g5, _⟩ := hg
    exact ⟨v, w', G', g1, g2, g3, g4, g5⟩
theorem aappend_run (wf : WF G h w) {d t u ty : Nat} {x y res : V} {vx vy : Value} {T' : List (Nat × Nat)} (hres : aappend P h d t u x y = some (res, T'))
    (rx : Rep G h w x vx) (ry : Rep G h w y vy) :
    ∃ v w' G', (Builtin.append_ #[t, u] ty #[vx, vy]).run P w = .ok v w' ∧ Rep G' ⟨h.H, T'⟩ w' res v ∧ Keeps G h w G' ⟨h.H, T'⟩ w' ∧ Ext G w G' w' ∧ WF G' ⟨h.H, T'⟩ w' := by
  unfold aappend at hres
  split at hres
  · rename_i e s b z he hnu
    obtain ⟨he, hs0, hb0⟩ := elemInfo_spec he
    obtain ⟨du, hu, hd⟩ := notInt_spec hnu
    split at hres
    · rename_i r2 hr2
      obtain ⟨f2, src2⟩ := srcV_src (P := P) wf hr2 ry
      have big : ∀ {r3 : Row PV}, r3.len * b ≤ 140737488355328 → r3.len ≤ 9223372036854775807 := by
        intro r3 h
        have : r3.len * 1 ≤ r3.len * b := Nat.mul_le_mul_left _ hb0
        omega
      split at hres
      ·
        rename_i r tk v0 nl
        split at hres
        · rename_i hc
          split at hres
          · rename_i r3 happ
            split at hres
            · rename_i hb
              simp only [Option.some.injEq, Prod.mk.injEq] at hres
              obtain ⟨rfl, rfl⟩ := hres
              obtain ⟨v, w', G', g1, g2, g3, g4, g5, _⟩ := append_row wf he hu hd ty rx hc.1 hc.2 src2 (appRow_spec happ) hs0 hb (big hb)
              exact ⟨v, w', G', g1, g2, g3, g4, g5⟩
            · simp at hres
          · simp at hres
        · simp at hres
      ·
        rename_i eb r tk v0 nl
        split at hres
        · rename_i hc
          split at hres
          · rename_i r3 happ
            split at hres
            · rename_i hb
              simp only [Option.some.injEq, Prod.mk.injEq] at hres
              obtain ⟨rfl, rfl⟩ := hres
              obtain ⟨rfl, hc⟩ := hc
              cases rx with
              | brow _ _ _ _ _ _ rx hty =>
              obtain ⟨v, w', G', g1, g2, g3, g4, g5, g6⟩ := append_row wf he hu hd ty rx hc.1 hc.2 src2 (appRow_spec happ) hs0 hb (big hb)
              exact ⟨v, w', G', g1, .brow _ _ _ _ _ _ g2 (fun _ => g6 (hty hc.1)), g3, g4, g5⟩
            · simp at hres
          · simp at hres
        · simp at hres
      ·
        rename_i r
        split at hres
        · rename_i hb
          simp only [Option.some.injEq, Prod.mk.injEq] at hres
          obtain ⟨rfl, rfl⟩ := hres
          cases rx with
          | p rp =>
          cases rp with
          | slNil _ h0 =>
          have := append_empty wf he hu hd ty d none src2 hs0 hb (big hb)
          simpa using this
        · simp at hres
      ·
        rename_i id ver off
        split at hres
        · rename_i hc
          obtain ⟨hb, hk⟩ := hc
          simp only [Option.some.injEq, Prod.mk.injEq] at hres
          obtain ⟨rfl, rfl⟩ := hres
          obtain ⟨hb0', hl⟩ := okV_own hk
          obtain rfl := rx.at_own hl rfl
          exact append_empty wf he hu hd ty d (some ⟨G.ι id, off, none⟩) src2 hs0 hb (big hb)
        · simp at hres
      ·
        rename_i id ver off len cap _
        split at hres
        · rename_i r hr1
          split at hres
          · rename_i hc
            obtain ⟨rfl, hn⟩ := hc
            split at hres
            · rename_i r3 happ
              split at hres
              · rename_i hb
                simp only [Option.some.injEq, Prod.mk.injEq] at hres
                obtain ⟨rfl, rfl⟩ := hres
                unfold srcV at hr1
                simp only at hr1
                split at hr1
                · rename_i c hb' hl
                  split at hr1
                  · rename_i hcc
                    subst hcc
                    obtain rfl := rx.at_own hl rfl
                    obtain ⟨hrl, f, src1⟩ := src_own (P := P) (cap := len) wf hl hr1
                    have hgoal := grow_row (base := some ⟨G.ι id, off, none⟩) (cap := len) wf he hu hd ty d (nextTok h.T d) (fun c hc => nextTok_lt hc) (r := r) (by rw [hrl]; exact src1) src2 (appRow_spec happ) hs0 (by omega) hb (big hb)
                    rw [hrl] at hgoal
                    obtain ⟨v, w', G', g1, g2, g3, g4, g5, _⟩ := hgoal
                    exact ⟨v, w', G', g1, g2, g3, g4, g5⟩
                  · simp at hr1
                · simp at hr1
              · simp at hres
            · simp at hres
          · simp at hres
        · simp at hres
      · simp at hres
    · simp at hres
  · simp at hres
end
end Go.Av
end
section
set_option linter.unusedVariables false
set_option linter.unusedSimpArgs false
set_option linter.unusedSectionVars false
namespace Go.Av
def alen (P : Program) (H : List (Nat × (Nat × HB))) (t : TypeId) (x : V) : Option V :=
  match arrLen P t with
  | some n => some (.p (.int .i64 n))
  | none =>
    match x with
    | .p (.str s) => if isString P t then some (.p (.int .i64 s.size)) else none
    | .p (.sl r _) => if isSlice P t then some (.p (.int .i64 r.len)) else none
    | .row r _ _ _ => if isSlice P t then some (.p (.int .i64 r.len)) else none
    | .own id ver off len cap => if isSlice P t ∧ okV H x = true then some (.p (.int .i64 len)) else none
    | _ => none
def acap (P : Program) (H : List (Nat × (Nat × HB))) (t : TypeId) (x : V) : Option V :=
  match arrLen P t with
  | some n => some (.p (.int .i64 n))
  | none =>
    match x with
    | .own id ver off len cap => if isSlice P t ∧ okV H x = true then some (.p (.int .i64 cap)) else none
    | _ => none
def amin2 (mx : Bool) : PV → PV → Option PV
  | .int k a, .int k' b => if k = k' then some (.int k (if mx then (if a < b then b else a) else (if b < a then b else a))) else none
  | _, _ => none
def aminl (mx : Bool) : PV → List V → Option PV
  | x, [] => some x
  | x, .p y :: l => match amin2 mx x y with
    | some z => aminl mx z l
    | none => none
  | _, _ => none
def aminmax (mx : Bool) : List V → Option V
  | .p (.int k a) :: l => (aminl mx (.int k a) l).map .p
  | _ => none
def bytesOf : Row PV → Option (List Int)
  | .ints .u8 l => some l
  | .vals _ [] => some []
  | _ => none
def isBytes (P : Program) (t : TypeId) : Bool :=
  match P.underlying t with
  | some (.slice e) => match P.underlying e with
    | some (.int .u8) => true
    | _ => false
  | _ => false
def aconv (P : Program) (H : List (Nat × (Nat × HB))) (s d : TypeId) (x : V) : Option V :=
  match P.underlying d, x with
  | some (.int k), .p (.int _ n) => if (P.underlying s).isSome then some (.p (.int k (k.wrap n))) else none
  | some .string, .p (.int _ n) => if (P.underlying s).isSome then some (.p (.str (Utf8.encode n))) else none
  | some .string, .p (.str t) => if (P.underlying s).isSome then some (.p (.str t)) else none
  | some .string, x =>
    if isBytes P s then
      match srcV H 1 x with
      | some r => (bytesOf r).map fun l => .p (.str (strOfNums l))
      | none => none
    else none
  | _, _ => none
def aextract (x : V) (i : Nat) : Option V :=
  match x with
  | .tup l => l[i]?
  | _ => none
def aunop (op : UnOp) (x : V) : Option V :=
  match op, x with
  | .neg, .p (.int k n) => some (.p (.int k (k.wrap (0 - n))))
  | .xor, .p (.int k n) => some (.p (.int k (k.wrap (BitVec.ofInt k.bits (if k.signed then -1 else k.max) ^^^ BitVec.ofInt k.bits n).toNat)))
  | .not, .p (.bool b) => some (.p (.bool !b))
  | _, _ => none
def anil (x : V) (H : List (Nat × (Nat × HB))) : Option V :=
  match x with
  | .ptr _ _ _ => if okV H x then some x else none
  | .p (.eptr _ _ _) => some x
  | _ => none
section
variable {P : Program} {G : Gh} {h : HT} {w : World}
theorem alen_run {t ty : TypeId} {x res : V} {vx : Value} (hres : alen P h.H t x = some res) (rx : Rep G h w x vx) :
    ∃ v, (Builtin.len_ #[t] ty #[vx]).run P w = .ok v w ∧ Rep G h w res v := by
  unfold alen at hres
  split at hres
  · rename_i n hn
    simp only [Option.some.injEq] at hres; subst hres
    obtain ⟨e, he⟩ : ∃ e, P.underlying t = some (.array n e) := by
      unfold arrLen at hn; split at hn
      · rename_i k e hu; simp only [Option.some.injEq] at hn; subst hn; exact ⟨e, hu⟩
      · simp at hn
    exact ⟨_, by simp [Builtin.len_, run_underlying he, goInt], .p (.int _ _)⟩
  · have sl : ∀ {e}, P.underlying t = some (.slice e) → ∀ a n c, (Builtin.len_ #[t] ty #[.slice a n c]).run P w = .ok (.int .i64 n) w := by
      intro e he a n c; simp [Builtin.len_, run_underlying he, goInt]
    have hsl : isSlice P t = true → ∃ e, P.underlying t = some (.slice e) := by
      intro hs; unfold isSlice at hs; split at hs
      · rename_i e hu; exact ⟨e, hu⟩
      · simp at hs
    split at hres
    · split at hres
      · rename_i hs
        simp only [Option.some.injEq] at hres; subst hres
        obtain rfl := rx.str
        have hu := isString_eq hs
        exact ⟨_, by simp [Builtin.len_, run_underlying hu, goInt], .p (.int _ _)⟩
      · simp at hres
    · split at hres
      · rename_i hs
        simp only [Option.some.injEq] at hres; subst hres
        obtain ⟨e, hu⟩ := hsl hs
        obtain ⟨a, cap, rfl, _⟩ := rx.sl.slice
        exact ⟨_, sl hu _ _ _, .p (.int _ _)⟩
      · simp at hres
    · split at hres
      · rename_i hs
        simp only [Option.some.injEq] at hres; subst hres
        obtain ⟨e, hu⟩ := hsl hs
        cases rx with
        | row _ _ _ cur _ a cap hc hle hr ht => exact ⟨_, sl hu _ _ _, .p (.int _ _)⟩
      · simp at hres
    · split at hres
      · rename_i hs
        simp only [Option.some.injEq] at hres; subst hres
        obtain ⟨e, hu⟩ := hsl hs.1
        obtain ⟨hb, hl⟩ := okV_own hs.2
        obtain rfl := rx.at_own hl rfl
        exact ⟨_, sl hu _ _ _, .p (.int _ _)⟩
      · simp at hres
    · simp at hres
theorem acap_run {t ty : TypeId} {x res : V} {vx : Value} (hres : acap P h.H t x = some res) (rx : Rep G h w x vx) :
    ∃ v, (Builtin.cap_ #[t] ty #[vx]).run P w = .ok v w ∧ Rep G h w res v := by
  unfold acap at hres
  split at hres
  · rename_i n hn
    simp only [Option.some.injEq] at hres; subst hres
    obtain ⟨e, he⟩ : ∃ e, P.underlying t = some (.array n e) := by
      unfold arrLen at hn; split at hn
      · rename_i k e hu; simp only [Option.some.injEq] at hn; subst hn; exact ⟨e, hu⟩
      · simp at hn
    exact ⟨_, by simp [Builtin.cap_, run_underlying he, goInt], .p (.int _ _)⟩
  · split at hres
    · split at hres
      · rename_i hs
        simp only [Option.some.injEq] at hres; subst hres
        obtain ⟨e, hu⟩ : ∃ e, P.underlying t = some (.slice e) := by
          have := hs.1; unfold isSlice at this; split at this
          · rename_i e hu; exact ⟨e, hu⟩
          · simp at this
        obtain ⟨hb, hl⟩ := okV_own hs.2
        obtain rfl := rx.at_own hl rfl
        exact ⟨_, by simp [Builtin.cap_, run_underlying hu, goInt], .p (.int _ _)⟩
      · simp at hres
    · simp at hres
theorem aextract_run {x res : V} {i : Nat} {vx : Value} (hres : aextract x i = some res) (rx : Rep G h w x vx) :
    ∃ v, (Instr.extract vx i).run P w = .ok v w ∧ Rep G h w res v := by
  unfold aextract at hres
  split at hres
  · rename_i l
    cases rx with
    | tup _ vs f hs hf hr =>
      have hi : i < l.length := by
        rcases Nat.lt_or_ge i l.length with h | h
        · exact h
        · rw [List.getElem?_eq_none h] at hres; simp at hres
      refine ⟨f i, by simp [Instr.extract, hf i hi], ?_⟩
      have := hr i hi
      rw [List.getD_eq_getElem?_getD, hres] at this
      exact this
  · simp at hres
theorem aunop_run {op : UnOp} {x res : V} {vx : Value} (hres : aunop op x = some res) (rx : Rep G h w x vx) :
    ∃ v, (Op.unary op vx).run P w = .ok v w ∧ Rep G h w res v := by
  unfold aunop at hres
  split at hres <;> simp only [Option.some.injEq, reduceCtorEq] at hres <;> subst hres
  · obtain rfl := rx.int; exact ⟨_, by simp [Op.unary, Op.intArith], .p (.int _ _)⟩
  · obtain rfl := rx.int; exact ⟨_, by simp [Op.unary, Op.intBits], .p (.int _ _)⟩
  · obtain rfl := rx.bool; exact ⟨_, by simp [Op.unary], .p (.bool _)⟩
theorem amin2_run {x y z : PV} {vx vy : Value} (hz : amin2 false x y = some z) (rx : RepP (pm G w) x vx) (ry : RepP (pm G w) y vy) :
    ∃ v, (Builtin.min2 vx vy).run P w = .ok v w ∧ RepP (pm G w) z v := by
  unfold amin2 at hz
  split at hz
  · split at hz
    · simp only [Option.some.injEq] at hz; subst hz
      cases rx; cases ry
      exact ⟨_, by simp [Builtin.min2], .int _ _⟩
    · simp at hz
  · simp at hz
theorem amax2_run {x y z : PV} {vx vy : Value} (hz : amin2 true x y = some z) (rx : RepP (pm G w) x vx) (ry : RepP (pm G w) y vy) :
    ∃ v, (Builtin.max2 vx vy).run P w = .ok v w ∧ RepP (pm G w) z v := by
  unfold amin2 at hz
  split at hz
  · split at hz
    · simp only [Option.some.injEq] at hz; subst hz
      cases rx; cases ry
      exact ⟨_, by simp [Builtin.max2], .int _ _⟩
    · simp at hz
  · simp at hz
theorem aminl_run (mx : Bool) (f : Value → Value → Sem Value)
    (hf : ∀ {x y z : PV} {vx vy : Value}, amin2 mx x y = some z → RepP (pm G w) x vx → RepP (pm G w) y vy → ∃ v, (f vx vy).run P w = .ok v w ∧ RepP (pm G w) z v) :
    ∀ (l : List V) (x z : PV) (vx : Value) (vs : List Value), aminl mx x l = some z → RepP (pm G w) x vx → l.length = vs.length → (∀ i, i < l.length → Rep G h w (l.getD i .junk) (vs.getD i undef)) →
      ∃ v, (vs.foldlM f vx).run P w = .ok v w ∧ RepP (pm G w) z v
  | [], x, z, vx, vs, hz, rx, hl, _ => by
    simp only [aminl, Option.some.injEq] at hz; subst hz
    have : vs = [] := by cases vs <;> simp_all
    subst this
    exact ⟨vx, by simp, rx⟩
  | a :: l, x, z, vx, vs, hz, rx, hl, hr => by
    cases vs with
    | nil => simp at hl
    | cons b vs =>
      cases a <;> simp only [aminl, reduceCtorEq] at hz
      rename_i y
      split at hz
      · rename_i u hu
        have h0 := hr 0 (by simp)
        simp only [List.getD_cons_zero] at h0
        cases h0 with
        | p ry =>
          obtain ⟨v, hv, rv⟩ := hf hu rx ry
          obtain ⟨v2, hv2, rv2⟩ := aminl_run mx f hf l u z v vs hz rv (by simpa using hl) (fun i hi => by have := hr (i + 1) (by simpa using hi); simpa using this)
          exact ⟨v2, by simp [hv, hv2], rv2⟩
      · simp at hz
end
end Go.Av
end
section
set_option linter.unusedVariables false
set_option linter.unusedSimpArgs false
set_option linter.unusedSectionVars false
namespace Go.Av
def atobytes (P : Program) (T : List (Nat × Nat)) (d : Nat) (s t : TypeId) (x : V) : Option (V × List (Nat × Nat)) :=
  match x with
  | .p (.str b) => if isBytes P t ∧ (P.underlying s).isSome then some (.row (bytesRow b) d (nextTok T d) false, upd T d (nextTok T d)) else none
  | .row r tk v nl => if s = t ∧ isBytes P t = true ∧ look T tk = some v ∧ 0 < r.len then some (.p (.sl r nl), upd T tk (v + 1)) else none
  | _ => none
def amakeSlice (P : Program) (H : List (Nat × (Nat × HB))) (d : Nat) (t : TypeId) (l c : V) : Option (V × List (Nat × (Nat × HB))) :=
  match elemInfo P t, l, c with
  | some (e, s, b, z), .p (.int _ n), .p (.int _ m) =>
    if s = 1 ∧ 0 ≤ n ∧ n ≤ m ∧ m * b ≤ 281474976710656 ∧ m ≤ 9223372036854775807 then
      match z with
      | .int k z => some (.own d (nextVer H d) 0 n.toNat m.toNat, upd H d (nextVer H d, .row (.ints k (List.replicate m.toNat z))))
      | .string z => some (.own d (nextVer H d) 0 n.toNat m.toNat, upd H d (nextVer H d, .row (.strs (List.replicate m.toNat z))))
      | _ => none
    else none
  | _, _, _ => none
def acopy (P : Program) (H : List (Nat × (Nat × HB))) (t : TypeId) (x y : V) : Option (V × List (Nat × (Nat × HB))) :=
  match elemInfo P t, x with
  | some (e, s, b, z), .own id ver off len cap =>
    match look H id, srcV H s y with
    | some (c, .row (.ints k l)), some (.ints k' l') =>
      if c = ver ∧ s = 1 ∧ k = k' ∧ off + len ≤ l.length then
        some (.p (.int .i64 (min l'.length len : Nat)), upd H id (c, .row (.ints k (splice l off (l'.take len)))))
      else none
    | _, _ => none
  | _, _ => none
section
variable {P : Program} {G : Gh} {h : HT} {w : World}
theorem isBytes_spec {t : Nat} (hb : isBytes P t = true) : ∃ e, P.underlying t = some (.slice e) ∧ P.underlying e = some (.int .u8) := by
  unfold isBytes at hb
  split at hb
  · rename_i e hu
    split at hb
    · rename_i he; exact ⟨e, hu, he⟩
    · simp at hb
  · simp at hb
theorem src_load {s : Nat} {a : Option Addr} {n cap : Nat} {r : Row PV} {f : Nat → Nat → Value} (src : Src P G w s (.slice a n cap) r f) : n = r.len := by
  have := src.len w
  simpa [Builtin.lenOf] using this
theorem bytesOf_flat {r : Row PV} {l : List Int} (hb : bytesOf r = some l) {f : Nat → Nat → Value} (hr : RowRep (pm G w) r f) :
    r.len = l.length ∧ (flat r f).take (r.len * 1) = l.map (Value.int .u8) := by
  unfold bytesOf at hb
  split at hb <;> simp only [Option.some.injEq, reduceCtorEq] at hb <;> subst hb
  · rename_i l0
    refine ⟨rfl, ?_⟩
    apply List.ext_getElem?
    intro k
    rw [List.getElem?_take]
    by_cases hk : k < l0.length
    · rw [if_pos (by simpa [Row.len] using hk)]
      have := flat_get (.ints .u8 l0) f k 0 hk (by simp [Row.sz])
      simp only [Row.sz, Nat.mul_one, Nat.add_zero] at this
      rw [this]
      have h2 := hr.rep k 0 hk (by simp [Row.sz])
      simp only [Row.elem, PV.cell] at h2
      generalize hv : f k 0 = v at h2
      cases h2
      simp [hk, List.getD_eq_getElem?_getD]
    · rw [if_neg (by simpa [Row.len] using hk)]; symm; rw [List.getElem?_eq_none_iff]; simp; omega
  · refine ⟨rfl, by simp [Row.len]⟩
theorem aconv_run {s d : TypeId} {x res : V} {vx : Value} (wf : WF G h w) (hres : aconv P h.H s d x = some res) (rx : Rep G h w x vx) :
    ∃ v, (convert s d vx).run P w = .ok v w ∧ Rep G h w res v := by
  unfold aconv at hres
  split at hres
  · rename_i k _ n hd
    split at hres
    · rename_i hs
      simp only [Option.some.injEq] at hres; subst hres
      obtain rfl := rx.int
      obtain ⟨ds, hs⟩ := Option.isSome_iff_exists.1 hs
      exact ⟨_, by simp [convert, run_underlying hd, run_underlying hs, Conv.intToInt], .p (.int _ _)⟩
    · simp at hres
  · rename_i _ n hd
    split at hres
    · rename_i hs
      simp only [Option.some.injEq] at hres; subst hres
      obtain rfl := rx.int
      obtain ⟨ds, hs⟩ := Option.isSome_iff_exists.1 hs
      exact ⟨_, by simp [convert, run_underlying hd, run_underlying hs, Conv.intToString], .p (.str _)⟩
    · simp at hres
  · rename_i t hd
    split at hres
    · rename_i hs
      simp only [Option.some.injEq] at hres; subst hres
      obtain rfl := rx.str
      obtain ⟨ds, hs⟩ := Option.isSome_iff_exists.1 hs
      exact ⟨_, by simp [convert, run_underlying hd, run_underlying hs], .p (.str _)⟩
    · simp at hres
  · rename_i x hd hni hns
    split at hres
    · rename_i hb
      obtain ⟨e, hu, he⟩ := isBytes_spec hb
      split at hres
      · rename_i r hr
        simp only [Option.map_eq_some_iff] at hres
        obtain ⟨l, hl, rfl⟩ := hres
        obtain ⟨f, src⟩ := srcV_src (P := P) wf hr rx
        obtain ⟨h1, h2⟩ := bytesOf_flat hl src.rep
        have hcells := src.cells w (fun _ => rfl) r.len (Nat.le_refl _)
        rw [h2, h1] at hcells
        have hv : ∃ a n c, vx = .slice a n c := by
          unfold srcV at hr
          split at hr
          · first | exact absurd rfl (hns _ _) | exact absurd rfl (hns _) | exact absurd rfl (hni _ _) | exact absurd rfl (hni _)
          · obtain ⟨a, cap, hv, _⟩ := rx.sl.slice; exact ⟨a, _, cap, hv⟩
          · cases rx with | row _ _ _ cur _ a cap hc hle hr ht => exact ⟨a, _, cap, rfl⟩
          · split at hr
            · rename_i c hb' hl'
              split at hr
              · rename_i hcc; subst hcc; exact ⟨_, _, _, rx.at_own hl' rfl⟩
              · simp at hr
            · simp at hr
          · simp at hr
        obtain ⟨a, n, c, rfl⟩ := hv
        have hn := src_load src
        rw [h1] at hn
        subst hn
        refine ⟨.string (strOfNums l), ?_, .p (.str _)⟩
        rw [run_convert_bytes_string w s d e a _ c hu he hd]
        cases a with
        | none =>
          simp only [Builtin.firstCells, Sem.run_pure, Result.ok.injEq, and_true] at hcells
          have : l = [] := by
            cases l with
            | nil => rfl
            | cons a l => simp at hcells
          subst this
          simp [Conv.bytesToString, strOfNums]; rfl
        | some a =>
          simp only [Builtin.firstCells, Nat.mul_one] at hcells
          rw [run_bytesToString w a l.length c l hcells, foldl_push_bytes]
          simp [strOfNums, ByteArray.empty, ByteArray.emptyWithCapacity]
          rfl
      · simp at hres
    · simp at hres
  · simp at hres
theorem new_row (wf : WF G h w) (tk ver : Nat) (hv : ∀ c, look h.T tk = some c → c < ver) {r : Row PV} {g : Nat → Value} {cs : Array Value} {ty cap : Nat} (fz : Nat × Nat)
    (h1 : r.sz = 1) (hrep : RowRep (pm G w) r (fun i _ => g i)) (hge : r.len ≤ cap) (hsz : cs.size = cap) (hc : ∀ i, i < r.len → cs[i]? = some (g i))
    (hfz : ∀ i, i < cap → ¬ (fz.1 ≤ i ∧ i < fz.2)) :
    let w' : World := w.drew.alloc (.cells cs ty fz)
    let G' := G.grown w.heap.size tk r.len
    Rep G' ⟨h.H, upd h.T tk ver⟩ w' (.row r tk ver false) (.slice (some ⟨w.heap.size, 0, none⟩) r.len cap) ∧ Keeps G h w G' ⟨h.H, upd h.T tk ver⟩ w' ∧ Ext G w G' w' ∧ WF G' ⟨h.H, upd h.T tk ver⟩ w' := by
  intro w' G'
  obtain ⟨hk, hext, hwf⟩ := grown_keeps wf tk r.len ver hv (.cells cs ty fz)
  have hblk : w'.heap[w.heap.size]? = some (.cells cs ty fz) := alloc_new (w := w.drew)
  refine ⟨?_, hk, hext, hwf⟩
  refine .row r tk ver ver false _ _ (look_upd_same _ _ _) (Nat.le_refl _) ?_ ?_
  · refine .sl r ⟨w.heap.size, 0, none⟩ cap (fun i _ => g i) hge (.inr rfl) hrep.width ?_ hrep.one (fun i j hi hj => (hrep.rep i j hi hj).mono hk.mem)
    intro i j hi hj
    rw [h1] at hj
    obtain rfl : j = 0 := by omega
    simp only [pm, G', Gh.grown, if_true, Nat.zero_add, h1, Nat.mul_one, Nat.add_zero]
    rw [if_pos hi, cell_of_block hblk]; exact hc i hi
  · intro _
    refine .inr ⟨0, cs, ty, fz, by simp [G', Gh.grown], by simp [G', Gh.grown], by simp [G', Gh.grown, h1], by omega, by simpa [G', Gh.grown] using hblk, ?_, ?_⟩
    · rw [h1]; omega
    · intro o _ ho
      rw [h1] at ho
      have e1 : G'.τ tk = w.heap.size := by simp [G', Gh.grown]
      rw [e1]
      simp only [World.frozen?, hblk]
      have := hfz o (by omega)
      simp only [Bool.and_eq_false_iff, decide_eq_false_iff_not]
      by_cases ha : fz.1 ≤ o
      · right; intro hb; exact this ⟨ha, hb⟩
      · left; exact ha
theorem freeze_row {w : World} {b n : Nat} {vs : Array Value} {ty : TypeId} {fz : Nat × Nat} (hblk : w.heap[b]? = some (.cells vs ty fz)) :
    ∃ fz', w.freeze ⟨b, n, none⟩ 1 = World.withRow w b vs ty fz' := by
  refine ⟨if fz.1 == fz.2 then (n, n + 1) else (min fz.1 n, max fz.2 (n + 1)), ?_⟩
  have hlt := lt_of_get hblk
  have he : w.heap[b] = .cells vs ty fz := by rw [Array.getElem?_eq_getElem hlt] at hblk; exact Option.some.inj hblk
  unfold World.freeze World.withRow
  simp only [Nat.one_ne_zero, if_false]
  congr 1
  apply Array.ext
  · simp
  · intro i h1 h2
    simp only [Array.getElem_modify, Array.getElem_setIfInBounds]
    by_cases hb : b = i
    · subst hb; simp [he]
    · rw [if_neg hb, Array.getElem_setIfInBounds_ne (hj := by simpa using h1) (h := hb)]
theorem bytes_same (wf : WF G h w) {t : TypeId} {r : Row PV} {tk v0 : Nat} {nl : Bool} {vx : Value} (hb : isBytes P t = true) (hl : look h.T tk = some v0) (h0 : 0 < r.len) (rx : Rep G h w (.row r tk v0 nl) vx) :
    ∃ v w' G', (convert t t vx).run P w = .ok v w' ∧ Rep G' ⟨h.H, upd h.T tk (v0 + 1)⟩ w' (.p (.sl r nl)) v ∧ Keeps G h w G' ⟨h.H, upd h.T tk (v0 + 1)⟩ w' ∧ Ext G w G' w' ∧ WF G' ⟨h.H, upd h.T tk (v0 + 1)⟩ w' := by
  obtain ⟨e, hu, he⟩ := isBytes_spec hb
  cases rx with
  | row _ _ _ cur _ a cap hc hle hr ht =>
  have hcur : v0 = cur := by rw [hl] at hc; exact Option.some.inj hc
  subst hcur
  have hcap : r.len ≤ cap := hr.capOk
  rcases ht rfl with h3 | ⟨off, vs, ty, fz, rfl, hown, hend, hs0, hblk, hsz, hfz⟩
  · omega
  · obtain ⟨fz', hfr⟩ := freeze_row (n := vs.size) hblk
    have hv : ∀ c, look h.T tk = some c → c < v0 + 1 := by intro c hc'; rw [hl] at hc'; simp only [Option.some.injEq] at hc'; omega
    obtain ⟨k1, k2, k3⟩ := filled_keeps (fz' := fz') wf tk (G.tend tk) (v0 + 1) hv hown (Nat.le_refl _) (vs' := vs) hblk (fun o ho => rfl) rfl
    refine ⟨_, World.withRow w (G.τ tk) vs ty fz', G.filled tk (G.tend tk), ?_, .p (hr.mono k1.mem), k1, k2, k3⟩
    have hsh : w.shape? (G.τ tk) = some (ty, vs.size) := by simp [World.shape?, hblk]
    simp [convert, run_underlying hu, run_underlying he, markStringish, hsh, hfr]
theorem atobytes_run {s t d : TypeId} {x res : V} {vx : Value} {T' : List (Nat × Nat)} (wf : WF G h w) (hres : atobytes P h.T d s t x = some (res, T')) (rx : Rep G h w x vx) :
    ∃ v w' G', (convert s t vx).run P w = .ok v w' ∧ Rep G' ⟨h.H, T'⟩ w' res v ∧ Keeps G h w G' ⟨h.H, T'⟩ w' ∧ Ext G w G' w' ∧ WF G' ⟨h.H, T'⟩ w' := by
  unfold atobytes at hres
  split at hres
  · rename_i b
    split at hres
    · rename_i hc
      simp only [Option.some.injEq, Prod.mk.injEq] at hres
      obtain ⟨rfl, rfl⟩ := hres
      obtain rfl := rx.str
      obtain ⟨e, hu, he⟩ := isBytes_spec hc.1
      obtain ⟨ds, hs⟩ := Option.isSome_iff_exists.1 hc.2
      have hlen : (bytesRow b).len = b.size := by simp [bytesRow, Row.len]
      generalize hcap : grownCap w b.size 0 e = cap
      have hge : b.size ≤ cap := by rw [← hcap]; exact grownCap_ge w b.size 0 e
      generalize hcs : (b.data.map fun c => Value.int .u8 c.toNat) ++ Array.replicate (cap - b.size) (Value.int .u8 0) = cs
      have hsz : cs.size = cap := by rw [← hcs]; simp; omega
      have hget : ∀ i, i < b.size → cs[i]? = some (.int .u8 ((b.data.toList.map fun b => (b.toNat : Int)).getD i 0)) := by
        intro i hi
        have : i < b.data.size := hi
        rw [← hcs, Array.getElem?_append_left (by simpa using hi)]
        simp only [Array.getElem?_map, List.getD_eq_getElem?_getD, List.getElem?_map, Array.getElem?_toList, Array.getElem?_eq_getElem this, Option.map_some, Option.getD_some]
      obtain ⟨hr, hk, hext, hwf⟩ := new_row wf d (nextTok h.T d) (fun c hc => nextTok_lt hc) (r := bytesRow b) (g := fun i => .int .u8 ((b.data.toList.map fun b => (b.toNat : Int)).getD i 0)) (cs := cs) (ty := e) (cap := cap) (cap, cap + 1)
        rfl ⟨fun i _ => rfl, fun i j _ _ => rfl, fun i j _ _ => .int _ _⟩ (by omega) hsz (fun i hi => hget i (by omega)) (fun i hi h => by simp at h; omega)
      refine ⟨_, _, _, ?_, hr, hk, hext, hwf⟩
      have hmk : (w.drew.alloc (.cells cs e)).freeze ⟨w.heap.size, cap, none⟩ 1 = w.drew.alloc (.cells cs e (cap, cap + 1)) := by
        unfold World.freeze
        rw [if_neg (by omega)]
        simp only [World.alloc]
        congr 1
        apply Array.ext_getElem?
        intro i
        rw [Array.getElem?_modify, Array.getElem?_push, Array.getElem?_push]
        by_cases hi : w.heap.size = i
        · subst hi; simp
        · rw [if_neg hi, if_neg (by simpa using Ne.symm hi), if_neg (by simpa using Ne.symm hi)]
      have hshape : (w.drew.alloc (.cells cs e)).shape? w.heap.size = some (e, cap) := by
        unfold World.shape?
        rw [show (w.drew.alloc (.cells cs e)).heap[w.heap.size]? = some (.cells cs e) from alloc_new (w := w.drew)]
        simp [hsz]
      have hcap' : (Question.appendCap b.size 0 e).cut (w.tape w.drawn (.appendCap b.size 0 e)) = cap := hcap
      simp only [convert, run_underlying hu, run_underlying hs, run_underlying he, Sem.run_bind, Result.andThen_ok, Conv.stringToBytes, run_choose, Question.forced, Bool.false_eq_true, if_false, hcap', newRow, run_newObj, Sem.run_pure, World.drew_eq, World.alloc_eq, World.size_drew, hcs, markStringish, run_shape, hshape, run_freeze, hmk]
      rw [hlen]
    · simp at hres
  · split at hres
    · rename_i hc
      simp only [Option.some.injEq, Prod.mk.injEq] at hres
      obtain ⟨rfl, rfl⟩ := hres
      obtain ⟨rfl, hb, hl, h0⟩ := hc
      exact bytes_same wf hb hl h0 rx
    · simp at hres
  · simp at hres
end
end Go.Av
end
section
set_option linter.unusedVariables false
set_option linter.unusedSimpArgs false
set_option linter.unusedSectionVars false
namespace Go.Av
def xlist : V → Option (List V)
  | .p (.agg r) => some ((List.range r.len).map fun i => .p (r.elem i))
  | .agg l => some l
  | .junk => none
  | .tup _ => none
  | x => some [x]
def allP : List V → Option (List PV)
  | [] => some []
  | .p x :: l => (allP l).map (x :: ·)
  | _ :: _ => none
def mkAgg (l : List V) : V :=
  match allP l with
  | some ps => .p (.agg (kindRow ps))
  | none => .agg l
def mkHB (l : List V) : HB :=
  match allP l with
  | some ps => match kindRow ps with
    | .vals _ _ => .cells l
    | r => .row r
  | none => .cells l
def fillV (place : Nat → Option (Nat × Nat)) (H : List (Nat × (Nat × HB))) : List V → List (Nat × V) → Option (List V)
  | cs, [] => some cs
  | cs, (i, x) :: rest =>
    match place i, xlist x with
    | some (off, size), some l => if l.length = size ∧ off + l.length ≤ cs.length ∧ okV H x = true then fillV place H (splice cs off l) rest else none
    | _, _ => none
section
variable {P : Program} {G : Gh} {h : HT} {w : World}
theorem xlist_rep {x : V} {v : Value} {l : List V} (hx : xlist x = some l) (hk : okV h.H x = true) (rx : Rep G h w x v) :
    v.cells.size = l.length ∧ ∀ i, i < l.length → ∃ vi, v.cells[i]? = some vi ∧ vi.oneCell' = true ∧ Rep G h w (l.getD i .junk) vi := by
  have key : ∃ c, xcells x = some (l.length, c) ∧ ∀ i, i < l.length → c i = l.getD i .junk := by
    unfold xlist at hx
    split at hx <;> simp only [Option.some.injEq, reduceCtorEq] at hx <;> subst hx
    · rename_i r
      refine ⟨_, by simp [xcells]; rfl, ?_⟩
      intro i hi
      simp only [List.length_map, List.length_range] at hi
      simp [List.getD_eq_getElem?_getD, hi]
    · exact ⟨_, rfl, fun i hi => rfl⟩
    · rename_i h1 h2 h3 h4
      refine ⟨fun _ => x, ?_, ?_⟩
      · cases x with
        | p y => cases y <;> first | rfl | exact absurd rfl (h1 _)
        | agg l => exact absurd rfl (h2 _)
        | junk => exact absurd rfl h3
        | tup l => exact absurd rfl (h4 _)
        | _ => rfl
      · intro i hi
        simp only [List.length_singleton] at hi
        obtain rfl : i = 0 := by omega
        rfl
  obtain ⟨c, hc, hcc⟩ := key
  obtain ⟨h1, h2⟩ := xcells_rep hc hk rx
  exact ⟨h1, fun i hi => by rw [← hcc i hi]; exact h2 i hi⟩
theorem allP_map : ∀ (l : List V) (ps : List PV), allP l = some ps → l = ps.map V.p
  | [], ps, h => by simp [allP] at h; subst h; rfl
  | x :: l, ps, h => by
    cases x <;> simp only [allP, reduceCtorEq] at h
    simp only [Option.map_eq_some_iff] at h
    obtain ⟨ps', h1, rfl⟩ := h
    rw [allP_map l ps' h1]; rfl
structure CRep (G : Gh) (h : HT) (w : World) (l : List V) (vs : Array Value) : Prop where
  size : vs.size = l.length
  cell : ∀ i, i < l.length → ∃ v, vs[i]? = some v ∧ v.oneCell' = true ∧ Rep G h w (l.getD i .junk) v
theorem mkAgg_rep {l : List V} {vs : Array Value} (hc : CRep G h w l vs) : Rep G h w (mkAgg l) (.agg vs) := by
  unfold mkAgg
  obtain ⟨f, hf⟩ : ∃ f : Nat → Value, ∀ i, i < l.length → vs[i]? = some (f i) ∧ (f i).oneCell' = true ∧ Rep G h w (l.getD i .junk) (f i) :=
    ⟨fun i => if hi : i < l.length then (hc.cell i hi).choose else undef, fun i hi => by simp only [hi, dif_pos]; exact (hc.cell i hi).choose_spec⟩
  split
  · rename_i ps hp
    have e := allP_map l ps hp
    have hlen : l.length = ps.length := by rw [e]; simp
    have hel : ∀ i, i < ps.length → RepP (pm G w) (ps.getD i .ptr0) (f i) := by
      intro i hi
      have := (hf i (by omega)).2.2
      rw [e] at this
      simp only [List.getD_eq_getElem?_getD, List.getElem?_map, List.getElem?_eq_getElem hi, Option.map_some, Option.getD_some] at this ⊢
      cases this with | p r => exact r
    refine .p (.agg _ vs f (by rw [kindRow_len, hc.size, hlen]) ?_ ?_ ?_)
    · intro i hi; rw [kindRow_len] at hi; exact (hf i (by omega)).1
    · intro i hi; rw [kindRow_len] at hi; rw [kindRow_elem _ _ hi]; exact one_of_cell (hel i hi) (hf i (by omega)).2.1
    · intro i hi; rw [kindRow_len] at hi; rw [kindRow_elem _ _ hi]; exact hel i hi
  · exact .agg l vs f hc.size (fun i hi => (hf i hi).1) (fun i hi => (hf i hi).2.1) (fun i hi => (hf i hi).2.2)
theorem mkHB_spec (l : List V) : (mkHB l).isIter = false ∧ (mkHB l).size = l.length ∧ ∀ i, i < l.length → (mkHB l).get i = l.getD i .junk := by
  unfold mkHB
  split
  · rename_i ps hp
    have e := allP_map l ps hp
    have hlen : l.length = ps.length := by rw [e]; simp
    split
    · exact ⟨rfl, rfl, fun i hi => rfl⟩
    · refine ⟨rfl, by simp only [HB.size]; rw [kindRow_len]; exact hlen.symm, ?_⟩
      intro i hi
      simp only [HB.get]
      rw [kindRow_elem _ _ (by omega), e]
      simp [List.getD_eq_getElem?_getD, List.getElem?_eq_getElem (show i < ps.length by omega)]
  · exact ⟨rfl, rfl, fun i hi => rfl⟩
theorem foldl_set_spliceA : ∀ (l : List Value) (cs : Array Value) (off k : Nat), (l.zipIdx k).foldl (fun cs (x : Value × Nat) => cs.setIfInBounds (off + x.2) x.1) cs = spliceA cs (off + k) l
  | [], cs, off, k => rfl
  | v :: l, cs, off, k => by
    simp only [List.zipIdx_cons, List.foldl_cons, spliceA]
    exact foldl_set_spliceA l _ off (k + 1)
theorem fill_one {l : List V} {cs : Array Value} (hc : CRep G h w l cs) {x : V} {v : Value} {lx : List V} (hx : xlist x = some lx) (hk : okV h.H x = true) (rx : Rep G h w x v) {off : Nat}
    (hle : off + lx.length ≤ l.length) : CRep G h w (splice l off lx) (v.cells.zipIdx.foldl (fun cs (c, j) => cs.setIfInBounds (off + j) c) cs) := by
  obtain ⟨h1, h2⟩ := xlist_rep hx hk rx
  have e : v.cells.zipIdx.foldl (fun cs (c, j) => cs.setIfInBounds (off + j) c) cs = spliceA cs off v.cells.toList := by
    rw [← Array.foldl_toList, Array.toList_zipIdx]
    have := foldl_set_spliceA v.cells.toList cs off 0
    simpa using this
  rw [e]
  have hl : v.cells.toList.length = lx.length := by simpa using h1
  refine ⟨by rw [spliceA_size, hc.size, splice_length _ _ _ hle], ?_⟩
  intro i hi
  rw [splice_length _ _ _ hle] at hi
  rw [spliceA_get _ _ _ _ (by rw [hl, hc.size]; exact hle), hl, splice_get _ _ _ _ hle]
  split
  · rename_i hi2
    obtain ⟨vi, a, b, c⟩ := h2 (i - off) (by omega)
    exact ⟨vi, by rw [Array.getElem?_toList]; exact a, b, c⟩
  · exact hc.cell i hi
theorem fillV_run {place : Nat → Option (Nat × Nat)} : ∀ (parts : List (Nat × V)) (vparts : List (Nat × Value)) (l l' : List V) (cs : Array Value),
    fillV place h.H l parts = some l' → CRep G h w l cs → parts.length = vparts.length →
    (∀ (k i : Nat) (x : V), parts[k]? = some (i, x) → ∃ v, vparts[k]? = some (i, v) ∧ Rep G h w x v) →
    ∃ cs', Instr.fill place cs vparts = some cs' ∧ CRep G h w l' cs'
  | [], vparts, l, l', cs, hf, hc, hl, _ => by
    simp only [fillV, Option.some.injEq] at hf; subst hf
    have : vparts = [] := by cases vparts <;> simp_all
    subst this
    exact ⟨cs, rfl, hc⟩
  | (i, x) :: parts, vparts, l, l', cs, hf, hc, hl, hr => by
    cases vparts with
    | nil => simp at hl
    | cons q vparts =>
      obtain ⟨v, hv, rx⟩ := hr 0 i x rfl
      simp only [List.getElem?_cons_zero, Option.some.injEq] at hv
      subst hv
      simp only [fillV] at hf
      split at hf
      · rename_i off size lx hp hx
        split at hf
        · rename_i hcond
          obtain ⟨rfl, hle, hk⟩ := hcond
          obtain ⟨h1, _⟩ := xlist_rep hx hk rx
          have hnew := fill_one hc hx hk rx hle
          obtain ⟨cs', e1, e2⟩ := fillV_run parts vparts _ l' _ hf hnew (by simpa using hl) (fun k i' x' hk' => by
            have := hr (k + 1) i' x' (by simpa using hk'); simpa using this)
          refine ⟨cs', ?_, e2⟩
          simp only [Instr.fill, hp]
          rw [if_neg]
          · exact e1
          · simp only [Bool.or_eq_true, decide_eq_true_eq, not_or]
            exact ⟨by simpa using h1, by rw [h1, hc.size]; omega⟩
        · simp at hf
      · simp at hf
end
end Go.Av
end
section
set_option linter.unusedVariables false
set_option linter.unusedSimpArgs false
set_option linter.unusedSectionVars false
namespace Go.Av
def zeroL (z : Value) : List V := z.cells.toList.map ofConst
def placesOf (P : Program) : List Field → Option (List (Nat × Nat))
  | [] => some []
  | f :: l => match P.info? f.type, placesOf P l with
    | some i, some r => some ((f.offset, i.size) :: r)
    | _, _ => none
def abuild (P : Program) (H : List (Nat × (Nat × HB))) (t : TypeId) (parts : List (Nat × V)) : Option V :=
  match zeroOf P t with
  | some z =>
    if oneCells z.cells.toList then
      match P.underlying t with
      | some (.struct fs) => match placesOf P fs.toList with
        | some pl => (fillV (pl[·]?) H (zeroL z) parts).map mkAgg
        | none => none
      | some (.array _ e) => match P.info? e with
        | some i => (fillV (fun k => some (k * i.size, i.size)) H (zeroL z) parts).map mkAgg
        | none => none
      | _ => none
    else none
  | none => none
def abuildSlice (P : Program) (H : List (Nat × (Nat × HB))) (d : Nat) (t : TypeId) (len : Nat) (parts : List (Nat × V)) : Option (V × List (Nat × (Nat × HB))) :=
  match elemInfo P t with
  | some (e, s, b, z) =>
    if oneCells z.cells.toList ∧ len * s ≤ 16777216 then
      (fillV (fun k => some (k * s, s)) H (((List.range (len * s)).map fun k => ofConst (z.cells.toList.getD (k % s) undef))) parts).map fun l =>
        (.own d (nextVer H d) 0 len len, upd H d (nextVer H d, mkHB l))
    else none
  | none => none
def afield (P : Program) (t : TypeId) (x : V) (f : Nat) : Option V :=
  match P.underlying t with
  | some (.struct fs) => match fs[f]? with
    | some fd => match isAggT P fd.type, tsize P fd.type with
      | some ag, some n =>
        match x with
        | .agg l => if fd.offset + n ≤ l.length ∧ 0 < n then some (if ag then .agg ((l.drop fd.offset).take n) else l.getD fd.offset .junk) else none
        | .p (.agg r) => if fd.offset + n ≤ r.len ∧ 0 < n then some (if ag then .p (.agg (r.cut fd.offset (fd.offset + n))) else .p (r.elem fd.offset)) else none
        | _ => none
      | _, _ => none
    | none => none
  | _ => none
section
variable {P : Program} {G : Gh} {h : HT} {w : World}
theorem zeroL_rep {z : Value} (ho : oneCells z.cells.toList = true) : CRep G h w (zeroL z) z.cells := by
  refine ⟨by simp [zeroL], ?_⟩
  intro i hi
  simp only [zeroL, List.length_map] at hi
  have hi' : i < z.cells.size := by simpa using hi
  refine ⟨z.cells[i], by rw [Array.getElem?_eq_getElem hi'], ?_, ?_⟩
  · unfold oneCells at ho
    rw [List.all_eq_true] at ho
    exact ho _ (by simp)
  · simp only [zeroL, List.getD_eq_getElem?_getD, List.getElem?_map, List.getElem?_eq_getElem hi, Option.map_some, Option.getD_some, Array.getElem_toList]
    exact rep_const _ _ _ _
theorem run_places : ∀ (l : List Field) (pl : List (Nat × Nat)), placesOf P l = some pl → (l.mapM (fun f => do pure (f.offset, ← sizeOf f.type) : Field → Sem (Nat × Nat))).run P w = .ok pl w
  | [], pl, hp => by simp only [placesOf, Option.some.injEq] at hp; subst hp; simp
  | f :: l, pl, hp => by
    simp only [placesOf] at hp
    split at hp
    · rename_i i r hi hr
      simp only [Option.some.injEq] at hp; subst hp
      have ih := run_places l r hr
      simp only [List.mapM_cons, Sem.run_bind, run_sizeOf_eq hi, Result.andThen_ok, Sem.run_pure, ih]
    · simp at hp
theorem run_placesA (fs : Array Field) (pl : List (Nat × Nat)) (hp : placesOf P fs.toList = some pl) :
    (fs.mapM (fun f => do pure (f.offset, ← sizeOf f.type) : Field → Sem (Nat × Nat))).run P w = .ok pl.toArray w := by
  have := run_places (P := P) (w := w) _ _ hp
  rw [← Array.toArray_toList (xs := fs), List.mapM_toArray]
  simp only [Sem.run_map, this, Result.andThen_ok]
theorem abuild_run {t : TypeId} {parts : List (Nat × V)} {vparts : List (Nat × Value)} {res : V} (hres : abuild P h.H t parts = some res)
    (hl : parts.length = vparts.length) (hr : ∀ (k i : Nat) (x : V), parts[k]? = some (i, x) → ∃ v, vparts[k]? = some (i, v) ∧ Rep G h w x v) :
    ∃ v, (Instr.build t vparts.toArray).run P w = .ok v w ∧ Rep G h w res v := by
  unfold abuild at hres
  split at hres
  · rename_i z hz
    split at hres
    · rename_i ho
      split at hres
      · rename_i fs hu
        split at hres
        · rename_i pl hp
          simp only [Option.map_eq_some_iff] at hres
          obtain ⟨l, hf, rfl⟩ := hres
          obtain ⟨cs', e1, e2⟩ := fillV_run parts vparts _ l _ hf (zeroL_rep ho) hl hr
          refine ⟨.agg cs', ?_, mkAgg_rep e2⟩
          simp only [Instr.build, Sem.run_bind, run_zero hz, Result.andThen_ok, run_underlying hu, run_placesA fs pl hp, List.getElem?_toArray, e1, Sem.run_pure]
        · simp at hres
      · rename_i n e hu
        split at hres
        · rename_i i hi
          simp only [Option.map_eq_some_iff] at hres
          obtain ⟨l, hf, rfl⟩ := hres
          obtain ⟨cs', e1, e2⟩ := fillV_run parts vparts _ l _ hf (zeroL_rep ho) hl hr
          refine ⟨.agg cs', ?_, mkAgg_rep e2⟩
          simp only [Instr.build, Sem.run_bind, run_zero hz, Result.andThen_ok, run_underlying hu, run_sizeOf_eq hi, e1, Sem.run_pure]
        · simp at hres
      · simp at hres
    · simp at hres
  · simp at hres
theorem abuildSlice_run (wf : WF G h w) {d t : TypeId} {len : Nat} {parts : List (Nat × V)} {vparts : List (Nat × Value)} {res : V} {H' : List (Nat × (Nat × HB))}
    (hres : abuildSlice P h.H d t len parts = some (res, H'))
    (hl : parts.length = vparts.length) (hr : ∀ (k i : Nat) (x : V), parts[k]? = some (i, x) → ∃ v, vparts[k]? = some (i, v) ∧ Rep G h w x v) :
    ∃ v w' G', (Instr.buildSlice t len vparts.toArray).run P w = .ok v w' ∧ Rep G' ⟨H', h.T⟩ w' res v ∧ Keeps G h w G' ⟨H', h.T⟩ w' ∧ Ext G w G' w' ∧ WF G' ⟨H', h.T⟩ w' := by
  unfold abuildSlice at hres
  split at hres
  · rename_i e s b z he
    obtain ⟨he, hs0, _⟩ := elemInfo_spec he
    obtain ⟨i, hi, rfl, _, hz⟩ := he.info
    have hzz : zeroOf P e = some z := by simp [zeroOf, hi, hz]
    split at hres
    · rename_i hc
      obtain ⟨ho, hle⟩ := hc
      simp only [Option.map_eq_some_iff, Prod.mk.injEq] at hres
      obtain ⟨l, hf, rfl, rfl⟩ := hres
      have hzc := he.zero
      have hcs : CRep G h w ((List.range (len * i.size)).map fun k => ofConst (z.cells.toList.getD (k % i.size) undef)) ((Array.range (len * i.size)).map (z.cells[· % z.cells.size]!)) := by
        refine ⟨by simp, ?_⟩
        intro k hk
        simp only [List.length_map, List.length_range] at hk
        have hm : k % i.size < z.cells.size := by rw [hzc]; exact Nat.mod_lt _ hs0
        refine ⟨z.cells[k % i.size], ?_, ?_, ?_⟩
        · simp only [Array.getElem?_map, Array.getElem?_range, hk, if_true, Option.map_some, hzc]
          rw [getElem!_pos z.cells _ hm]
        · unfold oneCells at ho
          rw [List.all_eq_true] at ho
          exact ho _ (by simp)
        · simp only [List.getD_eq_getElem?_getD, List.getElem?_map, List.getElem?_range hk, Option.map_some, Option.getD_some]
          rw [show z.cells.toList[k % i.size]? = some z.cells[k % i.size] by simp [hm]]
          exact rep_const _ _ _ _
      obtain ⟨cs', e1, e2⟩ := fillV_run parts vparts _ l _ hf hcs hl hr
      obtain ⟨m1, m2, m3⟩ := mkHB_spec l
      obtain ⟨hk, hext⟩ := made_keeps wf d (mkHB l) (.cells cs' e)
      refine ⟨.slice (some ⟨w.heap.size, 0, none⟩) len len, w.alloc (.cells cs' e), G.made w.heap.size d, ?_, ?_, hk, hext, made_cells wf d _ _ e m1 (by rw [m2]; exact e2.size) ?_⟩
      · have hn : ¬ (len * i.size > 2 ^ 24) := by omega
        simp only [Instr.buildSlice, Sem.run_bind, run_underlying he.under, Result.andThen_ok, run_sizeOf_eq hi, Sem.run_pure]
        rw [if_neg hn]
        simp only [Sem.run_bind, Sem.run_pure, Result.andThen_ok, Sem.run_ite, run_zero hzz]
        by_cases h0 : len * i.size = 0
        · rw [if_pos h0]
          try simp only [Result.andThen_ok]
          have e0 : ((Array.range (len * i.size)).map fun x => (#[] : Array Value)[x % (#[] : Array Value).size]!) = (Array.range (len * i.size)).map (z.cells[· % z.cells.size]!) := by
            rw [h0]; simp
          rw [e0, e1]
          simp [newRow]
        · rw [if_neg h0]
          try simp only [Result.andThen_ok]
          rw [e1]
          simp [newRow]
      · exact .own _ _ _ _ _ _ _ _ (look_upd_same _ _ _) (Nat.le_refl _) (fun _ => by simp [Gh.made])
      · intro k hk0
        rw [m2] at hk0
        rw [m3 k hk0]; exact e2.cell k hk0
    · simp at hres
  · simp at hres
end
end Go.Av
end
section
set_option linter.unusedVariables false
set_option linter.unusedSimpArgs false
set_option linter.unusedSectionVars false
namespace Go.Av
def arange (P : Program) (H : List (Nat × (Nat × HB))) (d : Nat) (t : TypeId) (x : V) : Option (V × List (Nat × (Nat × HB))) :=
  match x with
  | .p (.str s) => if isString P t then some (.ptr d (nextVer H d) 0, upd H d (nextVer H d, .iter s 0)) else none
  | _ => none
def anext (H : List (Nat × (Nat × HB))) (isS : Bool) (x : V) : Option (V × List (Nat × (Nat × HB))) :=
  match x with
  | .ptr id ver 0 =>
    match look H id with
    | some (c, .iter s pos) =>
      if c = ver ∧ isS = true then
        if pos < s.size then some (.tup [.p (.bool true), .p (.int .i64 pos), .p (.int .i32 (Utf8.decode s pos).1)], upd H id (c, .iter s (pos + (Utf8.decode s pos).2)))
        else some (.tup [.p (.bool false)], H)
      else none
    | _ => none
  | _ => none
section
variable {P : Program} {G : Gh} {h : HT} {w : World}
theorem Rep.tup_of {l : List V} {vs : List Value} (hl : l.length = vs.length) (hr : ∀ i, i < l.length → Rep G h w (l.getD i .junk) (vs.getD i undef)) : Rep G h w (.tup l) (.tuple vs.toArray) :=
  .tup l _ (fun i => vs.getD i undef) (by simp [hl]) (fun i hi => by simp [List.getD_eq_getElem?_getD, show i < vs.length by omega]) hr
theorem arange_run (wf : WF G h w) {d t : TypeId} {x res : V} {vx : Value} {H' : List (Nat × (Nat × HB))} (hres : arange P h.H d t x = some (res, H')) (rx : Rep G h w x vx) :
    ∃ v w' G', (Instr.range t vx).run P w = .ok v w' ∧ Rep G' ⟨H', h.T⟩ w' res v ∧ Keeps G h w G' ⟨H', h.T⟩ w' ∧ Ext G w G' w' ∧ WF G' ⟨H', h.T⟩ w' := by
  unfold arange at hres
  split at hres
  · rename_i s
    split at hres
    · rename_i hs
      simp only [Option.some.injEq, Prod.mk.injEq] at hres
      obtain ⟨rfl, rfl⟩ := hres
      obtain rfl := rx.str
      have hu := isString_eq hs
      obtain ⟨hk, hext⟩ := made_keeps wf d (.iter s 0) (.stringIter s 0)
      refine ⟨.pointer (some ⟨w.heap.size, 0, none⟩), w.alloc (.stringIter s 0), G.made w.heap.size d, ?_, ?_, hk, hext, made_wf wf d (.iter s 0) _ ?_⟩
      · simp [Instr.range, run_underlying hu]
      · exact .ptr _ _ _ _ _ _ (look_upd_same _ _ _) (Nat.le_refl _) (fun _ => by simp [Gh.made])
      · exact alloc_new
    · simp at hres
  · simp at hres
theorem turnedIter (wf : WF G h w) {id c : Nat} {s0 : ByteArray} {p0 : Nat} (hl : look h.H id = some (c, .iter s0 p0)) (s : ByteArray) (pos : Nat) :
    let h' : HT := ⟨upd h.H id (c, .iter s pos), h.T⟩
    let w' : World := { w with heap := w.heap.setIfInBounds (G.ι id) (.stringIter s pos) }
    Keeps G h w G h' w' ∧ Ext G w G w' ∧ WF G h' w' := by
  intro h' w'
  obtain ⟨hown, hlt, hrep⟩ := wf.objs id c _ hl
  have hother : ∀ k, k ≠ G.ι id → w'.heap[k]? = w.heap[k]? := fun k hk => by simp only [w']; rw [Array.getElem?_setIfInBounds_ne (Ne.symm hk)]
  have hsize : w'.heap.size = w.heap.size := by simp [w']
  have hpm : ∀ b o, pm G w' b o = pm G w b o := pm_other hother ⟨id, hown⟩
  have hshp : ∀ k x, w.shape? k = some x → w'.shape? k = some x := by
    intro k x hx
    by_cases hk : k = G.ι id
    · subst hk
      have : w.heap[G.ι id]? = some (.stringIter s0 p0) := hrep
      simp [World.shape?, this] at hx
    · simp only [World.shape?, hother k hk] at hx ⊢; exact hx
  have hk : Keeps G h w G h' w' := by
    refine ⟨fun b o v hv => (hpm b o).trans hv, ?_, ?_, hshp⟩
    · intro t cur ht
      refine ⟨cur, ht, Nat.le_refl _, fun _ => ⟨rfl, rfl, fun ho => ⟨ho, ?_⟩⟩⟩
      intro vs0 ty0 fz0 h0
      have : G.τ t ≠ G.ι id := by intro he; rw [he, hown] at ho; exact absurd ho (by simp)
      rw [hother _ this]; exact h0
    · intro i cur hb0 hl0
      by_cases hid : i = id
      · subst hid
        rw [hl] at hl0; simp only [Option.some.injEq, Prod.mk.injEq] at hl0
        exact ⟨c, _, look_upd_same _ _ _, by omega, fun _ => rfl⟩
      · exact ⟨cur, hb0, (look_upd_other _ _ _ _ hid).trans hl0, Nat.le_refl _, fun _ => rfl⟩
  refine ⟨hk, ?_, ?_⟩
  · refine ⟨rfl, rfl, rfl, by rw [hsize]; exact Nat.le_refl _, ?_, fun b o v _ hv => (hpm b o).trans hv, hshp⟩
    intro b hb0 hf
    have : b ≠ G.ι id := by intro he; rw [he, hown] at hf; exact absurd hf (by simp [Owner.still])
    exact ⟨rfl, hother _ this⟩
  · refine ⟨fun b hb0 => wf.fresh b (by rw [hsize] at hb0; exact hb0), wf.rows, ?_⟩
    intro i ver hb0 hl0
    by_cases hid : i = id
    · subst hid
      rw [look_upd_same] at hl0; simp only [Option.some.injEq, Prod.mk.injEq] at hl0
      obtain ⟨rfl, rfl⟩ := hl0
      refine ⟨hown, by rw [hsize]; exact hlt, ?_⟩
      show w'.heap[G.ι i]? = _
      simp [w', hlt]
    · rw [look_upd_other _ _ _ _ hid] at hl0
      obtain ⟨o1, o2, o3⟩ := wf.objs i ver hb0 hl0
      have hne : G.ι i ≠ G.ι id := by intro he; rw [he, hown] at o1; simp only [Owner.obj.injEq] at o1; exact hid o1.symm
      exact ⟨o1, by rw [hsize]; exact o2, o3.mono hk (hother _ hne)⟩
theorem anext_run (wf : WF G h w) {isS : Bool} {ty : TypeId} {x res : V} {vx : Value} {H' : List (Nat × (Nat × HB))} (hres : anext h.H isS x = some (res, H')) (rx : Rep G h w x vx) :
    ∃ v w' G', (Instr.next vx isS ty).run P w = .ok v w' ∧ Rep G' ⟨H', h.T⟩ w' res v ∧ Keeps G h w G' ⟨H', h.T⟩ w' ∧ Ext G w G' w' ∧ WF G' ⟨H', h.T⟩ w' := by
  unfold anext at hres
  split at hres
  · rename_i id ver
    split at hres
    · rename_i c s pos hl
      split at hres
      · rename_i hc
        obtain ⟨rfl, rfl⟩ := hc
        obtain rfl := rx.at_ptr hl rfl
        obtain ⟨hown, hlt, hrep⟩ := wf.objs id c _ hl
        have hblk : w.heap[G.ι id]? = some (.stringIter s pos) := hrep
        have hget : (getObj (G.ι id)).run P w = .ok (.stringIter s pos) w := by simp [getObj, Sem.run, hblk]
        split at hres
        · rename_i hp
          simp only [Option.some.injEq, Prod.mk.injEq] at hres
          obtain ⟨rfl, rfl⟩ := hres
          obtain ⟨hk, hext, hwf⟩ := turnedIter wf hl s (pos + (Utf8.decode s pos).2)
          refine ⟨.tuple #[.bool true, .int .i64 pos, .int .i32 (Utf8.decode s pos).1], _, G, ?_, ?_, hk, hext, hwf⟩
          · have hset : ∀ o, (setObj (G.ι id) o).run P w = .ok () { w with heap := w.heap.setIfInBounds (G.ι id) o } := by
              intro o; simp [setObj, Sem.run, hblk]
            simp only [Instr.next, Sem.run_bind, Sem.run_pure, Result.andThen_ok, hget, if_pos hp, Sem.run_ite, hset, goInt]
          · refine Rep.tup_of (vs := [.bool true, .int .i64 pos, .int .i32 (Utf8.decode s pos).1]) rfl ?_
            intro i hi
            simp only [List.length_cons, List.length_nil] at hi
            match i, hi with
            | 0, _ => exact .p (.bool _)
            | 1, _ => exact .p (.int _ _)
            | 2, _ => exact .p (.int _ _)
        · rename_i hp
          simp only [Option.some.injEq, Prod.mk.injEq] at hres
          obtain ⟨rfl, rfl⟩ := hres
          refine ⟨.tuple #[.bool false], w, G, ?_, ?_, Keeps.refl _ _ _, Ext.refl _ _, wf⟩
          · simp only [Instr.next, Sem.run_bind, Sem.run_pure, Result.andThen_ok, hget, if_neg hp, Sem.run_ite]
          · refine Rep.tup_of (vs := [.bool false]) rfl ?_
            intro i hi
            simp only [List.length_cons, List.length_nil] at hi
            match i, hi with
            | 0, _ => exact .p (.bool _)
      · simp at hres
    · simp at hres
  · simp at hres
theorem amakeSlice_run (wf : WF G h w) {d t : TypeId} {l c res : V} {vl vc : Value} {H' : List (Nat × (Nat × HB))} (hres : amakeSlice P h.H d t l c = some (res, H'))
    (rl : Rep G h w l vl) (rc : Rep G h w c vc) :
    ∃ v w' G', (Instr.makeSlice t vl vc).run P w = .ok v w' ∧ Rep G' ⟨H', h.T⟩ w' res v ∧ Keeps G h w G' ⟨H', h.T⟩ w' ∧ Ext G w G' w' ∧ WF G' ⟨H', h.T⟩ w' := by
  unfold amakeSlice at hres
  split at hres
  · rename_i e s b z k1 n k2 m he
    obtain ⟨he, hs0, hb0⟩ := elemInfo_spec he
    obtain ⟨i, hi, rfl, rfl, hz⟩ := he.info
    have hzz : zeroOf P e = some z := by simp [zeroOf, hi, hz]
    obtain rfl := rl.int
    obtain rfl := rc.int
    split at hres
    · rename_i hc
      obtain ⟨hs1, h0, hnm, hmb, hm⟩ := hc
      have wrapn : IntKind.i64.wrap n = n := by simp [IntKind.wrap, IntKind.bits, IntKind.signed]; omega
      have wrapm : IntKind.i64.wrap m = m := by simp [IntKind.wrap, IntKind.bits, IntKind.signed]; omega
      have key : ∀ (hb : HB) (zc : Value), z = zc → zc.oneCell' = true → hb.isIter = false → hb.size = m.toNat → (∀ k, k < m.toNat → Rep G h w (hb.get k) zc) →
          ∃ v w' G', (Instr.makeSlice t (.int k1 n) (.int k2 m)).run P w = .ok v w' ∧ Rep G' ⟨upd h.H d (nextVer h.H d, hb), h.T⟩ w' (.own d (nextVer h.H d) 0 n.toNat m.toNat) v ∧
            Keeps G h w G' ⟨upd h.H d (nextVer h.H d, hb), h.T⟩ w' ∧ Ext G w G' w' ∧ WF G' ⟨upd h.H d (nextVer h.H d, hb), h.T⟩ w' := by
        intro hb zc hzc hone hit hsz hrep
        subst hzc
        have hcells : z.cells = #[z] := by cases z <;> first | rfl | (simp [Value.oneCell'] at hone)
        generalize hcs : (Array.range m.toNat).map (fun _ => z) = cs
        have hcsz : cs.size = m.toNat := by rw [← hcs]; simp
        obtain ⟨hk, hext⟩ := made_keeps wf d hb (.cells cs e)
        refine ⟨.slice (some ⟨w.heap.size, 0, none⟩) n.toNat m.toNat, w.alloc (.cells cs e), G.made w.heap.size d, ?_, ?_, hk, hext, made_cells wf d _ _ e hit (by omega) ?_⟩
        · have hn1 : ¬ (m < 0) := by omega
          have hn2 : ¬ ((i.bytes : Int) * m > 2 ^ 48) := by rw [Int.mul_comm]; omega
          have hn3 : ¬ (n < 0) := by omega
          have hn4 : ¬ (n > m) := by omega
          have hsz1 : m.toNat * i.size = m.toNat := by rw [hs1, Nat.mul_one]
          simp only [Instr.makeSlice, run_underlying he.under, Sem.run_bind, Result.andThen_ok, asInt, asIntOf, Sem.run_pure, run_info hi, wrapn, wrapm]
          rw [if_neg (by simp [hn1, hn3, hn4]; rw [Int.mul_comm]; omega)]
          simp only [Sem.run_bind, run_askRoom, run_sizeOf_eq hi, Result.andThen_ok, hsz1, Sem.run_ite, Sem.run_pure, run_zero hzz]
          by_cases h00 : m.toNat = 0
          · rw [if_pos h00]
            have : cs = #[] := by rw [← hcs, h00]; simp
            simp [newRow, h00, this]
            congr 2
            apply Array.eq_empty_of_size_eq_zero; simp
          · rw [if_neg h00]
            have : (Array.range m.toNat).map (fun x => z.cells[x % z.cells.size]!) = cs := by
              rw [← hcs, hcells]
              apply Array.ext'
              simp
              intro a ha
              simp [Nat.mod_one]
            simp [newRow, this]
        · exact .own _ _ _ _ _ _ _ _ (look_upd_same _ _ _) (Nat.le_refl _) (fun _ => by simp [Gh.made])
        · intro k hk0
          rw [hsz] at hk0
          exact ⟨z, by rw [← hcs]; simp [hk0], hone, hrep k hk0⟩
      split at hres
      · rename_i k z
        simp only [Option.some.injEq, Prod.mk.injEq] at hres
        obtain ⟨rfl, rfl⟩ := hres
        exact key _ _ rfl rfl rfl (by simp [HB.size, Row.len]) (fun j hj => by simp [HB.get, Row.elem, List.getD_eq_getElem?_getD, List.getElem?_replicate, hj]; exact .p (.int _ _))
      · rename_i z
        simp only [Option.some.injEq, Prod.mk.injEq] at hres
        obtain ⟨rfl, rfl⟩ := hres
        exact key _ _ rfl rfl rfl (by simp [HB.size, Row.len]) (fun j hj => by simp [HB.get, Row.elem, List.getD_eq_getElem?_getD, List.getElem?_replicate, hj]; exact .p (.str _))
      · simp at hres
    · simp at hres
  · simp at hres
end
end Go.Av
end
section
set_option linter.unusedVariables false
set_option linter.unusedSimpArgs false
set_option linter.unusedSectionVars false
namespace Go.Av
section
variable {P : Program} {G : Gh} {h : HT} {w : World}
theorem acopy_run (wf : WF G h w) {t u ty : TypeId} {x y res : V} {vx vy : Value} {H' : List (Nat × (Nat × HB))} (hres : acopy P h.H t x y = some (res, H'))
    (rx : Rep G h w x vx) (ry : Rep G h w y vy) :
    ∃ v w', (Builtin.copy_ #[t, u] ty #[vx, vy]).run P w = .ok v w' ∧ Rep G ⟨H', h.T⟩ w' res v ∧ Keeps G h w G ⟨H', h.T⟩ w' ∧ Ext G w G w' ∧ WF G ⟨H', h.T⟩ w' := by
  unfold acopy at hres
  split at hres
  · rename_i e s b z id ver off len cap he
    obtain ⟨he, hs0, hb0⟩ := elemInfo_spec he
    obtain ⟨i, hi, rfl, rfl, hz⟩ := he.info
    split at hres
    · rename_i c k l k' l' hl hr
      split at hres
      · rename_i hc
        obtain ⟨rfl, hs1, rfl, hle⟩ := hc
        simp only [Option.some.injEq, Prod.mk.injEq] at hres
        obtain ⟨rfl, rfl⟩ := hres
        obtain ⟨f, src⟩ := srcV_src (P := P) wf hr ry
        obtain rfl := rx.at_own hl rfl
        obtain ⟨hown, hlt, hrep⟩ := wf.objs id c _ hl
        obtain ⟨vs, tyb, fz, hblk, hvs, hcell, hfz⟩ := hrep.cells' rfl
        simp only [HB.size, Row.len] at hvs hcell hfz
        have hrl : (Row.ints k l' : Row PV).len = l'.length := rfl
        generalize hn : Nat.min l'.length len = n
        have hn' : min l'.length len = n := hn
        have hnl : n ≤ l'.length := by omega
        have hnlen : n ≤ len := by omega
        have hfc := src.cells w (fun _ => rfl) n (by rw [hrl]; exact hnl)
        have hflat : (flat (Row.ints k l') f).take (n * i.size) = (l'.take n).map (Value.int k) := by
          rw [hs1, Nat.mul_one]
          apply List.ext_getElem?
          intro j
          rw [List.getElem?_take]
          by_cases hj : j < n
          · rw [if_pos hj]
            have := flat_get (.ints k l') f j 0 (by rw [hrl]; omega) (by simp [Row.sz])
            simp only [Row.sz, Nat.mul_one, Nat.add_zero] at this
            rw [this]
            have h2 := src.rep.rep j 0 (by rw [hrl]; omega) (by simp [Row.sz])
            simp only [Row.elem, PV.cell] at h2
            generalize hv : f j 0 = v at h2
            cases h2
            have hj2 : j < l'.length := by omega
            simp [hj, hj2, List.getD_eq_getElem?_getD, List.getElem?_take]
          · rw [if_neg hj]; symm; rw [List.getElem?_eq_none_iff]; simp; omega
        rw [hflat] at hfc
        have hst := run_storeCells (P := P) ((l'.take n).map (Value.int k)) w (G.ι id) off 0 vs tyb fz hblk (by simp; omega) (by intro v hv; simp only [List.mem_map] at hv; obtain ⟨a, _, rfl⟩ := hv; rfl)
          (fun o h1 h2 => hfz o (by simp at h2; omega))
        rw [Nat.add_zero] at hst
        have hlen2 : ((l'.take n).map (Value.int k)).length = n := by simp; omega
        have htk : l'.take len = l'.take n := by
          apply List.ext_getElem?
          intro j
          simp only [List.getElem?_take]
          by_cases hj : j < n
          · rw [if_pos hj, if_pos (by omega)]
          · by_cases hj2 : j < len
            · rw [if_pos hj2, if_neg hj, List.getElem?_eq_none (by omega)]
            · rw [if_neg hj2, if_neg hj]
        have hlt2 : (l'.take n).length = n := by simp; omega
        have hspl : (splice l off (l'.take len)).length = l.length := by rw [htk]; exact splice_length _ _ _ (by omega)
        obtain ⟨hk, hext, hwf⟩ := turned (vs' := spliceA vs off ((l'.take n).map (Value.int k))) (hb' := .row (.ints k (splice l off (l'.take len)))) wf hl rfl
          (by rw [spliceA_size, hvs]; simp only [HB.size, Row.len, hspl]) ⟨vs, hblk, spliceA_size _ _ _⟩ (fun j hj => hfz j (by simp only [HB.size, Row.len, hspl] at hj; exact hj)) (by
            intro j hj
            simp only [HB.size, Row.len, hspl] at hj
            rw [spliceA_get _ _ _ _ (by rw [hlen2]; omega), hlen2]
            simp only [HB.get, Row.elem]
            rw [htk, splice_get _ _ _ _ (by omega), hlt2]
            split
            · rename_i hj2
              have hj3 : j - off < l'.length := by omega
              refine ⟨.int k (l'.getD (j - off) 0), ?_, rfl, ?_⟩
              · rw [List.getElem?_map, List.getElem?_take, if_pos (by omega)]
                simp [List.getD_eq_getElem?_getD, hj3]
              · have e : (l'.take n).getD (j - off) 0 = l'.getD (j - off) 0 := by
                  simp only [List.getD_eq_getElem?_getD, List.getElem?_take, if_pos (show j - off < n by omega)]
                rw [e]; exact .p (.int _ _)
            · exact hcell j hj)
        refine ⟨_, _, ?_, .p (.int _ _), hk, hext, hwf⟩
        simp only [Builtin.copy_, List.getElem?_toArray, List.getElem?_cons_zero, List.getElem?_cons_succ, Sem.run_bind, run_underlying he.under, Result.andThen_ok, src.len, hrl, run_sizeOf_eq hi, hn, hfc, goInt, hn']
        simp only [List.map_take] at hst ⊢
        simp [hst]
      · simp at hres
    · simp at hres
  · simp at hres
theorem afield_run {t : TypeId} {x res : V} {f : Nat} {vx : Value} (hres : afield P t x f = some res) (rx : Rep G h w x vx) :
    ∃ v, (Instr.field t vx f).run P w = .ok v w ∧ Rep G h w res v := by
  unfold afield at hres
  split at hres
  · rename_i fs hu
    split at hres
    · rename_i fd hfd
      split at hres
      · rename_i ag n hag hn
        split at hres
        · rename_i l
          split at hres
          · rename_i hc
            simp only [Option.some.injEq] at hres
            cases rx with
            | agg _ vs g hs hf h1 hr =>
            cases ag with
            | true =>
              simp only [if_true] at hres; subst hres
              have hlen : ((l.drop fd.offset).take n).length = n := by simp; omega
              refine ⟨.agg (vs.extract fd.offset (fd.offset + n)), ?_, .agg _ _ (fun i => g (fd.offset + i)) (by rw [hlen]; simp; omega) ?_ ?_ ?_⟩
              · simp [Instr.field, run_underlying hu, hfd, asAgg, part, run_isAgg hag, tsize_run hn]
              · intro i hi; rw [hlen] at hi
                rw [Array.getElem?_extract, if_pos (by omega)]; exact hf _ (by omega)
              · intro i hi; rw [hlen] at hi; exact h1 _ (by omega)
              · intro i hi; rw [hlen] at hi
                have e1 : ((l.drop fd.offset).take n).getD i .junk = l.getD (fd.offset + i) .junk := by
                  simp only [List.getD_eq_getElem?_getD, List.getElem?_take, List.getElem?_drop, if_pos hi]
                rw [e1]; exact hr _ (by omega)
            | false =>
              simp only [Bool.false_eq_true, if_false] at hres; subst hres
              refine ⟨g fd.offset, ?_, hr _ (by omega)⟩
              have hg := hf fd.offset (by omega)
              simp only [Instr.field, Sem.run_bind, run_underlying hu, Result.andThen_ok, hfd, asAgg, Sem.run_pure, part, run_isAgg hag, Bool.false_eq_true, if_false, hg]
          · simp at hres
        · rename_i r
          split at hres
          · rename_i hc
            simp only [Option.some.injEq] at hres
            cases rx with
            | p rp =>
            cases rp with
            | agg _ vs g hs hf h1 hr =>
            cases ag with
            | true =>
              simp only [if_true] at hres; subst hres
              have hlen : (r.cut fd.offset (fd.offset + n)).len = n := by rw [Row.len_cut _ _ _ (by omega) hc.1]; omega
              refine ⟨.agg (vs.extract fd.offset (fd.offset + n)), ?_, .p (.agg _ _ (fun i => g (fd.offset + i)) (by rw [hlen]; simp; omega) ?_ ?_ ?_)⟩
              · simp [Instr.field, run_underlying hu, hfd, asAgg, part, run_isAgg hag, tsize_run hn]
              · intro i hi; rw [hlen] at hi
                rw [Array.getElem?_extract, if_pos (by omega)]; exact hf _ (by omega)
              · intro i hi; rw [hlen] at hi; rw [Row.elem_cut' r _ n i hc.1 hi]; exact h1 _ (by omega)
              · intro i hi; rw [hlen] at hi; rw [Row.elem_cut' r _ n i hc.1 hi]; exact hr _ (by omega)
            | false =>
              simp only [Bool.false_eq_true, if_false] at hres; subst hres
              refine ⟨g fd.offset, ?_, .p (hr _ (by omega))⟩
              have hg := hf fd.offset (by omega)
              simp only [Instr.field, Sem.run_bind, run_underlying hu, Result.andThen_ok, hfd, asAgg, Sem.run_pure, part, run_isAgg hag, Bool.false_eq_true, if_false, hg]
          · simp at hres
        · simp at hres
      · simp at hres
    · simp at hres
  · simp at hres
end
end Go.Av
end
section
set_option linter.unusedVariables false
set_option linter.unusedSimpArgs false
set_option linter.unusedSectionVars false
namespace Go.Av
theorem Keeps.trans {G G1 G2 : Gh} {h h1 h2 : HT} {w w1 w2 : World} (k : Keeps G h w G1 h1 w1) (k' : Keeps G1 h1 w1 G2 h2 w2) : Keeps G h w G2 h2 w2 := by
  refine ⟨fun b o v hv => k'.mem b o v (k.mem b o v hv), ?_, ?_, fun b x hx => k'.shp b x (k.shp b x hx)⟩
  · intro t cur ht
    obtain ⟨c1, a1, a2, a3⟩ := k.toks t cur ht
    obtain ⟨c2, b1, b2, b3⟩ := k'.toks t c1 a1
    refine ⟨c2, b1, Nat.le_trans a2 b2, fun e => ?_⟩
    have e1 : c1 = cur := by omega
    have e2 : c2 = c1 := by omega
    obtain ⟨x1, x2, x3⟩ := a3 e1
    obtain ⟨y1, y2, y3⟩ := b3 e2
    refine ⟨y1.trans x1, y2.trans x2, fun ho => ?_⟩
    obtain ⟨z1, z2⟩ := x3 ho
    rw [← x1] at z1
    obtain ⟨u1, u2⟩ := y3 z1
    rw [x1] at u1 u2
    exact ⟨u1, fun vs ty fz hb => u2 vs ty fz (z2 vs ty fz hb)⟩
  · intro id cur hb hl
    obtain ⟨c1, hb1, a1, a2, a3⟩ := k.objs id cur hb hl
    obtain ⟨c2, hb2, b1, b2, b3⟩ := k'.objs id c1 hb1 a1
    exact ⟨c2, hb2, b1, Nat.le_trans a2 b2, fun e => (b3 (by omega)).trans (a3 (by omega))⟩
section
variable {P : Program} {G : Gh} {h : HT} {w : World}
theorem pm_heap {w1 w2 : World} (hh : w2.heap = w1.heap) (b o : Nat) : pm G w2 b o = pm G w1 b o := by
  have e : ∀ a, w2.cell? a = w1.cell? a := by intro a; simp only [World.cell?, hh]
  unfold pm; simp only [e]
theorem keeps_heap {G' : Gh} {h' : HT} {w1 w2 : World} (hh : w2.heap = w1.heap) (k : Keeps G h w G' h' w1) : Keeps G h w G' h' w2 :=
  ⟨fun b o v hv => by rw [pm_heap hh]; exact k.mem b o v hv, fun t cur ht => by
    obtain ⟨c, a1, a2, a3⟩ := k.toks t cur ht
    refine ⟨c, a1, a2, fun e => ?_⟩
    rw [hh]; exact a3 e, k.objs, fun b x hx => by simp only [World.shape?, hh]; exact k.shp b x hx⟩
theorem wf_heap {w1 w2 : World} (hh : w2.heap = w1.heap) (wf : WF G h w1) : WF G h w2 := by
  have hk : Keeps G h w1 G h w2 := keeps_heap hh (Keeps.refl G h w1)
  exact ⟨fun b hb => wf.fresh b (by rw [← hh]; exact hb), wf.rows, fun id ver hb hl => by
    obtain ⟨o1, o2, o3⟩ := wf.objs id ver hb hl
    exact ⟨o1, by rw [hh]; exact o2, o3.mono hk (by rw [hh])⟩⟩
theorem grown_keeps' (wf : WF G h w) (t e ver : Nat) (hv : ∀ c, look h.T t = some c → c < ver) (o : Obj) :
    Keeps G h w (G.grown w.heap.size t e) ⟨h.H, upd h.T t ver⟩ (w.alloc o) ∧ Ext G w (G.grown w.heap.size t e) (w.alloc o) ∧
    WF (G.grown w.heap.size t e) ⟨h.H, upd h.T t ver⟩ (w.alloc o) := by
  obtain ⟨k1, k2, k3⟩ := grown_keeps wf t e ver hv o
  have hh : (w.alloc o).heap = (w.drew.alloc o).heap := rfl
  refine ⟨keeps_heap hh k1, ⟨k2.os, k2.tape, k2.output, k2.size, fun b hb hs => k2.free b hb hs, fun b o' v hb hv => ?_, fun b x hx => k2.shp b x hx⟩, wf_heap hh k3⟩
  rw [pm_heap hh]; exact k2.row b o' v hb hv
def emptyRow (s : Nat) : Value → Row PV
  | .int k _ => if s = 1 then .ints k [] else .vals s []
  | .string _ => if s = 1 then .strs [] else .vals s []
  | _ => .vals s []
def cellsRowK (z : Value) (e n : Nat) (c : List PV) : Row PV := if n = 0 then emptyRow e z else cellsRow e n c
theorem emptyRow_len (s : Nat) (z : Value) : (emptyRow s z).len = 0 := by
  unfold emptyRow; split
  · split <;> rfl
  · split <;> rfl
  · rfl
theorem cellsRowK_rep {m : Nat → Nat → Option Value} {e n : Nat} {c : List PV} (z : Value) (he : 0 < e) (hl : c.length = n * e) (g : Nat → Value)
    (h1 : ∀ k, k < n * e → (c.getD k .ptr0).one = true) (hr : ∀ k, k < n * e → RepP m (c.getD k .ptr0) (g k)) :
    (cellsRowK z e n c).len = n ∧ (n = 0 ∨ (cellsRowK z e n c).sz = e) ∧ RowRep m (cellsRowK z e n c) (fun i j => g (i * e + j)) := by
  unfold cellsRowK
  by_cases h0 : n = 0
  · rw [if_pos h0]
    have hlen := emptyRow_len e z
    exact ⟨by omega, .inl h0, ⟨fun i hi => by omega, fun i j hi => by omega, fun i j hi => by omega⟩⟩
  · rw [if_neg h0]; exact cellsRow_rep he hl g h1 hr
def arowSlice (P : Program) (T : List (Nat × Nat)) (d : Nat) (t : TypeId) (len : Nat) (parts : List (Nat × V)) : Option (V × List (Nat × Nat)) :=
  match elemInfo P t with
  | some (e, s, b, z) =>
    if oneCells z.cells.toList ∧ len * s ≤ 16777216 then
      match fillV (fun k => some (k * s, s)) [] (((List.range (len * s)).map fun k => ofConst (z.cells.toList.getD (k % s) undef))) parts with
      | some l => (pv1s l).map fun c => (.row (cellsRowK z s len c) d (nextTok T d) false, upd T d (nextTok T d))
      | none => none
    else none
  | none => none
theorem okV_nil {H : List (Nat × (Nat × HB))} {x : V} (h : okV [] x = true) : okV H x = true := by
  cases x <;> simp [okV, look] at h ⊢
theorem fillV_nil {place : Nat → Option (Nat × Nat)} {H : List (Nat × (Nat × HB))} : ∀ (parts : List (Nat × V)) (l l' : List V), fillV place [] l parts = some l' → fillV place H l parts = some l'
  | [], l, l', h => h
  | (i, x) :: rest, l, l', h => by
    simp only [fillV] at h ⊢
    split at h
    · rename_i off size l1 e1 e2
      split at h
      · rename_i hc
        rw [if_pos ⟨hc.1, hc.2.1, okV_nil hc.2.2⟩]
        exact fillV_nil rest _ _ h
      · simp at h
    · simp at h
theorem splice_len {α : Type} {l l' : List α} {off : Nat} (h : off + l'.length ≤ l.length) : (splice l off l').length = l.length := by
  simp [splice]; omega
theorem fillV_len {place : Nat → Option (Nat × Nat)} {H : List (Nat × (Nat × HB))} : ∀ (parts : List (Nat × V)) (l l' : List V), fillV place H l parts = some l' → l'.length = l.length
  | [], l, l', h => by simp only [fillV, Option.some.injEq] at h; rw [h]
  | (i, x) :: rest, l, l', h => by
    simp only [fillV] at h
    split at h
    · split at h
      · rename_i hc
        rw [fillV_len rest _ _ h, splice_len hc.2.1]
      · simp at h
    · simp at h
theorem arowSlice_run (wf : WF G h w) {d t : TypeId} {len : Nat} {parts : List (Nat × V)} {vparts : List (Nat × Value)} {res : V} {T' : List (Nat × Nat)}
    (hres : arowSlice P h.T d t len parts = some (res, T'))
    (hl : parts.length = vparts.length) (hr : ∀ (k i : Nat) (x : V), parts[k]? = some (i, x) → ∃ v, vparts[k]? = some (i, v) ∧ Rep G h w x v) :
    ∃ v w' G', (Instr.buildSlice t len vparts.toArray).run P w = .ok v w' ∧ Rep G' ⟨h.H, T'⟩ w' res v ∧ Keeps G h w G' ⟨h.H, T'⟩ w' ∧ Ext G w G' w' ∧ WF G' ⟨h.H, T'⟩ w' := by
  unfold arowSlice at hres
  split at hres
  · rename_i e s b z he
    obtain ⟨he, hs0, _⟩ := elemInfo_spec he
    obtain ⟨i, hi, rfl, _, hz⟩ := he.info
    have hzz : zeroOf P e = some z := by simp [zeroOf, hi, hz]
    split at hres
    · rename_i hc
      obtain ⟨ho, hle⟩ := hc
      split at hres
      · rename_i l hf
        simp only [Option.map_eq_some_iff, Prod.mk.injEq] at hres
        obtain ⟨c, hc1, rfl, rfl⟩ := hres
        have hzc := he.zero
        have hcs : CRep G h w ((List.range (len * i.size)).map fun k => ofConst (z.cells.toList.getD (k % i.size) undef)) ((Array.range (len * i.size)).map (z.cells[· % z.cells.size]!)) := by
          refine ⟨by simp, ?_⟩
          intro k hk
          simp only [List.length_map, List.length_range] at hk
          have hm : k % i.size < z.cells.size := by rw [hzc]; exact Nat.mod_lt _ hs0
          refine ⟨z.cells[k % i.size], ?_, ?_, ?_⟩
          · simp only [Array.getElem?_map, Array.getElem?_range, hk, if_true, Option.map_some, hzc]
            rw [getElem!_pos z.cells _ hm]
          · unfold oneCells at ho
            rw [List.all_eq_true] at ho
            exact ho _ (by simp)
          · simp only [List.getD_eq_getElem?_getD, List.getElem?_map, List.getElem?_range hk, Option.map_some, Option.getD_some]
            rw [show z.cells.toList[k % i.size]? = some z.cells[k % i.size] by simp [hm]]
            exact rep_const _ _ _ _
        obtain ⟨cs', e1, e2⟩ := fillV_run parts vparts _ l _ (fillV_nil _ _ _ hf) hcs hl hr
        obtain ⟨p1, p2⟩ := pv1s_get _ _ hc1
        obtain ⟨k1, k2, k3⟩ := grown_keeps' wf d (len * i.size) (nextTok h.T d) (fun c hc => nextTok_lt hc) (.cells cs' e)
        have hll : l.length = len * i.size := by
          have := fillV_len _ _ _ hf
          simpa using this
        refine ⟨.slice (some ⟨w.heap.size, 0, none⟩) len len, w.alloc (.cells cs' e), G.grown w.heap.size d (len * i.size), ?_, ?_, k1, k2, k3⟩
        · have hn : ¬ (len * i.size > 2 ^ 24) := by omega
          simp only [Instr.buildSlice, Sem.run_bind, run_underlying he.under, Result.andThen_ok, run_sizeOf_eq hi, Sem.run_pure]
          rw [if_neg hn]
          simp only [Sem.run_bind, Sem.run_pure, Result.andThen_ok, Sem.run_ite, run_zero hzz]
          by_cases h0 : len * i.size = 0
          · rw [if_pos h0]
            try simp only [Result.andThen_ok]
            have e0 : ((Array.range (len * i.size)).map fun x => (#[] : Array Value)[x % (#[] : Array Value).size]!) = (Array.range (len * i.size)).map (z.cells[· % z.cells.size]!) := by
              rw [h0]; simp
            rw [e0, e1]
            simp [newRow]
          · rw [if_neg h0]
            try simp only [Result.andThen_ok]
            rw [e1]
            simp [newRow]
        · have hg : ∀ k, k < l.length → ∃ v, cs'[k]? = some v ∧ (c.getD k .ptr0).one = true ∧ RepP (pm G w) (c.getD k .ptr0) v := by
            intro k hk
            obtain ⟨v, a, b, d⟩ := e2.cell k hk
            obtain ⟨q1, q2⟩ := pv1_rep (p2 k hk) d
            exact ⟨v, a, q2, q1⟩
          have hg2 : ∀ k, k < len * i.size → cs'[k]? = some (cs'.getD k undef) ∧ (c.getD k .ptr0).one = true ∧ RepP (pm (G.grown w.heap.size d (len * i.size)) (w.alloc (.cells cs' e))) (c.getD k .ptr0) (cs'.getD k undef) := by
            intro k hk
            obtain ⟨v, a, b, d⟩ := hg k (by omega)
            have hlt := (Array.getElem?_eq_some_iff.1 a).1
            have : cs'.getD k undef = v := by simp [Array.getD, hlt]; rw [Array.getElem?_eq_getElem hlt] at a; simpa using a
            rw [this]
            exact ⟨a, b, d.mono k1.mem⟩
          obtain ⟨r1, r2, r3⟩ := cellsRowK_rep z (m := pm (G.grown w.heap.size d (len * i.size)) (w.alloc (.cells cs' e))) (c := c) (n := len) hs0 (by omega) (fun k => cs'.getD k undef) (fun k hk => (hg2 k hk).2.1) (fun k hk => (hg2 k hk).2.2)
          have hsl : RepP (pm (G.grown w.heap.size d (len * i.size)) (w.alloc (.cells cs' e))) (.sl (cellsRowK z i.size len c) false) (.slice (some ⟨w.heap.size, 0, none⟩) (cellsRowK z i.size len c).len len) := by
            by_cases h0 : len = 0
            · exact .sl _ _ _ (fun _ _ => undef) (by rw [r1]; exact Nat.le_refl _) (.inr rfl) (fun i hi => by rw [r1] at hi; omega) (fun i j hi => by rw [r1] at hi; omega) (fun i j hi => by rw [r1] at hi; omega) (fun i j hi => by rw [r1] at hi; omega)
            · have hsz : (cellsRowK z i.size len c).sz = i.size := by rcases r2 with h | h; exact absurd h h0; exact h
              refine .sl _ _ _ (fun k j => cs'.getD (k * i.size + j) undef) (by rw [r1]; exact Nat.le_refl _) (.inr rfl) r3.width ?_ r3.one r3.rep
              intro k j hk hj
              rw [r1] at hk
              rw [hsz] at hj ⊢
              have hlt : k * i.size + j < len * i.size := by
                have : (k + 1) * i.size ≤ len * i.size := Nat.mul_le_mul_right _ hk
                rw [Nat.add_mul] at this; omega
              simp only [pm, Gh.grown, if_true, Nat.zero_add]
              rw [if_pos hlt, cell_of_block (alloc_new (w := w))]
              exact (hg2 _ hlt).1
          have hm : (G.grown w.heap.size d (len * i.size)).τ d = w.heap.size := by simp [Gh.grown]
          have := Rep.row (G := G.grown w.heap.size d (len * i.size)) (h := ⟨h.H, upd h.T d (nextTok h.T d)⟩) (w := w.alloc (.cells cs' e)) (cellsRowK z i.size len c) d (nextTok h.T d) (nextTok h.T d) false _ len (look_upd_same _ _ _) (Nat.le_refl _) hsl (fun _ => by
            by_cases h0 : len = 0
            · exact .inl h0
            · have hsz : (cellsRowK z i.size len c).sz = i.size := by rcases r2 with h | h; exact absurd h h0; exact h
              refine .inr ⟨0, cs', e, (0, 0), by rw [hm], by rw [hm]; simp [Gh.grown], by simp [Gh.grown, r1, hsz], by omega, by rw [hm]; exact alloc_new (w := w), ?_, ?_⟩
              · have := e2.size; rw [hsz, hll] at *; omega
              · intro o ho1 ho2
                rw [hsz] at ho2
                simp only [Gh.grown, if_true] at ho1
                omega)
          rw [r1] at this; exact this
      · simp at hres
    · simp at hres
  · simp at hres
end
end Go.Av
end
section
set_option linter.unusedVariables false
set_option linter.unusedSimpArgs false
set_option linter.unusedSectionVars false
namespace Go.Av
def aslice3 (P : Program) (t : TypeId) (x : V) (lo : Option V) (hi mx : V) : Option V :=
  match x with
  | .p (.sl r nl) =>
    match isSlice P t, esz P t, bnd lo 0, bnd (some hi) 0, bnd (some mx) 0 with
    | true, some e, some l, some h, some m => if l ≤ h ∧ h ≤ m ∧ m ≤ r.len ∧ e = r.sz then some (.p (.sl (r.cut l h) nl)) else none
    | _, _, _, _, _ => none
  | .row r tk v nl =>
    match isSlice P t, esz P t, bnd lo 0, bnd (some hi) 0, bnd (some mx) 0 with
    | true, some e, some l, some h, some m => if l ≤ h ∧ h ≤ m ∧ m ≤ r.len ∧ e = r.sz then some (.p (.sl (r.cut l h) nl)) else none
    | _, _, _, _, _ => none
  | .own id ver off len cap =>
    match isSlice P t, esz P t, bnd lo 0, bnd (some hi) 0, bnd (some mx) 0 with
    | true, some e, some l, some h, some m => if l ≤ h ∧ h ≤ m ∧ m ≤ cap then some (.own id ver (if m = l then off else off + l * e) (h - l) (m - l)) else none
    | _, _, _, _, _ => none
  | _ => none
section
variable {P : Program} {G : Gh} {h : HT} {w : World}
theorem run_sliceBounds_three (isS : Bool) (len cap : Nat) (lo : Option V) (hi mx : V) (vlo : Option Value) (vhi vmx : Value) (l hh m : Nat)
    (hlo : ∀ x, lo = some x → ∃ v, vlo = some v ∧ Rep G h w x v) (hlo' : lo = none → vlo = none)
    (hhi : Rep G h w hi vhi) (hmx : Rep G h w mx vmx)
    (bl : bnd lo 0 = some l) (bh : bnd (some hi) 0 = some hh) (bm : bnd (some mx) 0 = some m) (h1 : l ≤ hh) (h2 : hh ≤ m) (h3 : m ≤ cap) :
    (Instr.sliceBounds isS len cap vlo (some vhi) (some vmx)).run P w = .ok (l, hh, m) w := by
  have one : ∀ (x : V) (vx : Value) (k : Nat), Rep G h w x vx → bnd (some x) 0 = some k → ∃ kk n, vx = .int kk n ∧ 0 ≤ n ∧ n.toNat = k := by
    intro x vx k hr hb
    unfold bnd at hb
    split at hb
    · simp at *
    · rename_i k0 n heq
      simp only [Option.some.injEq] at heq; subst heq
      split at hb
      · rename_i h0
        simp only [Option.some.injEq] at hb
        exact ⟨k0, n, hr.int, h0, hb⟩
      · simp at hb
    · simp at hb
  obtain ⟨kh, nh, rfl, h0h, rfl⟩ := one hi vhi hh hhi bh
  obtain ⟨km, nm, rfl, h0m, rfl⟩ := one mx vmx m hmx bm
  cases lo with
  | none =>
    obtain rfl := hlo' rfl
    simp only [bnd, Option.some.injEq] at bl
    subst bl
    simp [Instr.sliceBounds, run_sliceBound w km nm cap _ h0m (by omega), run_sliceBound w kh nh nm.toNat _ h0h (by omega)]
  | some x =>
    obtain ⟨v, rfl, hr⟩ := hlo x rfl
    obtain ⟨kl, nl, rfl, h0l, rfl⟩ := one x v l hr bl
    simp [Instr.sliceBounds, run_sliceBound w km nm cap _ h0m (by omega), run_sliceBound w kh nh nm.toNat _ h0h (by omega), run_sliceBound w kl nl nh.toNat _ h0l (by omega)]
theorem RepP.recap {m : Nat → Nat → Option Value} {r : Row PV} {nl : Bool} {a : Addr} {n cap cap' : Nat} (h : RepP m (.sl r nl) (.slice (some a) n cap)) (hc : r.len ≤ cap') :
    RepP m (.sl r nl) (.slice (some a) n cap') := by
  generalize hv : Value.slice (some a) n cap = v at h
  cases h with
  | slNil _ _ => simp at hv
  | sl _ a0 cap0 f hc0 ha hw hf h1 hr =>
    simp only [Value.slice.injEq, Option.some.injEq] at hv
    obtain ⟨rfl, rfl, rfl⟩ := hv
    exact .sl r a cap' f hc ha hw hf h1 hr
theorem RepP.cut3 {m0 : Nat → Nat → Option Value} {r : Row PV} {nl : Bool} {a : Option Addr} {cap l hh m : Nat} (hr : RepP m0 (.sl r nl) (.slice a r.len cap))
    (h1 : l ≤ hh) (h2 : hh ≤ m) (h3 : m ≤ r.len) (e : Nat) (he : e = r.sz) : RepP m0 (.sl (r.cut l hh) nl) (sliced a l hh m e) := by
  have hcap : r.len ≤ cap := hr.capOk
  have hc := hr.cut h1 (Nat.le_trans h2 h3) e (.inl he)
  have hlen := Row.len_cut r l hh h1 (Nat.le_trans h2 h3)
  cases a with
  | none =>
    generalize hv : Value.slice none r.len cap = v at hr
    cases hr with
    | slNil _ h =>
      have : hh = 0 := by omega
      have : l = 0 := by omega
      have : m = 0 := by omega
      subst_vars
      unfold sliced
      simp only [if_true, Nat.sub_self]
      exact .slNil _ (by simpa using hlen)
    | sl _ a0 cap0 f hc0 ha hw hf h1 hr => simp at hv
  | some a =>
    by_cases hlh : l = hh
    · subst hlh
      rw [Nat.sub_self] at hlen
      have hnl : nl = false := by
        generalize hv : Value.slice (some a) r.len cap = v at hr
        cases hr with
        | slNil _ h => simp at hv
        | sl _ a0 cap0 f hc0 ha hw hf h1 hr => rfl
      subst hnl
      unfold sliced
      rw [Nat.sub_self]
      have : ∀ b : Addr, RepP m0 (.sl (r.cut l l) false) (.slice (some b) 0 (m - l)) := by
        intro b
        have := RepP.sl (m := m0) (r.cut l l) b (m - l) (fun _ _ => undef) (by omega) (.inl hlen) (fun i hi => by omega) (fun i j hi => by omega) (fun i j hi => by omega) (fun i j hi => by omega)
        rw [hlen] at this; exact this
      by_cases hml : m = l
      · rw [if_pos hml]; exact this a
      · rw [if_neg hml]; exact this _
    · unfold sliced at hc ⊢
      rw [if_neg (by omega)] at hc ⊢
      exact hc.recap (by omega)
theorem aslice3_run {t : TypeId} {x : V} {lo : Option V} {hi mx : V} {vx : Value} {vlo : Option Value} {vhi vmx : Value} {res : V}
    (hres : aslice3 P t x lo hi mx = some res) (rx : Rep G h w x vx)
    (hwf2 : ∀ id ver off len cap, x = .own id ver off len cap → ∃ hb, look h.H id = some (ver, hb))
    (hlo : ∀ x, lo = some x → ∃ v, vlo = some v ∧ Rep G h w x v) (hlo' : lo = none → vlo = none)
    (hhi : Rep G h w hi vhi) (hmx : Rep G h w mx vmx) :
    ∃ v, (Instr.sliceAt t vx vlo (some vhi) (some vmx)).run P w = .ok v w ∧ Rep G h w res v := by
  unfold aslice3 at hres
  split at hres
  · rename_i r nl
    split at hres
    · rename_i e l hh m hs he bl bh bm
      split at hres
      · rename_i hb
        simp only [Option.some.injEq] at hres; subst hres
        have hr := rx.sl
        obtain ⟨a, cap, rfl, ha⟩ := hr.slice
        obtain ⟨el, i, hu, hi, rfl⟩ := esz_slice hs he
        have hcap : r.len ≤ cap := hr.capOk
        refine ⟨sliced a l hh m i.size, ?_, .p (hr.cut3 hb.1 hb.2.1 hb.2.2.1 _ hb.2.2.2)⟩
        simp [Instr.sliceAt, Instr.slice, run_underlying hu, run_sizeOf_eq hi, sliced, run_sliceBounds_three true r.len cap lo _ _ vlo vhi vmx l hh m hlo hlo' hhi hmx bl bh bm hb.1 hb.2.1 (by omega)]
      · simp at hres
    · simp at hres
  · rename_i r tk ver nl
    cases rx with
    | row _ _ _ cur _ a cap hc hle hr ht =>
    have hcap : r.len ≤ cap := hr.capOk
    split at hres
    · rename_i e l hh m hs he bl bh bm
      split at hres
      · rename_i hb
        simp only [Option.some.injEq] at hres; subst hres
        obtain ⟨el, i, hu, hi, rfl⟩ := esz_slice hs he
        refine ⟨sliced a l hh m i.size, ?_, .p (hr.cut3 hb.1 hb.2.1 hb.2.2.1 _ hb.2.2.2)⟩
        simp [Instr.sliceAt, Instr.slice, run_underlying hu, run_sizeOf_eq hi, sliced, run_sliceBounds_three true r.len cap lo _ _ vlo vhi vmx l hh m hlo hlo' hhi hmx bl bh bm hb.1 hb.2.1 (by omega)]
      · simp at hres
    · simp at hres
  · rename_i id ver off len cap
    split at hres
    · rename_i e l hh m hs he bl bh bm
      split at hres
      · rename_i hb
        simp only [Option.some.injEq] at hres; subst hres
        obtain ⟨el, i, hu, hi, rfl⟩ := esz_slice hs he
        obtain ⟨hb0, hlk⟩ := hwf2 _ _ _ _ _ rfl
        obtain rfl := rx.at_own hlk rfl
        refine ⟨_, ?_, .own _ _ _ _ _ ver hb0 _ hlk (Nat.le_refl _) (fun _ => rfl)⟩
        have hb' := run_sliceBounds_three (P := P) true len cap lo _ _ vlo vhi vmx l hh m hlo hlo' hhi hmx bl bh bm hb.1 hb.2.1 hb.2.2
        simp only [Instr.sliceAt, Instr.slice, run_underlying hu, Sem.run_bind, Result.andThen_ok, hb', run_sizeOf_eq hi, Sem.run_pure]
        by_cases hcl : m = l
        · simp [hcl]
        · simp only [if_neg hcl, Option.map_some, Addr.add]
          split
          · rename_i hz; rw [hz]; simp
          · rfl
      · simp at hres
    · simp at hres
  · simp at hres
end
end Go.Av
end
