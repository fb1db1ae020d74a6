/- What the walk over this seat's program leans on, part 2 of 5: values without addresses, and what each operation, region, loop and call does to them. Conditions: none. -/
import Derived.Test.YtdbojjoffmbjcaaDoorAv1
section
set_option linter.unusedVariables false
set_option linter.unusedSimpArgs false
set_option linter.unusedSectionVars false
namespace Go.Av
def abuiltin (P : Program) (b : Builtin) (d : Nat) (args : List V) (ts : List TypeId) (h : HT) : Option (V × HT) :=
  match b, args, ts with
  | .len, [x], [t] => (alen P h.H t x).map fun v => (v, h)
  | .cap, [x], [t] => (acap P h.H t x).map fun v => (v, h)
  | .append, [x, y], [t, u] => (aappend P h d t u x y).map fun r => (r.1, ⟨h.H, r.2⟩)
  | .copy, [x, y], [t, u] => (acopy P h.H t x y).map fun r => (r.1, ⟨r.2, h.T⟩)
  | .min, xs, _ => (aminmax false xs).map fun v => (v, h)
  | .max, xs, _ => (aminmax true xs).map fun v => (v, h)
  | _, _, _ => none
def amakeFunc (fn : Fn) (first caps : List V) : Option V :=
  match fn, first with
  | .func f, [] => (pvsOf caps).map fun ps => .p (.fn f (.vals 1 ps))
  | .func f, [.ptr id ver off] => if caps.length = 0 then some (.bnd f id ver off) else none
  | _, _ => none
def amakeIf (P : Program) (t : TypeId) (x : V) : Option V :=
  match P.underlying t, x with
  | some (.interface _), _ => none
  | some _, .p y => some (.p (.ifc t y))
  | _, _ => none
def aval (P : Program) (op : Op) (d : Nat) (ρ : Operand → V) (h : HT) : Option (V × HT) :=
  match op with
  | .move x => some (ρ x, h)
  | .assign x => some (ρ x, h)
  | .pick c a b => match ρ c with
    | .p (.bool t) => some (if t then ρ a else ρ b, h)
    | _ => none
  | .alloc t => (aalloc P h.H d t).map fun r => (r.1, ⟨r.2, h.T⟩)
  | .box _ x => (abox h.H d (ρ x)).map fun r => (r.1, ⟨r.2, h.T⟩)
  | .build t ps => (abuild P h.H t (ps.toList.map fun q => (q.1, ρ q.2))).map fun v => (v, h)
  | .buildSlice t n ps => (arowSlice P h.T d t n (ps.toList.map fun q => (q.1, ρ q.2))).map fun r => (r.1, ⟨h.H, r.2⟩)
  | .load t a => (aload P h.H t (ρ a)).map fun v => (v, h)
  | .store t a x => (astore P h.H t (ρ a) (ρ x)).map fun H => (.junk, ⟨H, h.T⟩)
  | .nilCheck x => (anil (ρ x) h.H).map fun v => (v, h)
  | .binOp op t x y _ => (abin P op t (ρ x) (ρ y)).map fun v => (v, h)
  | .unOp op _ x => (aunop op (ρ x)).map fun v => (v, h)
  | .convert s t x => match aconv P h.H s t (ρ x) with
    | some v => some (v, h)
    | none => (atobytes P h.T d s t (ρ x)).map fun r => (r.1, ⟨h.H, r.2⟩)
  | .slice t x lo hi none => if okV h.H (ρ x) then (aslice P t (ρ x) (lo.map ρ) (hi.map ρ)).map fun v => (v, h) else none
  | .slice t x lo (some hi) (some mx) => if okV h.H (ρ x) then (aslice3 P t (ρ x) (lo.map ρ) (ρ hi) (ρ mx)).map fun v => (v, h) else none
  | .fieldAddr t x f => if okV h.H (ρ x) then (afieldAddr P t (ρ x) f).map fun v => (v, h) else none
  | .field t x f => (afield P t (ρ x) f).map fun v => (v, h)
  | .indexAddr t x i => if okV h.H (ρ x) then (aindexAddr P t (ρ x) (ρ i)).map fun v => (v, h) else none
  | .index t x i => (aindex P t (ρ x) (ρ i)).map fun v => (v, h)
  | .makeSlice t l c => (amakeSlice P h.H d t (ρ l) (ρ c)).map fun r => (r.1, ⟨r.2, h.T⟩)
  | .range t x => (arange P h.H d t (ρ x)).map fun r => (r.1, ⟨r.2, h.T⟩)
  | .next x s => (anext h.H s (ρ x)).map fun r => (r.1, ⟨r.2, h.T⟩)
  | .extract x i => (aextract (ρ x) i).map fun v => (v, h)
  | .makeInterface t x => (amakeIf P t (ρ x)).map fun v => (v, h)
  | .makeFunc fn first caps => (amakeFunc fn (first.toList.map ρ) (caps.toList.map ρ)).map fun v => (v, h)
  | .call { callee := .builtin b, args, argTypes } => abuiltin P b d (args.toList.map ρ) argTypes.toList h
  | _ => none
def Done (P : Program) (a : Act) (o : Oper) (w : World) (G : Gh) (h : HT) (x : V) (h' : HT) : Prop :=
  ∃ v w' G', ((execOp a.eval o).run P w = .ok (.value v) w' ∨ ((execOp a.eval o).run P w = .ok .skip w' ∧ v = undef)) ∧
    Rep G' h' w' x v ∧ Keeps G h w G' h' w' ∧ Ext G w G' w' ∧ WF G' h' w'
section
variable {P : Program} {G : Gh} {h : HT} {w : World}
theorem Done.still {a : Act} {o : Oper} {x : V} {s : Sem Value} (wf : WF G h w) (he : execOp a.eval o = (do pure (.value (← s)))) (hr : ∃ v, s.run P w = .ok v w ∧ Rep G h w x v) : Done P a o w G h x h := by
  obtain ⟨v, hv, r⟩ := hr
  exact ⟨v, w, G, .inl (by rw [he]; simp [hv]), r, Keeps.refl _ _ _, Ext.refl _ _, wf⟩
theorem Done.turn {a : Act} {o : Oper} {x : V} {s : Sem Value} {h' : HT} (he : execOp a.eval o = (do pure (.value (← s))))
    (hr : ∃ v w' G', s.run P w = .ok v w' ∧ Rep G' h' w' x v ∧ Keeps G h w G' h' w' ∧ Ext G w G' w' ∧ WF G' h' w') : Done P a o w G h x h' := by
  obtain ⟨v, w', G', hv, r, k, e, wf⟩ := hr
  exact ⟨v, w', G', .inl (by rw [he]; simp [hv]), r, k, e, wf⟩
theorem reps_parts (ρ : Operand → V) (ρc : Operand → Value) (hρ : ∀ x, Rep G h w (ρ x) (ρc x)) (ps : Array (Nat × Operand)) :
    (ps.toList.map fun q => (q.1, ρ q.2)).length = (ps.toList.map fun q => (q.1, ρc q.2)).length ∧
    ∀ (k i : Nat) (x : V), (ps.toList.map fun q => (q.1, ρ q.2))[k]? = some (i, x) → ∃ v, (ps.toList.map fun q => (q.1, ρc q.2))[k]? = some (i, v) ∧ Rep G h w x v := by
  refine ⟨by simp, ?_⟩
  intro k i x hk
  simp only [List.getElem?_map, Option.map_eq_some_iff] at hk ⊢
  obtain ⟨q, hq, he⟩ := hk
  simp only [Prod.mk.injEq] at he
  obtain ⟨rfl, rfl⟩ := he
  exact ⟨_, ⟨q, hq, rfl⟩, hρ _⟩
theorem map_fst {α : Type} {o : Option V} {h : HT} {x : V} {h' : HT} (he : (o.map fun v => (v, h)) = some (x, h')) : o = some x ∧ h' = h := by
  simp only [Option.map_eq_some_iff, Prod.mk.injEq] at he
  obtain ⟨v, hv, rfl, rfl⟩ := he
  exact ⟨hv, rfl⟩
theorem amakeIf_run {t : TypeId} {x : Operand} {ρ : Operand → V} {ρc : Operand → Value} {res : V} (hρ : ∀ x, Rep G h w (ρ x) (ρc x)) (hres : amakeIf P t (ρ x) = some res) :
    ∃ v, (Instr.makeInterface t (ρc x)).run P w = .ok v w ∧ Rep G h w res v := by
  have hx := hρ x
  unfold amakeIf at hres
  generalize ρ x = y at hres hx
  split at hres
  · simp at hres
  · rename_i d y0 hni hu
    simp only [Option.some.injEq] at hres; subst hres
    cases hx with
    | p hr =>
    refine ⟨.iface t (ρc x), ?_, .p (.ifc t y0 _ hr)⟩
    unfold Instr.makeInterface
    simp only [Sem.run_bind, run_underlying hu, Result.andThen_ok]
    rfl
  · simp at hres
theorem amakeFunc_run {fn : Fn} {first caps : Array Operand} {ρ : Operand → V} {ρc : Operand → Value} {res : V} (hρ : ∀ x, Rep G h w (ρ x) (ρc x))
    (hres : amakeFunc fn (first.toList.map ρ) (caps.toList.map ρ) = some res) :
    ∃ v, (Instr.makeFunc fn (first.map ρc) (caps.map ρc)).run P w = .ok v w ∧ Rep G h w res v := by
  unfold amakeFunc at hres
  split at hres
  · rename_i f hf
    simp only [Option.map_eq_some_iff] at hres
    obtain ⟨ps, hps, rfl⟩ := hres
    have e0 : first = #[] := by
      have : first.toList = [] := List.map_eq_nil_iff.1 hf
      exact Array.toList_eq_nil_iff.1 this
    subst e0
    obtain ⟨e1, e2⟩ := pvsOf_get _ _ hps
    simp only [List.length_map] at e1
    refine ⟨.func (.func f) #[] (caps.map ρc), by simp [Instr.makeFunc], .p (.fn f (.vals 1 ps) _ (fun i => (caps.toList.map ρc).getD i undef) (by simp [Row.len, e1]) ?_ ?_)⟩
    · intro i hi
      have hi : i < caps.size := by simpa [Row.len, e1] using hi
      simp [List.getD_eq_getElem?_getD, hi]
    · intro i hi
      have hi : i < caps.size := by simpa [Row.len, e1] using hi
      have := e2 i (by simpa using hi)
      refine pvOf_rep (h := h) this ?_
      have ex : (caps.toList.map ρ).getD i .junk = ρ (caps.toList.getD i (.func 0)) := by simp [List.getD_eq_getElem?_getD, hi]
      have ey : (caps.toList.map ρc).getD i undef = ρc (caps.toList.getD i (.func 0)) := by simp [List.getD_eq_getElem?_getD, hi]
      rw [ex, ey]; exact hρ _
  · rename_i f id ver off hf
    split at hres
    · rename_i hc
      simp only [Option.some.injEq] at hres; subst hres
      have e0 : caps = #[] := by
        simp only [List.length_map, List.length_eq_zero_iff] at hc
        exact Array.toList_eq_nil_iff.1 hc
      subst e0
      obtain ⟨x, e1, e2⟩ : ∃ x, first = #[x] ∧ ρ x = .ptr id ver off := by
        match h1 : first.toList with
        | [] => rw [h1] at hf; simp at hf
        | [x] => rw [h1] at hf; simp at hf; exact ⟨x, Array.toList_inj.1 (by rw [h1]), hf⟩
        | _ :: _ :: _ => rw [h1] at hf; simp at hf
      subst e1
      have r := hρ x
      rw [e2] at r
      refine ⟨.func (.func f) #[ρc x] #[], by simp [Instr.makeFunc], ?_⟩
      cases r with
      | ptr _ _ _ cur hb _ hc hle hv => exact .bnd f id ver off cur hb _ hc hle (fun h => by rw [hv h])
    · simp at hres
  · simp at hres
theorem abin_run {op : BinOp} {t : TypeId} {x y res : V} {vx vy : Value} {ox oy : Operand} (hres : abin P op t x y = some res) (rx : Rep G h w x vx) (ry : Rep G h w y vy) :
    ∃ v, (do eqGuard op t ox oy vx vy; binOp op t vx vy : Sem Value).run P w = .ok v w ∧ Rep G h w res v := by
  have guard : ∀ {vx vy : Value}, (∀ a, vx ≠ .agg a) → vx ≠ .nilIface → (eqGuard op t ox oy vx vy).run P w = .ok () w := by
    intro vx vy h1 h2
    unfold eqGuard
    cases vx <;> first | exact absurd rfl (h1 _) | exact absurd rfl h2 | (cases op <;> simp)
  unfold abin at hres
  split at hres
  · rename_i k a k' b
    obtain rfl := rx.int
    obtain rfl := ry.int
    have hg := guard (vx := .int k a) (vy := .int k' b) (by simp) (by simp)
    split at hres
    · simp only [Option.map_eq_some_iff] at hres
      obtain ⟨z, hz, rfl⟩ := hres
      obtain ⟨v, hv, r⟩ := shiftBin_run (P := P) (G := G) (w := w) (k' := k') t hz
      exact ⟨v, by simp only [Sem.run_bind, hg, Result.andThen_ok, hv], .p r⟩
    · simp only [Option.map_eq_some_iff] at hres
      obtain ⟨z, hz, rfl⟩ := hres
      obtain ⟨v, hv, r⟩ := shiftBin_run (P := P) (G := G) (w := w) (k' := k') t hz
      exact ⟨v, by simp only [Sem.run_bind, hg, Result.andThen_ok, hv], .p r⟩
    · rename_i h1 h2
      split at hres
      · rename_i hk
        subst hk
        simp only [Option.map_eq_some_iff] at hres
        obtain ⟨z, hz, rfl⟩ := hres
        obtain ⟨v, hv, r⟩ := intBin_run (P := P) (G := G) (w := w) t (fun e => h1 e) (fun e => h2 e) hz
        exact ⟨v, by simp only [Sem.run_bind, hg, Result.andThen_ok, hv], .p r⟩
      · simp at hres
  · rename_i a b
    obtain rfl := rx.str
    obtain rfl := ry.str
    have hg := guard (vx := .string a) (vy := .string b) (by simp) (by simp)
    simp only [Option.map_eq_some_iff] at hres
    obtain ⟨z, hz, rfl⟩ := hres
    obtain ⟨v, hv, r⟩ := strBin_run (P := P) (G := G) (w := w) t hz
    exact ⟨v, by simp only [Sem.run_bind, hg, Result.andThen_ok, hv], .p r⟩
  · rename_i hnI hnS
    have shape : ∀ {b : Bool}, eqNil P t x y = some b → (∃ b1 b2, vx = .bool b1 ∧ vy = .bool b2) ∨ (∃ a n c a' n' c', vx = .slice a n c ∧ vy = .slice a' n' c') ∨ (∃ a b, vx = .pointer a ∧ vy = .pointer b) ∨ (∃ a b, vx = .agg a ∧ vy = .agg b ∧ P.eqGuardType P.depth t = false) := by
      intro b hb
      unfold eqNil at hb
      split at hb
      · split at hb
        · rename_i h1 h2
          obtain ⟨a, n, c, e1, _⟩ := nilS_slice h1 rx; obtain ⟨a', n', c', e2, _⟩ := nilS_slice h2 ry
          exact .inr (.inl ⟨a, n, c, a', n', c', e1, e2⟩)
        · obtain ⟨a, n, c, e1, _⟩ := nilS_slice (by assumption) rx; obtain ⟨a', n', c', e2, _⟩ := nilS_slice (by assumption) ry
          exact .inr (.inl ⟨a, n, c, a', n', c', e1, e2⟩)
        · simp at hb
      · split at hb
        · rename_i h1 h2
          obtain ⟨a, e1, _⟩ := nilP_ptr h1 rx; obtain ⟨a', e2, _⟩ := nilP_ptr h2 ry
          exact .inr (.inr (.inl ⟨a, a', e1, e2⟩))
        · obtain ⟨a, e1, _⟩ := nilP_ptr (by assumption) rx; obtain ⟨a', e2, _⟩ := nilP_ptr (by assumption) ry
          exact .inr (.inr (.inl ⟨a, a', e1, e2⟩))
        · simp at hb
      · split at hb
        · exact .inl ⟨_, _, rx.bool, ry.bool⟩
        · simp at hb
      · split at hb
        · split at hb
          · rename_i hc
            obtain ⟨xs, e1, _⟩ := aggInts rx
            obtain ⟨ys, e2, _⟩ := aggInts ry
            exact .inr (.inr (.inr ⟨xs, ys, e1, e2, hc.2.2.2.2.2⟩))
          · simp at hb
        · simp at hb
      · rename_i fs hu
        split at hb
        · rename_i L r s hL
          obtain ⟨xs, f, e1, _⟩ := aggRow rx
          obtain ⟨ys, g, e2, _⟩ := aggRow ry
          unfold structD at hL
          rw [hu] at hL
          simp only at hL
          split at hL
          · rename_i hc; exact .inr (.inr (.inr ⟨xs, ys, e1, e2, hc.2⟩))
          · simp at hL
        · simp at hb
      · simp at hb
    have fin : ∀ {b : Bool}, eqNil P t x y = some b → (eqGuard op t ox oy vx vy).run P w = .ok () w ∧ ((op = .eql → (binOp op t vx vy).run P w = .ok (.bool b) w) ∧ (op = .neq → (binOp op t vx vy).run P w = .ok (.bool !b) w)) := by
      intro b hb
      have he := eqNil_run hb rx ry
      rcases shape hb with ⟨b1, b2, rfl, rfl⟩ | ⟨a, n, c, a', n', c', rfl, rfl⟩ | ⟨a, a', rfl, rfl⟩ | ⟨a, a', rfl, rfl, hgt⟩
      rotate_right
      · refine ⟨eqGuard_agg hgt op ox oy a a', ?_, ?_⟩
        · rintro rfl; simp [binOp, he]
        · rintro rfl; simp [binOp, he]
      all_goals
        refine ⟨guard (by simp) (by simp), ?_, ?_⟩
        · rintro rfl; simp [binOp, he]
        · rintro rfl; simp [binOp, he]
    split at hres
    · simp only [Option.map_eq_some_iff] at hres
      obtain ⟨b, hb, rfl⟩ := hres
      obtain ⟨f1, f2, _⟩ := fin hb
      exact ⟨_, by simp only [Sem.run_bind, f1, Result.andThen_ok, f2 rfl], .p (.bool _)⟩
    · simp only [Option.map_eq_some_iff] at hres
      obtain ⟨b, hb, rfl⟩ := hres
      obtain ⟨f1, _, f2⟩ := fin hb
      exact ⟨_, by simp only [Sem.run_bind, f1, Result.andThen_ok, f2 rfl], .p (.bool _)⟩
    · simp at hres
end
end Go.Av
end
section
set_option linter.unusedVariables false
set_option linter.unusedSimpArgs false
set_option linter.unusedSectionVars false
namespace Go.Av
section
variable {P : Program} {G : Gh} {h : HT} {w : World}
theorem map_fstH {α : Type} {o : Option (V × List (Nat × (Nat × HB)))} {h : HT} {x : V} {h' : HT} (he : (o.map fun r => (r.1, (⟨r.2, h.T⟩ : HT))) = some (x, h')) : ∃ H', o = some (x, H') ∧ h' = ⟨H', h.T⟩ := by
  simp only [Option.map_eq_some_iff, Prod.mk.injEq] at he
  obtain ⟨⟨v, H⟩, hv, rfl, rfl⟩ := he
  exact ⟨H, hv, rfl⟩
theorem map_fstT {α : Type} {o : Option (V × List (Nat × Nat))} {h : HT} {x : V} {h' : HT} (he : (o.map fun r => (r.1, (⟨h.H, r.2⟩ : HT))) = some (x, h')) : ∃ T', o = some (x, T') ∧ h' = ⟨h.H, T'⟩ := by
  simp only [Option.map_eq_some_iff, Prod.mk.injEq] at he
  obtain ⟨⟨v, T⟩, hv, rfl, rfl⟩ := he
  exact ⟨T, hv, rfl⟩
theorem args_two {ρ : Operand → V} {xs : Array Operand} {x y : V} (h : xs.toList.map ρ = [x, y]) : ∃ a b, xs = #[a, b] ∧ ρ a = x ∧ ρ b = y := by
  obtain ⟨l⟩ := xs
  match l, h with
  | [a, b], h => simp at h; exact ⟨a, b, rfl, h.1, h.2⟩
theorem args_one {ρ : Operand → V} {xs : Array Operand} {x : V} (h : xs.toList.map ρ = [x]) : ∃ a, xs = #[a] ∧ ρ a = x := by
  obtain ⟨l⟩ := xs
  match l, h with
  | [a], h => simp at h; exact ⟨a, rfl, h⟩
theorem arr_two {α : Type} {xs : Array α} {x y : α} (h : xs.toList = [x, y]) : xs = #[x, y] := by
  obtain ⟨l⟩ := xs; simp at h; subst h; rfl
theorem arr_one {α : Type} {xs : Array α} {x : α} (h : xs.toList = [x]) : xs = #[x] := by
  obtain ⟨l⟩ := xs; simp at h; subst h; rfl
theorem aminmax_run (mx : Bool) {xs : List V} {vs : List Value} {res : V} (hres : aminmax mx xs = some res) (hl : xs.length = vs.length)
    (hr : ∀ i, i < xs.length → Rep G h w (xs.getD i .junk) (vs.getD i undef)) (ts : Array TypeId) (ty : TypeId) :
    ∃ v, (if mx then Builtin.max_ ts ty vs.toArray else Builtin.min_ ts ty vs.toArray : Sem Value).run P w = .ok v w ∧ Rep G h w res v := by
  unfold aminmax at hres
  split at hres
  · rename_i k a l
    simp only [Option.map_eq_some_iff] at hres
    obtain ⟨z, hz, rfl⟩ := hres
    cases vs with
    | nil => simp at hl
    | cons v vs =>
      have h0 := hr 0 (by simp)
      simp only [List.getD_cons_zero] at h0
      obtain rfl := h0.int
      have hrest : ∀ i, i < l.length → Rep G h w (l.getD i .junk) (vs.getD i undef) := fun i hi => by
        have := hr (i + 1) (by simpa using hi); simpa using this
      cases mx with
      | true =>
        obtain ⟨v, hv, r⟩ := aminl_run (P := P) (G := G) (h := h) (w := w) true Builtin.max2 (fun a b c => amax2_run a b c) l _ _ _ vs hz (.int k a) (by simpa using hl) hrest
        exact ⟨v, by simpa [Builtin.max_] using hv, .p r⟩
      | false =>
        obtain ⟨v, hv, r⟩ := aminl_run (P := P) (G := G) (h := h) (w := w) false Builtin.min2 (fun a b c => amin2_run a b c) l _ _ _ vs hz (.int k a) (by simpa using hl) hrest
        exact ⟨v, by simpa [Builtin.min_] using hv, .p r⟩
  · simp at hres
theorem builtin_sim {a : Act} {o : Oper} {b : Builtin} {args : Array Operand} {ts : Array TypeId} {d : Nat} {ρ : Operand → V} {x : V} {h' : HT} (wf : WF G h w)
    (ho : o.op = .call { callee := .builtin b, args, argTypes := ts }) (hρ : ∀ y, Rep G h w (ρ y) (a.eval y))
    (hres : abuiltin P b d (args.toList.map ρ) ts.toList h = some (x, h')) : Done P a o w G h x h' := by
  have hexec : ∀ s : Sem Value, builtin b ts o.type (args.map fun | .const _ => true | _ => false) (args.map a.eval) = (do pure (.value (← s))) → execOp a.eval o = (do pure (.value (← s))) := by
    intro s hs
    unfold execOp
    rw [ho]
    simp only [resolve, invoke]
    show (Sem.bind (Sem.pure _) _) = _
    exact hs
  unfold abuiltin at hres
  split at hres
  · rename_i x1 t1 h1 h2
    obtain ⟨a1, rfl, rfl⟩ := args_one h1
    obtain rfl := arr_one h2
    obtain ⟨hx, rfl⟩ := map_fst (α := Unit) hres
    exact Done.still wf (hexec (Builtin.len_ #[t1] o.type #[a.eval a1]) (by simp only [List.map_toArray, List.map_cons, List.map_nil]; rfl)) (alen_run hx (hρ _))
  · rename_i x1 t1 h1 h2
    obtain ⟨a1, rfl, rfl⟩ := args_one h1
    obtain rfl := arr_one h2
    obtain ⟨hx, rfl⟩ := map_fst (α := Unit) hres
    exact Done.still wf (hexec (Builtin.cap_ #[t1] o.type #[a.eval a1]) (by simp only [List.map_toArray, List.map_cons, List.map_nil]; rfl)) (acap_run hx (hρ _))
  · rename_i x1 y1 t1 u1 h1 h2
    obtain ⟨a1, b1, rfl, rfl, rfl⟩ := args_two h1
    obtain rfl := arr_two h2
    obtain ⟨T', hx, rfl⟩ := map_fstT (α := Unit) hres
    exact Done.turn (hexec (Builtin.append_ #[t1, u1] o.type #[a.eval a1, a.eval b1]) (by simp only [List.map_toArray, List.map_cons, List.map_nil]; rfl)) (aappend_run wf hx (hρ _) (hρ _))
  · rename_i x1 y1 t1 u1 h1 h2
    obtain ⟨a1, b1, rfl, rfl, rfl⟩ := args_two h1
    obtain rfl := arr_two h2
    obtain ⟨H', hx, rfl⟩ := map_fstH (α := Unit) hres
    obtain ⟨v, w', q1, q2, q3, q4, q5⟩ := acopy_run (P := P) (u := u1) (ty := o.type) wf hx (hρ _) (hρ _)
    exact Done.turn (hexec (Builtin.copy_ #[t1, u1] o.type #[a.eval a1, a.eval b1]) (by simp only [List.map_toArray, List.map_cons, List.map_nil]; rfl)) ⟨v, w', G, q1, q2, q3, q4, q5⟩
  · obtain ⟨hx, rfl⟩ := map_fst (α := Unit) hres
    have := aminmax_run (P := P) (w := w) (G := G) (h := h') false (vs := args.toList.map a.eval) hx (by simp) (fun i hi => by
      simp only [List.length_map] at hi
      simp only [List.getD_eq_getElem?_getD, List.getElem?_map, List.getElem?_eq_getElem hi, Option.map_some, Option.getD_some]
      exact hρ _) ts o.type
    simp only [Bool.false_eq_true, if_false] at this
    rw [show (args.toList.map a.eval).toArray = args.map a.eval by apply Array.ext'; simp] at this
    exact Done.still wf (hexec _ rfl) this
  · obtain ⟨hx, rfl⟩ := map_fst (α := Unit) hres
    have := aminmax_run (P := P) (w := w) (G := G) (h := h') true (vs := args.toList.map a.eval) hx (by simp) (fun i hi => by
      simp only [List.length_map] at hi
      simp only [List.getD_eq_getElem?_getD, List.getElem?_map, List.getElem?_eq_getElem hi, Option.map_some, Option.getD_some]
      exact hρ _) ts o.type
    simp only [if_true] at this
    rw [show (args.toList.map a.eval).toArray = args.map a.eval by apply Array.ext'; simp] at this
    exact Done.still wf (hexec _ rfl) this
  · simp at hres
theorem aval_sim {a : Act} {o : Oper} {d : Nat} {ρ : Operand → V} {x : V} {h' : HT} (wf : WF G h w) (hρ : ∀ y, Rep G h w (ρ y) (a.eval y))
    (hres : aval P o.op d ρ h = some (x, h')) : Done P a o w G h x h' := by
  unfold aval at hres
  split at hres
  · rename_i y ho
    simp only [Option.some.injEq, Prod.mk.injEq] at hres; obtain ⟨rfl, rfl⟩ := hres
    exact ⟨a.eval y, w, G, .inl (by unfold execOp; rw [ho]; simp), hρ _, Keeps.refl _ _ _, Ext.refl _ _, wf⟩
  · rename_i y ho
    simp only [Option.some.injEq, Prod.mk.injEq] at hres; obtain ⟨rfl, rfl⟩ := hres
    exact ⟨a.eval y, w, G, .inl (by unfold execOp; rw [ho]; simp), hρ _, Keeps.refl _ _ _, Ext.refl _ _, wf⟩
  · rename_i c a1 b1 ho
    split at hres
    · rename_i t ht
      simp only [Option.some.injEq, Prod.mk.injEq] at hres; obtain ⟨rfl, rfl⟩ := hres
      have hc := hρ c
      rw [ht] at hc
      have hcv := hc.bool
      refine ⟨if t then a.eval a1 else a.eval b1, w, G, .inl ?_, ?_, Keeps.refl _ _ _, Ext.refl _ _, wf⟩
      · unfold execOp; rw [ho]; simp [hcv, asBool]
      · cases t
        · exact hρ b1
        · exact hρ a1
    · simp at hres
  · rename_i t ho
    obtain ⟨H', hx, rfl⟩ := map_fstH (α := Unit) hres
    exact Done.turn (by unfold execOp; rw [ho]) (aalloc_run wf hx)
  · rename_i t y ho
    obtain ⟨H', hx, rfl⟩ := map_fstH (α := Unit) hres
    exact Done.turn (by unfold execOp; rw [ho]) (abox_run (t := t) wf hx (hρ y))
  · rename_i t ps ho
    obtain ⟨hx, rfl⟩ := map_fst (α := Unit) hres
    obtain ⟨p1, p2⟩ := reps_parts ρ a.eval hρ ps
    have := abuild_run (P := P) hx p1 p2
    rw [show (ps.toList.map fun q => (q.1, a.eval q.2)).toArray = ps.map fun q => (q.1, a.eval q.2) by apply Array.ext'; simp] at this
    exact Done.still wf (by unfold execOp; rw [ho]) this
  · rename_i t n ps ho
    obtain ⟨T', hx, rfl⟩ := map_fstT (α := Unit) hres
    obtain ⟨p1, p2⟩ := reps_parts ρ a.eval hρ ps
    have := arowSlice_run (P := P) wf hx p1 p2
    rw [show (ps.toList.map fun q => (q.1, a.eval q.2)).toArray = ps.map fun q => (q.1, a.eval q.2) by apply Array.ext'; simp] at this
    exact Done.turn (by unfold execOp; rw [ho]) this
  · rename_i t y ho
    obtain ⟨hx, rfl⟩ := map_fst (α := Unit) hres
    exact Done.still wf (by unfold execOp; rw [ho]) (aload_run wf hx (hρ y))
  · rename_i t y z ho
    simp only [Option.map_eq_some_iff, Prod.mk.injEq] at hres
    obtain ⟨H', hx, rfl, rfl⟩ := hres
    obtain ⟨w', q1, q2, q3, q4⟩ := astore_run (P := P) wf hx (hρ y) (hρ z)
    exact ⟨undef, w', G, .inr ⟨by unfold execOp; rw [ho]; simp [q1], rfl⟩, .junk _, q2, q3, q4⟩
  · rename_i y ho
    obtain ⟨hx, rfl⟩ := map_fst (α := Unit) hres
    have hy := hρ y
    have : ∃ p, a.eval y = .pointer (some p) ∧ Rep G h' w x (a.eval y) := by
      unfold anil at hx
      split at hx
      · rename_i id ver off he
        split at hx
        · rename_i hk
          simp only [Option.some.injEq] at hx; subst hx
          rw [he] at hk
          obtain ⟨hb, hl⟩ := okV_ptr hk
          rw [he] at hy
          exact ⟨_, hy.at_ptr hl rfl, by rw [he]; exact hy⟩
        · simp at hx
      · rename_i r i j he
        simp only [Option.some.injEq] at hx; subst hx
        rw [he] at hy
        have hy' := hy
        generalize a.eval y = va at hy hy'
        cases hy with
        | p rp => cases rp with
          | eptr _ _ _ b off f => exact ⟨_, rfl, by rw [he]; exact hy'⟩
      · simp at hx
    obtain ⟨p, hp, hr⟩ := this
    refine ⟨a.eval y, w, G, .inl ?_, hr, Keeps.refl _ _ _, Ext.refl _ _, wf⟩
    unfold execOp; rw [ho]; simp only [hp]; simp
  · rename_i op t y z u ho
    obtain ⟨hx, rfl⟩ := map_fst (α := Unit) hres
    exact Done.still wf (by unfold execOp; rw [ho]) (abin_run (ox := y) (oy := z) hx (hρ y) (hρ z))
  · rename_i op t y ho
    obtain ⟨hx, rfl⟩ := map_fst (α := Unit) hres
    exact Done.still wf (by unfold execOp; rw [ho]) (aunop_run hx (hρ y))
  · rename_i s t y ho
    split at hres
    · rename_i v hv
      simp only [Option.some.injEq, Prod.mk.injEq] at hres; obtain ⟨rfl, rfl⟩ := hres
      exact Done.still wf (by unfold execOp; rw [ho]) (aconv_run wf hv (hρ y))
    · obtain ⟨T', hx, rfl⟩ := map_fstT (α := Unit) hres
      exact Done.turn (by unfold execOp; rw [ho]) (atobytes_run wf hx (hρ y))
  · rename_i t y lo hi ho
    split at hres
    · rename_i hk
      obtain ⟨hx, rfl⟩ := map_fst (α := Unit) hres
      refine Done.still wf (by unfold execOp; rw [ho]; rfl) (aslice_run hx (hρ y) ?_ ?_ ?_ ?_ ?_ ?_)
      · intro id ver off he; rw [he] at hk; exact okV_ptr hk
      · intro id ver off len cap he; rw [he] at hk; exact okV_own hk
      · intro z hz; simp only [Option.map_eq_some_iff] at hz; obtain ⟨q, rfl, rfl⟩ := hz; exact ⟨_, rfl, hρ q⟩
      · intro hz; simp only [Option.map_eq_none_iff] at hz; subst hz; rfl
      · intro z hz; simp only [Option.map_eq_some_iff] at hz; obtain ⟨q, rfl, rfl⟩ := hz; exact ⟨_, rfl, hρ q⟩
      · intro hz; simp only [Option.map_eq_none_iff] at hz; subst hz; rfl
    · simp at hres
  · rename_i t y lo hi mx ho
    split at hres
    · rename_i hk
      obtain ⟨hx, rfl⟩ := map_fst (α := Unit) hres
      refine Done.still wf (by unfold execOp; rw [ho]; rfl) (aslice3_run hx (hρ y) ?_ ?_ ?_ (hρ hi) (hρ mx))
      · intro id ver off len cap he; rw [he] at hk; exact okV_own hk
      · intro z hz; simp only [Option.map_eq_some_iff] at hz; obtain ⟨q, rfl, rfl⟩ := hz; exact ⟨_, rfl, hρ q⟩
      · intro hz; simp only [Option.map_eq_none_iff] at hz; subst hz; rfl
    · simp at hres
  · rename_i t y f ho
    split at hres
    · rename_i hk
      obtain ⟨hx, rfl⟩ := map_fst (α := Unit) hres
      exact Done.still wf (by unfold execOp; rw [ho]) (afieldAddr_run hx hk (hρ y))
    · simp at hres
  · rename_i t y f ho
    obtain ⟨hx, rfl⟩ := map_fst (α := Unit) hres
    exact Done.still wf (by unfold execOp; rw [ho]) (afield_run hx (hρ y))
  · rename_i t y i ho
    split at hres
    · rename_i hk
      obtain ⟨hx, rfl⟩ := map_fst (α := Unit) hres
      exact Done.still wf (by unfold execOp; rw [ho]) (aindexAddr_run hx hk (hρ y) (hρ i))
    · simp at hres
  · rename_i t y i ho
    obtain ⟨hx, rfl⟩ := map_fst (α := Unit) hres
    exact Done.still wf (by unfold execOp; rw [ho]) (aindex_run hx (hρ y) (hρ i))
  · rename_i t l c ho
    obtain ⟨H', hx, rfl⟩ := map_fstH (α := Unit) hres
    exact Done.turn (by unfold execOp; rw [ho]) (amakeSlice_run wf hx (hρ l) (hρ c))
  · rename_i t y ho
    obtain ⟨H', hx, rfl⟩ := map_fstH (α := Unit) hres
    exact Done.turn (by unfold execOp; rw [ho]) (arange_run wf hx (hρ y))
  · rename_i y s ho
    obtain ⟨H', hx, rfl⟩ := map_fstH (α := Unit) hres
    exact Done.turn (by unfold execOp; rw [ho]) (anext_run (ty := o.type) wf hx (hρ y))
  · rename_i y i ho
    obtain ⟨hx, rfl⟩ := map_fst (α := Unit) hres
    exact Done.still wf (by unfold execOp; rw [ho]) (aextract_run hx (hρ y))
  · rename_i t y ho
    obtain ⟨hx, rfl⟩ := map_fst (α := Unit) hres
    exact Done.still wf (by unfold execOp; rw [ho]) (amakeIf_run (x := y) hρ hx)
  · rename_i fn first caps ho
    obtain ⟨hx, rfl⟩ := map_fst (α := Unit) hres
    exact Done.still wf (by unfold execOp; rw [ho]) (amakeFunc_run hρ hx)
  · rename_i b args ts ho
    exact builtin_sim wf ho hρ hres
  · simp at hres
end
end Go.Av
end
section
set_option linter.unusedVariables false
set_option linter.unusedSimpArgs false
set_option linter.unusedSectionVars false
namespace Go.Av
abbrev Nm := Nat → Nat → Option (Nat × Nat)
mutual
def V.ren (fo ft : Nm) : V → V
  | .junk => .junk
  | .p x => .p x
  | .row r t v nl => match ft t v with
    | some q => .row r q.1 q.2 nl
    | none => .p (.sl r nl)
  | .own id v off len cap => match fo id v with
    | some q => .own q.1 q.2 off len cap
    | none => .junk
  | .ptr id v off => match fo id v with
    | some q => .ptr q.1 q.2 off
    | none => .junk
  | .adr id v off e n => match fo id v with
    | some q => .adr q.1 q.2 off e n
    | none => .junk
  | .bnd f id v off => match fo id v with
    | some q => .bnd f q.1 q.2 off
    | none => .junk
  | .brow e r t v nl => match ft t v with
    | some q => .brow e r q.1 q.2 nl
    | none => .p (.sl r nl)
  | .agg l => .agg (V.rens fo ft l)
  | .tup l => .tup (V.rens fo ft l)
def V.rens (fo ft : Nm) : List V → List V
  | [] => []
  | x :: l => V.ren fo ft x :: V.rens fo ft l
end
def HB.ren (fo ft : Nm) : HB → HB
  | .cells l => .cells (V.rens fo ft l)
  | .row r => .row r
  | .iter s p => .iter s p
section
variable {fo ft : Nm}
theorem rens_length : ∀ (l : List V), (V.rens fo ft l).length = l.length
  | [] => rfl
  | x :: l => by simp [V.rens, rens_length l]
theorem rens_get : ∀ (l : List V) (i : Nat), (V.rens fo ft l).getD i .junk = V.ren fo ft (l.getD i .junk)
  | [], i => by simp [V.rens, V.ren]
  | x :: l, 0 => by simp [V.rens]
  | x :: l, i + 1 => by
    have := rens_get l i
    simp only [V.rens, List.getD_cons_succ]; exact this
theorem HB.ren_size (hb : HB) : (hb.ren fo ft).size = hb.size := by cases hb <;> simp [HB.ren, HB.size, rens_length]
theorem HB.ren_get (hb : HB) (i : Nat) : (hb.ren fo ft).get i = V.ren fo ft (hb.get i) := by
  cases hb with
  | cells l => exact rens_get l i
  | row r => rfl
  | iter s p => rfl
theorem HB.ren_iter (hb : HB) : (hb.ren fo ft).isIter = hb.isIter := by cases hb <;> rfl
end
structure Nms (G : Gh) (h : HT) (G' : Gh) (h' : HT) (fo ft : Nm) : Prop where
  o : ∀ id ver q, fo id ver = some q → (∃ hb, look h.H id = some (ver, hb)) ∧ (∃ hb', look h'.H q.1 = some (q.2, hb')) ∧ G'.ι q.1 = G.ι id
  t : ∀ t ver q, ft t ver = some q → look h.T t = some ver ∧ look h'.T q.1 = some q.2 ∧
    (G.own (G.τ t) = .row t → G'.τ q.1 = G.τ t ∧ G'.tend q.1 = G.tend t ∧ G'.own (G.τ t) = .row q.1)
section
variable {G G' : Gh} {h h' : HT} {w : World} {fo ft : Nm}
theorem Rep.ren (n : Nms G h G' h' fo ft) (hm : ∀ b o v, pm G w b o = some v → pm G' w b o = some v) {x : V} {v : Value} (r : Rep G h w x v) : Rep G' h' w (V.ren fo ft x) v := by
  induction r with
  | junk v => exact .junk v
  | p r => exact .p (r.mono hm)
  | row r t ver cur nl a cap hc hle hr ht =>
    simp only [V.ren]
    cases hq : ft t ver with
    | none => exact .p (hr.mono hm)
    | some q =>
      obtain ⟨h1, h2, h3⟩ := n.t t ver q hq
      have hcur : ver = cur := by rw [h1] at hc; exact Option.some.inj hc
      refine .row r q.1 q.2 q.2 nl a cap h2 (Nat.le_refl _) (hr.mono hm) (fun _ => ?_)
      rcases ht hcur with h | ⟨off, vs, ty, fz, ha, hown, hend, hs0, hblk, hsz, hfz⟩
      · exact .inl h
      · obtain ⟨e1, e2, e3⟩ := h3 hown
        exact .inr ⟨off, vs, ty, fz, by rw [e1]; exact ha, by rw [e1]; exact e3, by rw [e2]; exact hend, hs0, by rw [e1]; exact hblk, hsz, by rw [e1, e2]; exact hfz⟩
  | own id ver off len cap cur hb v hc hle hv =>
    simp only [V.ren]
    cases hq : fo id ver with
    | none => exact .junk _
    | some q =>
      obtain ⟨⟨hb1, h1⟩, ⟨hb', h2⟩, h3⟩ := n.o id ver q hq
      rw [h1] at hc
      simp only [Option.some.injEq, Prod.mk.injEq] at hc
      exact .own q.1 q.2 off len cap q.2 hb' v h2 (Nat.le_refl _) (fun _ => by rw [h3]; exact hv hc.1)
  | ptr id ver off cur hb v hc hle hv =>
    simp only [V.ren]
    cases hq : fo id ver with
    | none => exact .junk _
    | some q =>
      obtain ⟨⟨hb1, h1⟩, ⟨hb', h2⟩, h3⟩ := n.o id ver q hq
      rw [h1] at hc
      simp only [Option.some.injEq, Prod.mk.injEq] at hc
      exact .ptr q.1 q.2 off q.2 hb' v h2 (Nat.le_refl _) (fun _ => by rw [h3]; exact hv hc.1)
  | adr id ver off e n' cur hb v hc hle hv =>
    simp only [V.ren]
    cases hq : fo id ver with
    | none => exact .junk _
    | some q =>
      obtain ⟨⟨hb1, h1⟩, ⟨hb', h2⟩, h3⟩ := n.o id ver q hq
      rw [h1] at hc
      simp only [Option.some.injEq, Prod.mk.injEq] at hc
      exact .adr q.1 q.2 off e n' q.2 hb' v h2 (Nat.le_refl _) (fun _ => by rw [h3]; exact hv hc.1)
  | bnd f id ver off cur hb v hc hle hv =>
    simp only [V.ren]
    cases hq : fo id ver with
    | none => exact .junk _
    | some q =>
      obtain ⟨⟨hb1, h1⟩, ⟨hb', h2⟩, h3⟩ := n.o id ver q hq
      rw [h1] at hc
      simp only [Option.some.injEq, Prod.mk.injEq] at hc
      exact .bnd f q.1 q.2 off q.2 hb' v h2 (Nat.le_refl _) (fun _ => by rw [h3]; exact hv hc.1)
  | brow e r t ver nl v hr hty ih =>
    simp only [V.ren] at ih ⊢
    cases hq : ft t ver with
    | none => rw [hq] at ih; exact ih
    | some q =>
      rw [hq] at ih
      obtain ⟨h1, h2, h3⟩ := n.t t ver q hq
      exact .brow e r q.1 q.2 nl v ih (fun _ => hty h1)
  | agg l vs f hs hf h1 hr ih =>
    simp only [V.ren]
    refine .agg _ vs f (by rw [rens_length]; exact hs) (fun i hi => hf i (by rw [rens_length] at hi; exact hi)) (fun i hi => h1 i (by rw [rens_length] at hi; exact hi)) ?_
    intro i hi
    rw [rens_length] at hi
    rw [rens_get]; exact ih i hi
  | tup l vs f hs hf hr ih =>
    simp only [V.ren]
    refine .tup _ vs f (by rw [rens_length]; exact hs) (fun i hi => hf i (by rw [rens_length] at hi; exact hi)) ?_
    intro i hi
    rw [rens_length] at hi
    rw [rens_get]; exact ih i hi
theorem HRep.ren (n : Nms G h G' h' fo ft) (hm : ∀ b o v, pm G w b o = some v → pm G' w b o = some v) {b : Nat} {hb : HB} (r : HRep G h w b hb) : HRep G' h' w b (hb.ren fo ft) := by
  cases hit : hb.isIter with
  | true =>
    cases hb with
    | iter s pos => exact r
    | cells l => simp [HB.isIter] at hit
    | row r => simp [HB.isIter] at hit
  | false =>
    obtain ⟨vs0, ty0, fz0, a1, a2, a3, a4⟩ := r.cells' hit
    refine HRep.of_cells (by rw [HB.ren_iter]; exact hit) ⟨vs0, ty0, fz0, a1, by rw [HB.ren_size]; exact a2, ?_, ?_⟩
    · intro k hk0
      rw [HB.ren_size] at hk0
      obtain ⟨v, b1, b2, b3⟩ := a3 k hk0
      exact ⟨v, b1, b2, by rw [HB.ren_get]; exact b3.ren n hm⟩
    · intro k hk0
      rw [HB.ren_size] at hk0
      exact a4 k hk0
end
def swapL (L : List (Nat × Nat)) : List (Nat × Nat) := L.map fun q => (q.2, q.1)
def numb : Nat → List Nat → List (Nat × Nat)
  | _, [] => []
  | k, x :: l => (x, k) :: numb (k + 1) l
structure Pairs (L : List (Nat × Nat)) : Prop where
  to : ∀ t k, look L t = some k → look (swapL L) k = some t
  back : ∀ t k, look (swapL L) k = some t → look L t = some k
theorem numb_ge : ∀ (l : List Nat) (k t j : Nat), look (numb k l) t = some j → k ≤ j ∧ l[j - k]? = some t
  | [], k, t, j, h => by simp [numb, look] at h
  | x :: l, k, t, j, h => by
    simp only [numb, look] at h
    split at h
    · rename_i hx
      simp only [Option.some.injEq] at h
      subst h; subst hx; simp
    · obtain ⟨h1, h2⟩ := numb_ge l (k + 1) t j h
      refine ⟨by omega, ?_⟩
      rw [show j - k = (j - (k + 1)) + 1 by omega]; simpa using h2
theorem swap_numb : ∀ (l : List Nat) (k t j : Nat), look (swapL (numb k l)) j = some t ↔ k ≤ j ∧ l[j - k]? = some t
  | [], k, t, j => by simp [numb, look, swapL]
  | x :: l, k, t, j => by
    have ih := swap_numb l (k + 1) t j
    simp only [swapL] at ih
    simp only [swapL, numb, List.map_cons, look]
    by_cases hk : k = j
    · subst hk; simp
    · rw [if_neg hk, ih]
      constructor
      · rintro ⟨a, b⟩
        refine ⟨by omega, ?_⟩
        rw [show j - k = (j - (k + 1)) + 1 by omega]; simpa using b
      · rintro ⟨a, b⟩
        refine ⟨by omega, ?_⟩
        rw [show j - k = (j - (k + 1)) + 1 by omega] at b; simpa using b
theorem numb_look : ∀ (l : List Nat) (k i t : Nat), l.Nodup → l[i]? = some t → look (numb k l) t = some (k + i)
  | [], k, i, t, hn, h => by simp at h
  | x :: l, k, i, t, hn, h => by
    simp only [List.nodup_cons] at hn
    simp only [numb, look]
    cases i with
    | zero => simp only [List.getElem?_cons_zero, Option.some.injEq] at h; rw [if_pos h]; rfl
    | succ i =>
      simp only [List.getElem?_cons_succ] at h
      have : x ≠ t := by rintro rfl; exact hn.1 (List.mem_of_getElem? h)
      rw [if_neg this, numb_look l (k + 1) i t hn.2 h]
      congr 1; omega
theorem numb_pairs (l : List Nat) (k : Nat) (hn : l.Nodup) : Pairs (numb k l) := by
  refine ⟨fun t j h => (swap_numb l k t j).2 (numb_ge l k t j h), fun t j h => ?_⟩
  obtain ⟨h1, h2⟩ := (swap_numb l k t j).1 h
  have := numb_look l k (j - k) t hn h2
  rw [this]; congr 1; omega
def nmO (A : List (Nat × Nat)) (H : List (Nat × (Nat × HB))) (ver : Nat → Nat) : Nm := fun id v =>
  match look A id with
  | some a => match look H id with
    | some x => if x.1 = v then some (a, ver a) else none
    | none => none
  | none => none
def nmT (B T : List (Nat × Nat)) (ver : Nat → Nat) : Nm := fun t v =>
  match look B t with
  | some k => match look T t with
    | some x => if x = v then some (k, ver k) else none
    | none => none
  | none => none
theorem nmO_spec {A : List (Nat × Nat)} {H : List (Nat × (Nat × HB))} {ver : Nat → Nat} {id v : Nat} {q : Nat × Nat} (h : nmO A H ver id v = some q) : look A id = some q.1 ∧ (∃ hb, look H id = some (v, hb)) ∧ q.2 = ver q.1 := by
  unfold nmO at h
  split at h
  · rename_i a ha
    split at h
    · rename_i x hx
      split at h
      · rename_i hc
        simp only [Option.some.injEq] at h; subst h
        obtain ⟨c, hb⟩ := x
        simp only at hc; subst hc
        exact ⟨ha, ⟨hb, hx⟩, rfl⟩
      · simp at h
    · simp at h
  · simp at h
theorem nmT_spec {B T : List (Nat × Nat)} {ver : Nat → Nat} {t v : Nat} {q : Nat × Nat} (h : nmT B T ver t v = some q) : look B t = some q.1 ∧ look T t = some v ∧ q.2 = ver q.1 := by
  unfold nmT at h
  split at h
  · rename_i a ha
    split at h
    · rename_i x hx
      split at h
      · rename_i hc
        simp only [Option.some.injEq] at h; subst h
        subst hc
        exact ⟨ha, hx, rfl⟩
      · simp at h
    · simp at h
  · simp at h
def HB.list : HB → List V
  | .cells l => l
  | _ => []
def reach (H : List (Nat × (Nat × HB))) : Nat → List Nat → List V → List Nat
  | 0, acc, _ => acc
  | _, acc, [] => acc
  | n + 1, acc, .ptr id ver _ :: l => match look H id with
    | some x => if x.1 = ver then (if acc.contains id then reach H n acc l else reach H n (acc ++ [id]) (l ++ x.2.list)) else reach H n acc l
    | none => reach H n acc l
  | n + 1, acc, .bnd _ id ver _ :: l => match look H id with
    | some x => if x.1 = ver then (if acc.contains id then reach H n acc l else reach H n (acc ++ [id]) (l ++ x.2.list)) else reach H n acc l
    | none => reach H n acc l
  | n + 1, acc, .own id ver _ _ _ :: l => match look H id with
    | some x => if x.1 = ver then (if acc.contains id then reach H n acc l else reach H n (acc ++ [id]) (l ++ x.2.list)) else reach H n acc l
    | none => reach H n acc l
  | n + 1, acc, .agg xs :: l => reach H n acc (xs ++ l)
  | n + 1, acc, .tup xs :: l => reach H n acc (xs ++ l)
  | n + 1, acc, _ :: l => reach H n acc l
theorem nodup_snoc {l : List Nat} {x : Nat} (h : l.Nodup) (hx : ¬ l.contains x = true) : (l ++ [x]).Nodup := by
  rw [List.nodup_append]
  refine ⟨h, by simp, ?_⟩
  intro a ha b hb
  simp only [List.mem_singleton] at hb
  subst hb
  rintro rfl
  exact hx (by simpa using ha)
theorem reach_nodup (H : List (Nat × (Nat × HB))) : ∀ (n : Nat) (acc : List Nat) (l : List V), acc.Nodup → (reach H n acc l).Nodup
  | 0, acc, l, h => by simpa [reach] using h
  | n + 1, acc, [], h => by simpa [reach] using h
  | n + 1, acc, .ptr id ver _ :: l, h => by
    simp only [reach]
    split
    · split
      · split
        · exact reach_nodup H n _ _ h
        · rename_i hc; exact reach_nodup H n _ _ (nodup_snoc h hc)
      · exact reach_nodup H n _ _ h
    · exact reach_nodup H n _ _ h
  | n + 1, acc, .bnd _ id ver _ :: l, h => by
    simp only [reach]
    split
    · split
      · split
        · exact reach_nodup H n _ _ h
        · rename_i hc; exact reach_nodup H n _ _ (nodup_snoc h hc)
      · exact reach_nodup H n _ _ h
    · exact reach_nodup H n _ _ h
  | n + 1, acc, .own id ver _ _ _ :: l, h => by
    simp only [reach]
    split
    · split
      · split
        · exact reach_nodup H n _ _ h
        · rename_i hc; exact reach_nodup H n _ _ (nodup_snoc h hc)
      · exact reach_nodup H n _ _ h
    · exact reach_nodup H n _ _ h
  | n + 1, acc, .agg xs :: l, h => by simp only [reach]; exact reach_nodup H n _ _ h
  | n + 1, acc, .tup xs :: l, h => by simp only [reach]; exact reach_nodup H n _ _ h
  | n + 1, acc, .junk :: l, h => by simp only [reach]; exact reach_nodup H n _ _ h
  | n + 1, acc, .p x :: l, h => by simp only [reach]; exact reach_nodup H n _ _ h
  | n + 1, acc, .row _ _ _ _ :: l, h => by simp only [reach]; exact reach_nodup H n _ _ h
  | n + 1, acc, .adr _ _ _ _ _ :: l, h => by simp only [reach]; exact reach_nodup H n _ _ h
  | n + 1, acc, .brow _ _ _ _ _ :: l, h => by simp only [reach]; exact reach_nodup H n _ _ h
mutual
def V.toks (T : List (Nat × Nat)) (acc : List Nat) : V → List Nat
  | .row _ t v _ => match look T t with
    | some c => if c = v then (if acc.contains t then acc else acc ++ [t]) else acc
    | none => acc
  | .agg l => V.tokl T acc l
  | .tup l => V.tokl T acc l
  | .junk => acc
  | .p _ => acc
  | .own _ _ _ _ _ => acc
  | .ptr _ _ _ => acc
  | .adr _ _ _ _ _ => acc
  | .bnd _ _ _ _ => acc
  | .brow _ _ t v _ => match look T t with
    | some c => if c = v then (if acc.contains t then acc else acc ++ [t]) else acc
    | none => acc
def V.tokl (T : List (Nat × Nat)) (acc : List Nat) : List V → List Nat
  | [] => acc
  | x :: l => V.tokl T (V.toks T acc x) l
end
theorem tokl_pure (T : List (Nat × Nat)) : ∀ ps : List PV, V.tokl T [] (ps.map V.p) = []
  | [] => rfl
  | x :: l => by simp only [List.map_cons, V.tokl, V.toks]; exact tokl_pure T l
mutual
theorem toks_nodup (T : List (Nat × Nat)) : ∀ (acc : List Nat) (x : V), acc.Nodup → (V.toks T acc x).Nodup
  | acc, .row _ t v _, h => by
    simp only [V.toks]
    split
    · split
      · split
        · exact h
        · rename_i hc; exact nodup_snoc h hc
      · exact h
    · exact h
  | acc, .agg l, h => by simp only [V.toks]; exact tokl_nodup T acc l h
  | acc, .tup l, h => by simp only [V.toks]; exact tokl_nodup T acc l h
  | acc, .junk, h => by simpa only [V.toks] using h
  | acc, .p _, h => by simpa only [V.toks] using h
  | acc, .own _ _ _ _ _, h => by simpa only [V.toks] using h
  | acc, .ptr _ _ _, h => by simpa only [V.toks] using h
  | acc, .adr _ _ _ _ _, h => by simpa only [V.toks] using h
  | acc, .bnd _ _ _ _, h => by simpa only [V.toks] using h
  | acc, .brow _ _ t v _, h => by
    simp only [V.toks]
    split
    · split
      · split
        · exact h
        · rename_i hc; exact nodup_snoc h hc
      · exact h
    · exact h
theorem tokl_nodup (T : List (Nat × Nat)) : ∀ (acc : List Nat) (l : List V), acc.Nodup → (V.tokl T acc l).Nodup
  | acc, [], h => by simpa only [V.tokl] using h
  | acc, x :: l, h => by simp only [V.tokl]; exact tokl_nodup T _ l (toks_nodup T acc x h)
end
def heldBy (H : List (Nat × (Nat × HB))) : List Nat → List V
  | [] => []
  | id :: l => match look H id with
    | some x => x.2.list ++ heldBy H l
    | none => heldBy H l
end Go.Av
end
section
set_option linter.unusedVariables false
set_option linter.unusedSimpArgs false
set_option linter.unusedSectionVars false
namespace Go.Av
def objsH : Nat → List HB → List (Nat × (Nat × HB))
  | _, [] => []
  | k, hb :: l => (k, (0, hb)) :: objsH (k + 1) l
def toksT (k n : Nat) : List (Nat × Nat) := (List.range n).map fun i => (k + i, 0)
theorem look_objsH : ∀ (l : List HB) (k j ver : Nat) (hb : HB), look (objsH k l) j = some (ver, hb) ↔ ver = 0 ∧ k ≤ j ∧ l[j - k]? = some hb
  | [], k, j, ver, hb => by simp [objsH, look]
  | x :: l, k, j, ver, hb => by
    simp only [objsH, look]
    by_cases hk : k = j
    · subst hk
      simp only [if_true, Option.some.injEq, Prod.mk.injEq, Nat.le_refl, true_and, Nat.sub_self, List.getElem?_cons_zero]
      constructor
      · rintro ⟨a, b⟩; exact ⟨a.symm, b⟩
      · rintro ⟨a, b⟩; exact ⟨a.symm, b⟩
    · rw [if_neg hk, look_objsH l (k + 1) j ver hb]
      constructor
      · rintro ⟨a, b, c⟩
        refine ⟨a, by omega, ?_⟩
        rw [show j - k = (j - (k + 1)) + 1 by omega]; simpa using c
      · rintro ⟨a, b, c⟩
        refine ⟨a, by omega, ?_⟩
        rw [show j - k = (j - (k + 1)) + 1 by omega] at c; simpa using c
theorem look_toksT {k n j c : Nat} : look (toksT k n) j = some c ↔ c = 0 ∧ k ≤ j ∧ j < k + n := by
  have gen : ∀ (l : List Nat), look (l.map fun i => (k + i, 0)) j = some c ↔ c = 0 ∧ k ≤ j ∧ j - k ∈ l := by
    intro l
    induction l with
    | nil => simp [look]
    | cons a l ih =>
      simp only [List.map_cons, look]
      by_cases ha : k + a = j
      · rw [if_pos ha]
        constructor
        · intro h; simp only [Option.some.injEq] at h; exact ⟨h.symm, by omega, by simp; omega⟩
        · rintro ⟨h, _⟩; rw [h]
      · rw [if_neg ha, ih]
        constructor
        · rintro ⟨a1, b1, c1⟩; exact ⟨a1, b1, List.mem_cons_of_mem _ c1⟩
        · rintro ⟨a1, b1, c1⟩
          refine ⟨a1, b1, ?_⟩
          simp only [List.mem_cons] at c1
          rcases c1 with h | h
          · omega
          · exact h
  have := gen (List.range n)
  unfold toksT
  rw [this]
  simp only [List.mem_range]
  constructor
  · rintro ⟨a, b, c⟩; exact ⟨a, b, by omega⟩
  · rintro ⟨a, b, c⟩; exact ⟨a, b, by omega⟩
def hIn (ins : List HB) (n : Nat) : HT := ⟨objsH 10000 ins, toksT 10000 n⟩
def hOut (outs : List HB) (n : Nat) : HT := ⟨objsH 10000 outs, toksT 0 n⟩
def retV : List V → V
  | [x] => x
  | l => .tup l
section
variable [Tables]
def Came (G : Gh) (w : World) (nin : Nat) (res : List V) (outs : List HB) (n : Nat) (v : Value) (w' : World) : Prop :=
  outs.length = nin ∧ ∃ G', Ext G w G' w' ∧ WF G' (hOut outs n) w' ∧ (∀ i, i < outs.length → G'.ι (10000 + i) = G.ι (10000 + i)) ∧ Rep G' (hOut outs n) w' (retV res) v
structure Goes (G : Gh) (w : World) (args : List V) (ins : List HB) (n : Nat) (vs : List Value) : Prop where
  wf : WF G (hIn ins n) w
  objs : ∀ b id, G.own b = .obj id → ∃ hb, look (hIn ins n).H id = some (0, hb) ∧ G.ι id = b
  glob : ∀ g r, Tables.gl g = some r → RepP (pm G w) (.eptr r 0 0) (.pointer (some ⟨g, 0, none⟩))
  len : args.length = vs.length
  args : ∀ i, i < args.length → Rep G (hIn ins n) w (args.getD i .junk) (vs.getD i undef)
def FnG (P : Program) (f : FuncId) (args : List V) (ins : List HB) (n0 : Nat) (res : List V) (outs : List HB) (n1 : Nat) : Prop :=
  ∀ (G : Gh) (w : World) (vs : List Value), Goes G w args ins n0 vs →
    Calls P f vs.toArray w fun e w' => ∃ v, e = .returned v ∧ Came G w ins.length res outs n1 v w'
def Fn (P : Program) (f : FuncId) (args : List PV) (res : List V) (n : Nat := 0) : Prop := FnG P f (args.map V.p) [] 0 res [] n
def Ct (P : Program) (f : FuncId) (args : List V) (ins : List HB) (n0 : Nat) (res : List V) (outs : List HB) (n1 : Nat) : Prop :=
  ∀ (G : Gh) (w : World) (vs : List Value), Goes G w args ins n0 vs →
    ((callFunc f vs.toArray).run P w = .ok (.enter f vs.toArray) w ∧
      Calls P f vs.toArray w fun e w' => ∃ v, e = .returned v ∧ Came G w ins.length res outs n1 v w') ∨
    (∃ v w', (callFunc f vs.toArray).run P w = .ok (.value v) w' ∧ Came G w ins.length res outs n1 v w')
theorem FnG.ct {P : Program} {f : FuncId} {args : List V} {ins outs : List HB} {n0 n1 : Nat} {res : List V} (h : FnG P f args ins n0 res outs n1)
    (hc : ∀ args w, (callFunc f args).run P w = .ok (.enter f args) w) : Ct P f args ins n0 res outs n1 :=
  fun G w vs g => .inl ⟨hc _ _, h G w vs g⟩
theorem Fn.ct {P : Program} {f : FuncId} {args : List PV} {n1 : Nat} {res : List V} (h : Fn P f args res n1)
    (hc : ∀ args w, (callFunc f args).run P w = .ok (.enter f args) w) : Ct P f (args.map V.p) [] 0 res [] n1 := FnG.ct h hc
end
def Gh.lend (G : Gh) (A B : List (Nat × Nat)) : Gh :=
  { own := fun b => match G.own b with
      | .free => .free
      | .hid n => .hid n
      | .obj id => match look A id with
        | some a => if G.ι id = b then .obj a else .hid 0
        | none => .hid 0
      | .row t => match look B t with
        | some k => .row k
        | none => .hid (G.tend t)
    ι := fun a => match look (swapL A) a with | some id => G.ι id | none => 0
    τ := fun k => match look (swapL B) k with | some t => G.τ t | none => 0
    tend := fun k => match look (swapL B) k with | some t => G.tend t | none => 0 }
section
variable {G : Gh} {h : HT} {w : World} {A B : List (Nat × Nat)}
theorem pm_lend (hB : Pairs B) (b o : Nat) : pm (G.lend A B) w b o = pm G w b o := by
  cases ho : G.own b with
  | free =>
    have e : (G.lend A B).own b = .free := by simp only [Gh.lend, ho]
    unfold pm; rw [e, ho]
  | hid n =>
    have e : (G.lend A B).own b = .hid n := by simp only [Gh.lend, ho]
    unfold pm; rw [e, ho]
  | obj id =>
    have e : (∃ a, (G.lend A B).own b = .obj a) ∨ (G.lend A B).own b = .hid 0 := by
      simp only [Gh.lend, ho]
      cases look A id with
      | none => right; rfl
      | some a => simp only; split; exact .inl ⟨a, rfl⟩; exact .inr rfl
    rcases e with ⟨a, e⟩ | e
    · unfold pm; rw [e, ho]
    · unfold pm; rw [e, ho]; simp
  | row t =>
    cases hl : look B t with
    | none =>
      have e : (G.lend A B).own b = .hid (G.tend t) := by simp only [Gh.lend, ho, hl]
      unfold pm; rw [e, ho]
    | some k =>
      have e : (G.lend A B).own b = .row k := by simp only [Gh.lend, ho, hl]
      have e2 : (G.lend A B).tend k = G.tend t := by simp only [Gh.lend, hB.to t k hl]
      unfold pm; rw [e, ho]; simp only [e2]
def lendA (h : HT) (E : List V) : List (Nat × Nat) := numb 10000 (reach h.H 400 [] E)
def lendB (h : HT) (E : List V) : List (Nat × Nat) := numb 10000 (V.tokl h.T [] (heldBy h.H (reach h.H 400 [] E) ++ E))
def lendFo (h : HT) (E : List V) : Nm := nmO (lendA h E) h.H fun _ => 0
def lendFt (h : HT) (E : List V) : Nm := nmT (lendB h E) h.T fun _ => 0
def noNm : Nm := fun _ _ => none
def insOf (H : List (Nat × (Nat × HB))) (fo ft : Nm) : List Nat → List HB
  | [] => []
  | id :: l => (match look H id with
    | some x => x.2.ren fo ft
    | none => .cells []) :: insOf H fo ft l
def lendIns (h : HT) (E : List V) : List HB := insOf h.H (lendFo h E) (lendFt h E) (reach h.H 400 [] E)
def lendArgs (h : HT) (E : List V) : List V := V.rens (lendFo h E) (lendFt h E) E
theorem lendA_pairs (h : HT) (E : List V) : Pairs (lendA h E) := numb_pairs _ _ (reach_nodup _ _ _ _ List.nodup_nil)
theorem lendB_pairs (h : HT) (E : List V) : Pairs (lendB h E) := numb_pairs _ _ (tokl_nodup _ _ _ List.nodup_nil)
theorem insOf_length {H : List (Nat × (Nat × HB))} {fo ft : Nm} : ∀ (l : List Nat), (insOf H fo ft l).length = l.length
  | [] => rfl
  | id :: l => by simp [insOf, insOf_length l]
theorem insOf_get {H : List (Nat × (Nat × HB))} {fo ft : Nm} : ∀ (l : List Nat) (i id : Nat) (x : Nat × HB), l[i]? = some id → look H id = some x → (insOf H fo ft l)[i]? = some (x.2.ren fo ft)
  | [], i, id, x, h, hl => by simp at h
  | id' :: l, i, id, x, h, hl => by
    cases i with
    | zero => simp only [List.getElem?_cons_zero, Option.some.injEq] at h; subst h; simp [insOf, hl]
    | succ i => simp only [List.getElem?_cons_succ] at h; simp only [insOf, List.getElem?_cons_succ]; exact insOf_get l i id x h hl
theorem reach_there (H : List (Nat × (Nat × HB))) : ∀ (n : Nat) (acc : List Nat) (l : List V), (∀ id ∈ acc, (look H id).isSome) → ∀ id ∈ reach H n acc l, (look H id).isSome
  | 0, acc, l, h => by simpa [reach] using h
  | n + 1, acc, [], h => by simpa [reach] using h
  | n + 1, acc, .ptr id ver _ :: l, h => by
    simp only [reach]
    split
    · rename_i x hx
      split
      · split
        · exact reach_there H n _ _ h
        · refine reach_there H n _ _ ?_
          intro j hj
          simp only [List.mem_append, List.mem_singleton] at hj
          rcases hj with hj | rfl
          · exact h j hj
          · rw [hx]; rfl
      · exact reach_there H n _ _ h
    · exact reach_there H n _ _ h
  | n + 1, acc, .bnd _ id ver _ :: l, h => by
    simp only [reach]
    split
    · rename_i x hx
      split
      · split
        · exact reach_there H n _ _ h
        · refine reach_there H n _ _ ?_
          intro j hj
          simp only [List.mem_append, List.mem_singleton] at hj
          rcases hj with hj | rfl
          · exact h j hj
          · rw [hx]; rfl
      · exact reach_there H n _ _ h
    · exact reach_there H n _ _ h
  | n + 1, acc, .own id ver _ _ _ :: l, h => by
    simp only [reach]
    split
    · rename_i x hx
      split
      · split
        · exact reach_there H n _ _ h
        · refine reach_there H n _ _ ?_
          intro j hj
          simp only [List.mem_append, List.mem_singleton] at hj
          rcases hj with hj | rfl
          · exact h j hj
          · rw [hx]; rfl
      · exact reach_there H n _ _ h
    · exact reach_there H n _ _ h
  | n + 1, acc, .agg xs :: l, h => by simp only [reach]; exact reach_there H n _ _ h
  | n + 1, acc, .tup xs :: l, h => by simp only [reach]; exact reach_there H n _ _ h
  | n + 1, acc, .junk :: l, h => by simp only [reach]; exact reach_there H n _ _ h
  | n + 1, acc, .p x :: l, h => by simp only [reach]; exact reach_there H n _ _ h
  | n + 1, acc, .row _ _ _ _ :: l, h => by simp only [reach]; exact reach_there H n _ _ h
  | n + 1, acc, .adr _ _ _ _ _ :: l, h => by simp only [reach]; exact reach_there H n _ _ h
  | n + 1, acc, .brow _ _ _ _ _ :: l, h => by simp only [reach]; exact reach_there H n _ _ h
theorem lend_nms (wf : WF G h w) (E : List V) : Nms G h (G.lend (lendA h E) (lendB h E)) (hIn (lendIns h E) (lendB h E).length) (lendFo h E) (lendFt h E) := by
  have hA := lendA_pairs h E
  have hB := lendB_pairs h E
  refine ⟨?_, ?_⟩
  · intro id ver q hq
    obtain ⟨h1, ⟨hb, h2⟩, h3⟩ := nmO_spec hq
    refine ⟨⟨hb, h2⟩, ?_, ?_⟩
    · obtain ⟨g1, g2⟩ := numb_ge _ _ _ _ h1
      exact ⟨_, (look_objsH _ _ _ _ _).2 ⟨h3, g1, insOf_get _ _ _ _ g2 h2⟩⟩
    · simp only [Gh.lend, hA.to _ _ h1]
  · intro t ver q hq
    obtain ⟨h1, h2, h3⟩ := nmT_spec hq
    obtain ⟨g1, g2⟩ := numb_ge _ _ _ _ h1
    refine ⟨h2, ?_, fun ho => ?_⟩
    · refine look_toksT.2 ⟨h3, g1, ?_⟩
      have : q.1 - 10000 < (V.tokl h.T [] (heldBy h.H (reach h.H 400 [] E) ++ E)).length := (List.getElem?_eq_some_iff.1 g2).1
      have hl : ∀ (l : List Nat) k, (numb k l).length = l.length := by
        intro l; induction l with
        | nil => intro k; rfl
        | cons a l ih => intro k; simp [numb, ih]
      unfold lendB
      rw [hl]; omega
    · refine ⟨by simp only [Gh.lend, hB.to _ _ h1], by simp only [Gh.lend, hB.to _ _ h1], by simp only [Gh.lend, ho, h1]⟩
theorem lend_goes [Tables] (wf : WF G h w) (hg : ∀ g r, Tables.gl g = some r → RepP (pm G w) (.eptr r 0 0) (.pointer (some ⟨g, 0, none⟩))) (E : List V) (vs : List Value)
    (hl : E.length = vs.length) (hr : ∀ i, i < E.length → Rep G h w (E.getD i .junk) (vs.getD i undef)) :
    Goes (G.lend (lendA h E) (lendB h E)) w (lendArgs h E) (lendIns h E) (lendB h E).length vs := by
  have hA := lendA_pairs h E
  have hB := lendB_pairs h E
  have hm : ∀ b o v, pm G w b o = some v → pm (G.lend (lendA h E) (lendB h E)) w b o = some v := fun b o v hv => by rw [pm_lend hB]; exact hv
  have n := lend_nms wf E
  refine ⟨⟨?_, ?_, ?_⟩, ?_, fun g r hgr => (hg g r hgr).mono hm, by rw [lendArgs, rens_length]; exact hl, ?_⟩
  · intro b hb; simp only [Gh.lend, wf.fresh b hb]
  · intro b k hb
    simp only [Gh.lend] at hb ⊢
    cases ho : G.own b with
    | free => rw [ho] at hb; simp at hb
    | hid n => rw [ho] at hb; simp at hb
    | obj id =>
      rw [ho] at hb
      simp only at hb
      split at hb
      · split at hb <;> simp at hb
      · simp at hb
    | row t =>
      rw [ho] at hb
      simp only at hb
      cases hl2 : look (lendB h E) t with
      | none => rw [hl2] at hb; simp at hb
      | some k' =>
        rw [hl2] at hb
        simp only [Owner.row.injEq] at hb
        subst hb
        rw [hB.to _ _ hl2]; exact wf.rows b t ho
  · intro a ver hb hla
    obtain ⟨rfl, h1, h2⟩ := (look_objsH _ _ _ _ _).1 hla
    have hlt : a - 10000 < (reach h.H 400 [] E).length := by
      have := (List.getElem?_eq_some_iff.1 h2).1
      rw [lendIns, insOf_length] at this; exact this
    obtain ⟨id, hid⟩ : ∃ id, (reach h.H 400 [] E)[a - 10000]? = some id := ⟨_, List.getElem?_eq_getElem hlt⟩
    have hswap : look (swapL (lendA h E)) a = some id := (swap_numb _ _ _ _).2 ⟨h1, hid⟩
    have hto := hA.back _ _ hswap
    have hsome := reach_there h.H 400 [] E (by simp) id (List.mem_of_getElem? hid)
    obtain ⟨⟨c, hb0⟩, hx⟩ := Option.isSome_iff_exists.1 hsome
    have hins := insOf_get (fo := lendFo h E) (ft := lendFt h E) _ _ _ _ hid hx
    have : hb = hb0.ren (lendFo h E) (lendFt h E) := by
      have h3 : (lendIns h E)[a - 10000]? = some hb := h2
      rw [lendIns, hins] at h3; exact (Option.some.inj h3).symm
    subst this
    obtain ⟨o1, o2, o3⟩ := wf.objs id c hb0 hx
    have e : (G.lend (lendA h E) (lendB h E)).ι a = G.ι id := by simp only [Gh.lend, hswap]
    rw [e]
    exact ⟨by simp only [Gh.lend, o1, hto, if_true], o2, o3.ren n hm⟩
  · intro b a hb
    simp only [Gh.lend] at hb
    cases ho : G.own b with
    | free => rw [ho] at hb; simp at hb
    | hid n => rw [ho] at hb; simp at hb
    | row t => rw [ho] at hb; simp only at hb; split at hb <;> simp at hb
    | obj id =>
      rw [ho] at hb
      simp only at hb
      cases hl2 : look (lendA h E) id with
      | none => rw [hl2] at hb; simp at hb
      | some a' =>
        rw [hl2] at hb
        simp only at hb
        split at hb
        · rename_i hι
          simp only [Owner.obj.injEq] at hb
          subst hb
          obtain ⟨g1, g2⟩ := numb_ge _ _ _ _ hl2
          have hsome := reach_there h.H 400 [] E (by simp) id (List.mem_of_getElem? g2)
          obtain ⟨⟨c, hb0⟩, hx⟩ := Option.isSome_iff_exists.1 hsome
          refine ⟨_, (look_objsH _ _ _ _ _).2 ⟨rfl, g1, insOf_get _ _ _ _ g2 hx⟩, ?_⟩
          simp only [Gh.lend, hA.to _ _ hl2]; exact hι
        · simp at hb
  · intro i hi
    rw [lendArgs, rens_length] at hi
    rw [lendArgs, rens_get]
    exact (hr i hi).ren n hm
end
end Go.Av
end
section
set_option linter.unusedVariables false
set_option linter.unusedSimpArgs false
set_option linter.unusedSectionVars false
namespace Go.Av
def curO (H : List (Nat × (Nat × HB))) (id : Nat) : Nat := match look H id with | some x => x.1 | none => 0
def bumpAll (T : List (Nat × Nat)) : List Nat → List (Nat × Nat)
  | [] => T
  | t :: l => upd (bumpAll T l) t (nextTok T t)
def impB (d : Nat) : Nat → List (Nat × Nat)
  | 0 => []
  | k + 1 => (k, d + 1000 * k) :: impB d k
def impT (T : List (Nat × Nat)) (d : Nat) : Nat → List (Nat × Nat)
  | 0 => T
  | k + 1 => upd (impT T d k) (d + 1000 * k) (nextTok T (d + 1000 * k))
def setObjs (fo ft : Nm) : List (Nat × (Nat × HB)) → List Nat → List HB → List (Nat × (Nat × HB))
  | H, id :: l, hb :: outs => setObjs fo ft (upd H id (curO H id, hb.ren fo ft)) l outs
  | H, _, _ => H
theorem look_bumpAll (T : List (Nat × Nat)) : ∀ (l : List Nat) (t : Nat), look (bumpAll T l) t = if t ∈ l then some (nextTok T t) else look T t
  | [], t => by simp [bumpAll]
  | a :: l, t => by
    simp only [bumpAll]
    by_cases h : t = a
    · subst h; rw [look_upd_same]; simp
    · rw [look_upd_other _ _ _ _ h, look_bumpAll T l t]; simp [h]
theorem look_impB (d : Nat) : ∀ (n k m : Nat), look (impB d n) k = some m ↔ k < n ∧ m = d + 1000 * k
  | 0, k, m => by simp [impB, look]
  | n + 1, k, m => by
    simp only [impB, look]
    by_cases h : n = k
    · subst h; simp; exact ⟨fun h => h.symm, fun h => h.symm⟩
    · rw [if_neg h, look_impB d n k m]
      constructor
      · rintro ⟨a, b⟩; exact ⟨by omega, b⟩
      · rintro ⟨a, b⟩; exact ⟨by omega, b⟩
theorem swap_impB (d : Nat) : ∀ (n k m : Nat), look (swapL (impB d n)) m = some k ↔ k < n ∧ m = d + 1000 * k
  | 0, k, m => by simp [impB, look, swapL]
  | n + 1, k, m => by
    have ih := swap_impB d n k m
    simp only [swapL] at ih
    simp only [swapL, impB, List.map_cons, look]
    by_cases h : d + 1000 * n = m
    · rw [if_pos h]
      constructor
      · intro h2; simp only [Option.some.injEq] at h2; subst h2; exact ⟨by omega, h.symm⟩
      · rintro ⟨a, b⟩; congr 1; omega
    · rw [if_neg h, ih]
      constructor
      · rintro ⟨a, b⟩; exact ⟨by omega, b⟩
      · rintro ⟨a, b⟩
        refine ⟨?_, b⟩
        have : k ≠ n := by rintro rfl; exact h b.symm
        omega
theorem impB_pairs (d n : Nat) : Pairs (impB d n) :=
  ⟨fun t k h => (swap_impB d n t k).2 ((look_impB d n t k).1 h), fun t k h => (look_impB d n t k).2 ((swap_impB d n t k).1 h)⟩
theorem look_impT (T : List (Nat × Nat)) (d : Nat) : ∀ (n m : Nat), look (impT T d n) m = match look (swapL (impB d n)) m with | some _ => some (nextTok T m) | none => look T m
  | 0, m => rfl
  | n + 1, m => by
    have ih := look_impT T d n m
    simp only [impT]
    by_cases h : m = d + 1000 * n
    · subst h
      rw [look_upd_same]
      have : look (swapL (impB d (n + 1))) (d + 1000 * n) = some n := (swap_impB d _ _ _).2 ⟨by omega, rfl⟩
      rw [this]
    · rw [look_upd_other _ _ _ _ h, ih]
      have e : look (swapL (impB d (n + 1))) m = look (swapL (impB d n)) m := by
        simp only [swapL, impB, List.map_cons, look]
        rw [if_neg (Ne.symm h)]
      rw [e]
theorem look_setObjs {fo ft : Nm} : ∀ (ids : List Nat) (outs : List HB) (H : List (Nat × (Nat × HB))) (id : Nat), id ∉ ids → look (setObjs fo ft H ids outs) id = look H id
  | [], outs, H, id, h => by simp [setObjs]
  | a :: l, [], H, id, h => by simp [setObjs]
  | a :: l, hb :: outs, H, id, h => by
    simp only [List.mem_cons, not_or] at h
    simp only [setObjs]
    rw [look_setObjs l outs _ id h.2, look_upd_other _ _ _ _ h.1]
theorem look_setObjs_in {fo ft : Nm} : ∀ (ids : List Nat) (outs : List HB) (H : List (Nat × (Nat × HB))) (i id : Nat) (hb : HB), ids.Nodup → ids[i]? = some id → outs[i]? = some hb →
    look (setObjs fo ft H ids outs) id = some (curO H id, hb.ren fo ft)
  | [], outs, H, i, id, hb, hn, h1, h2 => by simp at h1
  | a :: l, [], H, i, id, hb, hn, h1, h2 => by simp at h2
  | a :: l, x :: outs, H, i, id, hb, hn, h1, h2 => by
    simp only [List.nodup_cons] at hn
    simp only [setObjs]
    cases i with
    | zero =>
      simp only [List.getElem?_cons_zero, Option.some.injEq] at h1 h2
      subst h1; subst h2
      rw [look_setObjs l outs _ _ hn.1, look_upd_same]
    | succ i =>
      simp only [List.getElem?_cons_succ] at h1 h2
      have hne : id ≠ a := by rintro rfl; exact hn.1 (List.mem_of_getElem? h1)
      rw [look_setObjs_in l outs _ i id hb hn.2 h1 h2]
      simp only [curO, look_upd_other _ _ _ _ hne]
def lendToks (h : HT) (E : List V) : List Nat := V.tokl h.T [] (heldBy h.H (reach h.H 400 [] E) ++ E)
def backT1 (h : HT) (E : List V) : List (Nat × Nat) := bumpAll h.T (lendToks h E)
def backFo (h : HT) (E : List V) (outs : List HB) : Nm := nmO (swapL (lendA h E)) (objsH 10000 outs) (curO h.H)
def backFt (h : HT) (E : List V) (d n : Nat) : Nm := nmT (impB d n) (toksT 0 n) (nextTok (backT1 h E))
def backH (h : HT) (E : List V) (d : Nat) (outs : List HB) (n : Nat) : HT :=
  ⟨setObjs (backFo h E outs) (backFt h E d n) h.H (reach h.H 400 [] E) outs, impT (backT1 h E) d n⟩
def backV (h : HT) (E : List V) (d : Nat) (res : List V) (outs : List HB) (n : Nat) : V := V.ren (backFo h E outs) (backFt h E d n) (retV res)
def Owner.lent (G : Gh) (A B : List (Nat × Nat)) (b : Nat) : Owner → Bool
  | .obj id => match look A id with
    | some _ => decide (G.ι id = b)
    | none => false
  | .row t => (look B t).isSome
  | _ => false
def Owner.keep (L : List (Nat × Nat)) : Owner → Owner
  | .row t => match look (swapL L) t with
    | some _ => .free
    | none => .row t
  | x => x
def Owner.back (A L : List (Nat × Nat)) : Owner → Owner
  | .obj a => match look (swapL A) a with
    | some id => .obj id
    | none => .free
  | .row k => match look L k with
    | some m => .row m
    | none => .free
  | x => x
def Gh.back (G G1 : Gh) (n0 : Nat) (A B L : List (Nat × Nat)) : Gh :=
  { own := fun b => if b < n0 ∧ (G.own b).lent G A B b = false then (G.own b).keep L else (G1.own b).back A L
    ι := G.ι
    τ := fun m => match look (swapL L) m with | some k => G1.τ k | none => G.τ m
    tend := fun m => match look (swapL L) m with | some k => G1.tend k | none => G.tend m }
section
variable {G G1 : Gh} {h : HT} {w w1 : World} {A B L : List (Nat × Nat)}
theorem lend_hidden (b : Nat) (hn : (G.own b).lent G A B b = false) : (G.lend A B).own b = match G.own b with
    | .free => .free | .hid n => .hid n | .obj _ => .hid 0 | .row t => .hid (G.tend t) := by
  simp only [Gh.lend]
  cases ho : G.own b with
  | free => rfl
  | hid n => rfl
  | obj id =>
    rw [ho] at hn
    simp only [Owner.lent] at hn
    cases hl : look A id with
    | none => simp only [hl]
    | some a =>
      rw [hl] at hn
      simp only [decide_eq_false_iff_not] at hn
      simp only [hl, if_neg hn]
  | row t =>
    rw [ho] at hn
    simp only [Owner.lent] at hn
    cases hl : look B t with
    | none => simp only [hl]
    | some a => rw [hl] at hn; simp at hn
theorem lend_still' (b : Nat) (hn : (G.own b).lent G A B b = false) : ((G.lend A B).own b).still = true := by
  rw [lend_hidden b hn]
  cases G.own b <;> rfl
theorem pm_back (hL : Pairs L) (hext : Ext (G.lend A B) w G1 w1) {b o : Nat} {v : Value} (hv : pm G1 w1 b o = some v) : pm (Gh.back G G1 w.heap.size A B L) w1 b o = some v := by
  have hc := pm_cell hv
  by_cases hb : b < w.heap.size ∧ (G.own b).lent G A B b = false
  · have e1 : (Gh.back G G1 w.heap.size A B L).own b = (G.own b).keep L := by simp only [Gh.back, if_pos hb]
    have e2 := (hext.free b hb.1 (lend_still' b hb.2)).1
    rw [lend_hidden b hb.2] at e2
    cases ho : G.own b with
    | free => rw [ho] at e1; unfold pm; rw [e1]; exact hc
    | hid n =>
      rw [ho] at e1 e2
      simp only at e2
      unfold pm at hv ⊢
      rw [e1]; rw [e2] at hv; exact hv
    | obj id =>
      rw [ho] at e2
      simp only at e2
      unfold pm at hv; rw [e2] at hv; simp at hv
    | row t =>
      rw [ho] at e1 e2
      simp only [Owner.keep] at e1 e2
      cases hl : look (swapL L) t with
      | some k => rw [hl] at e1; simp only at e1; unfold pm; rw [e1]; exact hc
      | none =>
        rw [hl] at e1
        have e3 : (Gh.back G G1 w.heap.size A B L).tend t = G.tend t := by simp only [Gh.back, hl]
        unfold pm at hv ⊢
        rw [e1]; rw [e2] at hv
        simp only [e3]; exact hv
  · have e1 : (Gh.back G G1 w.heap.size A B L).own b = (G1.own b).back A L := by simp only [Gh.back, if_neg hb]
    cases ho : G1.own b with
    | free => rw [ho] at e1; unfold pm; rw [e1]; exact hc
    | hid n =>
      rw [ho] at e1
      unfold pm at hv ⊢
      rw [e1]; rw [ho] at hv; exact hv
    | obj id => unfold pm at hv; rw [ho] at hv; simp at hv
    | row k =>
      rw [ho] at e1
      simp only [Owner.back] at e1
      cases hl : look L k with
      | none => rw [hl] at e1; unfold pm; rw [e1]; exact hc
      | some m =>
        rw [hl] at e1
        have e3 : (Gh.back G G1 w.heap.size A B L).tend m = G1.tend k := by simp only [Gh.back, hL.to k m hl]
        unfold pm at hv ⊢
        rw [e1]; rw [ho] at hv
        simp only [e3]; exact hv
end
section
variable [Tables] {P : Program} {G : Gh} {h : HT} {w : World}
theorem call_back (wf : WF G h w) (E : List V) {res : List V} {outs : List HB} {n : Nat} {v : Value} {w1 : World} (d : Nat)
    (hc : Came (G.lend (lendA h E) (lendB h E)) w (lendIns h E).length res outs n v w1) :
    ∃ G', Rep G' (backH h E d outs n) w1 (backV h E d res outs n) v ∧ Keeps G h w G' (backH h E d outs n) w1 ∧ Ext G w G' w1 ∧ WF G' (backH h E d outs n) w1 := by
  obtain ⟨hlen, G1, hext, wf1, hι, hr⟩ := hc
  have hA := lendA_pairs h E
  have hB := lendB_pairs h E
  have hL := impB_pairs d n
  have hids : (reach h.H 400 [] E).Nodup := reach_nodup _ _ _ _ List.nodup_nil
  have hilen : outs.length = (reach h.H 400 [] E).length := by rw [hlen, lendIns, insOf_length]
  generalize hAe : lendA h E = A at hA hext hι
  generalize hBe : lendB h E = B at hB hext hι
  generalize hLe : impB d n = L at hL
  generalize hG' : Gh.back G G1 w.heap.size A B L = G'
  have hpm : ∀ b o v, pm G1 w1 b o = some v → pm G' w1 b o = some v := fun b o v hv => by rw [← hG']; exact pm_back hL hext hv
  have hmem : ∀ b o v, pm G w b o = some v → pm G' w1 b o = some v := fun b o v hv =>
    hpm _ _ _ (hext.row b o v (pm_lt hv) (by rw [pm_lend hB]; exact hv))
  have inA : ∀ a id, look (swapL A) a = some id → 10000 ≤ a ∧ (reach h.H 400 [] E)[a - 10000]? = some id := by
    intro a id ha; rw [← hAe] at ha; exact (swap_numb _ _ _ _).1 ha
  have inA2 : ∀ id a, look A id = some a → (reach h.H 400 [] E)[a - 10000]? = some id := by
    intro id a ha; exact (inA a id (hA.to _ _ ha)).2
  have notA : ∀ id, id ∉ reach h.H 400 [] E → look A id = none := by
    intro id hid
    cases hl : look A id with
    | none => rfl
    | some a => exact absurd (List.mem_of_getElem? (inA2 id a hl)) hid
  have hasA : ∀ id i, (reach h.H 400 [] E)[i]? = some id → look A id = some (10000 + i) := by
    intro id i hi; rw [← hAe]; exact numb_look _ _ _ _ hids hi
  have lentB : ∀ t, (look B t).isSome = true ↔ t ∈ lendToks h E := by
    intro t
    rw [← hBe]
    constructor
    · intro hs
      obtain ⟨k, hk⟩ := Option.isSome_iff_exists.1 hs
      exact List.mem_of_getElem? (numb_ge _ _ _ _ hk).2
    · intro hm
      obtain ⟨i, hi⟩ := List.mem_iff_getElem?.1 hm
      unfold lendB
      have := numb_look (lendToks h E) 10000 i t (tokl_nodup _ _ _ List.nodup_nil) hi
      unfold lendToks at this
      rw [this]; rfl
  have eT : ∀ m, look (backH h E d outs n).T m = match look (swapL L) m with | some _ => some (nextTok (backT1 h E) m) | none => if m ∈ lendToks h E then some (nextTok h.T m) else look h.T m := by
    intro m
    simp only [backH, look_impT]
    rw [hLe]
    cases look (swapL L) m with
    | some k => rfl
    | none => simp only [backT1, look_bumpAll]
  have eH_out : ∀ id, id ∉ reach h.H 400 [] E → look (backH h E d outs n).H id = look h.H id := fun id hid => look_setObjs _ _ _ _ hid
  have eH_in : ∀ (i id : Nat) (hb : HB), (reach h.H 400 [] E)[i]? = some id → outs[i]? = some hb → look (backH h E d outs n).H id = some (curO h.H id, hb.ren (backFo h E outs) (backFt h E d n)) :=
    fun i id hb h1 h2 => look_setObjs_in _ _ _ _ _ _ hids h1 h2
  have nms : Nms G1 (hOut outs n) G' (backH h E d outs n) (backFo h E outs) (backFt h E d n) := by
    refine ⟨?_, ?_⟩
    · intro a ver q hq
      obtain ⟨h1, h2, h3⟩ := nmO_spec hq
      rw [hAe] at h1
      obtain ⟨g1, g2⟩ := inA a q.1 h1
      refine ⟨h2, ?_, ?_⟩
      · have hlt : a - 10000 < outs.length := by rw [hilen]; exact (List.getElem?_eq_some_iff.1 g2).1
        exact ⟨_, by rw [eH_in _ _ _ g2 (List.getElem?_eq_getElem hlt), h3]⟩
      · have hlt : a - 10000 < outs.length := by rw [hilen]; exact (List.getElem?_eq_some_iff.1 g2).1
        have := hι (a - 10000) hlt
        rw [show 10000 + (a - 10000) = a by omega] at this
        rw [this, ← hG']
        simp only [Gh.back, Gh.lend, h1]
    · intro k ver q hq
      obtain ⟨h1, h2, h3⟩ := nmT_spec hq
      rw [hLe] at h1
      have hsw := hL.to _ _ h1
      refine ⟨h2, ?_, fun ho => ⟨?_, ?_, ?_⟩⟩
      · rw [eT, hsw]; simp only [h3]
      · rw [← hG']; simp only [Gh.back, hsw]
      · rw [← hG']; simp only [Gh.back, hsw]
      · rw [← hG']
        have hb : ¬ (G1.τ k < w.heap.size ∧ (G.own (G1.τ k)).lent G A B (G1.τ k) = false) := by
          rintro ⟨b1, b2⟩
          have e := (hext.free _ b1 (lend_still' _ b2)).1
          rw [ho, lend_hidden _ b2] at e
          cases hx : G.own (G1.τ k) <;> rw [hx] at e <;> simp at e
        simp only [Gh.back, if_neg hb, ho, Owner.back, h1]
  have keep : ∀ b, b < w.heap.size → (G.own b).lent G A B b = false → G'.own b = (G.own b).keep L := by
    intro b hb hn; rw [← hG']; simp only [Gh.back, if_pos (And.intro hb hn)]
  have heap : ∀ b, b < w.heap.size → (G.own b).lent G A B b = false → w1.heap[b]? = w.heap[b]? := fun b hb hn => (hext.free b hb (lend_still' b hn)).2
  have hk : Keeps G h w G' (backH h E d outs n) w1 := by
    refine ⟨hmem, ?_, ?_, hext.shp⟩
    · intro t cur ht
      have hT1 : cur < nextTok (backT1 h E) t := by
        by_cases hm : t ∈ lendToks h E
        · have : look (backT1 h E) t = some (nextTok h.T t) := by simp only [backT1, look_bumpAll, if_pos hm]
          simp only [nextTok, this]
          have := nextTok_lt ht
          simp only [nextTok] at this; omega
        · have : look (backT1 h E) t = some cur := by simp only [backT1, look_bumpAll, if_neg hm]; exact ht
          exact nextTok_lt this
      cases hs : look (swapL L) t with
      | some k =>
        refine ⟨_, by rw [eT, hs], Nat.le_of_lt hT1, fun e => by omega⟩
      | none =>
        by_cases hm : t ∈ lendToks h E
        · refine ⟨nextTok h.T t, by rw [eT, hs]; simp only [if_pos hm], Nat.le_of_lt (nextTok_lt ht), fun e => ?_⟩
          have := nextTok_lt ht; omega
        · refine ⟨cur, by rw [eT, hs]; simp only [if_neg hm]; exact ht, Nat.le_refl _, fun _ => ⟨by rw [← hG']; simp only [Gh.back, hs], by rw [← hG']; simp only [Gh.back, hs], fun ho => ?_⟩⟩
          have hlt : G.τ t < w.heap.size := by
            rcases Nat.lt_or_ge (G.τ t) w.heap.size with h1 | h1
            · exact h1
            · rw [wf.fresh _ h1] at ho; exact absurd ho (by simp)
          have hn : (G.own (G.τ t)).lent G A B (G.τ t) = false := by
            rw [ho]; simp only [Owner.lent]
            cases hq : (look B t).isSome with
            | false => rfl
            | true => exact absurd ((lentB t).1 hq) hm
          exact ⟨by rw [keep _ hlt hn, ho]; simp only [Owner.keep, hs], fun vs ty fz h0 => (heap _ hlt hn).trans h0⟩
    · intro id cur hb hl
      by_cases hid : id ∈ reach h.H 400 [] E
      · obtain ⟨i, hi⟩ := List.mem_iff_getElem?.1 hid
        have hlt : i < outs.length := by rw [hilen]; exact (List.getElem?_eq_some_iff.1 hi).1
        refine ⟨curO h.H id, _, eH_in _ _ _ hi (List.getElem?_eq_getElem hlt), by simp only [curO, hl]; exact Nat.le_refl _, fun _ => by rw [← hG']; rfl⟩
      · exact ⟨cur, hb, (eH_out id hid).trans hl, Nat.le_refl _, fun _ => by rw [← hG']; rfl⟩
  refine ⟨G', hr.ren nms hpm, hk, ⟨hext.os, hext.tape, hext.output, hext.size, ?_, fun b o v _ hv => hmem b o v hv, hext.shp⟩, ?_, ?_, ?_⟩
  · intro b hb hs
    have hn : (G.own b).lent G A B b = false := by cases ho : G.own b <;> rw [ho] at hs <;> simp [Owner.still] at hs <;> rfl
    refine ⟨?_, heap b hb hn⟩
    rw [keep b hb hn]
    cases ho : G.own b <;> rw [ho] at hs <;> simp [Owner.still] at hs <;> rfl
  · intro b hb
    rw [← hG']
    have : ¬ (b < w.heap.size ∧ (G.own b).lent G A B b = false) := by rintro ⟨h1, _⟩; have := hext.size; omega
    simp only [Gh.back, if_neg this, wf1.fresh b hb, Owner.back]
  · intro b m hb
    by_cases hc : b < w.heap.size ∧ (G.own b).lent G A B b = false
    · rw [keep b hc.1 hc.2] at hb
      cases ho : G.own b with
      | row t =>
        rw [ho] at hb
        simp only [Owner.keep] at hb
        cases hs : look (swapL L) t with
        | some k => rw [hs] at hb; simp at hb
        | none =>
          rw [hs] at hb
          simp only [Owner.row.injEq] at hb
          subst hb
          rw [← hG']; simp only [Gh.back, hs]; exact wf.rows b _ ho
      | _ => rw [ho] at hb; simp [Owner.keep] at hb
    · rw [← hG'] at hb ⊢
      simp only [Gh.back, if_neg hc] at hb ⊢
      cases ho : G1.own b with
      | row k =>
        rw [ho] at hb
        simp only [Owner.back] at hb
        cases hs : look L k with
        | none => rw [hs] at hb; simp at hb
        | some m' =>
          rw [hs] at hb
          simp only [Owner.row.injEq] at hb
          subst hb
          rw [hL.to _ _ hs]; exact wf1.rows b k ho
      | obj a => rw [ho] at hb; simp only [Owner.back] at hb; split at hb <;> simp at hb
      | _ => rw [ho] at hb; simp [Owner.back] at hb
  · intro id ver hb hl
    by_cases hid : id ∈ reach h.H 400 [] E
    · obtain ⟨i, hi⟩ := List.mem_iff_getElem?.1 hid
      have hlt : i < outs.length := by rw [hilen]; exact (List.getElem?_eq_some_iff.1 hi).1
      rw [eH_in _ _ _ hi (List.getElem?_eq_getElem hlt)] at hl
      simp only [Option.some.injEq, Prod.mk.injEq] at hl
      obtain ⟨rfl, rfl⟩ := hl
      have ha := hasA id i hi
      have hsw := hA.to _ _ ha
      have hsome := reach_there h.H 400 [] E (by simp) id hid
      obtain ⟨⟨c, hb0⟩, hx⟩ := Option.isSome_iff_exists.1 hsome
      obtain ⟨o1, o2, _⟩ := wf.objs id c hb0 hx
      obtain ⟨p1, p2, p3⟩ := wf1.objs (10000 + i) 0 outs[i] ((look_objsH _ _ _ _ _).2 ⟨rfl, by omega, by rw [show 10000 + i - 10000 = i by omega]; exact List.getElem?_eq_getElem hlt⟩)
      have e : G1.ι (10000 + i) = G.ι id := by rw [hι i hlt]; simp only [Gh.lend, hsw]
      rw [e] at p1 p2 p3
      have e' : G'.ι id = G.ι id := by rw [← hG']; rfl
      rw [e']
      refine ⟨?_, p2, p3.ren nms hpm⟩
      rw [← hG']
      have : ¬ (G.ι id < w.heap.size ∧ (G.own (G.ι id)).lent G A B (G.ι id) = false) := by
        rintro ⟨_, hf⟩; rw [o1] at hf; simp [Owner.lent, ha] at hf
      simp only [Gh.back, if_neg this, p1, Owner.back, hsw]
    · rw [eH_out id hid] at hl
      obtain ⟨o1, o2, o3⟩ := wf.objs id ver hb hl
      have e' : G'.ι id = G.ι id := by rw [← hG']; rfl
      have hn : (G.own (G.ι id)).lent G A B (G.ι id) = false := by rw [o1]; simp only [Owner.lent, notA id hid]
      rw [e']
      exact ⟨by rw [keep _ o2 hn, o1]; rfl, Nat.lt_of_lt_of_le o2 hext.size, o3.mono hk (heap _ o2 hn)⟩
end
end Go.Av
end
section
set_option linter.unusedVariables false
set_option linter.unusedSimpArgs false
set_option linter.unusedSectionVars false
namespace Go.Av
def Gh.trim (G : Gh) (K : Nat → Bool) (B : List (Nat × Nat)) : Gh :=
  { own := fun b => match G.own b with
      | .free => .free
      | .hid n => .hid n
      | .obj id => if K id = true ∧ G.ι id = b then .obj id else .free
      | .row t => match look B t with
        | some k => .row k
        | none => .free
    ι := G.ι
    τ := fun k => match look (swapL B) k with | some t => G.τ t | none => 0
    tend := fun k => match look (swapL B) k with | some t => G.tend t | none => 0 }
section
variable {G : Gh} {h : HT} {w : World} {K : Nat → Bool} {B : List (Nat × Nat)}
theorem trim_free {b : Nat} (ho : G.own b = .free) : (G.trim K B).own b = .free := by simp only [Gh.trim, ho]
theorem trim_hid {b n : Nat} (ho : G.own b = .hid n) : (G.trim K B).own b = .hid n := by simp only [Gh.trim, ho]
theorem trim_obj {b id : Nat} (ho : G.own b = .obj id) : (G.trim K B).own b = if K id = true ∧ G.ι id = b then .obj id else .free := by simp only [Gh.trim, ho]
theorem trim_row {b t : Nat} (ho : G.own b = .row t) : (G.trim K B).own b = match look B t with | some k => .row k | none => .free := by simp only [Gh.trim, ho]
theorem pm_trim (hB : Pairs B) {b o : Nat} {v : Value} (hv : pm G w b o = some v) : pm (G.trim K B) w b o = some v := by
  have hc := pm_cell hv
  cases ho : G.own b with
  | free => unfold pm; rw [trim_free ho]; exact hc
  | hid n => unfold pm at hv ⊢; rw [trim_hid ho]; rw [ho] at hv; exact hv
  | obj id => unfold pm at hv; rw [ho] at hv; simp at hv
  | row t =>
    cases hl : look B t with
    | none => have e := trim_row (K := K) (B := B) ho; rw [hl] at e; unfold pm; rw [e]; exact hc
    | some k =>
      have e := trim_row (K := K) (B := B) ho
      rw [hl] at e
      have e2 : (G.trim K B).tend k = G.tend t := by simp only [Gh.trim, hB.to _ _ hl]
      unfold pm at hv ⊢
      rw [e]; rw [ho] at hv; simp only [e2]; exact hv
theorem trim_fresh (wf : WF G h w) (b : Nat) (hb : w.heap.size ≤ b) : (G.trim K B).own b = .free := trim_free (wf.fresh b hb)
theorem trim_rows (hB : Pairs B) (wf : WF G h w) (b k : Nat) (hb : (G.trim K B).own b = .row k) : b = (G.trim K B).τ k := by
  cases ho : G.own b with
  | free => rw [trim_free ho] at hb; simp at hb
  | hid n => rw [trim_hid ho] at hb; simp at hb
  | obj id => rw [trim_obj ho] at hb; split at hb <;> simp at hb
  | row t =>
    rw [trim_row ho] at hb
    cases hl : look B t with
    | none => rw [hl] at hb; simp at hb
    | some k' =>
      rw [hl] at hb
      simp only [Owner.row.injEq] at hb
      subst hb
      simp only [Gh.trim, hB.to _ _ hl]; exact wf.rows b t ho
theorem trim_ext {G0 : Gh} {w0 : World} (hB : Pairs B) (e : Ext G0 w0 G w) : Ext G0 w0 (G.trim K B) w := by
  refine ⟨e.os, e.tape, e.output, e.size, ?_, fun b o v hb hv => pm_trim hB (e.row b o v hb hv), e.shp⟩
  intro b hb hs
  obtain ⟨e1, e2⟩ := e.free b hb hs
  refine ⟨?_, e2⟩
  cases ho : G0.own b with
  | free => rw [ho] at e1; exact trim_free e1
  | hid n => rw [ho] at e1; exact trim_hid e1
  | obj id => rw [ho] at hs; simp [Owner.still] at hs
  | row t => rw [ho] at hs; simp [Owner.still] at hs
def trimFo (K : Nat → Bool) (H : List (Nat × (Nat × HB))) (ver : Nat → Nat → Nat) : Nm := fun id v =>
  if K id then match look H id with
    | some x => if x.1 = v then some (id, ver id v) else none
    | none => none
  else none
theorem trimFo_spec {H : List (Nat × (Nat × HB))} {ver : Nat → Nat → Nat} {id v : Nat} {q : Nat × Nat} (h : trimFo K H ver id v = some q) : K id = true ∧ (∃ hb, look H id = some (v, hb)) ∧ q = (id, ver id v) := by
  unfold trimFo at h
  split at h
  · rename_i hk
    split at h
    · rename_i x hx
      split at h
      · rename_i hc
        simp only [Option.some.injEq] at h
        obtain ⟨c, hb⟩ := x
        simp only at hc; subst hc
        exact ⟨hk, ⟨hb, hx⟩, h.symm⟩
      · simp at h
    · simp at h
  · simp at h
theorem trim_nms (hB : Pairs B) {h' : HT} {ver : Nat → Nat → Nat} (ho : ∀ id v hb, K id = true → look h.H id = some (v, hb) → ∃ hb', look h'.H id = some (ver id v, hb'))
    (ht : ∀ t k v, look B t = some k → look h.T t = some v → look h'.T k = some 0) :
    Nms G h (G.trim K B) h' (trimFo K h.H ver) (nmT B h.T fun _ => 0) := by
  refine ⟨?_, ?_⟩
  · intro id v q hq
    obtain ⟨h1, ⟨hb, h2⟩, rfl⟩ := trimFo_spec hq
    exact ⟨⟨hb, h2⟩, ho id v hb h1 h2, rfl⟩
  · intro t v q hq
    obtain ⟨h1, h2, h3⟩ := nmT_spec hq
    refine ⟨h2, by rw [h3]; exact ht _ _ _ h1 h2, fun hown => ⟨by simp only [Gh.trim, hB.to _ _ h1], by simp only [Gh.trim, hB.to _ _ h1], ?_⟩⟩
    rw [trim_row hown, h1]
end
def ownSl (r : Row PV) (off len : Nat) : Option PV :=
  if r.sz = 1 ∧ off + len ≤ r.len then some (.sl (if off = 0 ∧ len = r.len then r else r.cut off (off + len)) false) else none
mutual
def deep (K : Nat → Bool) (H : List (Nat × (Nat × HB))) : Nat → V → Option PV
  | 0, _ => none
  | _ + 1, .p x => some x
  | _ + 1, .row r _ _ nl => some (.sl r nl)
  | _ + 1, .brow _ r _ _ nl => some (.sl r nl)
  | _ + 1, .adr _ _ _ _ _ => none
  | _ + 1, .bnd _ _ _ _ => none
  | _ + 1, .own id ver off len cap => match look H id with
    | some (c, .row r) => if c = ver ∧ K id = true ∧ len ≤ cap then ownSl r off len else none
    | _ => none
  | n + 1, .ptr id ver off => match look H id with
    | some (c, .cells l) => if c = ver ∧ K id = true then (deeps K H n l).map fun cs => .eptr (.vals l.length [.agg (kindRow cs)]) 0 off else none
    | some (c, .row r) => if c = ver ∧ K id = true then some (.eptr (.vals r.len [.agg r]) 0 off) else none
    | _ => none
  | n + 1, .agg l => (deeps K H n l).map fun c => .agg (kindRow c)
  | _ + 1, .tup _ => none
  | _ + 1, .junk => none
def deeps (K : Nat → Bool) (H : List (Nat × (Nat × HB))) : Nat → List V → Option (List PV)
  | _, [] => some []
  | 0, _ :: _ => none
  | n + 1, x :: l => match deep K H n x, deeps K H n l with
    | some y, some m => if y.one then some (y :: m) else none
    | _, _ => none
end
section
variable {G G' : Gh} {h : HT} {w : World} {K : Nat → Bool}
theorem ownSl_rep {r : Row PV} {b off len cap : Nat} {y : PV} (hfree : G'.own b = .free) (hm : ∀ b o v, pm G w b o = some v → pm G' w b o = some v) (hr : HRep G h w b (.row r)) (hy : ownSl r off len = some y) :
    len ≤ cap → RepP (pm G' w) y (.slice (some ⟨b, off, none⟩) len cap) := by
  intro hcap
  unfold ownSl at hy
  split at hy
  · rename_i hc
    obtain ⟨hs1, hle⟩ := hc
    obtain ⟨vs, ty, fz, hblk, hsz, hcell, _⟩ := hr.cells' rfl
    simp only [Option.some.injEq] at hy
    have hspec : ∃ r', y = .sl r' false ∧ r'.len = len ∧ r'.sz = r.sz ∧ ∀ i, i < len → r'.elem i = r.elem (off + i) := by
      split at hy
      · rename_i hz
        obtain ⟨rfl, rfl⟩ := hz
        exact ⟨r, hy.symm, rfl, rfl, fun i hi => by rw [Nat.zero_add]⟩
      · exact ⟨_, hy.symm, by rw [Row.len_cut _ _ _ (by omega) hle]; omega, Row.sz_cut _ _ _, fun i hi => Row.elem_cut' r off len i hle hi⟩
    obtain ⟨r', rfl, hlen, hrsz, hel⟩ := hspec
    have hcell' : ∀ i, i < len → ∃ v, vs[off + i]? = some v ∧ v.oneCell' = true ∧ RepP (pm G w) (r'.elem i) v := by
      intro i hi
      obtain ⟨v, a, b, c⟩ := hcell (off + i) (by simp only [HB.size]; omega)
      refine ⟨v, a, b, ?_⟩
      rw [hel i hi]
      simp only [HB.get] at c
      cases c with | p c => exact c
    have hr1 : r'.sz = 1 := hrsz.trans hs1
    subst hlen
    refine .sl r' _ cap (fun i _ => if hi : i < r'.len then (hcell' i hi).choose else undef) hcap (.inr rfl) ?_ ?_ ?_ ?_
    · intro i hi
      rw [hr1]; exact width_one (one_of_cell (hcell' i hi).choose_spec.2.2 (hcell' i hi).choose_spec.2.1)
    · intro i j hi hj
      rw [hr1] at hj ⊢
      obtain rfl : j = 0 := by omega
      simp only [pm, hfree, Nat.mul_one, Nat.add_zero]
      rw [cell_of_block hblk]
      simp only [hi, dif_pos]
      exact (hcell' i hi).choose_spec.1
    · intro i j hi hj
      have := one_of_cell (hcell' i hi).choose_spec.2.2 (hcell' i hi).choose_spec.2.1
      rw [cell_one this]; exact this
    · intro i j hi hj
      have := one_of_cell (hcell' i hi).choose_spec.2.2 (hcell' i hi).choose_spec.2.1
      rw [cell_one this]
      simp only [hi, dif_pos]
      exact (hcell' i hi).choose_spec.2.2.mono hm
  · simp at hy
theorem eptr_rep {r : Row PV} {vs : Array Value} {ty : TypeId} {fz : Nat × Nat} {b off : Nat} (hfree : G'.own b = .free) (hblk : w.heap[b]? = some (.cells vs ty fz))
    (hc : ∀ i, i < r.len → ∃ v, vs[i]? = some v ∧ (r.elem i).one = true ∧ RepP (pm G' w) (r.elem i) v) : RepP (pm G' w) (.eptr (.vals r.len [.agg r]) 0 off) (.pointer (some ⟨b, off, none⟩)) := by
  have := RepP.eptr (m := pm G' w) (.vals r.len [.agg r]) 0 off b 0 (fun _ j => vs.getD j undef) (by simp [Row.len]) ?_ ?_ ?_ ?_
  · simpa [Row.sz] using this
  · intro i hi
    simp only [Row.len, List.length_singleton] at hi
    obtain rfl : i = 0 := by omega
    simp [Row.elem, PV.width, Row.sz]
  · intro i j hi hj
    simp only [Row.len, List.length_singleton, Row.sz] at hi hj
    obtain rfl : i = 0 := by omega
    obtain ⟨v, a, _, _⟩ := hc j hj
    simp only [pm, hfree, Nat.zero_mul, Nat.zero_add]
    rw [cell_of_block hblk]
    have hlt := (Array.getElem?_eq_some_iff.1 a).1
    simp [Array.getD, hlt]
  · intro i j hi hj
    simp only [Row.len, List.length_singleton, Row.sz] at hi hj
    obtain rfl : i = 0 := by omega
    obtain ⟨v, _, a, _⟩ := hc j hj
    simpa [Row.elem, PV.cell] using a
  · intro i j hi hj
    simp only [Row.len, List.length_singleton, Row.sz] at hi hj
    obtain rfl : i = 0 := by omega
    obtain ⟨v, a, _, c⟩ := hc j hj
    have hlt := (Array.getElem?_eq_some_iff.1 a).1
    rw [Array.getElem?_eq_getElem hlt] at a
    simp only [Option.some.injEq] at a
    simp only [Row.elem, PV.cell, List.getD_cons_zero, Array.getD, hlt, dif_pos]
    subst a; exact c
theorem own_lencap {id ver off len cap : Nat} {hb : HB} {v : Value} (r : Rep G h w (.own id ver off len cap) v) (hl : look h.H id = some (ver, hb)) : v = .slice (some ⟨G.ι id, off, none⟩) len cap := r.at_own hl rfl
mutual
theorem deep_rep (wf : WF G h w) (hm : ∀ b o v, pm G w b o = some v → pm G' w b o = some v) (hf : ∀ id ver hb, K id = true → look h.H id = some (ver, hb) → G'.own (G.ι id) = .free) :
    ∀ (n : Nat) (x : V) (y : PV) (v : Value), deep K h.H n x = some y → Rep G h w x v → RepP (pm G' w) y v
  | 0, x, y, v, hy, r => by simp [deep] at hy
  | n + 1, .p x, y, v, hy, r => by
    simp only [deep, Option.some.injEq] at hy; subst hy
    cases r with | p r => exact r.mono hm
  | n + 1, .row r0 t vv nl, y, v, hy, r => by
    simp only [deep, Option.some.injEq] at hy; subst hy
    cases r with
    | row _ _ _ cur _ a cap hc hle hr ht => exact hr.mono hm
  | n + 1, .brow _ r0 t vv nl, y, v, hy, r => by
    simp only [deep, Option.some.injEq] at hy; subst hy
    cases r with
    | brow _ _ _ _ _ _ r _ => cases r with
      | row _ _ _ cur _ a cap hc hle hr ht => exact hr.mono hm
  | n + 1, .adr _ _ _ _ _, y, v, hy, r => by simp [deep] at hy
  | n + 1, .bnd _ _ _ _, y, v, hy, r => by simp [deep] at hy
  | n + 1, .own id ver off len cap, y, v, hy, r => by
    simp only [deep] at hy
    split at hy
    · rename_i c r0 hl
      split at hy
      · rename_i hc
        obtain ⟨rfl, hid, hcap⟩ := hc
        obtain rfl := own_lencap r hl
        obtain ⟨o1, o2, o3⟩ := wf.objs id c _ hl
        exact ownSl_rep (hf id c _ hid hl) hm o3 hy hcap
      · simp at hy
    · simp at hy
  | n + 1, .ptr id ver off, y, v, hy, r => by
    simp only [deep] at hy
    split at hy
    · rename_i c l hl
      split at hy
      · rename_i hc
        obtain ⟨rfl, hid⟩ := hc
        obtain rfl := r.at_ptr hl rfl
        obtain ⟨o1, o2, o3⟩ := wf.objs id c _ hl
        obtain ⟨vs, ty, fz, hblk, hsz, hcell, _⟩ := o3.cells' rfl
        simp only [Option.map_eq_some_iff] at hy
        obtain ⟨cs, hcs, rfl⟩ := hy
        have hds := deeps_rep wf hm hf n l cs (fun i => vs.getD i undef) hcs (fun i hi => by
          obtain ⟨v, a, b, c⟩ := hcell i hi
          have hlt := (Array.getElem?_eq_some_iff.1 a).1
          rw [Array.getElem?_eq_getElem hlt] at a
          simp only [Option.some.injEq] at a
          simp only [Array.getD, hlt, dif_pos]
          subst a; exact c)
        obtain ⟨hlen, hds⟩ := hds
        have := eptr_rep (G' := G') (r := kindRow cs) (off := off) (hf id c _ hid hl) hblk (by
          intro i hi
          rw [kindRow_len] at hi
          obtain ⟨v, a, b, c⟩ := hcell i (by simp only [HB.size]; omega)
          obtain ⟨q1, q2⟩ := hds i (by omega)
          have hlt := (Array.getElem?_eq_some_iff.1 a).1
          rw [Array.getElem?_eq_getElem hlt] at a
          simp only [Option.some.injEq] at a
          rw [kindRow_elem _ _ hi]
          refine ⟨vs[i], Array.getElem?_eq_getElem hlt, q1, ?_⟩
          have e : vs.getD i undef = vs[i] := by simp [Array.getD, hlt]
          rw [← e]; exact q2)
        rw [kindRow_len, hlen] at this
        exact this
      · simp at hy
    · rename_i c r0 hl
      split at hy
      · rename_i hc
        obtain ⟨rfl, hid⟩ := hc
        obtain rfl := r.at_ptr hl rfl
        obtain ⟨o1, o2, o3⟩ := wf.objs id c _ hl
        obtain ⟨vs, ty, fz, hblk, hsz, hcell, _⟩ := o3.cells' rfl
        simp only [Option.some.injEq] at hy
        subst hy
        exact eptr_rep (hf id c _ hid hl) hblk (by
          intro i hi
          obtain ⟨v, a, b, c⟩ := hcell i hi
          simp only [HB.get] at c
          cases c with
          | p c => exact ⟨v, a, one_of_cell c b, c.mono hm⟩)
      · simp at hy
    · simp at hy
  | n + 1, .agg l, y, v, hy, r => by
    simp only [deep, Option.map_eq_some_iff] at hy
    obtain ⟨c, hc, rfl⟩ := hy
    cases r with
    | agg _ vs f hs hf' h1 hr =>
      obtain ⟨hlen, hds⟩ := deeps_rep wf hm hf n l c f hc hr
      refine agg_rep (hs.trans hlen.symm) ?_
      intro i hi
      obtain ⟨q1, q2⟩ := hds i (by omega)
      exact ⟨f i, hf' i (by omega), q1, q2⟩
  | n + 1, .tup _, y, v, hy, r => by simp [deep] at hy
  | n + 1, .junk, y, v, hy, r => by simp [deep] at hy
theorem deeps_rep (wf : WF G h w) (hm : ∀ b o v, pm G w b o = some v → pm G' w b o = some v) (hf : ∀ id ver hb, K id = true → look h.H id = some (ver, hb) → G'.own (G.ι id) = .free) :
    ∀ (n : Nat) (l : List V) (c : List PV) (f : Nat → Value), deeps K h.H n l = some c → (∀ i, i < l.length → Rep G h w (l.getD i .junk) (f i)) →
    c.length = l.length ∧ ∀ i, i < l.length → (c.getD i .ptr0).one = true ∧ RepP (pm G' w) (c.getD i .ptr0) (f i)
  | n, [], c, f, hc, hr => by
    have : c = [] := by cases n <;> simp [deeps] at hc <;> exact hc
    subst this; simp
  | 0, x :: l, c, f, hc, hr => by simp [deeps] at hc
  | n + 1, x :: l, c, f, hc, hr => by
    simp only [deeps] at hc
    split at hc
    · rename_i y m hy hm'
      split at hc
      · rename_i ho
        simp only [Option.some.injEq] at hc; subst hc
        have h0 := deep_rep wf hm hf n x y (f 0) hy (by simpa using hr 0 (by simp))
        obtain ⟨q1, q2⟩ := deeps_rep wf hm hf n l m (fun i => f (i + 1)) hm' (fun i hi => by simpa using hr (i + 1) (by simpa using hi))
        refine ⟨by simp [q1], ?_⟩
        intro i hi
        cases i with
        | zero => simpa using ⟨ho, h0⟩
        | succ i => simpa using q2 i (by simpa using hi)
      · simp at hc
    · simp at hc
end
end
end Go.Av
end
section
set_option linter.unusedVariables false
set_option linter.unusedSimpArgs false
set_option linter.unusedSectionVars false
namespace Go.Av
def own1 (id : Nat) : Bool := decide (id < 10000)
def fin1 (H : List (Nat × (Nat × HB))) (fo ft : Nm) : V → V
  | .p x => .p x
  | .row r t v nl => match ft t v with
    | some q => .row r q.1 q.2 nl
    | none => .p (.sl r nl)
  | .own id v off len cap => match fo id v with
    | some q => .own q.1 q.2 off len cap
    | none => match deep own1 H 9 (.own id v off len cap) with
      | some y => .p y
      | none => .junk
  | .ptr id v off => match fo id v with
    | some q => .ptr q.1 q.2 off
    | none => match deep own1 H 9 (.ptr id v off) with
      | some y => .p y
      | none => .junk
  | .adr id v off e n => match fo id v with
    | some q => .adr q.1 q.2 off e n
    | none => .junk
  | .bnd f id v off => match fo id v with
    | some q => .bnd f q.1 q.2 off
    | none => .junk
  | .brow e r t v nl => match ft t v with
    | some q => .brow e r q.1 q.2 nl
    | none => .p (.sl r nl)
  | .agg _ => .junk
  | .tup _ => .junk
  | .junk => .junk
def V.fin (H : List (Nat × (Nat × HB))) (fo ft : Nm) : V → V
  | .agg l => mkAgg (l.map (fin1 H fo ft))
  | x => fin1 H fo ft x
def HB.fin (H : List (Nat × (Nat × HB))) (fo ft : Nm) : HB → HB
  | .cells l => .cells (l.map (fin1 H fo ft))
  | .row r => .row r
  | .iter s p => .iter s p
section
variable {G G' : Gh} {h h' : HT} {w : World} {fo ft : Nm}
theorem fin1_rep (wf : WF G h w) (n : Nms G h G' h' fo ft) (hm : ∀ b o v, pm G w b o = some v → pm G' w b o = some v) (hf : ∀ id ver hb, own1 id = true → look h.H id = some (ver, hb) → G'.own (G.ι id) = .free)
    {x : V} {v : Value} (r : Rep G h w x v) : Rep G' h' w (fin1 h.H fo ft x) v := by
  cases x with
  | p x => exact r.ren n hm
  | row r0 t vv nl =>
    have h1 := r.ren n hm
    simp only [V.ren] at h1
    simp only [fin1]
    cases hq : ft t vv with
    | some q => rw [hq] at h1; exact h1
    | none => rw [hq] at h1; exact h1
  | own id vv off len cap =>
    have h1 := r.ren n hm
    simp only [V.ren] at h1
    simp only [fin1]
    cases hq : fo id vv with
    | some q => rw [hq] at h1; exact h1
    | none =>
      simp only
      cases hd : deep own1 h.H 9 (.own id vv off len cap) with
      | none => exact .junk _
      | some y => exact .p (deep_rep wf hm hf 9 _ y v hd r)
  | ptr id vv off =>
    have h1 := r.ren n hm
    simp only [V.ren] at h1
    simp only [fin1]
    cases hq : fo id vv with
    | some q => rw [hq] at h1; exact h1
    | none =>
      simp only
      cases hd : deep own1 h.H 9 (.ptr id vv off) with
      | none => exact .junk _
      | some y => exact .p (deep_rep wf hm hf 9 _ y v hd r)
  | adr id vv off e n0 =>
    have h1 := r.ren n hm
    simp only [V.ren] at h1
    simp only [fin1]; exact h1
  | bnd f0 id vv off =>
    have h1 := r.ren n hm
    simp only [V.ren] at h1
    simp only [fin1]; exact h1
  | brow e r0 t vv nl =>
    have h1 := r.ren n hm
    simp only [V.ren] at h1
    simp only [fin1]; exact h1
  | agg l => exact .junk _
  | tup l => exact .junk _
  | junk => exact .junk _
theorem fin_rep (wf : WF G h w) (n : Nms G h G' h' fo ft) (hm : ∀ b o v, pm G w b o = some v → pm G' w b o = some v) (hf : ∀ id ver hb, own1 id = true → look h.H id = some (ver, hb) → G'.own (G.ι id) = .free)
    {x : V} {v : Value} (r : Rep G h w x v) : Rep G' h' w (V.fin h.H fo ft x) v := by
  cases x with
  | agg l =>
    simp only [V.fin]
    cases r with
    | agg _ vs f hs hf' h1 hr =>
      refine mkAgg_rep ⟨by rw [List.length_map]; exact hs, ?_⟩
      intro i hi
      rw [List.length_map] at hi
      refine ⟨f i, hf' i hi, h1 i hi, ?_⟩
      have e : (l.map (fin1 h.H fo ft)).getD i .junk = fin1 h.H fo ft (l.getD i .junk) := by
        simp [List.getD_eq_getElem?_getD, hi]
      rw [e]; exact fin1_rep wf n hm hf (hr i hi)
  | _ => exact fin1_rep wf n hm hf r
theorem HRep.fin (wf : WF G h w) (n : Nms G h G' h' fo ft) (hm : ∀ b o v, pm G w b o = some v → pm G' w b o = some v) (hf : ∀ id ver hb, own1 id = true → look h.H id = some (ver, hb) → G'.own (G.ι id) = .free)
    {b : Nat} {hb : HB} (r : HRep G h w b hb) : HRep G' h' w b (hb.fin h.H fo ft) := by
  cases hb with
  | iter s pos => exact r
  | row r0 => exact HRep.ren (fo := fo) (ft := ft) n hm r
  | cells l =>
    obtain ⟨vs0, ty0, fz0, a1, a2, a3, a4⟩ := r
    simp only [HB.fin]
    refine ⟨vs0, ty0, fz0, a1, by simpa [HB.size] using a2, ?_, ?_⟩
    · intro k hk0
      simp only [HB.size, List.length_map] at hk0
      obtain ⟨v, b1, b2, b3⟩ := a3 k hk0
      refine ⟨v, b1, b2, ?_⟩
      have e : (HB.cells (l.map (fin1 h.H fo ft))).get k = fin1 h.H fo ft ((HB.cells l).get k) := by
        simp [HB.get, List.getD_eq_getElem?_getD, hk0]
      rw [e]; exact fin1_rep wf n hm hf b3
    · intro k hk0
      simp only [HB.size, List.length_map] at hk0
      exact a4 k hk0
end
section
variable [Tables]
def AW (P : Program) (c : Code) (Q : Exit → St → Prop) (σ : St) : Prop :=
  ∀ (G0 : Gh) (w0 : World) (G : Gh) (a : Act) (w : World), True → Rl G0 w0 σ G a w →
    c.wp P (fun e a' w' => ∃ σ' G', Q e σ' ∧ Rl G0 w0 σ' G' a' w') a w
def resultVs (P : Program) (σ : St) : List ResultVar → Option (List V)
  | [] => some []
  | .tmp t :: l => match resultVs P σ l with
    | some r => some (σ.s.getD t .junk :: r)
    | none => none
  | .cell a t :: l => match aload P σ.h.H t (σ.s.getD a .junk), resultVs P σ l with
    | some v, some r => some (v :: r)
    | _, _ => none
def outList (H : List (Nat × (Nat × HB))) : Nat → Nat → Option (List HB)
  | _, 0 => some []
  | k, n + 1 => match look H k, outList H (k + 1) n with
    | some x, some l => if x.1 = 0 then some (x.2 :: l) else none
    | _, _ => none
def listsOf : List HB → List V
  | [] => []
  | hb :: l => hb.list ++ listsOf l
def lentK (m : Nat) (id : Nat) : Bool := decide (10000 ≤ id) && decide (id < 10000 + m)
def endToks (T : List (Nat × Nat)) (vs : List V) (raw : List HB) : List Nat := V.tokl T (V.tokl T [] vs) (listsOf raw)
def endFo (H : List (Nat × (Nat × HB))) (m : Nat) : Nm := trimFo (lentK m) H fun _ v => v
def endFt (T : List (Nat × Nat)) (toks : List Nat) : Nm := nmT (numb 0 toks) T fun _ => 0
def finRes (h : HT) (m : Nat) (vs : List V) (raw : List HB) : List V := vs.map (V.fin h.H (endFo h.H m) (endFt h.T (endToks h.T vs raw)))
def finOuts (h : HT) (m : Nat) (vs : List V) (raw : List HB) : List HB := raw.map (HB.fin h.H (endFo h.H m) (endFt h.T (endToks h.T vs raw)))
def bindL {α : Type} (x : Option α) (F : α → Prop) : Prop := match x with
  | some v => F v
  | none => False
@[simp] theorem bindL_some {α : Type} (v : α) (F : α → Prop) : bindL (some v) F = F v := rfl
def endsV (h : HT) (m : Nat) (res : List V) (outs : List HB) (n1 : Nat) (vs : List V) (raw : List HB) : Prop :=
  n1 = (endToks h.T vs raw).length ∧ res = finRes h m vs raw ∧ outs = finOuts h m vs raw
def ends (P : Program) (fn : Func) (m : Nat) (σ : St) (res : List V) (outs : List HB) (n1 : Nat) : Prop :=
  bindL (resultVs P σ fn.results.toList) fun vs => bindL (outList σ.h.H 10000 m) fun raw => endsV σ.h m res outs n1 vs raw
def retQ (P : Program) (fn : Func) (m : Nat) (res : List V) (outs : List HB) (n1 : Nat) (e : Exit) (σ : St) : Prop := (e = .normal ∨ e = .ret) ∧ ends P fn m σ res outs n1
variable {P : Program} {G0 G : Gh} {w0 w : World} {σ : St} {a : Act}
theorem Rl.get (r : Rl G0 w0 σ G a w) (t : Nat) : Rep G σ.h w (σ.s.getD t .junk) (a.tmps.getD t undef) := r.eval (.tmp t)
def resF (tmps : Array Value) : ResultVar → Sem Value
  | .tmp t => pure (tmps.getD t undef)
  | .cell x t => do loadVar t (← asAddr (tmps.getD x undef))
theorem results_eq (fn : Func) (tmps : Array Value) : results fn tmps = (do let vs ← fn.results.mapM (resF tmps); pure (if h : vs.size = 1 then vs[0] else .tuple vs)) := by
  unfold results
  congr 2
theorem run_resultVar (r : Rl G0 w0 σ G a w) : ∀ (l : List ResultVar) (vs : List V), resultVs P σ l = some vs →
    ∃ cs : List Value, (l.mapM (resF a.tmps)).run P w = .ok cs w ∧ cs.length = vs.length ∧
      ∀ i, i < vs.length → Rep G σ.h w (vs.getD i .junk) (cs.getD i undef)
  | [], vs, h => by simp only [resultVs, Option.some.injEq] at h; subst h; exact ⟨[], by simp, rfl, fun i hi => by simp at hi⟩
  | .tmp t :: l, vs, h => by
    simp only [resultVs] at h
    split at h
    · rename_i rr hr
      simp only [Option.some.injEq] at h; subst h
      obtain ⟨cs, h1, h2, h3⟩ := run_resultVar r l rr hr
      refine ⟨a.tmps.getD t undef :: cs, by simp only [List.mapM_cons, Sem.run_bind, resF, Sem.run_pure, Result.andThen_ok, h1], by simp [h2], ?_⟩
      intro i hi
      cases i with
      | zero => simpa using r.get t
      | succ i => simpa using h3 i (by simpa using hi)
    · simp at h
  | .cell x t :: l, vs, h => by
    simp only [resultVs] at h
    split at h
    · rename_i v rr hv hr
      simp only [Option.some.injEq] at h; subst h
      obtain ⟨cs, h1, h2, h3⟩ := run_resultVar r l rr hr
      obtain ⟨u, hu, ru⟩ := aload_run (P := P) r.wf hv (r.get x)
      have hrun : (do loadVar t (← asAddr (a.tmps.getD x undef)) : Sem Value).run P w = .ok u w := by
        have : ∃ p, a.tmps.getD x undef = .pointer (some p) := by
          cases hq : a.tmps.getD x undef with
          | pointer o => cases o with
            | some p => exact ⟨p, rfl⟩
            | none => rw [hq] at hu; simp [Instr.loadAt, Instr.sureAddr] at hu
          | _ => rw [hq] at hu; simp [Instr.loadAt, Instr.sureAddr] at hu
        obtain ⟨p, hp⟩ := this
        rw [hp] at hu ⊢
        simp only [Instr.loadAt, Instr.sureAddr, asAddr, Sem.run_bind, Sem.run_pure, Result.andThen_ok] at hu ⊢
        exact hu
      refine ⟨u :: cs, by simp only [List.mapM_cons, Sem.run_bind, resF] at hrun ⊢; simp only [hrun, Result.andThen_ok, h1, Sem.run_pure], by simp [h2], ?_⟩
      intro i hi
      cases i with
      | zero => simpa using ru
      | succ i => simpa using h3 i (by simpa using hi)
    · simp at h
theorem retV_rep {G : Gh} {h : HT} {w : World} {l : List V} {cs : List Value} (hl : cs.length = l.length)
    (hr : ∀ i, i < l.length → Rep G h w (l.getD i .junk) (cs.getD i undef)) :
    Rep G h w (retV l) (if h : cs.toArray.size = 1 then cs.toArray[0] else .tuple cs.toArray) := by
  unfold retV
  split
  · rename_i x
    have h0 := hr 0 (by simp)
    match cs, hl with
    | [c], _ => simpa using h0
  · rename_i hne
    rw [dif_neg]
    · exact Rep.tup_of hl.symm hr
    · intro h1
      simp only [List.size_toArray] at h1
      have h2 : l.length = 1 := by omega
      obtain ⟨x, rfl⟩ := List.length_eq_one_iff.1 h2
      exact hne x rfl
theorem outList_spec (H : List (Nat × (Nat × HB))) : ∀ (k n : Nat) (l : List HB), outList H k n = some l → l.length = n ∧ ∀ i hb, l[i]? = some hb → look H (k + i) = some (0, hb)
  | k, 0, l, h => by simp only [outList, Option.some.injEq] at h; subst h; simp
  | k, n + 1, l, h => by
    simp only [outList] at h
    split at h
    · rename_i x l' hx hl'
      split at h
      · rename_i h0
        simp only [Option.some.injEq] at h; subst h
        obtain ⟨h1, h2⟩ := outList_spec H (k + 1) n l' hl'
        refine ⟨by simp [h1], ?_⟩
        intro i hb hi
        cases i with
        | zero =>
          simp only [List.getElem?_cons_zero, Option.some.injEq] at hi; subst hi
          obtain ⟨c, y⟩ := x
          simp only at h0; subst h0; exact hx
        | succ i =>
          have := h2 i hb (by simpa using hi)
          rw [show k + (i + 1) = k + 1 + i by omega]; exact this
      · simp at h
    · simp at h
theorem numb_length : ∀ (l : List Nat) (k : Nat), (numb k l).length = l.length
  | [], k => rfl
  | a :: l, k => by simp [numb, numb_length l]
theorem fn_end {fn : Func} {args : List V} {ins : List HB} {n0 n1 : Nat} {res : List V} {outs : List HB} {vs0 : List Value} (g : Goes G0 w0 args ins n0 vs0) (r : Rl G0 w0 σ G a w)
    (he : ends P fn ins.length σ res outs n1) : ∃ v, (results fn a.tmps).run P w = .ok v w ∧ Came G0 w0 ins.length res outs n1 v w := by
  unfold ends at he
  cases hvs : resultVs P σ fn.results.toList with
  | none => rw [hvs] at he; exact he.elim
  | some vs =>
  rw [hvs] at he
  simp only [bindL_some] at he
  cases hraw : outList σ.h.H 10000 ins.length with
  | none => rw [hraw] at he; exact he.elim
  | some raw =>
  rw [hraw] at he
  simp only [bindL_some] at he
  obtain ⟨e1, e2, e3⟩ := he
  obtain ⟨cs, c1, c2, c3⟩ := run_resultVar (P := P) r _ _ hvs
  obtain ⟨l1, l2⟩ := outList_spec _ _ _ _ hraw
  have hnd : (endToks σ.h.T vs raw).Nodup := tokl_nodup _ _ _ (tokl_nodup _ _ _ List.nodup_nil)
  have hB : Pairs (numb 0 (endToks σ.h.T vs raw)) := numb_pairs _ _ hnd
  have hm : ∀ b o v, pm G w b o = some v → pm (G.trim (lentK ins.length) (numb 0 (endToks σ.h.T vs raw))) w b o = some v := fun b o v hv => pm_trim hB hv
  have hf : ∀ id ver hb, own1 id = true → look σ.h.H id = some (ver, hb) → (G.trim (lentK ins.length) (numb 0 (endToks σ.h.T vs raw))).own (G.ι id) = .free := by
    intro id ver hb hid hl
    rw [trim_obj (r.wf.objs id ver hb hl).1, if_neg]
    rintro ⟨hk, _⟩
    simp [own1] at hid; simp [lentK] at hk; omega
  have hlo : outs.length = raw.length := by rw [e3]; simp [finOuts]
  have inK : ∀ id, lentK ins.length id = true → 10000 ≤ id ∧ id - 10000 < raw.length := by
    intro id hk; simp [lentK] at hk; omega
  have nms : Nms G σ.h (G.trim (lentK ins.length) (numb 0 (endToks σ.h.T vs raw))) (hOut outs n1) (endFo σ.h.H ins.length) (endFt σ.h.T (endToks σ.h.T vs raw)) := by
    refine trim_nms hB ?_ ?_
    · intro id v hb hk hl
      obtain ⟨h1, h2⟩ := inK id hk
      have h3 := l2 (id - 10000) _ (List.getElem?_eq_getElem h2)
      rw [show 10000 + (id - 10000) = id by omega, hl] at h3
      simp only [Option.some.injEq, Prod.mk.injEq] at h3
      have h4 : id - 10000 < outs.length := by omega
      exact ⟨_, (look_objsH _ _ _ _ _).2 ⟨h3.1, h1, List.getElem?_eq_getElem h4⟩⟩
    · intro t k v hk _
      obtain ⟨h1, h2⟩ := numb_ge _ _ _ _ hk
      refine look_toksT.2 ⟨rfl, by omega, ?_⟩
      have := (List.getElem?_eq_some_iff.1 h2).1
      omega
  refine ⟨_, ?_, by omega, G.trim (lentK ins.length) (numb 0 (endToks σ.h.T vs raw)), trim_ext hB r.ext, ⟨fun b hb => trim_fresh r.wf b hb, fun b k hb => trim_rows hB r.wf b k hb, ?_⟩, ?_, retV_rep (cs := cs) ?_ ?_⟩
  · rw [results_eq, ← Array.toArray_toList (xs := fn.results), List.mapM_toArray]
    simp only [Sem.run_bind, Sem.run_map]
    have hc1 := c1
    rw [hc1]
    simp
  · intro id ver hb hl
    obtain ⟨rfl, h1, h2⟩ := (look_objsH _ _ _ _ _).1 hl
    have h3 : id - 10000 < raw.length := by have := (List.getElem?_eq_some_iff.1 h2).1; omega
    obtain ⟨x, hx⟩ : ∃ x, raw[id - 10000]? = some x := ⟨_, List.getElem?_eq_getElem h3⟩
    have h4 := l2 (id - 10000) _ hx
    rw [show 10000 + (id - 10000) = id by omega] at h4
    obtain ⟨o1, o2, o3⟩ := r.wf.objs id 0 _ h4
    have hk : lentK ins.length id = true := by simp [lentK]; omega
    have hbe : hb = x.fin σ.h.H (endFo σ.h.H ins.length) (endFt σ.h.T (endToks σ.h.T vs raw)) := by
      rw [e3] at h2
      simp only [finOuts, List.getElem?_map, hx, Option.map_some, Option.some.injEq] at h2
      exact h2.symm
    refine ⟨?_, o2, ?_⟩
    · show (G.trim _ _).own (G.ι id) = _
      rw [trim_obj o1, if_pos ⟨hk, rfl⟩]
    · rw [hbe]; exact HRep.fin r.wf nms hm hf o3
  · intro i hi
    obtain ⟨hb0, h5⟩ : ∃ hb, ins[i]? = some hb := ⟨_, List.getElem?_eq_getElem (by omega)⟩
    obtain ⟨o1, _, _⟩ := g.wf.objs (10000 + i) 0 hb0 ((look_objsH _ _ _ _ _).2 ⟨rfl, by omega, by rw [show 10000 + i - 10000 = i by omega]; exact h5⟩)
    obtain ⟨_, ver, hb1, q1, q2⟩ := r.ids _ _ o1
    have h3 : i < raw.length := by omega
    have h4 := l2 i _ (List.getElem?_eq_getElem h3)
    rw [q1] at h4
    simp only [Option.some.injEq, Prod.mk.injEq] at h4
    exact q2 h4.1
  · rw [e2]; simp [finRes, c2]
  · intro i hi
    have hi' : i < vs.length := by rw [e2] at hi; simpa [finRes] using hi
    have e : res.getD i .junk = V.fin σ.h.H (endFo σ.h.H ins.length) (endFt σ.h.T (endToks σ.h.T vs raw)) (vs.getD i .junk) := by
      rw [e2]; simp [finRes, List.getD_eq_getElem?_getD, hi']
    rw [e]; exact fin_rep r.wf nms hm hf (c3 i hi')
end
end Go.Av
end
section
set_option linter.unusedVariables false
set_option linter.unusedSimpArgs false
set_option linter.unusedSectionVars false
namespace Go.Av
def keepM : List Bool → List V → List V
  | [], l => l.map fun _ => .junk
  | _ :: _, [] => []
  | b :: m, x :: l => (if b then x else .junk) :: keepM m l
@[simp] theorem keepM_yes (m : List Bool) (x : V) (l : List V) : keepM (true :: m) (x :: l) = x :: keepM m l := rfl
@[simp] theorem keepM_no (m : List Bool) (x : V) (l : List V) : keepM (false :: m) (x :: l) = .junk :: keepM m l := rfl
@[simp] theorem keepM_end (m : List Bool) : keepM m [] = [] := by cases m <;> rfl
theorem keepM_length : ∀ (m : List Bool) (l : List V), (keepM m l).length = l.length
  | [], l => by simp [keepM]
  | _ :: _, [] => rfl
  | b :: m, x :: l => by simp [keepM, keepM_length m l]
theorem keepM_get : ∀ (m : List Bool) (l : List V) (i : Nat), (keepM m l).getD i .junk = .junk ∨ (keepM m l).getD i .junk = l.getD i .junk
  | [], l, i => by
    left; simp only [keepM, List.getD_eq_getElem?_getD, List.getElem?_map]
    cases l[i]? <;> rfl
  | _ :: _, [], i => .inl (by simp)
  | b :: m, x :: l, 0 => by cases b; exact .inl rfl; exact .inr rfl
  | _ :: m, _ :: l, i + 1 => keepM_get m l i
def lentRoots : List (Nat × (Nat × HB)) → List V
  | [] => []
  | q :: l => if 10000 ≤ q.1 then .ptr q.1 q.2.1 0 :: lentRoots l else lentRoots l
def normIds (H : List (Nat × (Nat × HB))) (s : List V) : List Nat := reach H 400 [] (lentRoots H ++ s)
def normVer (id v : Nat) : Nat := if 10000 ≤ id then v else 0
def normFo (H : List (Nat × (Nat × HB))) (ids : List Nat) : Nm := trimFo (fun id => ids.contains id) H normVer
def normToks (h : HT) (s : List V) (ids : List Nat) : List Nat := V.tokl h.T [] (s ++ heldBy h.H ids)
def normFt (T : List (Nat × Nat)) (toks : List Nat) : Nm := nmT (numb 0 toks) T fun _ => 0
def normH (H : List (Nat × (Nat × HB))) (fo ft : Nm) : List Nat → List (Nat × (Nat × HB))
  | [] => []
  | id :: l => match look H id with
    | some x => (id, (normVer id x.1, x.2.ren fo ft)) :: normH H fo ft l
    | none => normH H fo ft l
def normAll (H : List (Nat × (Nat × HB))) (ids : List Nat) : Bool := H.all fun q => decide (q.1 < 10000) || ids.contains q.1
def normSt (h : HT) (s : List V) (ids toks : List Nat) : St :=
  ⟨V.rens (normFo h.H ids) (normFt h.T toks) s, ⟨normH h.H (normFo h.H ids) (normFt h.T toks) ids, toksT 0 toks.length⟩⟩
def normI (h : HT) (s : List V) (ids : List Nat) : Option St := if normAll h.H ids then some (normSt h s ids (normToks h s ids)) else none
def normS (h : HT) (s : List V) : Option St := normI h s (normIds h.H s)
def St.norm (σ : St) (m : List Bool) : Option St := normS σ.h (keepM m σ.s)
theorem look_normH {H : List (Nat × (Nat × HB))} {fo ft : Nm} : ∀ (ids : List Nat) (id : Nat) (x : Nat × HB), id ∈ ids → look H id = some x → look (normH H fo ft ids) id = some (normVer id x.1, x.2.ren fo ft)
  | [], id, x, h, hl => by simp at h
  | a :: l, id, x, h, hl => by
    simp only [normH]
    by_cases ha : a = id
    · subst ha; rw [hl]; simp [look]
    · have h' : id ∈ l := by simpa [Ne.symm ha] using h
      cases hx : look H a with
      | none => exact look_normH l id x h' hl
      | some y => simp only [look, if_neg ha]; exact look_normH l id x h' hl
theorem look_normH_mem {H : List (Nat × (Nat × HB))} {fo ft : Nm} : ∀ (ids : List Nat) (id ver : Nat) (hb : HB), look (normH H fo ft ids) id = some (ver, hb) → id ∈ ids
  | [], id, ver, hb, h => by simp [normH, look] at h
  | a :: l, id, ver, hb, h => by
    simp only [normH] at h
    cases hx : look H a with
    | none => rw [hx] at h; exact List.mem_cons_of_mem _ (look_normH_mem l id ver hb h)
    | some y =>
      rw [hx] at h
      simp only [look] at h
      by_cases ha : a = id
      · subst ha; simp
      · rw [if_neg ha] at h; exact List.mem_cons_of_mem _ (look_normH_mem l id ver hb h)
theorem look_mem {α : Type} : ∀ {l : List (Nat × α)} {k : Nat} {x : α}, look l k = some x → (k, x) ∈ l
  | (a, b) :: l, k, x, h => by
    simp only [look] at h
    by_cases ha : a = k
    · rw [if_pos ha] at h; simp only [Option.some.injEq] at h; subst ha h; simp
    · rw [if_neg ha] at h; exact List.mem_cons_of_mem _ (look_mem h)
section
variable [Tables] {P : Program} {G0 G : Gh} {w0 w : World} {σ τ : St} {a : Act}
theorem Rl.norm (m : List Bool) (hn : σ.norm m = some τ) (r : Rl G0 w0 σ G a w) : ∃ G', Rl G0 w0 τ G' a w := by
  unfold St.norm normS at hn
  generalize hs : keepM m σ.s = s at hn
  generalize hids : normIds σ.h.H s = ids at hn
  unfold normI at hn
  split at hn
  · rename_i hall
    simp only [Option.some.injEq] at hn
    generalize htk : normToks σ.h s ids = toks at hn
    have hnd : toks.Nodup := by rw [← htk]; exact tokl_nodup _ _ _ List.nodup_nil
    have hB : Pairs (numb 0 toks) := numb_pairs _ _ hnd
    have hthere : ∀ id ∈ ids, (look σ.h.H id).isSome := by rw [← hids]; exact reach_there _ _ _ _ (by simp)
    have hm : ∀ b o v, pm G w b o = some v → pm (G.trim (fun id => ids.contains id) (numb 0 toks)) w b o = some v := fun b o v hv => pm_trim hB hv
    have nms : Nms G σ.h (G.trim (fun id => ids.contains id) (numb 0 toks)) τ.h (normFo σ.h.H ids) (normFt σ.h.T toks) := by
      refine trim_nms hB ?_ ?_
      · intro id v hb hk hl
        have hk : id ∈ ids := by simpa using hk
        rw [← hn]
        exact ⟨_, look_normH _ _ _ hk hl⟩
      · intro t k v hk _
        rw [← hn]
        obtain ⟨h1, h2⟩ := numb_ge _ _ _ _ hk
        refine look_toksT.2 ⟨rfl, by omega, ?_⟩
        have := (List.getElem?_eq_some_iff.1 h2).1
        omega
    have hlen : τ.s.length = σ.s.length := by rw [← hn, ← hs]; simp [normSt, rens_length, keepM_length]
    refine ⟨G.trim (fun id => ids.contains id) (numb 0 toks), r.defers, by rw [hlen]; exact r.size, ?_, ⟨fun b hb => trim_fresh r.wf b hb, fun b k hb => trim_rows hB r.wf b k hb, ?_⟩, trim_ext hB r.ext, ?_, r.glob⟩
    · intro i hi
      rw [hlen] at hi
      have e : τ.s.getD i .junk = V.ren (normFo σ.h.H ids) (normFt σ.h.T toks) (s.getD i .junk) := by rw [← hn]; exact rens_get _ _
      rw [e]
      refine Rep.ren nms hm ?_
      rcases keepM_get m σ.s i with h | h
      · rw [hs] at h; rw [h]; exact .junk _
      · rw [hs] at h; rw [h]; exact r.slots i hi
    · intro id ver hb hl
      have hl' : look (normH σ.h.H (normFo σ.h.H ids) (normFt σ.h.T toks) ids) id = some (ver, hb) := by rw [← hn] at hl; exact hl
      have hmem := look_normH_mem _ _ _ _ hl'
      obtain ⟨⟨c, hb0⟩, hx⟩ := Option.isSome_iff_exists.1 (hthere id hmem)
      rw [look_normH _ _ _ hmem hx] at hl'
      simp only [Option.some.injEq, Prod.mk.injEq] at hl'
      obtain ⟨rfl, rfl⟩ := hl'
      obtain ⟨o1, o2, o3⟩ := r.wf.objs id c hb0 hx
      refine ⟨?_, o2, o3.ren nms hm⟩
      show (G.trim _ _).own (G.ι id) = _
      rw [trim_obj o1, if_pos ⟨by simpa using hmem, rfl⟩]
    · intro b id hb
      obtain ⟨h0, ver, hb1, h1, h2⟩ := r.ids b id hb
      refine ⟨h0, ver, ?_⟩
      have hmem : id ∈ ids := by
        unfold normAll at hall
        rw [List.all_eq_true] at hall
        have := hall _ (look_mem h1)
        simp only [Bool.or_eq_true, decide_eq_true_eq, List.contains_iff_mem] at this
        rcases this with h | h
        · omega
        · exact h
      rw [← hn]
      have := look_normH (fo := normFo σ.h.H ids) (ft := normFt σ.h.T toks) _ _ _ hmem h1
      simp only [normVer, if_pos h0] at this
      exact ⟨_, this, h2⟩
  · simp at hn
theorem AW.norm {c : Code} {Q : Exit → St → Prop} (m : List Bool) (hn : σ.norm m = some τ) (h : AW P c Q τ) : AW P c Q σ := by
  intro G0 w0 G a w ht r
  obtain ⟨G', r'⟩ := r.norm m hn
  exact h G0 w0 G' a w ht r'
end
end Go.Av
end
section
set_option linter.unusedVariables false
set_option linter.unusedSimpArgs false
set_option linter.unusedSectionVars false
namespace Go.Av
def PV.atom : PV → Bool
  | .bool _ => true
  | .int _ _ => true
  | .str _ => true
  | .ptr0 => true
  | .iface0 => true
  | _ => false
def PV.flat : PV → Bool
  | .agg (.ints _ _) => true
  | .agg (.strs _) => true
  | .agg (.vals _ l) => l.all PV.atom
  | x => x.atom
def flatV : V → Bool
  | .p x => x.flat
  | _ => false
def flats (l : List V) : Bool := l.all flatV
theorem atom_rep {m m' : Nat → Nat → Option Value} {x : PV} {v : Value} (h : x.atom = true) (r : RepP m x v) : RepP m' x v := by
  cases r <;> first | exact .bool _ | exact .int _ _ | exact .str _ | exact .ptr0 | exact .iface0 | (simp [PV.atom] at h)
theorem flat_rep {m m' : Nat → Nat → Option Value} {x : PV} {v : Value} (h : x.flat = true) (r : RepP m x v) : RepP m' x v := by
  cases x with
  | agg r0 =>
    cases r with
    | agg _ vs f hs hf h1 hr =>
      refine .agg r0 vs f hs hf h1 fun i hi => ?_
      cases r0 with
      | ints k l => exact atom_rep rfl (hr i hi)
      | strs l => exact atom_rep rfl (hr i hi)
      | vals s l =>
        simp only [PV.flat, List.all_eq_true] at h
        simp only [Row.len] at hi
        refine atom_rep (m := m) ?_ (hr i hi)
        simp only [Row.elem, List.getD_eq_getElem?_getD, List.getElem?_eq_getElem hi, Option.getD_some]
        exact h _ (List.getElem_mem hi)
  | _ => exact atom_rep h r
def anyK (_ : Nat) : Bool := true
def show1 (H : List (Nat × (Nat × HB))) : V → Option PV
  | .p x => some x
  | .row r _ _ nl => some (.sl r nl)
  | x => deep anyK H 9 x
def shows (H : List (Nat × (Nat × HB))) : List V → Option (List PV)
  | [] => some []
  | x :: l => match show1 H x, shows H l with
    | some y, some m => some (y :: m)
    | _, _ => none
def Gh.shown (G : Gh) : Gh :=
  { G with own := fun b => match G.own b with
      | .free => .free
      | .hid n => .hid n
      | .obj _ => .free
      | .row t => .hid (G.tend t) }
def Gh.back0 (G G1 : Gh) (n0 : Nat) : Gh :=
  { G with own := fun b => if b < n0 then G.own b else match G1.own b with
      | .hid n => .hid n
      | _ => .free }
section
variable {G G1 : Gh} {h : HT} {w w1 : World}
theorem shown_still (b : Nat) : (G.shown.own b).still = true := by
  simp only [Gh.shown]; cases G.own b <;> rfl
theorem pm_shown {b o : Nat} {v : Value} (hv : pm G w b o = some v) : pm G.shown w b o = some v := by
  have hc := pm_cell hv
  cases ho : G.own b with
  | free => have e : G.shown.own b = .free := by simp only [Gh.shown, ho]
            unfold pm; rw [e]; exact hc
  | hid n => have e : G.shown.own b = .hid n := by simp only [Gh.shown, ho]
             unfold pm at hv ⊢; rw [e]; rw [ho] at hv; exact hv
  | obj id => have e : G.shown.own b = .free := by simp only [Gh.shown, ho]
              unfold pm; rw [e]; exact hc
  | row t => have e : G.shown.own b = .hid (G.tend t) := by simp only [Gh.shown, ho]
             unfold pm at hv ⊢; rw [e]; rw [ho] at hv; exact hv
theorem shows_get (wf : WF G h w) : ∀ (E : List V) (ps : List PV) (vs : List Value), shows h.H E = some ps → (∀ i, i < E.length → Rep G h w (E.getD i .junk) (vs.getD i undef)) →
    ps.length = E.length ∧ ∀ i, i < E.length → RepP (pm G.shown w) (ps.getD i .ptr0) (vs.getD i undef)
  | [], ps, vs, h, hr => by simp [shows] at h; subst h; simp
  | x :: l, ps, vs, hh, hr => by
    simp only [shows] at hh
    split at hh
    · rename_i y m hy hm
      simp only [Option.some.injEq] at hh; subst hh
      have hx : RepP (pm G.shown w) y (vs.getD 0 undef) := by
        have h0 := hr 0 (by simp)
        simp only [List.getD_cons_zero] at h0
        generalize vs.getD 0 undef = v0 at h0 ⊢
        unfold show1 at hy
        split at hy
        · simp only [Option.some.injEq] at hy; subst hy
          cases h0 with | p r => exact r.mono fun b o v hv => pm_shown hv
        · simp only [Option.some.injEq] at hy; subst hy
          cases h0 with
          | row _ _ _ cur _ a cap hc hle hr ht => exact hr.mono fun b o v hv => pm_shown hv
        · exact deep_rep wf (fun b o v hv => pm_shown hv) (fun id ver hb _ hl => by simp only [Gh.shown, (wf.objs id ver hb hl).1]) 9 _ y _ hy h0
      obtain ⟨q1, q2⟩ := shows_get wf l m vs.tail hm (fun i hi => by
        have := hr (i + 1) (by simpa using hi)
        simp only [List.getD_cons_succ] at this
        cases vs with
        | nil => simpa using this
        | cons a t => simpa using this)
      refine ⟨by simp [q1], ?_⟩
      intro i hi
      cases i with
      | zero => simpa using hx
      | succ i =>
        have := q2 i (by simpa using hi)
        cases vs with
        | nil => simpa using this
        | cons a t => simpa using this
    · simp at hh
theorem shown_goes [Tables] (wf : WF G h w) (hg : ∀ g r, Tables.gl g = some r → RepP (pm G w) (.eptr r 0 0) (.pointer (some ⟨g, 0, none⟩))) {E : List V} {ps : List PV} {vs : List Value}
    (hl : E.length = vs.length) (hr : ∀ i, i < E.length → Rep G h w (E.getD i .junk) (vs.getD i undef)) (hs : shows h.H E = some ps) : Goes G.shown w (ps.map .p) [] 0 vs := by
  obtain ⟨q1, q2⟩ := shows_get wf E ps vs hs hr
  refine ⟨⟨?_, ?_, ?_⟩, ?_, fun g r hgr => (hg g r hgr).mono fun b o v hv => pm_shown hv, by simp [q1, hl], ?_⟩
  · intro b hb; simp only [Gh.shown, wf.fresh b hb]
  · intro b t hb; simp only [Gh.shown] at hb; cases ho : G.own b <;> rw [ho] at hb <;> simp at hb
  · intro id ver hb hl; simp [hIn, objsH, look] at hl
  · intro b id hb; simp only [Gh.shown] at hb; cases ho : G.own b <;> rw [ho] at hb <;> simp at hb
  · intro i hi
    simp only [List.length_map] at hi
    have e : (ps.map V.p).getD i .junk = .p (ps.getD i .ptr0) := by simp [List.getD_eq_getElem?_getD, hi]
    rw [e]; exact .p (q2 i (by omega))
theorem shown_back [Tables] (wf : WF G h w) {res : List V} {v : Value} (hf : flats res = true) (hc : Came G.shown w 0 res [] 0 v w1) :
    ∃ G', Rep G' h w1 (retV res) v ∧ Keeps G h w G' h w1 ∧ Ext G w G' w1 ∧ WF G' h w1 := by
  obtain ⟨_, G1, hext, wf1, _, hr⟩ := hc
  have hheap : ∀ b, b < w.heap.size → w1.heap[b]? = w.heap[b]? := fun b hb => (hext.free b hb (shown_still b)).2
  have hown : ∀ b, b < w.heap.size → (G.back0 G1 w.heap.size).own b = G.own b := fun b hb => by simp only [Gh.back0, if_pos hb]
  have hmem : ∀ b o v, pm G w b o = some v → pm (G.back0 G1 w.heap.size) w1 b o = some v := by
    intro b o v hv
    have hlt := pm_lt hv
    have e1 : w1.cell? ⟨b, o, none⟩ = w.cell? ⟨b, o, none⟩ := by simp only [World.cell?, hheap b hlt]
    unfold pm at hv ⊢
    rw [hown b hlt, e1]; exact hv
  have hk : Keeps G h w (G.back0 G1 w.heap.size) h w1 := by
    refine ⟨hmem, fun t cur ht => ⟨cur, ht, Nat.le_refl _, fun _ => ⟨rfl, rfl, fun ho => ?_⟩⟩, fun id cur hb hl => ⟨cur, hb, hl, Nat.le_refl _, fun _ => rfl⟩, hext.shp⟩
    have hlt : G.τ t < w.heap.size := by
      rcases Nat.lt_or_ge (G.τ t) w.heap.size with h1 | h1
      · exact h1
      · rw [wf.fresh _ h1] at ho; exact absurd ho (by simp)
    exact ⟨(hown _ hlt).trans ho, fun vs ty fz h0 => (hheap _ hlt).trans h0⟩
  have one : ∀ (x : V) (u : Value), flatV x = true → Rep G1 (hOut [] 0) w1 x u → Rep (G.back0 G1 w.heap.size) h w1 x u := by
    intro x u hx hu
    cases x with
    | p y => cases hu with | p ru => exact .p (flat_rep hx ru)
    | _ => simp [flatV] at hx
  refine ⟨G.back0 G1 w.heap.size, ?_, hk, ⟨hext.os, hext.tape, hext.output, hext.size, fun b hb _ => ⟨hown b hb, hheap b hb⟩, fun b o v _ hv => hmem b o v hv, hext.shp⟩, ?_, ?_, ?_⟩
  · unfold flats at hf
    rw [List.all_eq_true] at hf
    unfold retV at hr ⊢
    split at hr
    · rename_i x; exact one x v (hf x (by simp)) hr
    · cases hr with
      | tup l vs f hs hff hrr =>
        refine .tup _ vs f hs hff fun i hi => one _ _ ?_ (hrr i hi)
        rw [List.getD_eq_getElem?_getD, List.getElem?_eq_getElem hi]
        exact hf _ (List.getElem_mem hi)
  · intro b hb
    have : ¬ b < w.heap.size := by have := hext.size; omega
    simp only [Gh.back0, if_neg this, wf1.fresh b hb]
  · intro b t hb
    by_cases hlt : b < w.heap.size
    · rw [hown b hlt] at hb; exact wf.rows b t hb
    · simp only [Gh.back0, if_neg hlt] at hb
      split at hb <;> simp at hb
  · intro id ver hb hl
    obtain ⟨o1, o2, o3⟩ := wf.objs id ver hb hl
    exact ⟨(hown _ o2).trans o1, Nat.lt_of_lt_of_le o2 hext.size, o3.mono hk (hheap _ o2)⟩
end
end Go.Av
end
section
set_option linter.unusedVariables false
set_option linter.unusedSimpArgs false
set_option linter.unusedSectionVars false
namespace Go.Av
abbrev Prim := List V → HT → Nat → Option (V × HT)
def TurnedTo (G : Gh) (h : HT) (w : World) (v : V) (h' : HT) (u : Value) (w' : World) : Prop :=
  ∃ G', Rep G' h' w' v u ∧ Keeps G h w G' h' w' ∧ Ext G w G' w' ∧ WF G' h' w'
def PrimOk [Tables] (P : Program) (f : FuncId) (pr : Prim) : Prop :=
  ∀ (G : Gh) (h : HT) (w : World) (E : List V) (vs : List Value) (d : Nat) (v : V) (h' : HT), WF G h w →
    (∀ g r, Tables.gl g = some r → RepP (pm G w) (.eptr r 0 0) (.pointer (some ⟨g, 0, none⟩))) → E.length = vs.length →
    (∀ i, i < E.length → Rep G h w (E.getD i .junk) (vs.getD i undef)) → pr E h d = some (v, h') →
    ((callFunc f vs.toArray).run P w = .ok (.enter f vs.toArray) w ∧ Calls P f vs.toArray w fun e w' => ∃ u, e = .returned u ∧ TurnedTo G h w v h' u w') ∨
    (∃ u w', (callFunc f vs.toArray).run P w = .ok (.value u) w' ∧ TurnedTo G h w v h' u w')
end Go.Av
end
