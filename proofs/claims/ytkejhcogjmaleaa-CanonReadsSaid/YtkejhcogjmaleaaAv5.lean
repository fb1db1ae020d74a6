/- What the walk over this seat's program leans on, part 5 of 5: values without addresses, and what each operation, region, loop and call does to them. Conditions: none. -/
import Derived.Test.YtkejhcogjmaleaaAv4
import Derived.Lib.Overlaps

section
set_option linter.unusedVariables false
set_option linter.unusedSimpArgs false
set_option linter.unusedSectionVars false
namespace Go.Av
section
variable [Tables]

/-! ## Functions with several ways; which one is the world's choice -/

def PrimN (P : Program) (f : FuncId) (pr : Nat → Prim) : Prop :=
  ∀ (G : Gh) (h : HT) (w : World) (E : List V) (vs : List Value) (d : Nat), WF G h w →
    (∀ g r, Tables.gl g = some r → RepP (pm G w) (.eptr r 0 0) (.pointer (some ⟨g, 0, none⟩))) → E.length = vs.length →
    (∀ i, i < E.length → Rep G h w (E.getD i .junk) (vs.getD i undef)) → (∀ c, c ≤ 9223372036854775807 → (pr c E h d).isSome = true) →
    ((callFunc f vs.toArray).run P w = .ok (.enter f vs.toArray) w ∧ Calls P f vs.toArray w fun e w' => ∃ u c v h', c ≤ 9223372036854775807 ∧ e = .returned u ∧ pr c E h d = some (v, h') ∧ TurnedTo G h w v h' u w')

variable {P : Program} {ops : Array Oper} {G0 G : Gh} {w0 w : World} {σ : St} {a : Act}

def wayStep (P : Program) (o : Oper) (f : FuncId) (args : Array Operand) (σ : St) (K : St → Prop) : Prop :=
  2 ≤ Tables.mode f ∧ ∃ pr : Nat → Prim, PrimN P f pr ∧ ∀ c, c ≤ 9223372036854775807 → bindO (pr c (args.toList.map σ.eval) σ.h (o.dst.getD 0)) fun v h' => K (σ.put o.dst v h')

theorem wayStep_of {o : Oper} {f : FuncId} {args : Array Operand} {K : St → Prop} {pr : Nat → Prim} (hm : 2 ≤ Tables.mode f) (hp : PrimN P f pr)
    (h : ∀ c, c ≤ 9223372036854775807 → bindO (pr c (args.toList.map σ.eval) σ.h (o.dst.getD 0)) fun v h' => K (σ.put o.dst v h')) : wayStep P o f args σ K := ⟨hm, pr, hp, h⟩

theorem wayStep_wp {i : Nat} {o : Oper} {f : FuncId} {args : Array Operand} {K : St → Prop} {Q : Exit → Act → World → Prop} {next : Act → World → Prop} (hi : ops[i]? = some o) (hg : o.guard = none) (hop : callOf o.op = some (f, args))
    (r : Rl G0 w0 σ G a w) (hs : wayStep P o f args σ K) (hn : ∀ σ' G' a' w', K σ' → Rl G0 w0 σ' G' a' w' → next a' w') : wpOp P ops Q i next a w := by
  obtain ⟨_, pr, hpr, hall⟩ := hs
  have hglob : ∀ g r, Tables.gl g = some r → RepP (pm G w) (.eptr r 0 0) (.pointer (some ⟨g, 0, none⟩)) := fun g rr hg => (r.glob g rr hg).mono fun b o v hv => r.ext.pm hv
  obtain ⟨ts, hop⟩ := callOf_spec hop
  have hexec : execOp a.eval o = callFunc f (args.map a.eval) := by
    unfold execOp
    rw [hop]
    simp only [resolve, Act.eval, Deferred.ofValue]
    show callFunc f ((#[] ++ args.map a.eval) ++ #[]) = _
    simp
  have hvs : args.map a.eval = (args.toList.map a.eval).toArray := by apply Array.ext'; simp
  have hE : ∀ i, i < (args.toList.map σ.eval).length → Rep G σ.h w ((args.toList.map σ.eval).getD i .junk) ((args.toList.map a.eval).getD i undef) := by
    intro i hi
    simp only [List.length_map] at hi
    simp only [List.getD_eq_getElem?_getD, List.getElem?_map, List.getElem?_eq_getElem hi, Option.map_some, Option.getD_some]
    exact r.eval _
  have hsome : ∀ c, c ≤ 9223372036854775807 → ∃ v h', pr c (args.toList.map σ.eval) σ.h (o.dst.getD 0) = some (v, h') ∧ K (σ.put o.dst v h') := by
    intro c hc
    have h1 := hall c hc
    cases hv : pr c (args.toList.map σ.eval) σ.h (o.dst.getD 0) with
    | none => rw [hv] at h1; exact h1.elim
    | some q => rw [hv] at h1; exact ⟨q.1, q.2, rfl, h1⟩
  obtain ⟨hrun, hcalls⟩ := hpr G σ.h w _ _ (o.dst.getD 0) r.wf hglob (by simp) hE (fun c hc => by obtain ⟨v, h', e, _⟩ := hsome c hc; rw [e]; rfl)
  unfold wpOp
  rw [hi]
  simp only
  have hw : Region.wanted o (yielded ops a.tmps) = true := by simp [Region.wanted, hg]
  rw [if_pos hw]
  refine .inl ?_
  unfold Oper.wp
  rw [hexec, hvs, hrun, Oper.upon_enter]
  refine hcalls.mono ?_
  rintro e w' ⟨u, c, v, h', hc, rfl, hp, G', y1, y2, y3, y4⟩
  obtain ⟨v2, h2, e2, hk⟩ := hsome c hc
  rw [e2] at hp
  simp only [Option.some.injEq, Prod.mk.injEq] at hp
  obtain ⟨rfl, rfl⟩ := hp
  exact hn _ _ _ _ hk (r.put o.dst y2 y1 y4 y3)

/-- Operations in their order, the one with this number being such a call. -/
theorem way_wpOps {n : Nat} {o0 : Oper} {f : FuncId} {args : Array Operand} (h0 : ops[n]? = some o0) (hg : o0.guard = none) (hop : callOf o0.op = some (f, args)) {K : St → Prop} {Q : Exit → Act → World → Prop}
    (hn : ∀ σ' G' a' w', K σ' → Rl G0 w0 σ' G' a' w' → Q .normal a' w') (post : List Oper) (lpost : List Nat) (hpl : lpost.length = post.length) (hpi : ∀ (k i : Nat), lpost[k]? = some i → ops[i]? = post[k]?) :
    ∀ (l : List Nat) (os : List Oper) (σ : St) (G : Gh) (a : Act) (w : World), l.length = os.length → (∀ (k i : Nat), l[k]? = some i → ops[i]? = os[k]?) → Rl G0 w0 σ G a w →
      asteps P ops os σ (fun σ1 => wayStep P o0 f args σ1 fun σ2 => asteps P ops post σ2 K) → wpOps P ops Q (l ++ n :: lpost) a w
  | [], os, σ, G, a, w, hl, hi, r, hs => by
    have : os = [] := by cases os <;> simp_all
    subst this
    rw [List.nil_append, wpOps_cons]
    simp only [asteps] at hs
    exact wayStep_wp h0 hg hop r hs fun σ' G' a' w' hk r' => asteps_wpOps hn lpost post σ' G' a' w' hpl hpi r' hk
  | i :: l, os, σ, G, a, w, hl, hi, r, hs => by
    cases os with
    | nil => simp at hl
    | cons o os =>
      rw [List.cons_append, wpOps_cons]
      have h1 : ops[i]? = some o := by simpa using hi 0 i rfl
      refine gstep_wp h1 r hs ?_
      intro σ' G' a' w' hk r'
      exact way_wpOps h0 hg hop hn post lpost hpl hpi l os σ' G' a' w' (by simpa using hl) (fun k i' hk' => by
        have := hi (k + 1) i' (by simpa using hk'); simpa using this) r' hk

theorem AW.regWay {id : Nat} (n : Nat) {o0 : Oper} {f : FuncId} {args : Array Operand} {Q : Exit → St → Prop} (h0 : ops[n]? = some o0) (hg : o0.guard = none) (hop : callOf o0.op = some (f, args))
    (h : runE P ops (ops.toList.take n) σ fun σ1 => wayStep P o0 f args σ1 fun σ2 => runE P ops (ops.toList.drop (n + 1)) σ2 (Q .normal)) : AW P (.region id ops false) Q σ := by
  intro G0 w0 G a w hst r
  refine wp_region ?_
  have hlt : n < ops.size := (Array.getElem?_eq_some_iff.1 h0).1
  have hsplit : List.range ops.size = List.range n ++ n :: (List.range (ops.size - (n + 1))).map (n + 1 + ·) := by
    apply List.ext_getElem
    · simp; omega
    · intro k h1 h2
      simp only [List.getElem_range]
      rw [List.getElem_append]
      split
      · simp
      · rename_i hk
        simp only [List.length_range] at hk ⊢
        rw [List.getElem_cons]
        split
        · omega
        · simp; omega
  rw [hsplit]
  refine way_wpOps (K := Q .normal) h0 hg hop (fun σ' G' a' w' hk r' => ⟨σ', G', hk, r'⟩) (ops.toList.drop (n + 1)) _ (by simp) ?_ _ (ops.toList.take n) σ G a w (by simp; omega) ?_ r ?_
  · intro k i hk
    simp only [List.getElem?_map, Option.map_eq_some_iff] at hk
    obtain ⟨m, hm, rfl⟩ := hk
    obtain ⟨hm1, hm2⟩ := List.getElem?_eq_some_iff.1 hm
    simp only [List.getElem_range] at hm2
    subst hm2
    rw [List.getElem?_drop, Array.getElem?_toList]
  · intro k i hk
    obtain ⟨hm1, hm2⟩ := List.getElem?_eq_some_iff.1 hk
    simp only [List.getElem_range, List.length_range] at hm1 hm2
    subst hm2
    rw [List.getElem?_take, if_pos hm1, Array.getElem?_toList]
  · refine runE_asteps _ _ _ ?_
    have mono : ∀ (l : List Oper) (σ : St) (K K' : St → Prop), (∀ σ, K σ → K' σ) → runE P ops l σ K → runE P ops l σ K' := by
      intro l
      induction l with
      | nil => intro σ K K' hk h; exact hk _ h
      | cons o l ih =>
        intro σ K K' hk h
        simp only [runE] at h ⊢
        unfold guardE at h ⊢
        split at h
        · exact stepE_mono h fun σ hs => ih _ _ _ hk hs
        · split at h
          · exact h.elim
          · split at h
            · split at h
              · rename_i hb; rw [if_pos hb]; exact stepE_mono h fun σ hs => ih _ _ _ hk hs
              · rename_i hb; rw [if_neg hb]; exact ih _ _ _ hk h
            · exact ih _ _ _ hk h
            · exact h.elim
    refine mono _ _ _ _ ?_ h
    rintro σ1 ⟨hm, pr, hp, h1⟩
    refine ⟨hm, pr, hp, fun c hc => ?_⟩
    have h2 := h1 c hc
    cases hv : pr c (args.toList.map σ1.eval) σ1.h (o0.dst.getD 0) with
    | none => rw [hv] at h2; exact h2.elim
    | some q => rw [hv] at h2; exact runE_asteps _ _ _ h2
/-- A region with such a call, then the rest. -/
theorem AW.regWaySeq {id : Nat} {y : Code} (n : Nat) {o0 : Oper} {f : FuncId} {args : Array Operand} {Q : Exit → St → Prop} (h0 : ops[n]? = some o0) (hg : o0.guard = none) (hop : callOf o0.op = some (f, args))
    (h : runE P ops (ops.toList.take n) σ fun σ1 => wayStep P o0 f args σ1 fun σ2 => runE P ops (ops.toList.drop (n + 1)) σ2 (AW P y Q)) : AW P (.seq (.region id ops false) y) Q σ :=
  AW.seq (AW.regWay n h0 hg hop h)
theorem AW.regWaySeqK {id : Nat} {y : Code} (n : Nat) {o0 : Oper} {f : FuncId} {args : Array Operand} {Q : Exit → St → Prop} (h0 : ops[n]? = some o0) (hg : o0.guard = none) (hop : callOf o0.op = some (f, args))
    (h : ∀ L, L = AW P y Q → ∀ K, K = (fun σ1 => wayStep P o0 f args σ1 fun σ2 => runE P ops (ops.toList.drop (n + 1)) σ2 L) → runE P ops (ops.toList.take n) σ K) : AW P (.seq (.region id ops false) y) Q σ :=
  AW.regWaySeq n h0 hg hop (h _ rfl _ rfl)
end
end Go.Av
end

section
set_option linter.unusedVariables false
set_option linter.unusedSimpArgs false
set_option linter.unusedSectionVars false
namespace Go.Av

/-! ## slices.Clone, slices.Insert ahead of all -/

/-- Slices in two blocks, the second one in plain memory. -/
theorem run_overlaps_own {P : Program} (w : World) (tS tR e : TypeId) (ht : P.underlying tS = some (.slice e)) (size : Nat) (hz : ∀ w, (Go.sizeOf e).run P w = .ok size w)
    (a b : Addr) (la ca lb cb : Nat) (hne : a.block ≠ b.block) (tA tB : TypeId) (kA kB : Nat)
    (hsa : w.shape? a.block = some (tA, kA)) (hsb : w.shape? b.block = some (tB, kB)) (hkA : kA ≠ 0)
    (hfb : w.frozen? b = false) (hfe : w.frozen? { block := b.block, off := kB } = false) :
    (Extern.SlicesOverlaps.overlaps #[tS, tS] #[tR] #[.slice (some a) la ca, .slice (some b) lb cb]).run P w = .ok (.bool false) w := by
  have hnb : (a.block != b.block) = true := by simpa using hne
  have hnb' : (a.block == b.block) = false := by simpa using hne
  change Sem.run P (α := Value) (do
    let some t := (#[tS, tS] : Array TypeId)[0]? | stuck "slices.overlaps: no parameter types"
    let .slice elem ← underlying t | stuck "slices.overlaps: slice type expected"
    let size ← sizeOf elem
    match (some a : Option Addr), (some b : Option Addr) with
    | some a, some b =>
      if la = 0 ∨ lb = 0 ∨ size = 0 then pure (Value.bool false)
      else if a.block != b.block && (← frozen a) && (← frozen b) then unsupported .addressObserved
      else do
        if a.block != b.block then do
          noView a; noView b
          if ← mayBeOne a b then return Value.bool ((← choose (.extern "sameAddr.stringBytes" 2)) == 1)
        pure (Value.bool (a.block == b.block && a.off < b.off + lb * size && b.off < a.off + la * size))
    | _, _ => pure (Value.bool false)) w = _
  by_cases h0 : la = 0 ∨ lb = 0 ∨ size = 0
  · simp [run_underlying ht, hz, h0]
  · cases kA with
    | zero => exact absurd rfl hkA
    | succ kA =>
      cases hfa : w.frozen? a <;> cases hfae : w.frozen? { block := a.block, off := kA + 1 } <;>
        simp [run_underlying ht, hz, h0, hnb, hnb', frozen, noView, viewAt, mayBeOne, stringish, shape, Sem.run, hsa, hsb, hfb, hfe, hfa, hfae]

def zsl : PV := .sl (.ints .u8 []) true
theorem zsl_rep {m : Nat → Nat → Option Value} : RepP m zsl (.slice none 0 0) := .slNil _ rfl

structure SameW (w' w1 : World) : Prop where
  heap : w'.heap = w1.heap
  os : w'.os = w1.os
  tape : w'.tape = w1.tape
  output : w'.output = w1.output

theorem ext_same {G G' : Gh} {w w1 w2 : World} (hh : SameW w2 w1) (k : Ext G w G' w1) : Ext G w G' w2 := by
  obtain ⟨h1, h2, h3, h4⟩ := hh
  exact ⟨h2.trans k.os, h3.trans k.tape, h4.trans k.output, by rw [h1]; exact k.size, fun b hb hs => by rw [h1]; exact k.free b hb hs,
    fun b o v hb hv => by rw [pm_heap h1]; exact k.row b o v hb hv, fun b x hx => by simp only [World.shape?, h1]; exact k.shp b x hx⟩

/-- A pure row's cells. -/
theorem pure_row {m : Nat → Nat → Option Value} {cs : List PV} {v : Value} (hr : RepP m (.sl (.vals 1 cs) false) v) (h1 : cs.all PV.one = true) :
    ∃ (a : Addr) (cap : Nat) (f : Nat → Value), v = .slice (some a) cs.length cap ∧ (cs.length = 0 ∨ a.spot = none) ∧ ∀ i, i < cs.length → m a.block (a.off + i) = some (f i) ∧ RepP m (cs.getD i .ptr0) (f i) ∧ (f i).oneCell' = true := by
  cases hr with
  | sl _ a cap f hc ha hw hf h1' hr =>
    refine ⟨a, cap, fun i => f i 0, rfl, ha, ?_⟩
    intro i hi
    have e1 : (Row.vals 1 cs : Row PV).elem i = cs.getD i .ptr0 := rfl
    have o1 : (cs.getD i .ptr0).one = true := by
      rw [List.getD_eq_getElem?_getD, List.getElem?_eq_getElem hi]
      exact List.all_eq_true.1 h1 _ (List.getElem_mem hi)
    have r1 := hr i 0 hi Nat.zero_lt_one
    have c1 : ((Row.vals 1 cs : Row PV).elem i).cell 0 = cs.getD i .ptr0 := by rw [e1]; exact cell_one o1 0
    rw [c1] at r1
    have f1 := hf i 0 hi Nat.zero_lt_one
    simp only [Row.sz, Nat.mul_one, Nat.add_zero] at f1
    exact ⟨f1, r1, r1.oneCell o1⟩

def clonePrim (c : Nat) : Prim := fun E h d => match E with
  | [.p (.sl (.vals 1 cs) false)] => if cs.length ≠ 0 ∧ cs.length ≤ 1000 ∧ cs.all PV.one = true then
      some (.own d (nextVer h.H d) 0 cs.length (cs.length + (c - cs.length)), ⟨upd h.H d (nextVer h.H d, .row (.vals 1 (cs ++ List.replicate (c - cs.length) zsl))), h.T⟩) else none
  | _ => none

theorem clonePrim_ok [Tables] {P : Program} {f : FuncId} {ety : TypeId} (enter : ∀ args w, (callFunc f args).run P w = .ok (.enter f args) w)
    (run : ∀ (w : World) (b off cap : Nat) (xs : List Value), xs.length ≠ 0 → xs.length ≤ 1000 → (∀ j u, xs[j]? = some u → w.cell? ⟨b, off + j, none⟩ = some u) → (∀ u ∈ xs, u.oneCell' = true) →
      Calls P f #[.slice (some ⟨b, off, none⟩) xs.length cap] w fun e w' => ∃ c, xs.length + c ≤ 9223372036854775807 ∧ e = .returned (.slice (some ⟨w.heap.size + 1, 0, none⟩) xs.length (xs.length + c)) ∧
        SameW w' ((w.alloc (.cells #[] ety)).alloc (.cells (xs ++ List.replicate c (Value.slice none 0 0)).toArray ety))) : PrimN P f clonePrim := by
  intro G h w E vs d wf hg hlen hE hs
  refine ⟨enter _ _, ?_⟩
  have h0 := hs 0 (by omega)
  unfold clonePrim at h0
  split at h0
  · rename_i cs
    split at h0
    · rename_i hc
      obtain ⟨hc0, hc1, hc2⟩ := hc
      match vs, hlen with
      | [v0], _ =>
      have r0 := hE 0 (by simp)
      simp only [List.getD_cons_zero] at r0
      cases r0 with
      | p r0 =>
      obtain ⟨⟨b, off, sp⟩, cap, f0, rfl, ha, hcell⟩ := pure_row r0 hc2
      obtain rfl : sp = none := by rcases ha with h1 | h1; exact absurd h1 hc0; exact h1
      simp only at hcell
      have hxl : ((List.range cs.length).map f0).length = cs.length := by simp
      have hrun := run w b off cap ((List.range cs.length).map f0) (by rw [hxl]; exact hc0) (by rw [hxl]; exact hc1) (by
        intro j u hj
        simp only [List.getElem?_map, Option.map_eq_some_iff] at hj
        obtain ⟨m, hm, rfl⟩ := hj
        obtain ⟨hm1, hm2⟩ := List.getElem?_eq_some_iff.1 hm
        simp only [List.length_range] at hm1
        simp only [List.getElem_range] at hm2
        subst hm2
        exact pm_cell (hcell _ hm1).1) (by
        intro u hu
        obtain ⟨i, hi, rfl⟩ := List.mem_map.1 hu
        exact (hcell i (by simpa using hi)).2.2)
      rw [hxl] at hrun
      refine hrun.mono ?_
      rintro e w' ⟨c, hcb, rfl, hw⟩
      refine ⟨_, cs.length + c, .own d (nextVer h.H d) 0 cs.length (cs.length + c), _, hcb, rfl, by simp only [clonePrim, if_pos (And.intro hc0 (And.intro hc1 hc2)), Nat.add_sub_cancel_left]; rfl, ?_⟩
      obtain ⟨k1, e1, wf1⟩ := free_keeps wf (.cells #[] ety)
      have hsz : (w.alloc (.cells #[] ety)).heap.size = w.heap.size + 1 := by simp
      obtain ⟨k2, e2⟩ := made_keeps wf1 d (.row (.vals 1 (cs ++ List.replicate c zsl))) (.cells ((List.range cs.length).map f0 ++ List.replicate c (Value.slice none 0 0)).toArray ety)
      have wf2 := made_cells wf1 d (.row (.vals 1 (cs ++ List.replicate c zsl))) ((List.range cs.length).map f0 ++ List.replicate c (Value.slice none 0 0)).toArray ety rfl (by simp [HB.size, Row.len]) (by
        intro i hi
        simp only [HB.size, Row.len, List.length_append, List.length_replicate] at hi
        simp only [HB.get, Row.elem]
        by_cases hlt : i < cs.length
        · obtain ⟨p1, p2, p3⟩ := hcell i hlt
          refine ⟨f0 i, by simp [List.getElem?_append_left, hlt], p3, .p ?_⟩
          have : (cs ++ List.replicate c zsl).getD i .ptr0 = cs.getD i .ptr0 := by simp [List.getD_eq_getElem?_getD, List.getElem?_append_left hlt]
          rw [this]; exact p2.mono k1.mem
        · refine ⟨.slice none 0 0, ?_, rfl, .p ?_⟩
          · rw [List.getElem?_toArray, List.getElem?_append_right (by simp; omega)]
            simp [List.getElem?_replicate]; omega
          · have : (cs ++ List.replicate c zsl).getD i .ptr0 = zsl := by
              rw [List.getD_eq_getElem?_getD, List.getElem?_append_right (by omega), List.getElem?_replicate, if_pos (by omega)]; rfl
            rw [this]; exact zsl_rep)
      refine ⟨_, ?_, keeps_heap hw.heap (k1.trans k2), ext_same hw (e1.trans e2), wf_heap hw.heap wf2⟩
      refine .own _ _ _ _ _ _ _ _ (look_upd_same _ _ _) (Nat.le_refl _) (fun _ => ?_)
      simp only [Gh.made, if_pos, hsz]
    · simp at h0
  · simp at h0

/-- One slice of one element, as an argument. -/
def oneOf : V → Option PV
  | .row (.vals 1 [x]) _ _ false => some x
  | .p (.sl (.vals 1 [x]) false) => some x
  | _ => none

theorem oneOf_rep {G : Gh} {h : HT} {w : World} {y : V} {x : PV} {v : Value} (hy : oneOf y = some x) (h1 : x.one = true) (r : Rep G h w y v) :
    ∃ (b off cap : Nat) (u : Value), v = .slice (some ⟨b, off, none⟩) 1 cap ∧ pm G w b off = some u ∧ RepP (pm G w) x u ∧ u.oneCell' = true := by
  have key : RepP (pm G w) (.sl (.vals 1 [x]) false) v → ∃ (b off cap : Nat) (u : Value), v = .slice (some ⟨b, off, none⟩) 1 cap ∧ pm G w b off = some u ∧ RepP (pm G w) x u ∧ u.oneCell' = true := by
    intro hr
    obtain ⟨⟨b, off, sp⟩, cap, f, rfl, ha, hc⟩ := pure_row hr (by simpa using h1)
    obtain rfl : sp = none := by rcases ha with h2 | h2; simp at h2; exact h2
    obtain ⟨c1, c2, c3⟩ := hc 0 (by simp)
    exact ⟨b, off, cap, f 0, rfl, c1, c2, c3⟩
  unfold oneOf at hy
  split at hy
  · simp only [Option.some.injEq] at hy; subst hy
    cases r with
    | row _ _ _ _ _ _ _ _ _ hr _ => exact key hr
  · simp only [Option.some.injEq] at hy; subst hy
    cases r with
    | p hr => exact key hr
  · simp at hy

def insPrim : Prim := fun E h _ => match E with
  | [.own id ver off n cap, .p (.int .i64 z), y] => match look h.H id, oneOf y with
    | some (cur, .row (.vals 1 l)), some x =>
      if cur = ver ∧ off = 0 ∧ z = 0 ∧ n ≠ 0 ∧ n ≤ 1000 ∧ n ≤ l.length ∧ cap = l.length ∧ cap ≤ 9223372036854775807 ∧ l.all PV.one = true ∧ x.one = true then
        if n < cap then some (.own id ver 0 (n + 1) cap, ⟨upd h.H id (cur, .row (.vals 1 (x :: (l.take n ++ l.drop (n + 1))))), h.T⟩)
        else some (.p (.sl (.vals 1 (x :: l)) false), h)
      else none
    | _, _ => none
  | _ => none

theorem insPrim_ok [Tables] {P : Program} {f : FuncId} {ety : TypeId} (enter : ∀ args w, (callFunc f args).run P w = .ok (.enter f args) w)
    (grow : ∀ (w : World) (b vb voff vc : Nat) (xs : List Value) (u : Value) (ty : TypeId) (fz : Nat × Nat), xs.length ≠ 0 → xs.length ≤ 1000 → w.heap[b]? = some (.cells xs.toArray ty fz) → (∀ v ∈ xs, v.oneCell' = true) → vb ≠ b →
      w.cell? ⟨vb, voff, none⟩ = some u → u.oneCell' = true →
      Calls P f #[.slice (some ⟨b, 0, none⟩) xs.length xs.length, .int .i64 0, .slice (some ⟨vb, voff, none⟩) 1 vc] w fun e w' => ∃ k, e = .returned (.slice (some ⟨w.heap.size, 0, none⟩) (xs.length + 1) (xs.length + 1 + k)) ∧
        SameW w' (w.alloc (.cells (u :: xs ++ List.replicate k (Value.slice none 0 0)).toArray ety)))
    (room : ∀ (w : World) (b vb voff vc : Nat) (xs ys : List Value) (u : Value) (ty : TypeId) (fz : Nat × Nat), xs.length ≠ 0 → xs.length ≤ 1000 → ys.length ≠ 0 → xs.length + ys.length ≤ 9223372036854775807 →
      w.heap[b]? = some (.cells (xs ++ ys).toArray ty fz) → (∀ i, i < xs.length + ys.length + 1 → w.frozen? ⟨b, i, none⟩ = false) → (∀ v ∈ xs, v.oneCell' = true) → vb ≠ b → w.cell? ⟨vb, voff, none⟩ = some u → u.oneCell' = true →
      Calls P f #[.slice (some ⟨b, 0, none⟩) xs.length (xs.length + ys.length), .int .i64 0, .slice (some ⟨vb, voff, none⟩) 1 vc] w fun e w' => e = .returned (.slice (some ⟨b, 0, none⟩) (xs.length + 1) (xs.length + ys.length)) ∧
        SameW w' (World.withRow w b (u :: (xs ++ ys.drop 1)).toArray ty fz)) : PrimOk P f insPrim := by
  intro G h w E vs d v h' wf hg hlen hE hp
  refine .inl ⟨enter _ _, ?_⟩
  unfold insPrim at hp
  split at hp
  · rename_i id ver off n cap z y
    split at hp
    · rename_i cur l x hl hy
      split at hp
      · rename_i hc
        obtain ⟨rfl, rfl, rfl, hn0, hn1, hnl, rfl, hcap, hall, hx1⟩ := hc
        match vs, hlen with
        | [v0, v1, v2], _ =>
        have r0 := hE 0 (by simp)
        have r1 := hE 1 (by simp)
        have r2 := hE 2 (by simp)
        simp only [List.getD_cons_zero, List.getD_cons_succ] at r0 r1 r2
        obtain ⟨o1, o2, o3⟩ := wf.objs _ _ _ hl
        obtain ⟨blk, ty, fz, a1, a2, a3, a4⟩ := o3
        simp only [HB.size, Row.len] at a2 a3 a4
        cases r0 with
        | own _ _ _ _ _ cur' hb _ hc' hle hv =>
        rw [hl] at hc'
        simp only [Option.some.injEq, Prod.mk.injEq] at hc'
        obtain rfl := hv hc'.1
        cases r1 with
        | p r1 =>
        cases r1 with
        | int _ _ =>
        obtain ⟨vb, voff, vc, u, rfl, u1, u2, u3⟩ := oneOf_rep hy hx1 r2
        have hne : vb ≠ G.ι id := by
          intro e
          rw [e] at u1
          simp [pm, o1] at u1
        have hcell := pm_cell u1
        have hone : ∀ w ∈ blk.toList, w.oneCell' = true := by
          intro q hq
          obtain ⟨i, hi, rfl⟩ := List.mem_iff_getElem.1 hq
          simp only [Array.length_toList] at hi
          obtain ⟨q2, b1, b2, _⟩ := a3 i (by omega)
          rw [Array.getElem?_eq_getElem hi] at b1
          simp only [Option.some.injEq] at b1
          rw [Array.getElem_toList, b1]; exact b2
        have hrepE : ∀ i, i < l.length → ∃ q, blk.toList[i]? = some q ∧ RepP (pm G w) (l.getD i .ptr0) q := by
          intro i hi
          obtain ⟨q, b1, b2, b3⟩ := a3 i hi
          refine ⟨q, by rw [Array.getElem?_toList]; exact b1, ?_⟩
          simp only [HB.get, Row.elem] at b3
          cases b3 with | p b3 => exact b3
        have hbl : blk.toList.length = l.length := by rw [Array.length_toList]; exact a2
        split at hp
        · rename_i hlt
          simp only [Option.some.injEq, Prod.mk.injEq] at hp
          obtain ⟨rfl, rfl⟩ := hp
          have hsplit : blk = (blk.toList.take n ++ blk.toList.drop n).toArray := by rw [List.take_append_drop]
          have hxl : (blk.toList.take n).length = n := by rw [List.length_take]; omega
          have hyl : (blk.toList.drop n).length = l.length - n := by rw [List.length_drop]; omega
          have hrun := room w (G.ι id) vb voff vc (blk.toList.take n) (blk.toList.drop n) u ty fz (by omega) (by omega) (by omega) (by omega) (by rw [← hsplit]; exact a1) (by intro i hi; exact a4 i (by omega))
            (fun q hq => hone q (List.mem_of_mem_take hq)) hne hcell u3
          rw [hxl, hyl, show n + (l.length - n) = l.length by omega] at hrun
          refine hrun.mono ?_
          rintro e w' ⟨rfl, hw⟩
          refine ⟨_, rfl, ?_⟩
          have hnew : (u :: (blk.toList.take n ++ (blk.toList.drop n).drop 1)).length = l.length := by simp; omega
          obtain ⟨k1, k2, k3⟩ := turned (vs' := (u :: (blk.toList.take n ++ (blk.toList.drop n).drop 1)).toArray) (hb' := .row (.vals 1 (x :: (l.take n ++ l.drop (n + 1))))) wf hl rfl
            (by simp only [HB.size, Row.len, List.size_toArray, hnew, List.length_cons, List.length_append, List.length_take, List.length_drop]; omega)
            ⟨blk, a1, by simp only [List.size_toArray, hnew]; exact a2.symm⟩
            (by intro i hi; refine a4 i ?_; simp only [HB.size, Row.len, List.length_cons, List.length_append, List.length_take, List.length_drop] at hi; omega) (by
            intro i hi
            simp only [HB.size, Row.len, List.length_cons, List.length_append, List.length_take, List.length_drop] at hi
            simp only [HB.get, Row.elem]
            match i, hi with
            | 0, _ => exact ⟨u, rfl, u3, .p u2⟩
            | j + 1, hi =>
              simp only [List.getElem?_toArray, List.getElem?_cons_succ, List.getD_cons_succ, List.drop_drop]
              by_cases hj : j < n
              · obtain ⟨q, q1, q2⟩ := hrepE j (by omega)
                refine ⟨q, ?_, hone q (List.mem_of_getElem? q1), .p ?_⟩
                · rw [List.getElem?_append_left (by omega), List.getElem?_take, if_pos hj]; exact q1
                · have : (l.take n ++ l.drop (n + 1)).getD j .ptr0 = l.getD j .ptr0 := by
                    rw [List.getD_eq_getElem?_getD, List.getElem?_append_left (by rw [List.length_take]; omega), List.getElem?_take, if_pos hj, List.getD_eq_getElem?_getD]
                  rw [this]; exact q2
              · obtain ⟨q, q1, q2⟩ := hrepE (j + 1) (by omega)
                refine ⟨q, ?_, hone q (List.mem_of_getElem? q1), .p ?_⟩
                · rw [List.getElem?_append_right (by omega), List.getElem?_drop, hxl, show n + 1 + (j - n) = j + 1 by omega]; exact q1
                · have : (l.take n ++ l.drop (n + 1)).getD j .ptr0 = l.getD (j + 1) .ptr0 := by
                    rw [List.getD_eq_getElem?_getD, List.getElem?_append_right (by rw [List.length_take]; omega), List.getElem?_drop, List.length_take, show n + 1 + (j - min n l.length) = j + 1 by omega, List.getD_eq_getElem?_getD]
                  rw [this]; exact q2)
          refine ⟨G, ?_, keeps_heap hw.heap k1, ext_same hw k2, wf_heap hw.heap k3⟩
          exact .own _ _ _ _ _ _ _ _ (look_upd_same _ _ _) (Nat.le_refl _) (fun _ => rfl)
        · rename_i hlt
          simp only [Option.some.injEq, Prod.mk.injEq] at hp
          obtain ⟨rfl, rfl⟩ := hp
          obtain rfl : n = l.length := by omega
          have hrun := grow w (G.ι id) vb voff vc blk.toList u ty fz (by omega) (by omega) a1 hone hne hcell u3
          rw [hbl] at hrun
          refine hrun.mono ?_
          rintro e w' ⟨k, rfl, hw⟩
          refine ⟨_, rfl, ?_⟩
          obtain ⟨k1, e1, wf1⟩ := free_keeps wf (.cells (u :: blk.toList ++ List.replicate k (Value.slice none 0 0)).toArray ety)
          refine ⟨G, .p ?_, keeps_heap hw.heap k1, ext_same hw e1, wf_heap hw.heap wf1⟩
          have hfree : G.own w.heap.size = .free := wf.fresh _ (Nat.le_refl _)
          have hmem : ∀ b o v, pm G w b o = some v → pm G w' b o = some v := (keeps_heap hw.heap k1).mem
          have hpmn : ∀ i q, (u :: blk.toList)[i]? = some q → pm G w' w.heap.size i = some q := by
            intro i q hq
            rw [pm_heap hw.heap]
            simp only [pm, hfree]
            rw [cell_of_block alloc_new, List.getElem?_toArray, List.getElem?_append_left (by exact (List.getElem?_eq_some_iff.1 hq).1)]
            exact hq
          have hR : ∀ i, i < l.length + 1 → ∃ q, (u :: blk.toList)[i]? = some q ∧ RepP (pm G w') ((x :: l).getD i .ptr0) q ∧ ((x :: l).getD i .ptr0).one = true := by
            intro i hi
            match i, hi with
            | 0, _ => exact ⟨u, rfl, u2.mono hmem, hx1⟩
            | j + 1, hi =>
              obtain ⟨q, q1, q2⟩ := hrepE j (by omega)
              refine ⟨q, q1, q2.mono hmem, ?_⟩
              simp only [List.getD_cons_succ, List.getD_eq_getElem?_getD]
              rw [List.getElem?_eq_getElem (by omega)]
              exact List.all_eq_true.1 hall _ (List.getElem_mem _)
          have hlen' : l.length + 1 = (Row.vals 1 (x :: l) : Row PV).len := by simp [Row.len]
          rw [hlen']
          refine .sl (.vals 1 (x :: l)) ⟨w.heap.size, 0, none⟩ _ (fun i _ => ((u :: blk.toList)[i]?).getD undef) (by simp [Row.len]) (.inr rfl) ?_ ?_ ?_ ?_
          · intro i hi
            obtain ⟨q, q1, q2, q3⟩ := hR i (by simpa [Row.len] using hi)
            exact width_one q3
          · intro i j hi hj
            simp only [Row.sz] at hj
            obtain rfl : j = 0 := by omega
            obtain ⟨q, q1, q2, q3⟩ := hR i (by simpa [Row.len] using hi)
            simp only [Row.sz, Nat.mul_one, Nat.add_zero, Nat.zero_add, q1, Option.getD_some]
            exact hpmn i q q1
          · intro i j hi hj
            obtain ⟨q, q1, q2, q3⟩ := hR i (by simpa [Row.len] using hi)
            have := cell_one q3 j
            simp only [Row.elem]
            rw [this]; exact q3
          · intro i j hi hj
            obtain ⟨q, q1, q2, q3⟩ := hR i (by simpa [Row.len] using hi)
            have := cell_one q3 j
            simp only [Row.elem]
            rw [this]; simp only [q1, Option.getD_some]; exact q2
      · simp at hp
    · simp at hp
  · simp at hp
end Go.Av
end

section
set_option linter.unusedVariables false
set_option linter.unusedSimpArgs false
set_option linter.unusedSectionVars false
namespace Go.Av

/-! ## Appends to slices that are written to; their capacity is the world's choice -/
section
variable {P : Program} {G : Gh} {h : HT} {w : World}

/-- append to an own slice of numbers, with noughts behind it. -/
def appX (P : Program) (t u : TypeId) (x y : V) (h : HT) (c : Nat) : Option (V × HT) :=
  match elemInfo P t, x with
  | some (e, s, b, .int k0 z0), .own id ver off len cap =>
    match look h.H id, srcV h.H s y with
    | some (cu, .row (.ints k l)), some (.ints k' l') =>
      if cu = ver ∧ off = 0 ∧ s = 1 ∧ k = k' ∧ k = k0 ∧ z0 = 0 ∧ l.length = cap ∧ len ≤ cap ∧ cap ≤ 9223372036854775807 ∧ l.drop len = List.replicate (cap - len) 0 ∧ (len + l'.length) * b ≤ 140737488355328 ∧ notInt P u = true then
        some (.own id (ver + 1) 0 (len + l'.length) (len + l'.length + (c - (len + l'.length))), ⟨upd h.H id (ver + 1, .row (.ints k (l.take len ++ l' ++ List.replicate (c - (len + l'.length)) 0))), h.T⟩)
      else none
    | _, _ => none
  | _, _ => none

theorem ints_flat {m : Nat → Nat → Option Value} {k : IntKind} {l : List Int} {f : Nat → Nat → Value} (hr : RowRep m (.ints k l) f) : flat (.ints k l) f = l.map (Value.int k) := by
  apply List.ext_getElem?
  intro j
  by_cases hj : j < l.length
  · have := flat_get (.ints k l) f j 0 hj (by simp [Row.sz])
    simp only [Row.sz, Nat.mul_one, Nat.add_zero] at this
    rw [this]
    have h2 := hr.rep j 0 hj (by simp [Row.sz])
    simp only [Row.elem, PV.cell] at h2
    generalize hv : f j 0 = v at h2
    cases h2
    simp [hj, List.getD_eq_getElem?_getD]
  · rw [List.getElem?_eq_none (by rw [flat_length]; simp [Row.len, Row.sz]; omega), List.getElem?_eq_none (by simp; omega)]

/-- An object's name is said anew. -/
theorem renew (wf : WF G h w) {id c : Nat} {hb : HB} (hl : look h.H id = some (c, hb)) :
    Keeps G h w G ⟨upd h.H id (c + 1, hb), h.T⟩ w ∧ WF G ⟨upd h.H id (c + 1, hb), h.T⟩ w := by
  have hk : Keeps G h w G ⟨upd h.H id (c + 1, hb), h.T⟩ w := by
    refine ⟨fun _ _ _ hv => hv, fun t cur ht => ⟨cur, ht, Nat.le_refl _, fun _ => ⟨rfl, rfl, fun ho => ⟨ho, fun _ _ _ h => h⟩⟩⟩, ?_, fun _ _ h => h⟩
    intro i cur hb0 hi
    by_cases hid : i = id
    · subst hid
      rw [hl] at hi; simp only [Option.some.injEq, Prod.mk.injEq] at hi
      exact ⟨c + 1, _, look_upd_same _ _ _, by omega, fun _ => rfl⟩
    · exact ⟨cur, hb0, (look_upd_other _ _ _ _ hid).trans hi, Nat.le_refl _, fun _ => rfl⟩
  refine ⟨hk, wf.fresh, wf.rows, ?_⟩
  intro i ver hb0 hi
  by_cases hid : i = id
  · subst hid
    rw [look_upd_same] at hi; simp only [Option.some.injEq, Prod.mk.injEq] at hi
    obtain ⟨rfl, rfl⟩ := hi
    obtain ⟨o1, o2, o3⟩ := wf.objs i c _ hl
    exact ⟨o1, o2, o3.mono hk rfl⟩
  · rw [look_upd_other _ _ _ _ hid] at hi
    obtain ⟨o1, o2, o3⟩ := wf.objs i ver hb0 hi
    exact ⟨o1, o2, o3.mono hk rfl⟩

theorem upd_upd {α : Type} (l : List (Nat × α)) (n : Nat) (x y : α) : upd (upd l n x) n y = upd l n y := by
  induction l with
  | nil => simp [upd]
  | cons p l ih =>
    obtain ⟨k, v⟩ := p
    by_cases hk : k = n
    · simp [upd, hk]
    · simp [upd, hk, ih]

theorem appX_run (wf : WF G h w) {t u ty : TypeId} {x y : V} {vx vy : Value} (hs : ∀ c, c ≤ 9223372036854775807 → (appX P t u x y h c).isSome = true) (rx : Rep G h w x vx) (ry : Rep G h w y vy) :
    ∃ c res h', c ≤ 9223372036854775807 ∧ appX P t u x y h c = some (res, h') ∧
    ∃ v w' G', (Builtin.append_ #[t, u] ty #[vx, vy]).run P w = .ok v w' ∧ Rep G' h' w' res v ∧ Keeps G h w G' h' w' ∧ Ext G w G' w' ∧ WF G' h' w' := by
  have h0 := hs 0 (by omega)
  unfold appX at h0
  split at h0
  · rename_i e s b k0 z0 id ver off len cap he
    obtain ⟨heo, hs0, hb0⟩ := elemInfo_spec he
    split at h0
    · rename_i cu k l k' l' hl hr
      split at h0
      · rename_i hc
        have hc' := hc
        obtain ⟨rfl, rfl, rfl, rfl, rfl, rfl, rfl, hle, hcap, hz, hb, hu⟩ := hc
        have hval : ∀ c, appX P t u (.own id cu 0 len l.length) y h c = some (.own id (cu + 1) 0 (len + l'.length) (len + l'.length + (c - (len + l'.length))), ⟨upd h.H id (cu + 1, .row (.ints k (l.take len ++ l' ++ List.replicate (c - (len + l'.length)) 0))), h.T⟩) := by
          intro c
          unfold appX
          simp only [he, hl, hr]
          rw [if_pos ⟨trivial, trivial, trivial, trivial, trivial, trivial, trivial, hle, hcap, hz, hb, hu⟩]
        clear h0 hs hc'
        obtain ⟨f, src⟩ := srcV_src (P := P) wf hr ry
        obtain rfl := rx.at_own hl rfl
        obtain ⟨hown, hlt, hrep⟩ := wf.objs id cu _ hl
        obtain ⟨vs, tyb, fz, hblk, hvs, hcell, hfz⟩ := hrep.cells' rfl
        simp only [HB.size, Row.len] at hvs hcell hfz
        have hvl : vs.toList = l.map (Value.int k) := by
          apply List.ext_getElem?
          intro j
          by_cases hj : j < l.length
          · obtain ⟨v, b1, b2, b3⟩ := hcell j hj
            rw [Array.getElem?_toList, b1]
            simp only [HB.get, Row.elem] at b3
            cases b3 with | p b3 =>
            cases b3
            simp [hj, List.getD_eq_getElem?_getD]
          · rw [List.getElem?_eq_none (by rw [Array.length_toList]; omega), List.getElem?_eq_none (by simp; omega)]
        obtain ⟨d, hu1, hu2⟩ : ∃ d, P.underlying u = some d ∧ ∀ k, d ≠ .int k := by
          unfold notInt at hu
          split at hu
          · simp at hu
          · rename_i d hd hx; exact ⟨d, hx, fun k e => hd k e⟩
          · simp at hu
        have hrl : (Row.ints k l' : Row PV).len = l'.length := rfl
        have hnews := src.cells w (fun _ => rfl) l'.length (by rw [hrl]; exact Nat.le_refl _)
        rw [Nat.mul_one, ints_flat src.rep, List.take_of_length_le (by simp)] at hnews
        have hnews2 := src.cells w.drew (fun _ => rfl) l'.length (by rw [hrl]; exact Nat.le_refl _)
        rw [Nat.mul_one, ints_flat src.rep, List.take_of_length_le (by simp)] at hnews2
        have hlen := src.len
        rw [hrl] at hlen
        by_cases hroom : len + l'.length ≤ l.length
        · -- in its place
          refine ⟨l.length, _, _, hcap, hval _, ?_⟩
          have hst := run_storeCells (P := P) (l'.map (Value.int k)) w (G.ι id) len 0 vs tyb fz hblk (by simp; omega) (by intro v hv; simp only [List.mem_map] at hv; obtain ⟨a, _, rfl⟩ := hv; rfl)
            (fun o h1 h2 => hfz o (by simp at h2; omega))
          rw [Nat.add_zero] at hst
          have hrun := run_append_in heo hu1 hu2 ty (some ⟨G.ι id, 0, none⟩) len l.length vy l'.length (l'.map (Value.int k)) (World.withRow w (G.ι id) (spliceA vs len (l'.map (Value.int k))) tyb fz) hlen hnews hroom
            (by intro a ha; simp only [Option.some.injEq] at ha; subst ha; rw [addr_add, Nat.zero_add, Nat.mul_one]; exact hst) (by simp)
          have hnl : (l.take len ++ l' ++ List.replicate (l.length - (len + l'.length)) 0).length = l.length := by simp; omega
          obtain ⟨k1, e1, wf1⟩ := turned (vs' := spliceA vs len (l'.map (Value.int k))) (hb' := .row (.ints k (l.take len ++ l' ++ List.replicate (l.length - (len + l'.length)) 0))) wf hl rfl
            (by rw [spliceA_size, hvs]; simp only [HB.size, Row.len, hnl]) ⟨vs, hblk, spliceA_size _ _ _⟩ (fun j hj => hfz j (by simp only [HB.size, Row.len, hnl] at hj; exact hj)) (by
              intro j hj
              simp only [HB.size, Row.len, hnl] at hj
              rw [spliceA_get _ _ _ _ (by simp; omega)]
              simp only [HB.get, Row.elem, List.length_map]
              have hg : ∀ j, j < l.length → (l.take len ++ l' ++ List.replicate (l.length - (len + l'.length)) 0).getD j 0 = if len ≤ j ∧ j < len + l'.length then l'.getD (j - len) 0 else l.getD j 0 := by
                intro j hj
                simp only [List.getD_eq_getElem?_getD]
                by_cases h1 : j < len
                · rw [if_neg (by omega), List.append_assoc, List.getElem?_append_left (by simp; omega), List.getElem?_take, if_pos h1]
                · rw [List.append_assoc, List.getElem?_append_right (by simp; omega)]
                  simp only [List.length_take, Nat.min_eq_left hle]
                  by_cases h2 : j < len + l'.length
                  · rw [if_pos ⟨by omega, h2⟩, List.getElem?_append_left (by omega)]
                  · rw [if_neg (by omega), List.getElem?_append_right (by omega), List.getElem?_replicate, if_pos (by omega)]
                    have e2 := congrArg (fun q => q[j - len]?) hz
                    simp only [List.getElem?_drop, List.getElem?_replicate] at e2
                    rw [show len + (j - len) = j by omega, if_pos (by omega)] at e2
                    rw [e2]
              rw [hg j hj]
              split
              · rename_i hj2
                refine ⟨.int k (l'.getD (j - len) 0), ?_, rfl, .p (.int _ _)⟩
                rw [List.getElem?_map]
                simp [List.getD_eq_getElem?_getD, show j - len < l'.length by omega]
              · exact hcell j hj)
          obtain ⟨k2, wf2⟩ := renew wf1 (look_upd_same _ _ _)
          simp only [upd_upd] at k2 wf2
          refine ⟨_, _, G, hrun, ?_, k1.trans k2, e1, wf2⟩
          rw [show len + l'.length + (l.length - (len + l'.length)) = l.length by omega]
          exact .own _ _ _ _ _ _ _ _ (look_upd_same _ _ _) (Nat.le_refl _) (fun _ => rfl)
        · -- elsewhere
          have hold : (Builtin.firstCells 1 len (.slice (some ⟨G.ι id, 0, none⟩) len l.length)).run P w.drew = .ok ((l.take len).map (Value.int k)).toArray w.drew := by
            refine run_firstCells_some w.drew 1 len ⟨G.ι id, 0, none⟩ len l.length _ (by simp; omega) ?_
            intro j v hj
            rw [addr_add, Nat.zero_add]
            show w.cell? _ = _
            rw [cell_of_block hblk, ← Array.getElem?_toList, hvl]
            simp only [List.getElem?_map, List.getElem?_take] at hj ⊢
            split at hj
            · exact hj
            · simp at hj
          have h63 : len + l'.length ≤ 9223372036854775807 := by
            have : (len + l'.length) * 1 ≤ (len + l'.length) * b := Nat.mul_le_mul_left _ hb0
            omega
          have hrun := run_append_more heo hu1 hu2 ty (some ⟨G.ι id, 0, none⟩) len l.length vy l'.length _ _ hlen hold hnews2 (by omega) hb h63
          have hge := grownCap_ge w (len + l'.length) l.length e
          have hlem := grownCap_le_maxLen w (len + l'.length) l.length e (by unfold maxLen; omega)
          generalize grownCap w (len + l'.length) l.length e = g at *
          refine ⟨g, _, _, by unfold maxLen at hlem; omega, hval _, ?_⟩
          have hz0 : (Builtin.zeroCells (Value.int k 0).cells (g - (len + l'.length))).toList = List.replicate (g - (len + l'.length)) (Value.int k 0) := by
            apply List.ext_getElem
            · simp [size_zeroCells, Value.cells]
            · intro i h1 h2; simp [Builtin.zeroCells, Nat.mod_one]
          rw [hz0] at hrun
          have hd : Keeps G h w G h w.drew ∧ Ext G w G w.drew ∧ WF G h w.drew := ⟨keeps_heap (w1 := w) (w2 := w.drew) rfl (Keeps.refl G h w), ⟨rfl, rfl, rfl, Nat.le_refl _, fun b hb hs => ⟨rfl, rfl⟩, fun b o v hb hv => hv, fun _ _ h => h⟩, wf_heap (w1 := w) (w2 := w.drew) rfl wf⟩
          obtain ⟨kd, ed, wfd⟩ := hd
          obtain ⟨k2, e2⟩ := made_keeps wfd id (.row (.ints k (l.take len ++ l' ++ List.replicate (g - (len + l'.length)) 0))) (.cells ((l.take len).map (Value.int k) ++ l'.map (Value.int k) ++ List.replicate (g - (len + l'.length)) (Value.int k 0)).toArray e)
          have wf2 := made_cells wfd id (.row (.ints k (l.take len ++ l' ++ List.replicate (g - (len + l'.length)) 0))) ((l.take len).map (Value.int k) ++ l'.map (Value.int k) ++ List.replicate (g - (len + l'.length)) (Value.int k 0)).toArray e rfl (by simp [HB.size, Row.len]) (by
            intro i hi
            simp only [HB.size, Row.len] at hi
            have e3 : (l.take len).map (Value.int k) ++ l'.map (Value.int k) ++ List.replicate (g - (len + l'.length)) (Value.int k 0) = (l.take len ++ l' ++ List.replicate (g - (len + l'.length)) 0).map (Value.int k) := by simp
            rw [e3]
            refine ⟨.int k ((l.take len ++ l' ++ List.replicate (g - (len + l'.length)) 0).getD i 0), ?_, rfl, .p (.int _ _)⟩
            rw [List.getElem?_toArray, List.getElem?_map, List.getElem?_eq_getElem hi, List.getD_eq_getElem?_getD, List.getElem?_eq_getElem hi]; rfl)
          have hnv : nextVer h.H id = cu + 1 := by simp [nextVer, hl]
          rw [hnv] at k2 wf2
          refine ⟨_, _, _, hrun, ?_, kd.trans k2, ed.trans e2, wf2⟩
          rw [show len + l'.length + (g - (len + l'.length)) = g by omega]
          refine .own _ _ _ _ _ _ _ _ (look_upd_same _ _ _) (Nat.le_refl _) (fun _ => ?_)
          simp [Gh.made]
      · simp at h0
    · simp at h0
  · simp at h0
end
section
variable [Tables] {P : Program} {ops : Array Oper} {σ : St}

/-! ## Regions with operations of their own kind -/

/-- Operation n, whatever it is: what is behind it holds. -/
def XS (P : Program) (ops : Array Oper) (n : Nat) (σ : St) (K : St → Prop) : Prop :=
  ∀ (G0 : Gh) (w0 : World) (G : Gh) (a : Act) (w : World) (Q : Exit → Act → World → Prop) (next : Act → World → Prop), Rl G0 w0 σ G a w → (∀ σ' G' a' w', K σ' → Rl G0 w0 σ' G' a' w' → next a' w') → wpOp P ops Q n next a w

/-- Operations in their order, the ones with these numbers by themselves. -/
def runC (P : Program) (ops : Array Oper) : List Nat → Nat → St → (St → Prop) → Prop
  | [], i, σ, K => runE P ops (ops.toList.drop i) σ K
  | n :: ns, i, σ, K => ∀ F : St → Prop, F = (fun σ1 => XS P ops n σ1 fun σ2 => runC P ops ns (n + 1) σ2 K) → runE P ops ((ops.toList.drop i).take (n - i)) σ F

def okC (m : Nat) : List Nat → Nat → Bool
  | [], i => decide (i ≤ m)
  | n :: ns, i => decide (i ≤ n) && decide (n < m) && okC m ns (n + 1)

theorem seg_wpOps {G0 : Gh} {w0 : World} {K : St → Prop} {Q : Exit → Act → World → Prop} {rest : List Nat} (hn : ∀ σ' G' a' w', K σ' → Rl G0 w0 σ' G' a' w' → wpOps P ops Q rest a' w') :
    ∀ (l : List Nat) (os : List Oper) (σ : St) (G : Gh) (a : Act) (w : World), l.length = os.length → (∀ (k i : Nat), l[k]? = some i → ops[i]? = os[k]?) → Rl G0 w0 σ G a w → asteps P ops os σ K →
      wpOps P ops Q (l ++ rest) a w
  | [], os, σ, G, a, w, hl, hi, r, hs => by
    have : os = [] := by cases os <;> simp_all
    subst this
    exact hn _ _ _ _ hs r
  | i :: l, os, σ, G, a, w, hl, hi, r, hs => by
    cases os with
    | nil => simp at hl
    | cons o os =>
      rw [List.cons_append, wpOps_cons]
      have h0 : ops[i]? = some o := by simpa using hi 0 i rfl
      refine gstep_wp h0 r hs ?_
      intro σ' G' a' w' hk r'
      exact seg_wpOps hn l os σ' G' a' w' (by simpa using hl) (fun k i' hk' => by
        have := hi (k + 1) i' (by simpa using hk'); simpa using this) r' hk

theorem runC_wp {G0 : Gh} {w0 : World} {K : St → Prop} {Q : Exit → Act → World → Prop} (hn : ∀ σ' G' a' w', K σ' → Rl G0 w0 σ' G' a' w' → Q .normal a' w') :
    ∀ (ns : List Nat) (i : Nat) (σ : St) (G : Gh) (a : Act) (w : World), okC ops.size ns i = true → Rl G0 w0 σ G a w → runC P ops ns i σ K → wpOps P ops Q (List.range' i (ops.size - i)) a w
  | [], i, σ, G, a, w, hok, r, h => by
    have h1 := seg_wpOps (P := P) (ops := ops) (rest := []) (Q := Q) (fun σ' G' a' w' hk r' => hn σ' G' a' w' hk r') (List.range' i (ops.size - i)) (ops.toList.drop i) σ G a w (by simp) (by
      intro k j hk
      obtain ⟨h1, h2⟩ := List.getElem?_eq_some_iff.1 hk
      simp only [List.getElem_range', Nat.one_mul] at h2
      subst h2
      rw [List.getElem?_drop, Array.getElem?_toList]) r (runE_asteps _ _ _ h)
    simpa using h1
  | n :: ns, i, σ, G, a, w, hok, r, h => by
    simp only [okC, Bool.and_eq_true, decide_eq_true_eq] at hok
    obtain ⟨⟨h1, h2⟩, h3⟩ := hok
    have hs : List.range' i (ops.size - i) = List.range' i (n - i) ++ n :: List.range' (n + 1) (ops.size - (n + 1)) := by
      have e : ops.size - i = (n - i) + (1 + (ops.size - (n + 1))) := by omega
      rw [e, ← List.range'_append_1, ← List.range'_append_1, show i + (n - i) = n by omega]
      rfl
    rw [hs]
    refine seg_wpOps (K := fun σ1 => XS P ops n σ1 fun σ2 => runC P ops ns (n + 1) σ2 K) ?_ _ ((ops.toList.drop i).take (n - i)) σ G a w (by simp; omega) ?_ r (runE_asteps _ _ _ (h _ rfl))
    · intro σ' G' a' w' hk r'
      rw [wpOps_cons]
      exact hk G0 w0 G' a' w' Q _ r' fun σ2 G2 a2 w2 hk2 r2 => runC_wp hn ns (n + 1) σ2 G2 a2 w2 h3 r2 hk2
    · intro k j hk
      obtain ⟨q1, q2⟩ := List.getElem?_eq_some_iff.1 hk
      simp only [List.getElem_range', Nat.one_mul] at q2
      simp only [List.length_range'] at q1
      subst q2
      rw [List.getElem?_take, if_pos q1, List.getElem?_drop, Array.getElem?_toList]

theorem AW.regC {id : Nat} {Q : Exit → St → Prop} (ns : List Nat) (hok : okC ops.size ns 0 = true) (h : runC P ops ns 0 σ (Q .normal)) : AW P (.region id ops false) Q σ := by
  intro G0 w0 G a w hst r
  refine wp_region ?_
  have := runC_wp (K := Q .normal) (Q := fun e a' w' => ∃ σ' G', Q e σ' ∧ Rl G0 w0 σ' G' a' w') (fun σ' G' a' w' hk r' => ⟨σ', G', hk, r'⟩) ns 0 σ G a w hok r h
  rw [List.range_eq_range']
  simpa using this
theorem AW.regCSeq {id : Nat} {y : Code} {Q : Exit → St → Prop} (ns : List Nat) (hok : okC ops.size ns 0 = true) (h : ∀ L, L = AW P y Q → runC P ops ns 0 σ L) : AW P (.seq (.region id ops false) y) Q σ :=
  AW.seq (AW.regC ns hok (h _ rfl))

variable {n : Nat} {o : Oper} {K : St → Prop}
theorem XS.own {t len : Nat} {ps : Array (Nat × Operand)} (hi : ops[n]? = some o) (hg : o.guard = none) (hop : o.op = .buildSlice t len ps) (h : ownStep P o t len ps σ K) : XS P ops n σ K :=
  fun _ _ _ _ _ _ _ r hn => ownStep_wp hi hg hop r h hn
theorem XS.way {f : FuncId} {args : Array Operand} {pr : Nat → Prim} (hi : ops[n]? = some o) (hg : o.guard = none) (hop : callOf o.op = some (f, args)) (hm : 2 ≤ Tables.mode f) (hp : PrimN P f pr)
    (h : ∀ c, c ≤ 9223372036854775807 → bindO (pr c (args.toList.map σ.eval) σ.h (o.dst.getD 0)) fun v h' => K (σ.put o.dst v h')) : XS P ops n σ K :=
  fun _ _ _ _ _ _ _ r hn => wayStep_wp hi hg hop r (wayStep_of hm hp h) hn
theorem XS.app {x y : Operand} {t u : TypeId} (hi : ops[n]? = some o) (hg : o.guard = none) (hop : o.op = .call { callee := .builtin .append, args := #[x, y], argTypes := #[t, u] })
    (h : ∀ c, c ≤ 9223372036854775807 → bindO (appX P t u (σ.eval x) (σ.eval y) σ.h c) fun v h' => K (σ.put o.dst v h')) : XS P ops n σ K := by
  intro G0 w0 G a w Q next r hn
  have hsome : ∀ c, c ≤ 9223372036854775807 → ∃ v h', appX P t u (σ.eval x) (σ.eval y) σ.h c = some (v, h') ∧ K (σ.put o.dst v h') := by
    intro c hc
    have h1 := h c hc
    cases hv : appX P t u (σ.eval x) (σ.eval y) σ.h c with
    | none => rw [hv] at h1; exact h1.elim
    | some q => rw [hv] at h1; exact ⟨q.1, q.2, rfl, h1⟩
  obtain ⟨c, res, h', hc, hv, hrun⟩ := appX_run (P := P) (ty := o.type) r.wf (fun c hc => by obtain ⟨v, h', e, _⟩ := hsome c hc; rw [e]; rfl) (r.eval x) (r.eval y)
  obtain ⟨v2, h2, e2, hk⟩ := hsome c hc
  rw [e2] at hv
  simp only [Option.some.injEq, Prod.mk.injEq] at hv
  obtain ⟨rfl, rfl⟩ := hv
  have hexec : execOp a.eval o = (do pure (.value (← Builtin.append_ #[t, u] o.type #[a.eval x, a.eval y]))) := by
    unfold execOp
    rw [hop]
    simp only [resolve, invoke]
    show (Sem.bind (Sem.pure _) _) = _
    simp only [List.map_toArray, List.map_cons, List.map_nil]; rfl
  obtain ⟨v', w', G', hr, x1, x2, x3, x4⟩ := Done.turn (a := a) (o := o) hexec hrun
  unfold wpOp
  rw [hi]
  simp only
  have hw : Region.wanted o (yielded ops a.tmps) = true := by simp [Region.wanted, hg]
  rw [if_pos hw]
  refine .inl ?_
  unfold Oper.wp
  rcases hr with hr | ⟨hr, rfl⟩
  · rw [hr, Oper.upon_value]
    exact hn _ _ _ _ hk (r.put o.dst x2 x1 x4 x3)
  · rw [hr, Oper.upon_skip]
    exact hn _ _ _ _ hk (r.put o.dst x2 x1 x4 x3)
end
end Go.Av
end

section
set_option linter.unusedVariables false
set_option linter.unusedSimpArgs false
set_option linter.unusedSectionVars false
namespace Go.Av

/-! ## An own slice becomes a row that may be appended to -/

def jnkV (d : Nat) (x : V) : V := if x.leads (onlyK d) = true then .junk else x
def jnkHB (d : Nat) : HB → HB
  | .cells l => .cells (l.map (jnkV d))
  | .row r => .row r
  | .iter s n => .iter s n
def dropL (d : Nat) : List (Nat × (Nat × HB)) → List (Nat × (Nat × HB))
  | [] => []
  | (id, (c, hb)) :: l => if id = d then dropL d l else (id, (c, jnkHB d hb)) :: dropL d l
def rwzV (d ver n cap : Nat) (y : V) (x : V) : V :=
  match x with
  | .own id v off len c => if id = d then (if v = ver ∧ off = 0 ∧ len = n ∧ c = cap then y else .junk) else x
  | x => jnkV d x

section
variable {G : Gh} {h : HT} {w : World} {d : Nat}

theorem look_dropL : ∀ (l : List (Nat × (Nat × HB))) (id : Nat), look (dropL d l) id = if id = d then none else (look l id).map fun r => (r.1, jnkHB d r.2)
  | [], id => by simp [dropL, look]
  | (k, (c, hb)) :: l, id => by
    have ih := look_dropL l id
    simp only [dropL]
    by_cases hk : k = d
    · rw [if_pos hk, ih]
      by_cases hid : k = id
      · subst hid; simp [hk]
      · simp only [look, if_neg hid]
    · rw [if_neg hk]
      by_cases hid : k = id
      · subst hid; simp [look, hk]
      · simp only [look, if_neg hid]; exact ih

theorem drop_rep {x : V} {v : Value} (r : Rep G h w x v) : x.leads (onlyK d) = false → Rep G ⟨dropL d h.H, h.T⟩ w x v := by
  have hlk : ∀ {id cur hb}, look h.H id = some (cur, hb) → onlyK d id = false → look (dropL d h.H) id = some (cur, jnkHB d hb) := by
    intro id cur hb hc hk
    rw [look_dropL, if_neg (by simpa using hk), hc]; rfl
  induction r with
  | junk v => exact fun _ => .junk v
  | p r => exact fun _ => .p r
  | row r t ver cur nl a cap hc hle hr ht => exact fun _ => .row r t ver cur nl a cap hc hle hr ht
  | own id ver off len cap cur hb v hc hle hv => exact fun hl => .own id ver off len cap cur _ v (hlk hc hl) hle hv
  | ptr id ver off cur hb v hc hle hv => exact fun hl => .ptr id ver off cur _ v (hlk hc hl) hle hv
  | adr id ver off e n cur hb v hc hle hv => exact fun hl => .adr id ver off e n cur _ v (hlk hc hl) hle hv
  | brow e r t ver nl v hr hty ih => exact fun _ => .brow e r t ver nl v (ih rfl) hty
  | agg l vs f hs hf h1 _ ih =>
    intro hl
    simp only [V.leads] at hl
    exact .agg l vs f hs hf h1 fun i hi => ih i hi (leadsL_get hl i)
  | tup l vs f hs hf _ ih =>
    intro hl
    simp only [V.leads] at hl
    exact .tup l vs f hs hf fun i hi => ih i hi (leadsL_get hl i)

theorem jnk_rep {x : V} {v : Value} (r : Rep G h w x v) : Rep G ⟨dropL d h.H, h.T⟩ w (jnkV d x) v := by
  unfold jnkV
  split
  · exact .junk _
  · rename_i hl; exact drop_rep r (by simpa using hl)

/-- An object's block becomes a row's. -/
theorem rowz_keeps (wf : WF G h w) {ver : Nat} {hb : HB} (hl : look h.H d = some (ver, hb)) (t e nv : Nat) (hv : ∀ c, look h.T t = some c → c < nv) :
    (∀ b o v, pm G w b o = some v → pm (G.grown (G.ι d) t e) w b o = some v) ∧ Keeps G h w (G.grown (G.ι d) t e) ⟨h.H, upd h.T t nv⟩ w ∧ WF (G.grown (G.ι d) t e) ⟨dropL d h.H, upd h.T t nv⟩ w := by
  obtain ⟨d1, d2, d3⟩ := wf.objs d ver hb hl
  have hpm : ∀ b off v, pm G w b off = some v → pm (G.grown (G.ι d) t e) w b off = some v := by
    intro b off v hv
    have hc := pm_cell hv
    have hne : b ≠ G.ι d := by intro he; subst he; simp [pm, d1] at hv
    unfold pm at hv ⊢
    simp only [Gh.grown, if_neg hne]
    by_cases ho : G.own b = .row t
    · rw [if_pos ho]; exact hc
    · rw [if_neg ho]
      cases hob : G.own b with
      | free => exact hc
      | obj id => rw [hob] at hv; simp at hv
      | hid n => rw [hob] at hv; exact hv
      | row t' =>
        rw [hob] at hv
        have hne' : t' ≠ t := by intro h; subst h; exact ho hob
        simp only [if_neg hne']
        exact hv
  have hk : Keeps G h w (G.grown (G.ι d) t e) ⟨h.H, upd h.T t nv⟩ w := by
    refine ⟨hpm, ?_, ?_, fun _ _ h => h⟩
    · intro t' cur ht
      by_cases he : t' = t
      · subst he
        exact ⟨nv, look_upd_same _ _ _, Nat.le_of_lt (hv cur ht), fun h => absurd (hv cur ht) (by omega)⟩
      · refine ⟨cur, (look_upd_other _ _ _ _ he).trans ht, Nat.le_refl _, fun _ => ⟨by simp [Gh.grown, he], by simp [Gh.grown, he], fun ho => ?_⟩⟩
        refine ⟨?_, fun vs ty fz h0 => h0⟩
        have hne : G.τ t' ≠ G.ι d := by intro e1; rw [e1, d1] at ho; simp at ho
        simp only [Gh.grown, if_neg hne]
        rw [if_neg (by rw [ho]; simp [he])]; exact ho
    · intro id cur hb hl
      exact ⟨cur, hb, hl, Nat.le_refl _, fun _ => rfl⟩
  refine ⟨hpm, hk, ?_, ?_, ?_⟩
  · intro b hb
    have hne : b ≠ G.ι d := by omega
    simp only [Gh.grown, if_neg hne]
    have := wf.fresh b hb
    rw [this]; simp
  · intro b t' hb
    simp only [Gh.grown] at hb ⊢
    by_cases h1 : b = G.ι d
    · rw [if_pos h1] at hb; simp only [Owner.row.injEq] at hb; rw [if_pos hb.symm]; exact h1
    · rw [if_neg h1] at hb
      by_cases h2 : G.own b = .row t
      · rw [if_pos h2] at hb; simp at hb
      · rw [if_neg h2] at hb
        have h3 : t' ≠ t := by intro h; subst h; exact h2 hb
        rw [if_neg h3]; exact wf.rows b t' hb
  · intro id ver' hb' hl'
    simp only [look_dropL] at hl'
    split at hl'
    · simp at hl'
    · rename_i hid
      simp only [Option.map_eq_some_iff] at hl'
      obtain ⟨⟨c, hb0⟩, hl', he⟩ := hl'
      simp only [Prod.mk.injEq] at he
      obtain ⟨rfl, rfl⟩ := he
      obtain ⟨o1, o2, o3⟩ := wf.objs id c hb0 hl'
      have hne : G.ι id ≠ G.ι d := by intro e1; rw [e1, d1] at o1; simp only [Owner.obj.injEq] at o1; exact hid o1.symm
      refine ⟨?_, o2, ?_⟩
      · simp only [Gh.grown, if_neg hne]
        rw [if_neg (by rw [o1]; simp)]; exact o1
      · have o4 := o3.mono hk rfl
        show HRep (G.grown (G.ι d) t e) ⟨dropL d h.H, upd h.T t nv⟩ w (G.ι id) (jnkHB d hb0)
        have o4 : HRep (G.grown (G.ι d) t e) ⟨h.H, upd h.T t nv⟩ w (G.ι id) hb0 := o4
        cases hb0 with
        | iter s pos => exact o4
        | cells l =>
          obtain ⟨vs, ty, fz, h1, h2, h3, h4⟩ := o4
          refine ⟨vs, ty, fz, h1, by simpa [jnkHB, HB.size] using h2, ?_, fun i hi => h4 i (by simpa [jnkHB, HB.size] using hi)⟩
          intro i hi
          simp only [jnkHB, HB.size, List.length_map] at hi
          obtain ⟨v, a, b, c⟩ := h3 i (by simpa [HB.size] using hi)
          refine ⟨v, a, b, ?_⟩
          have := jnk_rep (d := d) c
          simp only [jnkHB, HB.get, List.getD_eq_getElem?_getD, List.getElem?_map, List.getElem?_eq_getElem hi, Option.map_some, Option.getD_some] at this ⊢
          exact this
        | row r =>
          obtain ⟨vs, ty, fz, h1, h2, h3, h4⟩ := o4
          refine ⟨vs, ty, fz, h1, h2, ?_, h4⟩
          intro i hi
          obtain ⟨v, a, b, c⟩ := h3 i hi
          exact ⟨v, a, b, drop_rep c rfl⟩

theorem rowz_rep (wf : WF G h w) {ver : Nat} {k : IntKind} {l : List Int} (hl : look h.H d = some (ver, .row (.ints k l))) (t n nv : Nat) (hn : n ≤ l.length) (hv : ∀ c, look h.T t = some c → c < nv) {x : V} {v : Value} (r : Rep G h w x v) :
    Rep (G.grown (G.ι d) t n) ⟨dropL d h.H, upd h.T t nv⟩ w (rwzV d ver n l.length (.row (.ints k (l.take n)) t nv false) x) v := by
  obtain ⟨hpm, hk, hwf⟩ := rowz_keeps wf hl t n nv hv
  have key : ∀ {x : V}, Rep G h w x v → Rep (G.grown (G.ι d) t n) ⟨dropL d h.H, upd h.T t nv⟩ w (jnkV d x) v := fun r => jnk_rep (r.mono hk)
  unfold rwzV
  split
  · rename_i id v0 off len c
    split
    · rename_i hid
      subst hid
      split
      · rename_i hc
        obtain ⟨rfl, rfl, rfl, rfl⟩ := hc
        obtain ⟨d1, d2, vs, ty, fz, h1, h2, h3, h4⟩ := wf.objs id v0 _ hl
        simp only [HB.size, Row.len] at h2 h3 h4
        obtain rfl := r.at_own hl rfl
        have hlen : (Row.ints k (l.take len) : Row PV).len = len := by simp [Row.len]; omega
        have hcell : ∀ i, i < len → pm (G.grown (G.ι id) t len) w (G.ι id) i = some (.int k (l.getD i 0)) := by
          intro i hi
          obtain ⟨u, a1, a2, a3⟩ := h3 i (by omega)
          simp only [HB.get, Row.elem] at a3
          cases a3 with | p a3 =>
          cases a3
          simp only [pm, Gh.grown, if_true]
          rw [if_pos hi, cell_of_block h1]; exact a1
        have hr : Rep (G.grown (G.ι id) t len) ⟨dropL id h.H, upd h.T t nv⟩ w (.row (.ints k (l.take len)) t nv false) (.slice (some ⟨G.ι id, 0, none⟩) (Row.ints k (l.take len) : Row PV).len l.length) := by
          refine .row _ t nv nv false _ l.length (look_upd_same _ _ _) (Nat.le_refl _) ?_ fun _ => .inr ⟨0, vs, ty, fz, ?_, ?_, ?_, Nat.zero_lt_one, ?_, ?_, ?_⟩
          · refine .sl _ ⟨G.ι id, 0, none⟩ l.length (fun i _ => .int k (l.getD i 0)) (by rw [hlen]; exact hn) (.inr rfl) (fun i _ => rfl) ?_ (fun _ _ _ _ => rfl) ?_
            · intro i j hi hj
              rw [hlen] at hi
              simp only [Row.sz] at hj
              obtain rfl : j = 0 := by omega
              simpa [Row.sz] using hcell i hi
            · intro i j hi hj
              rw [hlen] at hi
              simp only [Row.elem, PV.cell]
              rw [List.getD_eq_getElem?_getD, List.getElem?_take, if_pos hi, ← List.getD_eq_getElem?_getD]
              exact .int _ _
          · simp [Gh.grown]
          · simp [Gh.grown]
          · rw [hlen]; simp [Gh.grown, Row.sz]
          · simpa [Gh.grown] using h1
          · simp [Row.sz]; omega
          · intro o ho1 ho2
            simp only [Row.sz, Nat.mul_one, Nat.zero_add] at ho2
            simpa [Gh.grown] using h4 o (by omega)
        rw [hlen] at hr
        exact hr
      · exact .junk _
    · rename_i hid
      have := key r
      unfold jnkV at this
      rw [if_neg (by simp [V.leads, hid])] at this
      exact this
  · exact key r
end

section
variable [Tables] {P : Program} {c : Code} {Q : Exit → St → Prop}
/-- An own slice that is appended to from now on. -/
theorem AW.rowize {s : List V} {h : HT} (d t n : Nat) (hd : d < 10000) {ver : Nat} {k : IntKind} {l : List Int} (hl : look h.H d = some (ver, .row (.ints k l))) (hn : n ≤ l.length)
    (hc : AW P c Q ⟨s.map (rwzV d ver n l.length (.row (.ints k (l.take n)) t (nextTok h.T t) false)), ⟨dropL d h.H, upd h.T t (nextTok h.T t)⟩⟩) : AW P c Q ⟨s, h⟩ := by
  intro G0 w0 G a w ht rl
  have hv : ∀ c, look h.T t = some c → c < nextTok h.T t := fun c hc => nextTok_lt hc
  obtain ⟨hpm, hk, hwf⟩ := rowz_keeps rl.wf hl t n _ hv
  obtain ⟨d1, d2, d3⟩ := rl.wf.objs d ver _ hl
  refine hc G0 w0 (G.grown (G.ι d) t n) a w ht ⟨rl.defers, by simpa using rl.size, ?_, hwf, ?_, ?_, rl.glob⟩
  · intro i hi
    simp only [List.length_map] at hi
    have := rowz_rep rl.wf hl t n _ hn hv (rl.slots i hi)
    simp only [List.getD_eq_getElem?_getD, List.getElem?_map, List.getElem?_eq_getElem hi, Option.map_some, Option.getD_some] at this ⊢
    exact this
  · have he := rl.ext
    refine ⟨he.os, he.tape, he.output, he.size, ?_, fun b o v hb hv => hpm b o v (he.row b o v hb hv), he.shp⟩
    intro b hb hs
    obtain ⟨h1, h2⟩ := he.free b hb hs
    refine ⟨?_, h2⟩
    have hne : b ≠ G.ι d := by intro e1; rw [e1, d1] at h1; rw [e1, ← h1] at hs; simp [Owner.still] at hs
    simp only [Gh.grown, if_neg hne]
    rw [if_neg (by rw [h1]; intro e; rw [e] at hs; simp [Owner.still] at hs)]; exact h1
  · intro b id hb
    obtain ⟨h0, ver', hb1, h1, h2⟩ := rl.ids b id hb
    exact ⟨h0, ver', jnkHB d hb1, by simp only [look_dropL, if_neg (show id ≠ d by omega), h1]; rfl, h2⟩
/-- The same for bytes, ahead of a region. -/
theorem AW.rowAt {s : List V} {h : HT} (m d t n : Nat) (hd : d < 10000) {ver : Nat} {l : List (BitVec 8)} (hl : look h.H d = some (ver, .row (bl l))) (hn : n ≤ l.length) {r : Array Oper} {b : Bool} {c : Code}
    (hc : ∀ K_ : St → Prop, K_ = AW P ((Code.region m r b).seq c) Q → K_ ⟨s.map (rwzV d ver n l.length (.row (bl (l.take n)) t (nextTok h.T t) false)), ⟨dropL d h.H, upd h.T t (nextTok h.T t)⟩⟩) : AW P ((Code.region m r b).seq c) Q ⟨s, h⟩ := by
  have e : (l.map ub).length = l.length := by simp
  have e2 : (l.map ub).take n = (l.take n).map ub := by simp
  refine AW.rowize d t n hd hl (by rw [e]; exact hn) ?_
  rw [e, e2]
  exact hc _ rfl
end
section
variable (d ver n cap : Nat) (y : V)
@[simp] theorem rwzV_junk : rwzV d ver n cap y .junk = .junk := rfl
@[simp] theorem rwzV_p (x : PV) : rwzV d ver n cap y (.p x) = .p x := rfl
@[simp] theorem rwzV_row (r : Row PV) (t v : Nat) (nl : Bool) : rwzV d ver n cap y (.row r t v nl) = .row r t v nl := rfl
@[simp] theorem rwzV_own (id v off len c : Nat) : rwzV d ver n cap y (.own id v off len c) = if id = d then (if v = ver ∧ off = 0 ∧ len = n ∧ c = cap then y else .junk) else .own id v off len c := rfl
@[simp] theorem rwzV_ptr (id v off : Nat) : rwzV d ver n cap y (.ptr id v off) = if id = d then .junk else .ptr id v off := by simp [rwzV, jnkV, V.leads]
@[simp] theorem rwzV_tup (l : List V) : rwzV d ver n cap y (.tup l) = if V.leadsL (onlyK d) l = true then .junk else .tup l := by simp only [rwzV, jnkV, V.leads]; congr
@[simp] theorem rwzV_agg (l : List V) : rwzV d ver n cap y (.agg l) = if V.leadsL (onlyK d) l = true then .junk else .agg l := by simp only [rwzV, jnkV, V.leads]; congr
end
attribute [simp] dropL jnkHB
/-! ## Rows that a function is only shown, where it writes to other things -/
def plainV : V → V
  | .row r _ _ nl => .p (.sl r nl)
  | x => x
theorem plain_rep {G : Gh} {h : HT} {w : World} {x : V} {v : Value} (r : Rep G h w x v) : Rep G h w (plainV x) v := by
  cases r with
  | row r t ver cur nl a cap hc hle hr ht => exact .p hr
  | junk v => exact .junk v
  | p r => exact .p r
  | own id ver off len cap cur hb v hc hle hv => exact .own _ _ _ _ _ _ _ _ hc hle hv
  | ptr id ver off cur hb v hc hle hv => exact .ptr _ _ _ _ _ _ hc hle hv
  | adr id ver off e n cur hb v hc hle hv => exact .adr _ _ _ _ _ _ _ _ hc hle hv
  | brow e r t ver nl v hr hty => exact .brow _ _ _ _ _ _ hr hty
  | agg l vs f hs hf h1 hr => exact .agg _ _ _ hs hf h1 hr
  | tup l vs f hs hf hr => exact .tup _ _ _ hs hf hr
section
variable [Tables] {P : Program} {f : FuncId} {E : List V} {h : HT} {d : Nat} {F : V → HT → Prop}
open Classical in
theorem callK_q (hm : 2 ≤ Tables.mode f) (hc : lendK P f (E.map plainV) h d F) : callK P f E h d F := by
  obtain ⟨res, outs, n, h1, h2⟩ := hc
  have e : (lendB h (E.map plainV)).length = (V.tokl h.T [] (heldBy h.H (reach h.H 400 [] (E.map plainV)) ++ E.map plainV)).length := numb_length _ _
  have h1' : Ct P f (lendArgs h (E.map plainV)) (lendIns h (E.map plainV)) (lendB h (E.map plainV)).length res outs n := by rw [e]; exact h1
  refine ⟨backV h (E.map plainV) d res outs n, backH h (E.map plainV) d outs n, .inr (.inr (.inr ⟨hm, fun E1 h1 d1 => if E1 = E ∧ h1 = h ∧ d1 = d then some (backV h (E.map plainV) d res outs n, backH h (E.map plainV) d outs n) else none, ?_, by simp⟩)), h2⟩
  intro G hh w E1 vs d1 v h' wf hglob hlen hE hpv
  simp only at hpv
  split at hpv
  · rename_i hq
    obtain ⟨rfl, rfl, rfl⟩ := hq
    simp only [Option.some.injEq, Prod.mk.injEq] at hpv
    obtain ⟨rfl, rfl⟩ := hpv
    have hE2 : ∀ i, i < (E1.map plainV).length → Rep G hh w ((E1.map plainV).getD i .junk) (vs.getD i undef) := by
      intro i hi
      simp only [List.length_map] at hi
      have := plain_rep (hE i hi)
      simp only [List.getD_eq_getElem?_getD, List.getElem?_map, List.getElem?_eq_getElem hi, Option.map_some, Option.getD_some] at this ⊢
      exact this
    rcases h1' _ _ _ (lend_goes wf hglob (E1.map plainV) _ (by simpa using hlen) hE2) with ⟨hrun, hcalls⟩ | ⟨u, w', hrun, hcm⟩
    · refine .inl ⟨hrun, hcalls.mono ?_⟩
      rintro e w' ⟨u, rfl, hcm⟩
      exact ⟨u, rfl, call_back wf (E1.map plainV) _ hcm⟩
    · exact .inr ⟨u, w', hrun, call_back wf (E1.map plainV) _ hcm⟩
  · simp at hpv
end
section
variable (r : Row PV) (t v : Nat) (nl : Bool)
@[simp] theorem plainV_row : plainV (.row r t v nl) = .p (.sl r nl) := rfl
@[simp] theorem plainV_p (x : PV) : plainV (.p x) = .p x := rfl
@[simp] theorem plainV_ptr (a b c : Nat) : plainV (.ptr a b c) = .ptr a b c := rfl
@[simp] theorem plainV_own (a b c d e : Nat) : plainV (.own a b c d e) = .own a b c d e := rfl
end
section
variable [Tables] {P : Program} {ops : Array Oper} {σ : St} {Q : Exit → St → Prop}
theorem AW.regCAt (id : Nat) {y : Code} (ns : List Nat) (hok : okC ops.size ns 0 = true) (h : ∀ L, L = AW P y Q → runC P ops ns 0 σ L) : AW P (.seq (.region id ops false) y) Q σ := AW.regCSeq ns hok h
theorem AW.regCAt1 (id : Nat) (ns : List Nat) (hok : okC ops.size ns 0 = true) (h : ∀ L, L = Q .normal → runC P ops ns 0 σ L) : AW P (.region id ops false) Q σ := AW.regC ns hok (h _ rfl)
theorem runC_cons {n : Nat} {ns : List Nat} {i : Nat} {K : St → Prop} (h : ∀ F : St → Prop, F = (fun σ1 => XS P ops n σ1 fun σ2 => runC P ops ns (n + 1) σ2 K) → runE P ops ((ops.toList.drop i).take (n - i)) σ F) : runC P ops (n :: ns) i σ K := h
theorem runC_nil {i : Nat} {K : St → Prop} (h : runE P ops (ops.toList.drop i) σ K) : runC P ops [] i σ K := h
theorem XS_at (n : Nat) {K : St → Prop} (h : XS P ops n σ K) : XS P ops n σ K := h
/-- append to an own slice of bytes. -/
theorem appX_bl {t u e : TypeId} {id ver len cap : Nat} {y : V} {h : HT} (he : elemInfo P t = some (e, 1, 1, .int .u8 0)) {l l' : List (BitVec 8)} (hl : look h.H id = some (ver, .row (bl l))) (hy : srcV h.H 1 y = some (bl l'))
    (hu : notInt P u = true) (h1 : l.length = cap) (h2 : len ≤ cap) (h3 : l.drop len = List.replicate (cap - len) 0#8) (h4 : cap ≤ 9223372036854775807) (h5 : len + l'.length ≤ 140737488355328) (c : Nat) :
    appX P t u (.own id ver 0 len cap) y h c = some (.own id (ver + 1) 0 (len + l'.length) (len + l'.length + (c - (len + l'.length))), ⟨upd h.H id (ver + 1, .row (bl (l.take len ++ l' ++ List.replicate (c - (len + l'.length)) 0#8))), h.T⟩) := by
  unfold appX
  simp only [he, hl, hy, bl]
  have e3 : (l.map ub).drop len = List.replicate (cap - len) 0 := by rw [← List.map_drop, h3, List.map_replicate]; rfl
  rw [if_pos ⟨trivial, trivial, trivial, trivial, trivial, trivial, by simpa using h1, h2, h4, e3, by simpa using h5, hu⟩]
  simp [bl, ub]
end
section
variable [Tables] {P : Program} {ops : Array Oper} {s : List V} {h : HT}
/-- An empty literal is a row of whatever kind. -/
theorem rl_retag {G0 G : Gh} {w0 w : World} {a : Act} {id ver : Nat} (hl : look h.H id = some (ver, .cells [])) (r : Rl G0 w0 ⟨s, h⟩ G a w) :
    Rl G0 w0 ⟨s, ⟨upd h.H id (ver, .row (bl [])), h.T⟩⟩ G a w := by
  have hk : Keeps G h w G ⟨upd h.H id (ver, .row (bl [])), h.T⟩ w := by
    refine ⟨fun _ _ _ hv => hv, fun t cur ht => ⟨cur, ht, Nat.le_refl _, fun _ => ⟨rfl, rfl, fun ho => ⟨ho, fun _ _ _ h => h⟩⟩⟩, ?_, fun _ _ h => h⟩
    intro i cur hb0 hi
    by_cases hid : i = id
    · subst hid
      rw [hl] at hi; simp only [Option.some.injEq, Prod.mk.injEq] at hi
      exact ⟨ver, _, look_upd_same _ _ _, by omega, fun _ => rfl⟩
    · exact ⟨cur, hb0, (look_upd_other _ _ _ _ hid).trans hi, Nat.le_refl _, fun _ => rfl⟩
  refine ⟨r.defers, r.size, fun i hi => (r.slots i hi).mono hk, ⟨r.wf.fresh, r.wf.rows, ?_⟩, r.ext, r.ids_keep hk, r.glob⟩
  intro i v hb0 hi
  by_cases hid : i = id
  · subst hid
    rw [look_upd_same] at hi; simp only [Option.some.injEq, Prod.mk.injEq] at hi
    obtain ⟨rfl, rfl⟩ := hi
    obtain ⟨o1, o2, o3⟩ := r.wf.objs i ver _ hl
    refine ⟨o1, o2, ?_⟩
    obtain ⟨vs, ty, fz, a1, a2, a3, a4⟩ := o3
    exact ⟨vs, ty, fz, a1, a2, fun j hj => absurd hj (by simp [HB.size, Row.len, bl]), a4⟩
  · rw [look_upd_other _ _ _ _ hid] at hi
    obtain ⟨o1, o2, o3⟩ := r.wf.objs i v hb0 hi
    exact ⟨o1, o2, o3.mono hk rfl⟩
theorem XS.retag {n : Nat} (id : Nat) {ver : Nat} (hl : look h.H id = some (ver, .cells [])) {K : St → Prop} (hx : XS P ops n ⟨s, ⟨upd h.H id (ver, .row (bl [])), h.T⟩⟩ K) : XS P ops n ⟨s, h⟩ K :=
  fun G0 w0 G a w Q next r hn => hx G0 w0 G a w Q next (rl_retag hl r) hn
end

/-! ## A region in each of its orders -/
section
variable [Tables] {P : Program} {ops : Array Oper} {σ : St} {Q : Exit → St → Prop}
def eachOf (P : Program) (ops : Array Oper) (σ : St) (F : Nat → St → Prop) : List Nat → Prop
  | [] => True
  | i :: l => (match ops[i]? with | some o => ∀ K : St → Prop, K = F i → runE P ops [o] σ K | none => True) ∧ eachOf P ops σ F l
theorem eachOf_mem {F : Nat → St → Prop} : ∀ {l : List Nat}, eachOf P ops σ F l → ∀ i ∈ l, ∀ o, ops[i]? = some o → gstep P ops o σ (F i)
  | [], _, i, hi, _, _ => by simp at hi
  | j :: l, h, i, hi, o, ho => by
    simp only [eachOf] at h
    rcases List.mem_cons.1 hi with rfl | hi
    · rw [ho] at h
      have := runE_asteps _ _ _ (h.1 _ rfl)
      simpa only [asteps] using this
    · exact eachOf_mem h.2 i hi o ho
theorem aAny_step {K : St → Prop} {fuel : Nat} {listed : Array Bool} (l : List Nat) (hl : Region.ready .any ops listed = l) (hne : l ≠ [])
    (h : eachOf P ops σ (fun i => aAny P ops K fuel (listed.setIfInBounds i true)) l) : aAny P ops K (fuel + 1) listed σ := by
  simp only [aAny]
  rw [hl]
  exact ⟨fun e => absurd e hne, eachOf_mem h⟩
theorem aAny_end {K : St → Prop} {listed : Array Bool} (hl : Region.ready .any ops listed = []) (h : K σ) : aAny P ops K 0 listed σ := ⟨hl, h⟩
theorem AW.drawAny {id : Nat} {y : Code} (hm : P.follows .mixedOrders = true) (h : aAny P ops (AW P y Q) ops.size (Array.replicate ops.size false) σ) : AW P (.seq (.region id ops true) y) Q σ := by
  refine AW.seq ?_
  intro G0 w0 G a w hst r
  refine wp_region_any hm ?_
  have r' : Rl G0 w0 σ G a { w with drawn := w.drawn + 1 } := by
    have hk : Keeps G σ.h w G σ.h { w with drawn := w.drawn + 1 } := ⟨fun b o v hv => hv, (Keeps.refl G σ.h w).toks, (Keeps.refl G σ.h w).objs, fun _ _ h => h⟩
    have he : Ext G w G { w with drawn := w.drawn + 1 } := ⟨rfl, rfl, rfl, Nat.le_refl _, fun b hb hs => ⟨rfl, rfl⟩, fun b o v hb hv => hv, fun _ _ h => h⟩
    refine ⟨r.defers, r.size, fun i hi => (r.slots i hi).mono hk, ⟨r.wf.fresh, r.wf.rows, fun id ver hb hl => ?_⟩, r.ext.trans he, r.ids, r.glob⟩
    obtain ⟨o1, o2, o3⟩ := r.wf.objs id ver hb hl
    exact ⟨o1, o2, o3.mono hk rfl⟩
  exact aAny_wpAny (K := AW P y Q) (fun σ' G' a' w' hk r' => ⟨σ', G', hk, r'⟩) _ _ σ G a _ r' h
theorem AW.drawAnyAt (id n : Nat) (L : Array Bool) {y : Code} (hm : P.follows .mixedOrders = true) (hn : ops.size = n) (hL : Array.replicate n false = L) (h : ∀ K, K = AW P y Q → aAny P ops K n L σ) : AW P (.seq (.region id ops true) y) Q σ := by
  refine AW.drawAny hm ?_
  rw [hn, hL]; exact h _ rfl
end
/-- A walk stops here. -/
def Halt (p : Prop) : Prop := p
section
variable [Tables] {P : Program} {σ : St} {Q : Exit → St → Prop}
theorem AW.halt {r : Array Oper} {b : Bool} {c : Code} (n : Nat) (h : Halt (AW P ((Code.region n r b).seq c) Q σ)) : AW P ((Code.region n r b).seq c) Q σ := h
end
end Go.Av
end

section
set_option linter.unusedVariables false
set_option linter.unusedSimpArgs false
set_option linter.unusedSectionVars false
namespace Go.Av

/-! ## An operation that all others leave alone goes first -/
section
variable [Tables] {P : Program} {ops : Array Oper} {K : St → Prop}
theorem gstep_noB {o : Oper} {σ : St} (h : gstep P ops o σ fun _ => False) : False := by
  rw [gstep_iff] at h
  rcases h with ⟨_, v, h', _, hf⟩ | ⟨_, hf⟩ <;> exact hf
def hoistOkB (P : Program) (ops : Array Oper) (listed : Array Bool) (i : Nat) : Bool :=
  match ops[i]? with
  | none => false
  | some oi => !listed.getD i true && (oi.after.toList.all fun e => !Region.binds .any e || listed.getD e.on false) &&
    (List.range ops.size).all fun j => j == i || listed.getD j true || match ops[j]? with
      | some oj => (oj.after.toList.any fun e => Region.binds .any e && e.on == i) || indep P ops oi oj
      | none => false
theorem hoistB {i : Nat} {oi : Oper} (hi : ops[i]? = some oi) : ∀ (fuel : Nat) (listed : Array Bool) (σ : St), listed.getD i true = false → (∀ e ∈ oi.after, Region.binds .any e = true → listed.getD e.on false = true) →
    (∀ j oj, ops[j]? = some oj → j ≠ i → listed.getD j true = false → (∃ e ∈ oj.after, Region.binds .any e = true ∧ e.on = i) ∨ indep P ops oi oj = true) → gstep P ops oi σ (aAny P ops K fuel (listed.setIfInBounds i true)) → aAny P ops K (fuel + 1) listed σ := by
  intro fuel
  induction fuel with
  | zero =>
    intro listed σ h0 ha hind h
    have hr : i ∈ Region.ready .any ops listed := mem_ready.2 ⟨h0, oi, hi, ha⟩
    refine ⟨fun e => by rw [e] at hr; simp at hr, fun j hj oj hoj => ?_⟩
    by_cases hji : j = i
    · subst hji; rw [hi] at hoj; simp only [Option.some.injEq] at hoj; subst hoj; exact h
    · exfalso
      obtain ⟨g0, o', ho', g1⟩ := mem_ready.1 hj
      rw [hoj] at ho'; simp only [Option.some.injEq] at ho'; subst ho'
      refine gstep_noB (gstep_mono h fun σ' hh => ?_)
      have : j ∈ Region.ready .any ops (listed.setIfInBounds i true) := mem_ready.2 ⟨by rw [getD_set_ne true (Ne.symm hji)]; exact g0, oj, hoj, fun e he hb => getD_set_true (g1 e he hb)⟩
      rw [hh.1] at this; simp at this
  | succ fuel ih =>
    intro listed σ h0 ha hind h
    have hr : i ∈ Region.ready .any ops listed := mem_ready.2 ⟨h0, oi, hi, ha⟩
    refine ⟨fun e => by rw [e] at hr; simp at hr, fun j hj oj hoj => ?_⟩
    by_cases hji : j = i
    · subst hji; rw [hi] at hoj; simp only [Option.some.injEq] at hoj; subst hoj; exact h
    · obtain ⟨g0, o', ho', g1⟩ := mem_ready.1 hj
      rw [hoj] at ho'; simp only [Option.some.injEq] at ho'; subst ho'
      have h1 : gstep P ops oi σ fun σ' => gstep P ops oj σ' (aAny P ops K fuel ((listed.setIfInBounds i true).setIfInBounds j true)) := by
        refine gstep_mono h fun σ' hh => ?_
        exact hh.2 j (mem_ready.2 ⟨by rw [getD_set_ne true (Ne.symm hji)]; exact g0, oj, hoj, fun e he hb => getD_set_true (g1 e he hb)⟩) oj hoj
      have hij : indep P ops oi oj = true := by
        rcases hind j oj hoj hji g0 with ⟨e, he, hb, hei⟩ | h
        · have h2 := g1 e he hb
          rw [hei] at h2
          have hlt : i < listed.size := by
            rcases Nat.lt_or_ge i listed.size with h3 | h3
            · exact h3
            · rw [Array.getD_eq_getD_getElem?, Array.getElem?_eq_none h3] at h2; simp at h2
          simp [Array.getD_eq_getD_getElem?, hlt] at h2 h0
          rw [h2] at h0; simp at h0
        · exact h
      refine gstep_mono (gstep_swap hij h1) fun σ' hh => ?_
      refine ih _ _ (by rw [getD_set_ne true hji]; exact h0) (fun e he hb => getD_set_true (ha e he hb)) (fun k ok hok hki hkl => hind k ok hok hki ?_) ?_
      · by_cases hkj : j = k
        · subst hkj; exact g0
        · rw [getD_set_ne true hkj] at hkl; exact hkl
      · rw [show (listed.setIfInBounds j true).setIfInBounds i true = (listed.setIfInBounds i true).setIfInBounds j true from Array.setIfInBounds_comm _ _ hji]; exact hh
theorem aAny_hoistB (i : Nat) {fuel : Nat} {listed : Array Bool} {σ : St} (hok : hoistOkB P ops listed i = true) (h : eachOf P ops σ (fun _ => aAny P ops K fuel (listed.setIfInBounds i true)) [i]) : aAny P ops K (fuel + 1) listed σ := by
  unfold hoistOkB at hok
  split at hok
  · simp at hok
  · rename_i oi hi
    simp only [Bool.and_eq_true, Bool.not_eq_true', List.all_eq_true, List.mem_range] at hok
    obtain ⟨⟨h0, h1⟩, h2⟩ := hok
    refine hoistB hi fuel listed σ h0 (fun e he hb => ?_) (fun j oj hj hji hl => ?_) ?_
    · have := h1 e (by simpa using he)
      simpa [hb] using this
    · have := h2 j (Array.getElem?_eq_some_iff.1 hj).1
      rw [hj] at this
      simp only [hl, Bool.or_false, Bool.or_eq_true, beq_iff_eq, hji, false_or, List.any_eq_true, Bool.and_eq_true] at this
      rcases this with ⟨e, he, hb, hei⟩ | h
      · exact .inl ⟨e, by simpa using he, hb, hei⟩
      · exact .inr h
    · simp only [eachOf, hi] at h
      have := runE_asteps _ _ _ (h.1 _ rfl)
      simpa only [asteps] using this
end
end Go.Av
end

section
set_option linter.unusedVariables false
set_option linter.unusedSimpArgs false
set_option linter.unusedSectionVars false
namespace Go.Av

/-! ## An own slice of nothing, with room, becomes a row that may be appended to, ahead of an operation -/
section
variable {G : Gh} {h : HT} {w : World} {d : Nat}
/-- A slice of length 0 with room. -/
theorem rowz0_rep (wf : WF G h w) {ver : Nat} {r r0 : Row PV} (hl : look h.H d = some (ver, .row r)) (h1 : r.sz = 1) (h2 : r0.sz = 1) (h0 : r0.len = 0) (t nv : Nat) (hv : ∀ c, look h.T t = some c → c < nv) {x : V} {v : Value} (hr : Rep G h w x v) :
    Rep (G.grown (G.ι d) t 0) ⟨dropL d h.H, upd h.T t nv⟩ w (rwzV d ver 0 r.len (.row r0 t nv false) x) v := by
  obtain ⟨hpm, hk, hwf⟩ := rowz_keeps wf hl t 0 nv hv
  have key : ∀ {x : V}, Rep G h w x v → Rep (G.grown (G.ι d) t 0) ⟨dropL d h.H, upd h.T t nv⟩ w (jnkV d x) v := fun hr => jnk_rep (hr.mono hk)
  unfold rwzV
  split
  · rename_i id v0 off len c
    split
    · rename_i hid
      subst hid
      split
      · rename_i hc
        obtain ⟨rfl, rfl, rfl, rfl⟩ := hc
        obtain ⟨d1, d2, vs, ty, fz, q1, q2, q3, q4⟩ := wf.objs id v0 _ hl
        simp only [HB.size] at q2 q3 q4
        obtain rfl := hr.at_own hl rfl
        have hr2 : Rep (G.grown (G.ι id) t 0) ⟨dropL id h.H, upd h.T t nv⟩ w (.row r0 t nv false) (.slice (some ⟨G.ι id, 0, none⟩) r0.len r.len) := by
          refine .row _ t nv nv false _ r.len (look_upd_same _ _ _) (Nat.le_refl _) ?_ fun _ => .inr ⟨0, vs, ty, fz, ?_, ?_, ?_, by omega, ?_, ?_, ?_⟩
          · exact .sl _ ⟨G.ι id, 0, none⟩ r.len (fun _ _ => undef) (by omega) (.inl h0) (fun i hi => by omega) (fun i j hi => by omega) (fun i j hi => by omega) (fun i j hi => by omega)
          · simp [Gh.grown]
          · simp [Gh.grown]
          · simp [Gh.grown, h0]
          · simpa [Gh.grown] using q1
          · rw [h2]; omega
          · intro o ho1 ho2
            rw [h2] at ho2
            simpa [Gh.grown] using q4 o (by omega)
        rw [h0] at hr2
        exact hr2
      · exact .junk _
    · rename_i hid
      have := key hr
      unfold jnkV at this
      rw [if_neg (by simp [V.leads, hid])] at this
      exact this
  · exact key hr
end
section
variable [Tables] {P : Program} {ops : Array Oper} {s : List V} {h : HT}
theorem rl_row0 {G0 G : Gh} {w0 w : World} {a : Act} (d t : Nat) (hd : d < 10000) {ver : Nat} {r r0 : Row PV} (hl : look h.H d = some (ver, .row r)) (h1 : r.sz = 1) (h2 : r0.sz = 1) (h0 : r0.len = 0) (rl : Rl G0 w0 ⟨s, h⟩ G a w) :
    Rl G0 w0 ⟨s.map (rwzV d ver 0 r.len (.row r0 t (nextTok h.T t) false)), ⟨dropL d h.H, upd h.T t (nextTok h.T t)⟩⟩ (G.grown (G.ι d) t 0) a w := by
  have hv : ∀ c, look h.T t = some c → c < nextTok h.T t := fun c hc => nextTok_lt hc
  obtain ⟨hpm, hk, hwf⟩ := rowz_keeps rl.wf hl t 0 _ hv
  obtain ⟨d1, d2, d3⟩ := rl.wf.objs d ver _ hl
  refine ⟨rl.defers, by simpa using rl.size, ?_, hwf, ?_, ?_, rl.glob⟩
  · intro i hi
    simp only [List.length_map] at hi
    have := rowz0_rep rl.wf hl h1 h2 h0 t _ hv (rl.slots i hi)
    simp only [List.getD_eq_getElem?_getD, List.getElem?_map, List.getElem?_eq_getElem hi, Option.map_some, Option.getD_some] at this ⊢
    exact this
  · have he := rl.ext
    refine ⟨he.os, he.tape, he.output, he.size, ?_, fun b o v hb hv => hpm b o v (he.row b o v hb hv), he.shp⟩
    intro b hb hs
    obtain ⟨h1, h2⟩ := he.free b hb hs
    refine ⟨?_, h2⟩
    have hne : b ≠ G.ι d := by intro e1; rw [e1, d1] at h1; rw [e1, ← h1] at hs; simp [Owner.still] at hs
    simp only [Gh.grown, if_neg hne]
    rw [if_neg (by rw [h1]; intro e; rw [e] at hs; simp [Owner.still] at hs)]; exact h1
  · intro b id hb
    obtain ⟨h0, ver', hb1, h1, h2⟩ := rl.ids b id hb
    exact ⟨h0, ver', jnkHB d hb1, by simp only [look_dropL, if_neg (show id ≠ d by omega), h1]; rfl, h2⟩
theorem XS.row0 {n : Nat} (d t : Nat) (r0 : Row PV) (hd : d < 10000) {ver : Nat} {r : Row PV} (hl : look h.H d = some (ver, .row r)) (h1 : r.sz = 1) (h2 : r0.sz = 1) (h0 : r0.len = 0) {K : St → Prop}
    (hx : XS P ops n ⟨s.map (rwzV d ver 0 r.len (.row r0 t (nextTok h.T t) false)), ⟨dropL d h.H, upd h.T t (nextTok h.T t)⟩⟩ K) : XS P ops n ⟨s, h⟩ K :=
  fun G0 w0 G a w Q next rl hn => hx G0 w0 _ a w Q next (rl_row0 d t hd hl h1 h2 h0 rl) hn
/-- An operation of no kind of its own. -/
theorem XS.plain {n : Nat} {o : Oper} {σ : St} {K : St → Prop} (hi : ops[n]? = some o) (hg : runE P ops [o] σ K) : XS P ops n σ K := by
  intro G0 w0 G a w Q next r hn
  have h1 := runE_asteps _ _ _ hg
  simp only [asteps] at h1
  exact gstep_wp hi r h1 hn
/-- A row in a slot that is only read from now on. -/
theorem XS.flat {n : Nat} (d : Nat) {K : St → Prop} (hx : XS P ops n ⟨s.set d (plainV (s.getD d .junk)), h⟩ K) : XS P ops n ⟨s, h⟩ K := by
  intro G0 w0 G a w Q next rl hn
  refine hx G0 w0 G a w Q next ⟨rl.defers, by simpa using rl.size, ?_, rl.wf, rl.ext, rl.ids, rl.glob⟩ hn
  intro i hi
  simp only [List.length_set] at hi
  have := rl.slots i hi
  by_cases hd : d = i
  · subst hd
    have e : (s.set d (plainV (s.getD d .junk))).getD d .junk = plainV (s.getD d .junk) := by
      simp [List.getD_eq_getElem?_getD, hi]
    have h2 := plain_rep this
    rw [← e] at h2; exact h2
  · have e : (s.set d (plainV (s.getD d .junk))).getD i .junk = s.getD i .junk := by simp [List.getD_eq_getElem?_getD, List.getElem?_set_ne hd]
    have h2 := this
    rw [← e] at h2; exact h2
end
@[simp] theorem jnkV_p (d : Nat) (x : PV) : jnkV d (.p x) = .p x := by simp [jnkV, V.leads]
@[simp] theorem jnkV_row (d : Nat) (r : Row PV) (t v : Nat) (nl : Bool) : jnkV d (.row r t v nl) = .row r t v nl := by simp [jnkV, V.leads]
@[simp] theorem jnkV_junk (d : Nat) : jnkV d .junk = .junk := by simp [jnkV, V.leads]
end Go.Av
end

section
set_option linter.unusedVariables false
set_option linter.unusedSimpArgs false
set_option linter.unusedSectionVars false
namespace Go.Av

/-! ## Objects of many cells -/
def frzVB (K : Nat → Bool) (H : List (Nat × (Nat × HB))) (x : V) : V :=
  if x.leads K = true then optV (deep K H 600 x) else x
def frzHBB (K : Nat → Bool) (H : List (Nat × (Nat × HB))) : HB → HB
  | .cells l => .cells (l.map (frzVB K H))
  | .row r => .row r
  | .iter s n => .iter s n
/-- The objects that are left. -/
def frzLB (K : Nat → Bool) (H : List (Nat × (Nat × HB))) : List (Nat × (Nat × HB)) → List (Nat × (Nat × HB))
  | [] => []
  | (id, (c, hb)) :: l => if K id = true then frzLB K H l else (id, (c, frzHBB K H hb)) :: frzLB K H l
section
variable {G : Gh} {h : HT} {w : World} {K : Nat → Bool}

theorem look_frzLB (H : List (Nat × (Nat × HB))) : ∀ (l : List (Nat × (Nat × HB))) (id : Nat), look (frzLB K H l) id = if K id = true then none else (look l id).map fun r => (r.1, frzHBB K H r.2)
  | [], id => by simp [frzLB, look]
  | (k, (c, hb)) :: l, id => by
    have ih := look_frzLB H l id
    simp only [frzLB]
    by_cases hk : K k = true
    · rw [if_pos hk, ih]
      by_cases hid : k = id
      · subst hid; simp [hk]
      · simp only [look, if_neg hid]
    · rw [if_neg hk]
      by_cases hid : k = id
      · subst hid; simp [look, hk]
      · simp only [look, if_neg hid]; exact ih

theorem keep_repB {x : V} {v : Value} (r : Rep G h w x v) : x.leads K = false → Rep (G.frz K) ⟨frzLB K h.H h.H, h.T⟩ w x v := by
  induction r with
  | junk v => exact fun _ => .junk v
  | p r => exact fun _ => .p (r.mono fun b o v hv => pm_frz hv)
  | row r t ver cur nl a cap hc hle hr ht =>
    intro _
    refine .row r t ver cur nl a cap hc hle (hr.mono fun b o v hv => pm_frz hv) fun hv => ?_
    rcases ht hv with h3 | ⟨off, vs, ty, fz, ha, hown, hend, hs0, hblk, hsz, hfz⟩
    · exact .inl h3
    · exact .inr ⟨off, vs, ty, fz, ha, (frz_other (by rw [show (G.frz K).τ t = G.τ t from rfl, hown]; simp)).trans hown, hend, hs0, hblk, hsz, hfz⟩
  | own id ver off len cap cur hb v hc hle hv =>
    intro hl
    simp only [V.leads] at hl
    exact .own id ver off len cap cur (frzHBB K h.H hb) v (by simp only [look_frzLB, hl, hc]; rfl) hle hv
  | ptr id ver off cur hb v hc hle hv =>
    intro hl
    simp only [V.leads] at hl
    exact .ptr id ver off cur (frzHBB K h.H hb) v (by simp only [look_frzLB, hl, hc]; rfl) hle hv
  | adr id ver off e n cur hb v hc hle hv =>
    intro hl
    simp only [V.leads] at hl
    exact .adr id ver off e n cur (frzHBB K h.H hb) v (by simp only [look_frzLB, hl, hc]; rfl) hle hv
  | brow e r t ver nl v hr hty ih =>
    intro _
    exact .brow e r t ver nl v (ih rfl) hty
  | agg l vs f hs hf h1 _ ih =>
    intro hl
    simp only [V.leads] at hl
    exact .agg l vs f hs hf h1 fun i hi => ih i hi (leadsL_get hl i)
  | tup l vs f hs hf _ ih =>
    intro hl
    simp only [V.leads] at hl
    exact .tup l vs f hs hf fun i hi => ih i hi (leadsL_get hl i)

theorem frz_repB (wf : WF G h w) {x : V} {v : Value} (r : Rep G h w x v) : Rep (G.frz K) ⟨frzLB K h.H h.H, h.T⟩ w (frzVB K h.H x) v := by
  unfold frzVB
  split
  · cases hy : deep K h.H 600 x with
    | some y => exact .p (deep_rep wf (fun b o v hv => pm_frz hv) (fun id ver hb hk hl => frz_free (wf.objs id ver hb hl).1 hk) 600 x y v hy r)
    | none => exact .junk v
  · rename_i hl
    exact keep_repB r (by simpa using hl)

theorem frz_wfB (wf : WF G h w) : WF (G.frz K) ⟨frzLB K h.H h.H, h.T⟩ w := by
  refine ⟨?_, ?_, ?_⟩
  · intro b hb
    rw [frz_other (by rw [wf.fresh b hb]; simp)]; exact wf.fresh b hb
  · intro b t hb
    simp only [Gh.frz] at hb
    split at hb
    · split at hb <;> simp at hb
    · exact wf.rows b t hb
  · intro id ver hb hl
    simp only [look_frzLB] at hl
    split at hl
    · simp at hl
    · rename_i hk
      simp only [Option.map_eq_some_iff] at hl
      obtain ⟨⟨c, hb0⟩, hl, he⟩ := hl
      simp only [Prod.mk.injEq] at he
      obtain ⟨rfl, rfl⟩ := he
      obtain ⟨o1, o2, o3⟩ := wf.objs id c hb0 hl
      refine ⟨frz_kept o1 (by simpa using hk), o2, ?_⟩
      cases hb0 with
      | iter s pos => exact o3
      | cells l =>
        obtain ⟨vs, ty, fz, h1, h2, h3, h4⟩ := o3
        refine ⟨vs, ty, fz, h1, by simpa [frzHBB, HB.size] using h2, ?_, fun i hi => h4 i (by simpa [frzHBB, HB.size] using hi)⟩
        intro i hi
        simp only [frzHBB, HB.size, List.length_map] at hi
        obtain ⟨v, a, b, c⟩ := h3 i (by simpa [HB.size] using hi)
        refine ⟨v, a, b, ?_⟩
        have := frz_repB (K := K) wf c
        simp only [frzHBB, HB.get, List.getD_eq_getElem?_getD, List.getElem?_map, List.getElem?_eq_getElem hi, Option.map_some, Option.getD_some] at this ⊢
        exact this
      | row r =>
        obtain ⟨vs, ty, fz, h1, h2, h3, h4⟩ := o3
        refine ⟨vs, ty, fz, h1, h2, ?_, h4⟩
        intro i hi
        obtain ⟨v, a, b, c⟩ := h3 i hi
        exact ⟨v, a, b, keep_repB c rfl⟩
end

section
variable [Tables] {P : Program} {c : Code} {Q : Exit → St → Prop}
/-- Objects that nobody writes any more. -/
theorem AW.freezeKB {σ : St} (K : Nat → Bool) (hK : ∀ id, 10000 ≤ id → K id = false)
    (hc : AW P c Q ⟨σ.s.map (frzVB K σ.h.H), ⟨frzLB K σ.h.H σ.h.H, σ.h.T⟩⟩) : AW P c Q σ := by
  intro G0 w0 G a w ht rl
  refine hc G0 w0 (G.frz K) a w ht ⟨rl.defers, by simpa using rl.size, ?_, frz_wfB rl.wf, ?_, ?_, rl.glob⟩
  · intro i hi
    simp only [List.length_map] at hi
    have := frz_repB (K := K) rl.wf (rl.slots i hi)
    simp only [List.getD_eq_getElem?_getD, List.getElem?_map, List.getElem?_eq_getElem hi, Option.map_some, Option.getD_some] at this ⊢
    exact this
  · have he := rl.ext
    refine ⟨he.os, he.tape, he.output, he.size, ?_, fun b o v hb hv => pm_frz (he.row b o v hb hv), he.shp⟩
    intro b hb hs
    obtain ⟨h1, h2⟩ := he.free b hb hs
    exact ⟨(frz_other (by rw [h1]; intro id e; rw [e] at hs; simp [Owner.still] at hs)).trans h1, h2⟩
  · intro b id hb
    obtain ⟨h0, ver, hb1, h1, h2⟩ := rl.ids b id hb
    exact ⟨h0, ver, frzHBB K σ.h.H hb1, by simp only [look_frzLB, hK id h0, h1]; rfl, h2⟩
/-- One object. -/
theorem AW.freezeB {s : List V} {h : HT} (d : Nat) (hd : d < 10000)
    (hc : AW P c Q ⟨s.map (frzVB (onlyK d) h.H), ⟨frzLB (onlyK d) h.H h.H, h.T⟩⟩) : AW P c Q ⟨s, h⟩ :=
  AW.freezeKB (onlyK d) (fun id hid => by unfold onlyK; rw [beq_eq_false_iff_ne]; omega) hc
/-- The same, ahead of a region. -/
theorem AW.freezeAtB {s : List V} {h : HT} (n d : Nat) (hd : d < 10000) (hl : (look h.H d).isSome = true) {r : Array Oper} {b : Bool} {c : Code}
    (hc : ∀ K_ : St → Prop, K_ = AW P ((Code.region n r b).seq c) Q → K_ ⟨s.map (frzVB (onlyK d) h.H), ⟨frzLB (onlyK d) h.H h.H, h.T⟩⟩) : AW P ((Code.region n r b).seq c) Q ⟨s, h⟩ :=
  AW.freezeB d hd (hc _ rfl)
end
section
variable (K : Nat → Bool) (H : List (Nat × (Nat × HB)))
@[simp] theorem frzVB_p (x : PV) : frzVB K H (.p x) = .p x := rfl
@[simp] theorem frzVB_row (r : Row PV) (t v : Nat) (nl : Bool) : frzVB K H (.row r t v nl) = .row r t v nl := rfl
@[simp] theorem frzVB_junk : frzVB K H .junk = .junk := rfl
@[simp] theorem frzVB_own (id ver off len cap : Nat) : frzVB K H (.own id ver off len cap) = if K id = true then optV (deep K H 600 (.own id ver off len cap)) else .own id ver off len cap := by unfold frzVB; simp only [V.leads]; congr
@[simp] theorem frzVB_ptr (id ver off : Nat) : frzVB K H (.ptr id ver off) = if K id = true then optV (deep K H 600 (.ptr id ver off)) else .ptr id ver off := by unfold frzVB; simp only [V.leads]; congr
@[simp] theorem frzVB_agg (l : List V) : frzVB K H (.agg l) = if V.leadsL K l = true then optV (deep K H 600 (.agg l)) else .agg l := by unfold frzVB; simp only [V.leads]; congr
@[simp] theorem frzVB_tup (l : List V) : frzVB K H (.tup l) = if V.leadsL K l = true then .junk else .tup l := by
  simp only [frzVB, V.leads]; rw [show (600 : Nat) = 599 + 1 from rfl, deep]; rfl
end
attribute [simp] frzLB frzHBB


theorem reach_pures (H : List (Nat × (Nat × HB))) : ∀ (L : List PV) (n : Nat) (acc : List Nat) (rest : List V), reach H (L.length + n) acc (L.map V.p ++ rest) = reach H n acc rest
  | [], n, acc, rest => by simp
  | x :: L, n, acc, rest => by
    rw [List.length_cons, show L.length + 1 + n = (L.length + n) + 1 by omega]
    simp only [List.map_cons, List.cons_append, reach]
    exact reach_pures H L n acc rest
theorem tokl_pures (T : List (Nat × Nat)) : ∀ (L : List PV) (acc : List Nat) (rest : List V), V.tokl T acc (L.map V.p ++ rest) = V.tokl T acc rest
  | [], acc, rest => rfl
  | x :: L, acc, rest => by
    rw [List.map_cons, List.cons_append]
    simp only [V.tokl, V.toks]
    exact tokl_pures T L acc rest
theorem rens_app (fo ft : Nm) : ∀ (a b : List V), V.rens fo ft (a ++ b) = V.rens fo ft a ++ V.rens fo ft b
  | [], b => rfl
  | x :: a, b => by simp only [List.cons_append, V.rens]; rw [rens_app fo ft a b]
theorem rens_pures (fo ft : Nm) : ∀ (L : List PV), V.rens fo ft (L.map V.p) = L.map V.p
  | [] => rfl
  | x :: L => by simp only [List.map_cons, V.rens, V.ren]; rw [rens_pures fo ft L]
theorem deeps_pures (K : Nat → Bool) (H : List (Nat × (Nat × HB))) : ∀ (L : List PV) (n : Nat) (rest : List V), 1 ≤ n → (∀ x ∈ L, x.one = true) → deeps K H (L.length + n) (L.map V.p ++ rest) = (deeps K H n rest).map fun m => L ++ m
  | [], n, rest, hn, h => by simp
  | x :: L, n, rest, hn, h => by
    obtain ⟨k, hk⟩ : ∃ k, L.length + n = k + 1 := ⟨L.length + n - 1, by omega⟩
    have ih := deeps_pures K H L n rest hn fun y hy => h y (List.mem_cons_of_mem _ hy)
    rw [List.length_cons, show L.length + 1 + n = (L.length + n) + 1 by omega, List.map_cons, List.cons_append, deeps, ih]
    rw [hk, deep]
    cases deeps K H n rest with
    | none => rfl
    | some m =>
      simp only [Option.map_some]
      rw [if_pos (h x (List.mem_cons_self ..))]; rfl
end Go.Av
end
