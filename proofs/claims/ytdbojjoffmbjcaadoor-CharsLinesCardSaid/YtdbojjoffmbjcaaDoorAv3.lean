/- What the walk over this seat's program leans on, part 3 of 5: values without addresses, and what each operation, region, loop and call does to them. Conditions: none. -/
import Derived.Test.YtdbojjoffmbjcaaDoorAv2
import Derived.Orders
import Derived.Below
section
set_option linter.unusedVariables false
set_option linter.unusedSimpArgs false
set_option linter.unusedSectionVars false
namespace Go.Av
section
variable [Tables]
def callOf : Op → Option (FuncId × Array Operand)
  | .call { callee := .value (.func f), args, .. } => some (f, args)
  | _ => none
def impFt (T : List (Nat × Nat)) (d n : Nat) : Nm := nmT (impB d n) (toksT 0 n) (nextTok T)
def impV (T : List (Nat × Nat)) (d : Nat) (res : List V) (n : Nat) : V := V.ren noNm (impFt T d n) (retV res)
def callP (P : Program) (f : FuncId) (E : List V) (h : HT) (d : Nat) (v : V) (h' : HT) : Prop :=
  ∃ ps res n, pvsOf E = some ps ∧ Ct P f (ps.map .p) [] 0 res [] n ∧ v = impV h.T d res n ∧ h' = ⟨h.H, impT h.T d n⟩
def callS (P : Program) (f : FuncId) (E : List V) (h : HT) (v : V) (h' : HT) : Prop :=
  1 ≤ Tables.mode f ∧ ∃ ps res, shows h.H E = some ps ∧ flats res = true ∧ Ct P f (ps.map .p) [] 0 res [] 0 ∧ v = retV res ∧ h' = h
def callO (P : Program) (f : FuncId) (E : List V) (h : HT) (d : Nat) (v : V) (h' : HT) : Prop :=
  2 ≤ Tables.mode f ∧ ∃ res outs n, Ct P f (lendArgs h E) (lendIns h E) (lendB h E).length res outs n ∧ v = backV h E d res outs n ∧ h' = backH h E d outs n
def callB (P : Program) (f : FuncId) (E : List V) (h : HT) (d : Nat) (v : V) (h' : HT) : Prop :=
  2 ≤ Tables.mode f ∧ ∃ pr : Prim, PrimOk P f pr ∧ pr E h d = some (v, h')
def dynOf (op : Op) (ρ : Operand → V) (H : List (Nat × (Nat × HB))) : Option (FuncId × List V) :=
  match op with
  | .call { callee := .value x, args, .. } => match ρ x with
    | .p (.fn f r) => some (f, args.toList.map ρ ++ (List.range r.len).map fun i => .p (r.elem i))
    | .bnd f id ver off => if okV H (.ptr id ver off) = true then some (f, .ptr id ver off :: args.toList.map ρ) else none
    | _ => none
  | _ => none
def SR (P : Program) (op : Op) (d : Nat) (ρ : Operand → V) (h : HT) (v : V) (h' : HT) : Prop :=
  match callOf op with
  | some (f, args) => callP P f (args.toList.map ρ) h d v h' ∨ callS P f (args.toList.map ρ) h v h' ∨ callO P f (args.toList.map ρ) h d v h' ∨ callB P f (args.toList.map ρ) h d v h'
  | none => match dynOf op ρ h.H with
    | some (f, E) => callP P f E h d v h' ∨ callS P f E h v h' ∨ callO P f E h d v h' ∨ callB P f E h d v h'
    | none => aval P op d ρ h = some (v, h')
def astep (P : Program) (o : Oper) (σ : St) (K : St → Prop) : Prop :=
  ∃ v h', SR P o.op (o.dst.getD 0) σ.eval σ.h v h' ∧ K (σ.put o.dst v h')
def gstep (P : Program) (ops : Array Oper) (o : Oper) (σ : St) (K : St → Prop) : Prop :=
  match o.guard with
  | none => astep P o σ K
  | some (j, want) =>
    match (ops[j]?).bind (·.dst) with
    | none => False
    | some t =>
      match σ.s.getD t .junk with
      | .p (.bool b) => if b = want then astep P o σ K else K (σ.put o.dst (.tup []) σ.h)
      | .tup [] => K (σ.put o.dst (.tup []) σ.h)
      | _ => False
def asteps (P : Program) (ops : Array Oper) : List Oper → St → (St → Prop) → Prop
  | [], σ, K => K σ
  | o :: l, σ, K => gstep P ops o σ fun σ' => asteps P ops l σ' K
section
variable {P : Program} {ops : Array Oper} {G0 G : Gh} {w0 w : World} {σ : St} {a : Act}
theorem callOf_spec {op : Op} {f : FuncId} {args : Array Operand} (h : callOf op = some (f, args)) : ∃ ts, op = .call { callee := .value (.func f), args, argTypes := ts } := by
  unfold callOf at h
  split at h
  · simp only [Option.some.injEq, Prod.mk.injEq] at h
    obtain ⟨rfl, rfl⟩ := h
    exact ⟨_, rfl⟩
  · simp at h
theorem reach_pure (H : List (Nat × (Nat × HB))) : ∀ (n : Nat) (ps : List PV), reach H n [] (ps.map V.p) = []
  | 0, ps => by cases ps <;> rfl
  | n + 1, [] => rfl
  | n + 1, x :: l => by simp only [List.map_cons, reach]; exact reach_pure H n l
theorem rens_pure {fo ft : Nm} : ∀ (ps : List PV), V.rens fo ft (ps.map V.p) = ps.map V.p
  | [] => rfl
  | x :: l => by simp only [List.map_cons, V.rens, V.ren, rens_pure l]
theorem astep_wp {o : Oper} {K : St → Prop} {Q : Exit → Act → World → Prop} {next : Act → World → Prop} (r : Rl G0 w0 σ G a w)
    (hs : astep P o σ K) (hn : ∀ σ' G' a' w', K σ' → Rl G0 w0 σ' G' a' w' → next a' w') : o.wp P a w next Q := by
  obtain ⟨v, h', hsr, hk⟩ := hs
  unfold SR at hsr
  have hglob : ∀ g r, Tables.gl g = some r → RepP (pm G w) (.eptr r 0 0) (.pointer (some ⟨g, 0, none⟩)) := fun g rr hg => (r.glob g rr hg).mono fun b o v hv => r.ext.pm hv
  have main : ∀ (f : FuncId) (E : List V) (vs : List Value), execOp a.eval o = callFunc f vs.toArray → E.length = vs.length → (∀ i, i < E.length → Rep G σ.h w (E.getD i .junk) (vs.getD i undef)) →
      (callP P f E σ.h (o.dst.getD 0) v h' ∨ callS P f E σ.h v h' ∨ callO P f E σ.h (o.dst.getD 0) v h' ∨ callB P f E σ.h (o.dst.getD 0) v h') → o.wp P a w next Q := by
    intro f E vs hexec hlen hE hsr
    have run : ∀ {Gc : Gh} {args' : List V} {ins : List HB} {n0 : Nat} {res : List V} {outs : List HB} {n1 : Nat}, Ct P f args' ins n0 res outs n1 → Goes Gc w args' ins n0 vs →
        (∀ u w', Came Gc w ins.length res outs n1 u w' → ∃ G', Rep G' h' w' v u ∧ Keeps G σ.h w G' h' w' ∧ Ext G w G' w' ∧ WF G' h' w') → o.wp P a w next Q := by
      intro Gc args' ins n0 res outs n1 hct hgoes hback
      have fin : ∀ {u w'}, Came Gc w ins.length res outs n1 u w' → next (a.put o.dst u) w' := by
        intro u w' hc
        obtain ⟨G', y1, y2, y3, y4⟩ := hback u w' hc
        exact hn _ _ _ _ hk (r.put o.dst y2 y1 y4 y3)
      unfold Oper.wp
      rw [hexec]
      rcases hct _ _ _ hgoes with ⟨hrun, hcalls⟩ | ⟨u, w', hrun, hc⟩
      · rw [hrun, Oper.upon_enter]
        refine hcalls.mono ?_
        rintro e w' ⟨u, rfl, hc⟩
        exact fin hc
      · rw [hrun, Oper.upon_value]
        exact fin hc
    rcases hsr with ⟨ps, res, n, hps, hct, rfl, rfl⟩ | ⟨_, ps, res, hps, hfl, hct, rfl, rfl⟩ | ⟨_, res, outs, n, hct, rfl, rfl⟩ | ⟨_, pr, hpr, hpv⟩
    · obtain ⟨e1, e2⟩ := pvsOf_get _ _ hps
      have hE' : ∀ i, i < (ps.map V.p).length → Rep G σ.h w ((ps.map V.p).getD i .junk) (vs.getD i undef) := by
        intro i hi
        simp only [List.length_map] at hi
        have e : (ps.map V.p).getD i .junk = .p (ps.getD i .ptr0) := by simp [List.getD_eq_getElem?_getD, hi]
        rw [e]
        exact .p (pvOf_rep (e2 i (by omega)) (hE i (by omega)))
      have hr0 := reach_pure σ.h.H 400 ps
      have eI : lendIns σ.h (ps.map V.p) = [] := by simp only [lendIns, hr0, insOf]
      have eA : lendArgs σ.h (ps.map V.p) = ps.map V.p := rens_pure ps
      have ht0 : V.tokl σ.h.T [] (ps.map V.p) = [] := tokl_pure _ ps
      have eB : (lendB σ.h (ps.map V.p)).length = 0 := by simp [lendB, hr0, heldBy, ht0, numb]
      have hgo := lend_goes r.wf hglob (ps.map V.p) vs (by simp [e1, hlen]) hE'
      rw [eI, eA, eB] at hgo
      refine run hct hgo ?_
      intro u w' hc
      have hb := call_back r.wf (ps.map V.p) (o.dst.getD 0) (res := res) (outs := []) (n := n) (v := u) (w1 := w') (by rw [eI]; exact hc)
      have eH : backH σ.h (ps.map V.p) (o.dst.getD 0) [] n = ⟨σ.h.H, impT σ.h.T (o.dst.getD 0) n⟩ := by
        simp only [backH, backT1, lendToks, hr0, heldBy, List.nil_append, ht0, bumpAll, setObjs]
      have eV : backV σ.h (ps.map V.p) (o.dst.getD 0) res [] n = impV σ.h.T (o.dst.getD 0) res n := by
        have e1 : backFo σ.h (ps.map V.p) [] = noNm := by
          funext id v
          simp [backFo, lendA, hr0, numb, swapL, nmO, look, noNm]
        have e2 : backFt σ.h (ps.map V.p) (o.dst.getD 0) n = impFt σ.h.T (o.dst.getD 0) n := by
          simp only [backFt, impFt, backT1, lendToks, hr0, heldBy, List.nil_append, ht0, bumpAll]
        simp only [backV, impV, e1, e2]
      rw [eH, eV] at hb
      exact hb
    · refine run hct (shown_goes r.wf hglob hlen hE hps) ?_
      intro u w' hc
      exact shown_back r.wf hfl hc
    · refine run hct (lend_goes r.wf hglob E _ hlen hE) ?_
      intro u w' hc
      exact call_back r.wf E _ hc
    · have fin : ∀ {u w'}, TurnedTo G σ.h w v h' u w' → next (a.put o.dst u) w' := by
        rintro u w' ⟨G', y1, y2, y3, y4⟩
        exact hn _ _ _ _ hk (r.put o.dst y2 y1 y4 y3)
      unfold Oper.wp
      rw [hexec]
      rcases hpr G σ.h w E _ _ v h' r.wf hglob hlen hE hpv with ⟨hrun, hcalls⟩ | ⟨u, w', hrun, hc⟩
      · rw [hrun, Oper.upon_enter]
        refine hcalls.mono ?_
        rintro e w' ⟨u, rfl, hc⟩
        exact fin hc
      · rw [hrun, Oper.upon_value]
        exact fin hc
  split at hsr
  · rename_i f args hcall
    obtain ⟨ts, hop⟩ := callOf_spec hcall
    have hexec : execOp a.eval o = callFunc f (args.map a.eval) := by
      unfold execOp
      rw [hop]
      simp only [resolve, Act.eval, Deferred.ofValue]
      show callFunc f ((#[] ++ args.map a.eval) ++ #[]) = _
      simp
    have hvs : args.map a.eval = (args.toList.map a.eval).toArray := by apply Array.ext'; simp
    have hE : ∀ i, i < (args.toList.map σ.eval).length → Rep G σ.h w ((args.toList.map σ.eval).getD i .junk) ((args.toList.map a.eval).getD i undef) := by
      intro i hi
      simp only [List.length_map] at hi
      simp only [List.getD_eq_getElem?_getD, List.getElem?_map, List.getElem?_eq_getElem hi, Option.map_some, Option.getD_some]
      exact r.eval _
    have hlen : (args.toList.map σ.eval).length = (args.toList.map a.eval).length := by simp
    exact main f _ _ (by rw [hexec, hvs]) hlen hE hsr
  · rename_i hcall
    split at hsr
    · rename_i f E hdyn
      unfold dynOf at hdyn
      split at hdyn
      · rename_i x args ts hop
        split at hdyn
        · rename_i f' r0 hx
          simp only [Option.some.injEq, Prod.mk.injEq] at hdyn
          obtain ⟨rfl, rfl⟩ := hdyn
          have hrx := r.eval x
          rw [hx] at hrx
          cases hrx with
          | p hrp =>
            generalize hfv : a.eval x = fv at hrp
            cases hrp with
            | fn _ _ caps g hs hf hr =>
              have hexec : execOp a.eval o = callFunc f' (args.map a.eval ++ caps) := by
                unfold execOp
                rw [hop]
                simp only [resolve, hfv, Deferred.ofValue]
                show callFunc f' ((#[] ++ args.map a.eval) ++ caps) = _
                simp
              refine main f' _ (args.toList.map a.eval ++ caps.toList) (by rw [hexec]; congr 1; apply Array.ext'; simp) (by simp [hs]) ?_ hsr
              intro i hi
              simp only [List.length_append, List.length_map, List.length_range] at hi
              by_cases h1 : i < args.toList.length
              · have ea : (args.toList.map σ.eval ++ (List.range r0.len).map fun i => V.p (r0.elem i)).getD i .junk = σ.eval (args.toList.getD i (.func 0)) := by
                  rw [List.getD_eq_getElem?_getD, List.getElem?_append_left (by simpa using h1), List.getElem?_map, List.getElem?_eq_getElem h1, List.getD_eq_getElem?_getD, List.getElem?_eq_getElem h1]; rfl
                have eb : (args.toList.map a.eval ++ caps.toList).getD i undef = a.eval (args.toList.getD i (.func 0)) := by
                  rw [List.getD_eq_getElem?_getD, List.getElem?_append_left (by simpa using h1), List.getElem?_map, List.getElem?_eq_getElem h1, List.getD_eq_getElem?_getD, List.getElem?_eq_getElem h1]; rfl
                rw [ea, eb]; exact r.eval _
              · have h2 : i - args.toList.length < r0.len := by omega
                have ea : (args.toList.map σ.eval ++ (List.range r0.len).map fun i => V.p (r0.elem i)).getD i .junk = V.p (r0.elem (i - args.toList.length)) := by
                  rw [List.getD_eq_getElem?_getD, List.getElem?_append_right (by simp only [List.length_map]; omega), List.length_map, List.getElem?_map, List.getElem?_range h2]; rfl
                have eb : (args.toList.map a.eval ++ caps.toList).getD i undef = g (i - args.toList.length) := by
                  rw [List.getD_eq_getElem?_getD, List.getElem?_append_right (by simp only [List.length_map]; omega), List.length_map, Array.getElem?_toList, hf _ h2]; rfl
                rw [ea, eb]; exact .p (hr _ h2)
        · rename_i f' id ver off hx
          split at hdyn
          · rename_i hok
            simp only [Option.some.injEq, Prod.mk.injEq] at hdyn
            obtain ⟨rfl, rfl⟩ := hdyn
            have hrx := r.eval x
            rw [hx] at hrx
            obtain ⟨hb, hl⟩ := okV_ptr hok
            have hfv := hrx.at_bnd hl rfl
            have hexec : execOp a.eval o = callFunc f' (#[.pointer (some ⟨G.ι id, off, none⟩)] ++ args.map a.eval) := by
              unfold execOp
              rw [hop]
              simp only [resolve, hfv, Deferred.ofValue]
              show callFunc f' ((#[Value.pointer (some ⟨G.ι id, off, none⟩)] ++ args.map a.eval) ++ #[]) = _
              simp
            refine main f' _ (.pointer (some ⟨G.ι id, off, none⟩) :: args.toList.map a.eval) (by rw [hexec]; congr 1; apply Array.ext'; simp) (by simp) ?_ hsr
            intro i hi
            cases i with
            | zero => exact .ptr id ver off ver hb _ hl (Nat.le_refl _) (fun _ => rfl)
            | succ i =>
              simp only [List.length_cons, List.length_map] at hi
              have hi : i < args.toList.length := by omega
              simp only [List.getD_eq_getElem?_getD, List.getElem?_cons_succ, List.getElem?_map, List.getElem?_eq_getElem hi, Option.map_some, Option.getD_some]
              exact r.eval _
          · simp at hdyn
        · simp at hdyn
      · simp at hdyn
    · rename_i hdyn
      obtain ⟨v', w', G', hrun, x1, x2, x3, x4⟩ := aval_sim (P := P) (a := a) (o := o) r.wf (fun y => r.eval y) hsr
      unfold Oper.wp
      rcases hrun with hrun | ⟨hrun, rfl⟩
      · rw [hrun, Oper.upon_value]
        exact hn _ _ _ _ hk (r.put o.dst x2 x1 x4 x3)
      · rw [hrun, Oper.upon_skip]
        exact hn _ _ _ _ hk (r.put o.dst x2 x1 x4 x3)
theorem rep_undef {G : Gh} {h : HT} {w : World} : Rep G h w (.tup []) undef := Rep.tup_of (l := []) (vs := []) rfl (fun i hi => by simp at hi)
theorem gstep_wp {i : Nat} {o : Oper} {K : St → Prop} {Q : Exit → Act → World → Prop} {next : Act → World → Prop} (hi : ops[i]? = some o) (r : Rl G0 w0 σ G a w)
    (hs : gstep P ops o σ K) (hn : ∀ σ' G' a' w', K σ' → Rl G0 w0 σ' G' a' w' → next a' w') : wpOp P ops Q i next a w := by
  unfold wpOp
  rw [hi]
  simp only
  have skip : K (σ.put o.dst (.tup []) σ.h) → next (a.put o.dst undef) w := fun hk => hn _ _ _ _ hk (r.put o.dst (Keeps.refl _ _ _) rep_undef r.wf (Ext.refl _ _))
  unfold gstep at hs
  split at hs
  · rename_i hg
    have hw : Region.wanted o (yielded ops a.tmps) = true := by simp [Region.wanted, hg]
    rw [if_pos hw]
    exact .inl (astep_wp r hs hn)
  · rename_i j want hg
    split at hs
    · exact hs.elim
    · rename_i t ht
      have hy : yielded ops a.tmps j = match a.tmps[t]? with | some (.bool b) => some b | _ => none := by
        unfold yielded; rw [ht]; rfl
      split at hs
      · rename_i b hb
        have hrep := r.get t
        rw [hb] at hrep
        have hv := hrep.bool
        have hat : a.tmps[t]? = some (.bool b) := by
          rw [Array.getD_eq_getD_getElem?] at hv
          cases hq : a.tmps[t]? with
          | none => rw [hq] at hv; simp [undef] at hv
          | some x => rw [hq] at hv; simp at hv; rw [hv]
        have hw : Region.wanted o (yielded ops a.tmps) = (b == want) := by
          simp only [Region.wanted, hg, hy, hat]; simp
        rw [hw]
        split at hs
        · rename_i hbw; subst hbw
          rw [if_pos (by simp)]
          exact .inl (astep_wp r hs hn)
        · rename_i hbw
          rw [if_neg (by simpa using hbw)]
          exact skip hs
      · rename_i hb
        have hrep := r.get t
        rw [hb] at hrep
        have hw : Region.wanted o (yielded ops a.tmps) = false := by
          simp only [Region.wanted, hg, hy]
          have : ∀ b, a.tmps[t]? ≠ some (.bool b) := by
            intro b hq
            rw [Array.getD_eq_getD_getElem?, hq] at hrep
            cases hrep
          split
          · rename_i b hq; exact absurd hq (this b)
          · simp
        rw [hw, if_neg (by simp)]
        exact skip hs
      · exact hs.elim
theorem asteps_wpOps {K : St → Prop} {Q : Exit → Act → World → Prop} (hn : ∀ σ' G' a' w', K σ' → Rl G0 w0 σ' G' a' w' → Q .normal a' w') :
    ∀ (l : List Nat) (os : List Oper) (σ : St) (G : Gh) (a : Act) (w : World), l.length = os.length → (∀ (k i : Nat), l[k]? = some i → ops[i]? = os[k]?) → Rl G0 w0 σ G a w → asteps P ops os σ K →
      wpOps P ops Q l a w
  | [], os, σ, G, a, w, hl, hi, r, hs => by
    have : os = [] := by cases os <;> simp_all
    subst this
    exact hn _ _ _ _ hs r
  | i :: l, os, σ, G, a, w, hl, hi, r, hs => by
    cases os with
    | nil => simp at hl
    | cons o os =>
      rw [wpOps_cons]
      have h0 : ops[i]? = some o := by simpa using hi 0 i rfl
      refine gstep_wp h0 r hs ?_
      intro σ' G' a' w' hk r'
      exact asteps_wpOps hn l os σ' G' a' w' (by simpa using hl) (fun k i' hk' => by
        have := hi (k + 1) i' (by simpa using hk'); simpa using this) r' hk
theorem AW.region {id : Nat} {Q : Exit → St → Prop} (h : asteps P ops ops.toList σ (Q .normal)) : AW P (.region id ops false) Q σ := by
  intro G0 w0 G a w hst r
  refine wp_region ?_
  refine asteps_wpOps (K := Q .normal) (fun σ' G' a' w' hk r' => ⟨σ', G', hk, r'⟩) _ ops.toList σ G a w (by simp) ?_ r h
  intro k i hk
  rw [List.getElem?_range] at hk
  · simp only [Option.some.injEq] at hk; subst hk; simp
  · rcases Nat.lt_or_ge k ops.size with h | h
    · exact h
    · rw [List.getElem?_eq_none (by simpa using h)] at hk; simp at hk
theorem AW.mono {c : Code} {Q Q' : Exit → St → Prop} (h : AW P c Q σ) (hq : ∀ e σ, Q e σ → Q' e σ) : AW P c Q' σ := by
  intro G0 w0 G a w hst r
  exact wp_mono (h G0 w0 G a w hst r) fun e a' w' ⟨σ', G', h1, h2⟩ => ⟨σ', G', hq _ _ h1, h2⟩
theorem AW.skip {Q : Exit → St → Prop} (h : Q .normal σ) : AW P .skip Q σ := fun G0 w0 G a w hst r => wp_skip ⟨σ, G, h, r⟩
theorem AW.ret {Q : Exit → St → Prop} (h : Q .ret σ) : AW P .ret Q σ := fun G0 w0 G a w hst r => wp_ret ⟨σ, G, h, r⟩
theorem AW.exit {Q : Exit → St → Prop} {id : Nat} (h : Q (.exit id) σ) : AW P (.exit id) Q σ := fun G0 w0 G a w hst r => wp_exit ⟨σ, G, h, r⟩
def thenQ (next : St → Prop) (Q : Exit → St → Prop) : Exit → St → Prop
  | .normal, σ => next σ
  | e, σ => Q e σ
theorem AW.seq {x y : Code} {Q : Exit → St → Prop} (h : AW P x (thenQ (AW P y Q) Q) σ) : AW P (.seq x y) Q σ := by
  intro G0 w0 G a w hst r
  refine wp_seq (wp_mono (h G0 w0 G a w hst r) ?_)
  rintro e a' w' ⟨σ', G', h1, h2⟩
  cases e with
  | normal => exact h1 G0 w0 G' a' w' hst h2
  | exit id => exact ⟨σ', G', h1, h2⟩
  | goto l => exact ⟨σ', G', h1, h2⟩
  | ret => exact ⟨σ', G', h1, h2⟩
  | panic c => exact ⟨σ', G', h1, h2⟩
  | outgrown => exact ⟨σ', G', h1, h2⟩
theorem AW.cond {c : Operand} {x y : Code} {Q : Exit → St → Prop} {b : Bool} (hc : σ.eval c = .p (.bool b)) (ht : b = true → AW P x Q σ) (hf : b = false → AW P y Q σ) : AW P (.cond c x y) Q σ := by
  intro G0 w0 G a w hst r
  have := r.eval c
  rw [hc] at this
  refine wp_cond this.bool ?_
  cases b with
  | true => exact ht rfl G0 w0 G a w hst r
  | false => exact hf rfl G0 w0 G a w hst r
def blockQ (id : Nat) (Q : Exit → St → Prop) : Exit → St → Prop
  | .exit id', σ => if id' = id then Q .normal σ else Q (.exit id') σ
  | e, σ => Q e σ
theorem AW.block {id : Nat} {c : Code} {Q : Exit → St → Prop} (h : AW P c (blockQ id Q) σ) : AW P (.block id c) Q σ := by
  intro G0 w0 G a w hst r
  refine wp_block (wp_mono (h G0 w0 G a w hst r) ?_)
  rintro e a' w' ⟨σ', G', h1, h2⟩
  cases e with
  | normal => exact ⟨σ', G', h1, h2⟩
  | exit id' =>
    simp only [blockQ] at h1
    show if id' = id then _ else _
    split
    · rename_i he; rw [if_pos he] at h1; exact ⟨σ', G', h1, h2⟩
    · rename_i he; rw [if_neg he] at h1; exact ⟨σ', G', h1, h2⟩
  | goto l => exact ⟨σ', G', h1, h2⟩
  | ret => exact ⟨σ', G', h1, h2⟩
  | panic c => exact ⟨σ', G', h1, h2⟩
  | outgrown => exact ⟨σ', G', h1, h2⟩
theorem AW.loop {c : Code} {Q : Exit → St → Prop} (I : Nat → St → Prop) (n : Nat) (h0 : I n σ) (round : ∀ n σ, I n σ → AW P c (thenQ (fun σ' => ∃ m, m < n ∧ I m σ') Q) σ) : AW P (.loop c) Q σ := by
  intro G0 w0 G a w hst r
  refine wp_loop_ghost (fun n a w => ∃ σ G, I n σ ∧ Rl G0 w0 σ G a w) n ⟨σ, G, h0, r⟩ ?_
  rintro n a w ⟨σ, G, hi, r⟩
  refine wp_mono (round n σ hi G0 w0 G a w hst r) ?_
  rintro e a' w' ⟨σ', G', h1, h2⟩
  cases e with
  | normal =>
    obtain ⟨m, hm, hI⟩ := h1
    first
    | exact ⟨m, hm, σ', G', hI, h2⟩
    | exact ⟨m, ⟨σ', G', hI, h2⟩, hm⟩
  | exit id => exact ⟨σ', G', h1, h2⟩
  | goto l => exact ⟨σ', G', h1, h2⟩
  | ret => exact ⟨σ', G', h1, h2⟩
  | panic c => exact ⟨σ', G', h1, h2⟩
  | outgrown => exact ⟨σ', G', h1, h2⟩
end
end
end Go.Av
end
section
set_option linter.unusedVariables false
set_option linter.unusedSimpArgs false
set_option linter.unusedSectionVars false
namespace Go.Av
section
variable [Tables]
def St.start (args : List V) (ins : List HB) (n0 n : Nat) : St := ⟨args ++ List.replicate (n - args.length) (.tup []), hIn ins n0⟩
section
variable {P : Program}
theorem Rl.start {G : Gh} {w : World} {args : List V} {ins : List HB} {n0 : Nat} {vs : List Value} (n : Nat) (g : Goes G w args ins n0 vs) :
    Rl G w (St.start args ins n0 n) G { tmps := vs.toArray ++ Array.replicate (n - vs.toArray.size) undef, defers := [] } w := by
  have hl := g.len
  refine ⟨rfl, by simp [St.start, hl], ?_, g.wf, Ext.refl _ _, fun b id hb => ?_, g.glob⟩
  · intro i hi
    simp only [St.start, List.length_append, List.length_replicate] at hi ⊢
    by_cases h : i < args.length
    · have e1 : (args ++ List.replicate (n - args.length) (V.tup [])).getD i .junk = args.getD i .junk := by
        simp [List.getD_eq_getElem?_getD, List.getElem?_append_left, h]
      have e2 : (vs.toArray ++ Array.replicate (n - vs.toArray.size) undef).getD i undef = vs.getD i undef := by
        simp [Array.getD_eq_getD_getElem?, List.getD_eq_getElem?_getD, Array.getElem?_append_left, show i < vs.length by omega]
      rw [e1, e2]; exact g.args i h
    · have e1 : (args ++ List.replicate (n - args.length) (V.tup [])).getD i .junk = .tup [] := by
        rw [List.getD_eq_getElem?_getD, List.getElem?_append_right (by omega), List.getElem?_replicate, if_pos (by omega)]; rfl
      have e2 : (vs.toArray ++ Array.replicate (n - vs.toArray.size) undef).getD i undef = undef := by
        rw [Array.getD_eq_getD_getElem?, Array.getElem?_append_right (by simp; omega)]
        simp [Array.getElem?_replicate]
        split <;> rfl
      rw [e1, e2]; exact rep_undef
  · obtain ⟨hb', h1, h2⟩ := g.objs b id hb
    exact ⟨((look_objsH _ _ _ _ _).1 h1).2.1, 0, hb', h1, fun _ => h2⟩
theorem FnG.of_body {f : FuncId} {fn : Func} {c : Code} {args : List V} {ins outs : List HB} {n0 n1 : Nat} {res : List V} (hf : P.funcs[f]? = some fn) (hb : fn.body = some c)
    (h : AW P c (retQ P fn ins.length res outs n1) (St.start args ins n0 fn.ntmps)) : FnG P f args ins n0 res outs n1 := by
  intro G w vs g
  refine calls_of_wp hf hb (wp_mono (h G w G _ w trivial (Rl.start fn.ntmps g)) ?_)
  rintro e a' w' ⟨σ', G', ⟨he, hends⟩, r⟩
  obtain ⟨v, h1, h2⟩ := fn_end g r hends
  rcases he with rfl | rfl
  · exact ⟨r.defers, v, h1, v, rfl, h2⟩
  · exact ⟨r.defers, v, h1, v, rfl, h2⟩
theorem Fn.of_body {f : FuncId} {fn : Func} {c : Code} {args : List PV} {res : List V} {n : Nat} (hf : P.funcs[f]? = some fn) (hb : fn.body = some c)
    (h : AW P c (retQ P fn 0 res [] n) (St.start (args.map V.p) [] 0 fn.ntmps)) : Fn P f args res n := FnG.of_body hf hb h
theorem Fn.law {f : FuncId} {args : List PV} (h : Fn P f args [.p (.bool true)]) {w : World} {vs : List Value}
    (hg : ∀ g r, Tables.gl g = some r → RepP (fun b o => w.cell? ⟨b, o, none⟩) (.eptr r 0 0) (.pointer (some ⟨g, 0, none⟩))) (hl : args.length = vs.length)
    (hr : ∀ i, i < args.length → RepP (fun b o => w.cell? ⟨b, o, none⟩) (args.getD i .ptr0) (vs.getD i undef)) :
    Calls P f vs.toArray w fun e w' => e = .returned (.bool true) ∧ RowKit.Below w.heap.size w w' := by
  let G : Gh := { own := fun _ => .free, ι := fun _ => 0, τ := fun _ => 0, tend := fun _ => 0 }
  have hpm : (fun b o => w.cell? ⟨b, o, none⟩) = pm G w := by funext b o; rfl
  rw [hpm] at hr hg
  refine (h G w vs ⟨⟨fun _ _ => rfl, fun b t hb => by simp [G] at hb, fun id ver hb hl => by simp [hIn, objsH, look] at hl⟩, fun b id hb => by simp [G] at hb, hg, by simpa using hl, fun i hi => ?_⟩).mono ?_
  · simp only [List.length_map] at hi
    have e : (args.map V.p).getD i .junk = .p (args.getD i .ptr0) := by simp [List.getD_eq_getElem?_getD, hi]
    rw [e]; exact .p (hr i hi)
  rintro e w' ⟨v, rfl, _, G', hext, _, _, hrep⟩
  have : v = .bool true := by
    simp only [retV] at hrep
    exact hrep.bool
  subst this
  exact ⟨rfl, hext.os, hext.tape, hext.output, hext.size, fun k hk => (hext.free k hk rfl).2⟩
end
def St.Le (σ σ' : St) : Prop := σ'.h = σ.h ∧ σ'.s.length = σ.s.length ∧ ∀ i, i < σ.s.length → σ'.s.getD i .junk = .junk ∨ σ'.s.getD i .junk = σ.s.getD i .junk
theorem AW.forget {P : Program} {c : Code} {Q : Exit → St → Prop} {σ : St} (σ' : St) (hle : St.Le σ σ') (h : AW P c Q σ') : AW P c Q σ := by
  intro G0 w0 G a w hst r
  refine h G0 w0 G a w hst ⟨r.defers, by rw [r.size, hle.2.1], ?_, by rw [hle.1]; exact r.wf, r.ext, by rw [hle.1]; exact r.ids, r.glob⟩
  intro i hi
  rw [hle.1]
  rcases hle.2.2 i (hle.2.1 ▸ hi) with h | h
  · rw [h]; exact .junk _
  · rw [h]; exact r.slots i (hle.2.1 ▸ hi)
def keepSlots (ks : List Nat) (l : List V) : List V := l.zipIdx.map fun (x, i) => if ks.contains i then x else .junk
def St.keep (σ : St) (ks : List Nat) : St := ⟨keepSlots ks σ.s, σ.h⟩
theorem St.keep_le (σ : St) (ks : List Nat) : St.Le σ (σ.keep ks) := by
  refine ⟨rfl, by simp [St.keep, keepSlots], ?_⟩
  intro i hi
  simp only [St.keep, keepSlots, List.getD_eq_getElem?_getD, List.getElem?_map, List.getElem?_zipIdx]
  rw [List.getElem?_eq_getElem hi]
  simp only [Option.map_some, Option.getD_some, Nat.zero_add]
  split
  · exact .inr rfl
  · exact .inl rfl
theorem AW.keep {P : Program} {c : Code} {Q : Exit → St → Prop} {σ : St} (ks : List Nat) (h : AW P c Q (σ.keep ks)) : AW P c Q σ := AW.forget _ (σ.keep_le ks) h
end
end Go.Av
end
section
set_option linter.unusedVariables false
set_option linter.unusedSimpArgs false
set_option linter.unusedSectionVars false
namespace Go.Av
section
variable [Tables]
def callK (P : Program) (f : FuncId) (E : List V) (h : HT) (d : Nat) (F : V → HT → Prop) : Prop :=
  ∃ v h', (callP P f E h d v h' ∨ callS P f E h v h' ∨ callO P f E h d v h' ∨ callB P f E h d v h') ∧ F v h'
def stepE (P : Program) (o : Oper) (σ : St) (K : St → Prop) : Prop :=
  match callOf o.op with
  | some (f, args) => callK P f (args.toList.map σ.eval) σ.h (o.dst.getD 0) fun v h' => K (σ.put o.dst v h')
  | none => match dynOf o.op σ.eval σ.h.H with
    | some (f, E) => callK P f E σ.h (o.dst.getD 0) fun v h' => K (σ.put o.dst v h')
    | none => match aval P o.op (o.dst.getD 0) σ.eval σ.h with
      | some (v, h') => K (σ.put o.dst v h')
      | none => False
def guardE (P : Program) (ops : Array Oper) (o : Oper) (σ : St) (K : St → Prop) : Prop :=
  match o.guard with
  | none => stepE P o σ K
  | some (j, want) =>
    match (ops[j]?).bind (·.dst) with
    | none => False
    | some t =>
      match σ.s.getD t .junk with
      | .p (.bool b) => if b = want then stepE P o σ K else K (σ.put o.dst (.tup []) σ.h)
      | .tup [] => K (σ.put o.dst (.tup []) σ.h)
      | _ => False
def runE (P : Program) (ops : Array Oper) : List Oper → St → (St → Prop) → Prop
  | [], σ, K => K σ
  | o :: l, σ, K => guardE P ops o σ fun σ' => runE P ops l σ' K
theorem stepE_astep {P : Program} {o : Oper} {σ : St} {K : St → Prop} (h : stepE P o σ K) : astep P o σ K := by
  unfold stepE at h
  unfold astep SR
  cases hc : callOf o.op with
  | some q =>
    obtain ⟨f, args⟩ := q
    rw [hc] at h
    simp only at h ⊢
    exact h
  | none =>
    rw [hc] at h
    simp only at h ⊢
    cases hd : dynOf o.op σ.eval σ.h.H with
    | some q =>
      obtain ⟨f, E⟩ := q
      rw [hd] at h
      simp only at h ⊢
      exact h
    | none =>
      rw [hd] at h
      simp only at h ⊢
      split at h
      · rename_i v h' hv
        exact ⟨v, h', hv, h⟩
      · exact h.elim
theorem stepE_mono {P : Program} {o : Oper} {σ : St} {K K' : St → Prop} (h : stepE P o σ K) (hk : ∀ σ, K σ → K' σ) : stepE P o σ K' := by
  unfold stepE at h ⊢
  split at h
  · obtain ⟨v, h', h1, h2⟩ := h
    exact ⟨v, h', h1, hk _ h2⟩
  · split at h
    · obtain ⟨v, h', h1, h2⟩ := h
      exact ⟨v, h', h1, hk _ h2⟩
    · split at h
      · exact hk _ h
      · exact h
theorem guardE_gstep {P : Program} {ops : Array Oper} {o : Oper} {σ : St} {K K' : St → Prop} (h : guardE P ops o σ K) (hk : ∀ σ, K σ → K' σ) : gstep P ops o σ K' := by
  unfold guardE at h
  unfold gstep
  cases hg : o.guard with
  | none => rw [hg] at h; exact stepE_astep (stepE_mono h hk)
  | some q =>
    obtain ⟨j, want⟩ := q
    rw [hg] at h
    simp only at h ⊢
    cases ht : (ops[j]?).bind (·.dst) with
    | none => rw [ht] at h; exact h.elim
    | some t =>
      rw [ht] at h
      simp only at h ⊢
      cases hv : σ.s.getD t .junk with
      | tup l =>
        rw [hv] at h
        cases l with
        | nil => exact hk _ h
        | cons x l => exact h.elim
      | p x =>
        rw [hv] at h
        cases x with
        | bool b =>
          simp only at h ⊢
          split at h
          · rename_i hbw; rw [if_pos hbw]; exact stepE_astep (stepE_mono h hk)
          · rename_i hbw; rw [if_neg hbw]; exact hk _ h
        | _ => exact h.elim
      | _ => rw [hv] at h; exact h.elim
theorem runE_asteps {P : Program} {ops : Array Oper} : ∀ (l : List Oper) (σ : St) (K : St → Prop), runE P ops l σ K → asteps P ops l σ K
  | [], σ, K, h => h
  | o :: l, σ, K, h => by
    simp only [runE] at h
    simp only [asteps]
    exact guardE_gstep h fun σ hs => runE_asteps l σ K hs
theorem AW.reg {P : Program} {ops : Array Oper} {id : Nat} {Q : Exit → St → Prop} {σ : St} (h : runE P ops ops.toList σ (Q .normal)) : AW P (.region id ops false) Q σ :=
  AW.region (runE_asteps _ _ _ h)
theorem AW.regSeq {P : Program} {ops : Array Oper} {id : Nat} {y : Code} {Q : Exit → St → Prop} {σ : St} (h : runE P ops ops.toList σ (AW P y Q)) : AW P (.seq (.region id ops false) y) Q σ :=
  AW.seq (AW.reg h)
end
end Go.Av
end
section
set_option linter.unusedVariables false
set_option linter.unusedSimpArgs false
set_option linter.unusedSectionVars false
namespace Go.Av
section
variable [Tables]
structure Fl where
  rH : Bool
  wH : Bool
  uT : Bool
def flags (P : Program) (op : Op) : Fl :=
  match op with
  | .move _ | .assign _ | .pick _ _ _ | .binOp _ _ _ _ _ | .unOp _ _ _ | .index _ _ _ | .field _ _ _ | .extract _ _ | .makeFunc _ _ _ | .makeInterface _ _ => ⟨false, false, false⟩
  | .buildSlice _ _ _ => ⟨false, false, true⟩
  | .build _ _ | .load _ _ | .nilCheck _ | .fieldAddr _ _ _ | .indexAddr _ _ _ | .slice _ _ _ _ _ => ⟨true, false, false⟩
  | .convert _ d _ => match P.underlying d with
    | some (.int _) => ⟨false, false, false⟩
    | some .string => ⟨true, false, false⟩
    | _ => ⟨true, false, true⟩
  | .store _ _ _ | .alloc _ | .box _ _ | .makeSlice _ _ _ | .range _ _ | .next _ _ => ⟨true, true, false⟩
  | .call { callee := .builtin .len, .. } => ⟨true, false, false⟩
  | .call { callee := .builtin .cap, .. } => ⟨true, false, false⟩
  | .call { callee := .builtin .append, .. } => ⟨true, false, true⟩
  | .call { callee := .builtin .copy, .. } => ⟨true, true, false⟩
  | .call { callee := .builtin .min, .. } => ⟨false, false, false⟩
  | .call { callee := .builtin .max, .. } => ⟨false, false, false⟩
  | .call { callee := .value (.func f), .. } => ⟨decide (1 ≤ Tables.mode f), decide (2 ≤ Tables.mode f), true⟩
  | _ => ⟨true, true, true⟩
section
variable {P : Program}
theorem aval_noW {op : Op} {d : Nat} {ρ : Operand → V} {h h' : HT} {v : V} (hf : (flags P op).wH = false) (hv : aval P op d ρ h = some (v, h')) : h'.H = h.H := by
  unfold aval at hv
  split at hv
  all_goals first
    | (simp only [Option.some.injEq, Prod.mk.injEq] at hv; rw [← hv.2]; done)
    | (obtain ⟨_, rfl⟩ := map_fst (α := Unit) hv; rfl)
    | (obtain ⟨_, _, rfl⟩ := map_fstT (α := Unit) hv; rfl)
    | (simp [flags] at hf; done)
    | skip
  · split at hv
    · simp only [Option.some.injEq, Prod.mk.injEq] at hv; rw [← hv.2]
    · simp at hv
  · split at hv
    · simp only [Option.some.injEq, Prod.mk.injEq] at hv; rw [← hv.2]
    · obtain ⟨_, _, rfl⟩ := map_fstT (α := Unit) hv; rfl
  · split at hv
    · obtain ⟨_, rfl⟩ := map_fst (α := Unit) hv; rfl
    · simp at hv
  · split at hv
    · obtain ⟨_, rfl⟩ := map_fst (α := Unit) hv; rfl
    · simp at hv
  · split at hv
    · obtain ⟨_, rfl⟩ := map_fst (α := Unit) hv; rfl
    · simp at hv
  · split at hv
    · obtain ⟨_, rfl⟩ := map_fst (α := Unit) hv; rfl
    · simp at hv
  · unfold abuiltin at hv
    split at hv
    all_goals first
      | (obtain ⟨_, rfl⟩ := map_fst (α := Unit) hv; rfl)
      | (obtain ⟨_, _, rfl⟩ := map_fstT (α := Unit) hv; rfl)
      | (simp [flags] at hf; done)
      | (simp at hv; done)
  · simp at hv
theorem aval_noT {op : Op} {d : Nat} {ρ : Operand → V} {h h' : HT} {v : V} (hf : (flags P op).uT = false) (hv : aval P op d ρ h = some (v, h')) (T2 : List (Nat × Nat)) :
    h'.T = h.T ∧ aval P op d ρ ⟨h.H, T2⟩ = some (v, ⟨h'.H, T2⟩) := by
  cases op
  case convert s t x =>
    simp only [aval] at hv ⊢
    split at hv
    · rename_i u hu
      simp only [Option.some.injEq, Prod.mk.injEq] at hv; obtain ⟨rfl, rfl⟩ := hv
      exact ⟨rfl, by simp only [hu]⟩
    · rename_i hu
      exfalso
      obtain ⟨T', hx, _⟩ := map_fstT (α := Unit) hv
      unfold atobytes at hx
      split at hx
      · split at hx
        · rename_i hc
          obtain ⟨e, he, _⟩ := isBytes_spec hc.1
          simp [flags, he] at hf
        · simp at hx
      · split at hx
        · rename_i hc
          obtain ⟨e, he, _⟩ := isBytes_spec hc.2.1
          simp [flags, he] at hf
        · simp at hx
      · simp at hx
  case call c =>
    obtain ⟨callee, args, ts⟩ := c
    cases callee with
    | builtin b =>
      simp only [aval] at hv ⊢
      unfold abuiltin at hv ⊢
      split at hv
      · obtain ⟨hx, rfl⟩ := map_fst (α := Unit) hv
        rename_i e1 e2
        simp only [e1, e2, hx, Option.map_some]; exact ⟨trivial, trivial⟩
      · obtain ⟨hx, rfl⟩ := map_fst (α := Unit) hv
        rename_i e1 e2
        simp only [e1, e2, hx, Option.map_some]; exact ⟨trivial, trivial⟩
      · simp [flags] at hf
      · obtain ⟨H', hx, rfl⟩ := map_fstH (α := Unit) hv
        rename_i e1 e2
        simp only [e1, e2, hx, Option.map_some]; exact ⟨trivial, trivial⟩
      · obtain ⟨hx, rfl⟩ := map_fst (α := Unit) hv
        simp only [hx, Option.map_some]; exact ⟨trivial, trivial⟩
      · obtain ⟨hx, rfl⟩ := map_fst (α := Unit) hv
        simp only [hx, Option.map_some]; exact ⟨trivial, trivial⟩
      · simp at hv
    | value f => simp [aval] at hv
    | invoke r m => simp [aval] at hv
  case slice t x lo hi mx =>
    cases mx with
    | some m =>
      cases hi with
      | none => simp [aval] at hv
      | some hi =>
        simp only [aval] at hv ⊢
        split at hv
        · rename_i hk
          obtain ⟨hx, rfl⟩ := map_fst (α := Unit) hv
          rw [if_pos hk]
          exact ⟨rfl, by simp only [hx, Option.map_some]⟩
        · simp at hv
    | none =>
      simp only [aval] at hv ⊢
      split at hv
      · rename_i hk
        obtain ⟨hx, rfl⟩ := map_fst (α := Unit) hv
        rw [if_pos hk]
        exact ⟨rfl, by simp only [hx, Option.map_some]⟩
      · simp at hv
  case fieldAddr t x f =>
    simp only [aval] at hv ⊢
    split at hv
    · rename_i hk
      obtain ⟨hx, rfl⟩ := map_fst (α := Unit) hv
      rw [if_pos hk]
      exact ⟨rfl, by simp only [hx, Option.map_some]⟩
    · simp at hv
  case indexAddr t x f =>
    simp only [aval] at hv ⊢
    split at hv
    · rename_i hk
      obtain ⟨hx, rfl⟩ := map_fst (α := Unit) hv
      rw [if_pos hk]
      exact ⟨rfl, by simp only [hx, Option.map_some]⟩
    · simp at hv
  case pick c x y =>
    simp only [aval] at hv ⊢
    split at hv
    · rename_i b hb
      simp only [Option.some.injEq, Prod.mk.injEq] at hv; obtain ⟨rfl, rfl⟩ := hv
      exact ⟨rfl, by simp only [hb]⟩
    · simp at hv
  case store t x y =>
    simp only [aval] at hv ⊢
    simp only [Option.map_eq_some_iff, Prod.mk.injEq] at hv
    obtain ⟨H', hx, rfl, rfl⟩ := hv
    exact ⟨rfl, by simp only [hx, Option.map_some]⟩
  all_goals
    simp only [aval] at hv ⊢
    first
    | (simp at hv; done)
    | (simp [flags] at hf; done)
    | (obtain ⟨hx, rfl⟩ := map_fst (α := Unit) hv; exact ⟨rfl, by simp only [hx, Option.map_some]⟩)
    | (obtain ⟨H', hx, rfl⟩ := map_fstH (α := Unit) hv; exact ⟨rfl, by simp only [hx, Option.map_some]⟩)
    | (simp only [Option.some.injEq, Prod.mk.injEq] at hv; obtain ⟨rfl, rfl⟩ := hv; exact ⟨rfl, rfl⟩)
theorem aval_noH {op : Op} {d : Nat} {ρ : Operand → V} {h h' : HT} {v : V} (hf : (flags P op).wH = false) (hf' : (flags P op).rH = false) (hv : aval P op d ρ h = some (v, h')) (H2 : List (Nat × (Nat × HB))) :
    aval P op d ρ ⟨H2, h.T⟩ = some (v, ⟨H2, h'.T⟩) := by
  cases op
  case convert s t x =>
    have ht : ∃ k, P.underlying t = some (.int k) := by
      simp only [flags] at hf'
      split at hf'
      · rename_i k hk; exact ⟨k, hk⟩
      · simp at hf'
      · simp at hf'
    obtain ⟨k, hk⟩ := ht
    simp only [aval, aconv, hk, atobytes] at hv ⊢
    have hnb : isBytes P t = false := by simp [isBytes, hk]
    generalize ρ x = y at hv ⊢
    cases y with
    | p z =>
      cases z with
      | int k' n =>
        simp only at hv ⊢
        split at hv
        · rename_i hs
          split at hs
          · rename_i h1
            simp only [Option.some.injEq, Prod.mk.injEq] at hv hs; obtain ⟨rfl, rfl⟩ := hv
            simp [h1, hs]
          · simp at hs
        · simp at hv
      | str b => simp [hnb] at hv
      | _ => simp at hv
    | row r t2 v2 nl2 => simp [hnb] at hv
    | _ => simp at hv
  case call c =>
    obtain ⟨callee, args, ts⟩ := c
    cases callee with
    | builtin b =>
      simp only [aval] at hv ⊢
      unfold abuiltin at hv ⊢
      split at hv
      · simp [flags] at hf'
      · simp [flags] at hf'
      · simp [flags] at hf'
      · simp [flags] at hf'
      · obtain ⟨hx, rfl⟩ := map_fst (α := Unit) hv
        simp only [hx, Option.map_some]
      · obtain ⟨hx, rfl⟩ := map_fst (α := Unit) hv
        simp only [hx, Option.map_some]
      · simp at hv
    | value f => simp [aval] at hv
    | invoke r m => simp [aval] at hv
  case pick c x y =>
    simp only [aval] at hv ⊢
    split at hv
    · rename_i b hb
      simp only [Option.some.injEq, Prod.mk.injEq] at hv; obtain ⟨rfl, rfl⟩ := hv
      simp only [hb]
    · simp at hv
  all_goals
    first
    | (simp [flags] at hf'; done)
    | (simp [aval] at hv; done)
    | (simp only [aval] at hv ⊢
       first
       | (obtain ⟨hx, rfl⟩ := map_fst (α := Unit) hv; simp only [hx, Option.map_some])
       | (obtain ⟨T', hx, rfl⟩ := map_fstT (α := Unit) hv; simp only [hx, Option.map_some])
       | (simp only [Option.some.injEq, Prod.mk.injEq] at hv; obtain ⟨rfl, rfl⟩ := hv; rfl))
theorem map_congr_ops {ρ ρ' : Operand → V} {xs : Array Operand} (h : ∀ x ∈ xs, ρ x = ρ' x) : xs.toList.map ρ = xs.toList.map ρ' :=
  List.map_congr_left fun x hx => h x (by simpa using hx)
theorem omap_congr {ρ ρ' : Operand → V} {o : Option Operand} (h : ∀ x, o = some x → ρ x = ρ' x) : o.map ρ = o.map ρ' := by
  cases o with
  | none => rfl
  | some x => simp [h x rfl]
theorem aval_congr {op : Op} {d : Nat} {ρ ρ' : Operand → V} {h : HT} (hc : ∀ x ∈ op.operands, ρ x = ρ' x) : aval P op d ρ h = aval P op d ρ' h := by
  cases op
  case call c =>
    obtain ⟨callee, args, ts⟩ := c
    cases callee with
    | builtin b =>
      simp only [aval]
      rw [map_congr_ops (ρ := ρ) (ρ' := ρ') (xs := args) (fun x hx => hc x (by simp [Op.operands, Call.operands, hx]))]
    | value f => rfl
    | invoke r m => rfl
  case makeFunc fn first caps =>
    simp only [aval]
    rw [map_congr_ops (ρ := ρ) (ρ' := ρ') (xs := first) (fun x hx => hc x (by simp [Op.operands, hx])), map_congr_ops (ρ := ρ) (ρ' := ρ') (xs := caps) (fun x hx => hc x (by simp [Op.operands, hx]))]
  case build t ps =>
    simp only [aval]
    have : (ps.toList.map fun q => (q.1, ρ q.2)) = ps.toList.map fun q => (q.1, ρ' q.2) :=
      List.map_congr_left fun q hq => by
        rw [hc q.2 (by
          simp only [Op.operands, List.mem_toArray, List.mem_map]
          exact ⟨q, hq, rfl⟩)]
    rw [this]
  case buildSlice t n ps =>
    simp only [aval]
    have : (ps.toList.map fun q => (q.1, ρ q.2)) = ps.toList.map fun q => (q.1, ρ' q.2) :=
      List.map_congr_left fun q hq => by
        rw [hc q.2 (by
          simp only [Op.operands, List.mem_toArray, List.mem_map]
          exact ⟨q, hq, rfl⟩)]
    rw [this]
  case slice t x lo hi mx =>
    cases mx with
    | some m =>
      cases hi with
      | none => rfl
      | some hi =>
        simp only [aval]
        rw [hc x (by simp [Op.operands]), hc hi (by simp [Op.operands]), hc m (by simp [Op.operands]), omap_congr (o := lo) (ρ := ρ) (ρ' := ρ') (fun y hy => hc y (by subst hy; simp [Op.operands]))]
    | none =>
      simp only [aval]
      rw [hc x (by simp [Op.operands]), omap_congr (o := lo) (ρ := ρ) (ρ' := ρ') (fun y hy => hc y (by subst hy; simp [Op.operands])),
        omap_congr (o := hi) (ρ := ρ) (ρ' := ρ') (fun y hy => hc y (by subst hy; simp [Op.operands]))]
  all_goals
    simp only [aval]
    try (first
      | rfl
      | (rw [hc _ (by simp [Op.operands])]; done)
      | (rw [hc _ (by simp [Op.operands]), hc _ (by simp [Op.operands])]; done))
    all_goals (simp [Op.operands] at hc; simp [hc])
end
end
end Go.Av
end
section
set_option linter.unusedVariables false
set_option linter.unusedSimpArgs false
set_option linter.unusedSectionVars false
namespace Go.Av
section
variable [Tables]
def indep (P : Program) (ops : Array Oper) (x y : Oper) : Bool :=
  let f := flags P x.op
  let g := flags P y.op
  x.apart ops y && !(f.wH && (g.rH || g.wH)) && !(g.wH && (f.rH || f.wH)) && !(f.uT && g.uT)
section
variable {P : Program} {ops : Array Oper}
theorem dyn_flags {op : Op} {ρ : Operand → V} {H : List (Nat × (Nat × HB))} {q : FuncId × List V} (hc : callOf op = none) (hd : dynOf op ρ H = some q) : (flags P op).wH = true ∧ (flags P op).rH = true ∧ (flags P op).uT = true := by
  unfold dynOf at hd
  split at hd
  · rename_i x args ts
    cases x with
    | func f => simp [callOf] at hc
    | _ => simp [flags]
  · simp at hd
theorem dyn_none {op : Op} {ρ : Operand → V} (H : List (Nat × (Nat × HB))) (hc : callOf op = none) (hf : (flags P op).wH = false) : dynOf op ρ H = none := by
  cases hd : dynOf op ρ H with
  | none => rfl
  | some q => have := dyn_flags (P := P) hc hd; rw [hf] at this; cases this.1
theorem SR_noW {op : Op} {d : Nat} {ρ : Operand → V} {h h' : HT} {v : V} (hf : (flags P op).wH = false) (hv : SR P op d ρ h v h') : h'.H = h.H := by
  unfold SR at hv
  split at hv
  · rename_i f args hc
    obtain ⟨ts, rfl⟩ := callOf_spec hc
    simp only [flags, decide_eq_false_iff_not] at hf
    rcases hv with ⟨ps, res, n, _, _, rfl, rfl⟩ | ⟨_, ps, res, _, _, _, rfl, rfl⟩ | ⟨hm, _⟩ | ⟨hm, _⟩
    · rfl
    · rfl
    · omega
    · omega
  · rename_i hc
    split at hv
    · rename_i hd
      have := dyn_flags (P := P) hc hd
      rw [this.1] at hf; cases hf
    · exact aval_noW hf hv
theorem SR_noT {op : Op} {d : Nat} {ρ : Operand → V} {h h' : HT} {v : V} (hf : (flags P op).uT = false) (hv : SR P op d ρ h v h') (T2 : List (Nat × Nat)) :
    h'.T = h.T ∧ SR P op d ρ ⟨h.H, T2⟩ v ⟨h'.H, T2⟩ := by
  unfold SR at hv ⊢
  cases hc : callOf op with
  | some q =>
    obtain ⟨f, args⟩ := q
    obtain ⟨ts, rfl⟩ := callOf_spec hc
    simp [flags] at hf
  | none =>
    rw [hc] at hv
    cases hd : dynOf op ρ h.H with
    | some q =>
      have := dyn_flags (P := P) hc hd
      rw [this.2.2] at hf; cases hf
    | none =>
      rw [hd] at hv
      exact aval_noT hf hv T2
theorem SR_noH {op : Op} {d : Nat} {ρ : Operand → V} {h h' : HT} {v : V} (hf : (flags P op).wH = false) (hf' : (flags P op).rH = false) (hv : SR P op d ρ h v h') (H2 : List (Nat × (Nat × HB))) :
    SR P op d ρ ⟨H2, h.T⟩ v ⟨H2, h'.T⟩ := by
  unfold SR at hv ⊢
  cases hc : callOf op with
  | some q =>
    obtain ⟨f, args⟩ := q
    rw [hc] at hv
    obtain ⟨ts, rfl⟩ := callOf_spec hc
    simp only [flags, decide_eq_false_iff_not] at hf hf'
    rcases hv with ⟨ps, res, n, h1, h2, rfl, rfl⟩ | ⟨hm, _⟩ | ⟨hm, _⟩ | ⟨hm, _⟩
    · exact .inl ⟨ps, res, n, h1, h2, rfl, rfl⟩
    · omega
    · omega
    · omega
  | none =>
    rw [hc] at hv
    cases hd : dynOf op ρ h.H with
    | some q =>
      have := dyn_flags (P := P) hc hd
      rw [this.1] at hf; cases hf
    | none =>
      rw [hd] at hv
      simp only [dyn_none (P := P) H2 hc hf]
      exact aval_noH hf hf' hv H2
theorem SR_congr {op : Op} {d : Nat} {ρ ρ' : Operand → V} {h h' : HT} {v : V} (hc : ∀ x ∈ op.operands, ρ x = ρ' x) (hv : SR P op d ρ h v h') : SR P op d ρ' h v h' := by
  unfold SR at hv ⊢
  cases hcl : callOf op with
  | some q =>
    obtain ⟨f, args⟩ := q
    rw [hcl] at hv
    obtain ⟨ts, rfl⟩ := callOf_spec hcl
    simp only at hv ⊢
    rw [← map_congr_ops (ρ := ρ) (ρ' := ρ') (xs := args) (fun x hx => hc x (by simp [Op.operands, Call.operands, hx]))]
    exact hv
  | none =>
    rw [hcl] at hv
    have e : dynOf op ρ' h.H = dynOf op ρ h.H := by
      unfold dynOf
      split
      · rename_i x args ts
        rw [hc x (by simp [Op.operands, Call.operands]), map_congr_ops (ρ := ρ) (ρ' := ρ') (xs := args) (fun y hy => hc y (by simp [Op.operands, Call.operands, hy]))]
      · rfl
    simp only at hv ⊢
    rw [e]
    cases hd : dynOf op ρ h.H with
    | some q =>
      rw [hd] at hv; exact hv
    | none =>
      rw [hd] at hv
      simp only at hv ⊢
      rw [← aval_congr hc]; exact hv
theorem SR_swap {p q : Op} {d e : Nat} {ρ : Operand → V} {h h1 h2 : HT} {v u : V}
    (c1 : (flags P p).wH = true → (flags P q).rH = false ∧ (flags P q).wH = false) (c2 : (flags P q).wH = true → (flags P p).rH = false ∧ (flags P p).wH = false)
    (c3 : (flags P p).uT = false ∨ (flags P q).uT = false) (hp : SR P p d ρ h v h1) (hq : SR P q e ρ h1 u h2) :
    ∃ h3, SR P q e ρ h u h3 ∧ SR P p d ρ h3 v h2 := by
  have step : ∀ (Tq : List (Nat × Nat)) , (flags P p).uT = false → True := fun _ _ => trivial
  by_cases hw : (flags P p).wH = true
  · obtain ⟨q1, q2⟩ := c1 hw
    have e2 : h2.H = h1.H := SR_noW q2 hq
    rcases c3 with t | t
    ·
      obtain ⟨t1, hp'⟩ := SR_noT t hp h2.T
      have hq1 := SR_noH q2 q1 hq h.H
      rw [t1] at hq1
      refine ⟨⟨h.H, h2.T⟩, hq1, ?_⟩
      have : (⟨h1.H, h2.T⟩ : HT) = h2 := by cases h2; simp at e2; simp [e2]
      rw [← this]; exact hp'
    · obtain ⟨t1, _⟩ := SR_noT t hq h.T
      have hq0 := (SR_noT t hq h.T).2
      rw [e2] at hq0
      have hq1 := SR_noH (h := ⟨h1.H, h.T⟩) (h' := ⟨h1.H, h.T⟩) q2 q1 hq0 h.H
      refine ⟨⟨h.H, h.T⟩, hq1, ?_⟩
      have : h2 = h1 := by cases h2; cases h1; simp at e2 t1; simp [e2, t1]
      rw [this]; exact hp
  · have hw' : (flags P p).wH = false := by simpa using hw
    have e1 : h1.H = h.H := SR_noW hw' hp
    rcases c3 with t | t
    · obtain ⟨t1, _⟩ := SR_noT t hp h.T
      have e : h1 = h := by cases h1; cases h; simp at e1 t1; simp [e1, t1]
      subst e
      refine ⟨h2, hq, ?_⟩
      by_cases hwq : (flags P q).wH = true
      · obtain ⟨p1, p2⟩ := c2 hwq
        have hp1 := (SR_noT t hp h2.T).2
        have hp2 := SR_noH (h := ⟨h1.H, h2.T⟩) (h' := ⟨h1.H, h2.T⟩) p2 p1 hp1 h2.H
        exact hp2
      · have e2 : h2.H = h1.H := SR_noW (by simpa using hwq) hq
        have hp1 := (SR_noT t hp h2.T).2
        rw [← e2] at hp1
        exact hp1
    · obtain ⟨t1, hq'⟩ := SR_noT t hq h.T
      rw [e1] at hq'
      refine ⟨⟨h2.H, h.T⟩, hq', ?_⟩
      by_cases hwq : (flags P q).wH = true
      · obtain ⟨p1, p2⟩ := c2 hwq
        have hp1 := SR_noH p2 p1 hp h2.H
        have : (⟨h2.H, h1.T⟩ : HT) = h2 := by cases h2; simp at t1; simp [t1]
        rw [← this]; exact hp1
      · have e2 : h2.H = h1.H := SR_noW (by simpa using hwq) hq
        have ea : (⟨h2.H, h.T⟩ : HT) = h := by cases h; simp at e1; simp [e2, e1]
        have eb : h2 = h1 := by cases h2; cases h1; simp at e2 t1; simp [e2, t1]
        rw [ea, eb]; exact hp
theorem St.eval_put {σ : St} {d : Option Tmp} {v : V} {h : HT} {x : Operand} (hx : ∀ t, d = some t → x ≠ .tmp t) : (σ.put d v h).eval x = σ.eval x := by
  cases d with
  | none => cases x <;> rfl
  | some d =>
    cases x with
    | tmp t =>
      have : d ≠ t := by intro e; subst e; exact hx d rfl rfl
      simp only [St.put, St.eval, List.getD_eq_getElem?_getD, List.getElem?_set_ne this]
    | _ => rfl
theorem St.put_comm {σ : St} {x y : Option Tmp} {v u : V} {h h' : HT} (hne : ∀ d, x = some d → y ≠ some d) : ((σ.put x v h).put y u h').s = ((σ.put y u h).put x v h').s := by
  cases x with
  | none => cases y <;> rfl
  | some a =>
    cases y with
    | none => rfl
    | some b =>
      have : a ≠ b := by intro e; subst e; exact hne a rfl rfl
      simp only [St.put]
      exact List.set_comm _ _ this
inductive GV
  | go
  | no
  | bad
def gv (ops : Array Oper) (o : Oper) (s : List V) : GV :=
  match o.guard with
  | none => .go
  | some (j, want) =>
    match (ops[j]?).bind (·.dst) with
    | none => .bad
    | some t =>
      match s.getD t .junk with
      | .p (.bool b) => if b = want then .go else .no
      | .tup [] => .no
      | _ => .bad
theorem gstep_iff {o : Oper} {σ : St} {K : St → Prop} : gstep P ops o σ K ↔ (gv ops o σ.s = .go ∧ astep P o σ K) ∨ (gv ops o σ.s = .no ∧ K (σ.put o.dst (.tup []) σ.h)) := by
  unfold gstep gv
  cases hg : o.guard with
  | none => simp
  | some q =>
    obtain ⟨j, want⟩ := q
    simp only
    cases ht : (ops[j]?).bind (·.dst) with
    | none => simp
    | some t =>
      simp only
      cases hv : σ.s.getD t .junk with
      | tup l => cases l <;> simp
      | p x =>
        cases x with
        | bool b => by_cases hb : b = want <;> simp [hb]
        | _ => simp
      | _ => simp
theorem gv_put {o : Oper} {σ : St} {d : Option Tmp} {v : V} {h : HT} (hd : ∀ t, d = some t → t ∉ o.looksAt ops) : gv ops o (σ.put d v h).s = gv ops o σ.s := by
  unfold gv
  cases hg : o.guard with
  | none => rfl
  | some q =>
    obtain ⟨j, want⟩ := q
    simp only
    cases ht : (ops[j]?).bind (·.dst) with
    | none => rfl
    | some t =>
      simp only
      have : (σ.put d v h).s.getD t .junk = σ.s.getD t .junk := by
        cases d with
        | none => rfl
        | some d =>
          have hne : d ≠ t := by
            intro e; subst e
            exact hd d rfl (by simp [Oper.looksAt, hg, ht])
          simp only [St.put, List.getD_eq_getElem?_getD, List.getElem?_set_ne hne]
      rw [this]
theorem not_operand {o : Oper} {d : Option Tmp} (hd : ∀ t, d = some t → t ∉ o.looksAt ops) {x : Operand} (hx : x ∈ o.op.operands) : ∀ t, d = some t → x ≠ .tmp t := by
  rintro t rfl rfl
  refine hd t rfl ?_
  simp only [Oper.looksAt, List.mem_append, List.mem_filterMap]
  exact .inl ⟨.tmp t, by simpa using hx, rfl⟩
theorem gstep_swap {x y : Oper} (hi : indep P ops x y = true) {σ : St} {K : St → Prop} (hs : gstep P ops x σ fun σ1 => gstep P ops y σ1 K) :
    gstep P ops y σ fun σ1 => gstep P ops x σ1 K := by
  simp only [indep, Bool.and_eq_true, Bool.not_eq_true', Bool.and_eq_false_iff, Bool.or_eq_false_iff] at hi
  obtain ⟨⟨⟨hap, c1⟩, c2⟩, c3⟩ := hi
  obtain ⟨a1, a2, a3⟩ := Oper.apart_spec hap
  have c1' : (flags P x.op).wH = true → (flags P y.op).rH = false ∧ (flags P y.op).wH = false := fun h => by
    rcases c1 with c | c
    · rw [h] at c; simp at c
    · exact c
  have c2' : (flags P y.op).wH = true → (flags P x.op).rH = false ∧ (flags P x.op).wH = false := fun h => by
    rcases c2 with c | c
    · rw [h] at c; simp at c
    · exact c
  have comm : ∀ (v u : V) (h h' h3 : HT), ((σ.put x.dst v h).put y.dst u h') = ((σ.put y.dst u h3).put x.dst v h') := by
    intro v u h h' h3
    have e := St.put_comm (σ := σ) (v := v) (u := u) (h := h) (h' := h') a2
    have f : ∀ (σ : St) (d e : Option Tmp) (v u : V) (h1 h2 h3 : HT), ((σ.put d v h1).put e u h2) = ⟨((σ.put d v h3).put e u h2).s, h2⟩ := by
      intro σ d e v u h1 h2 h3; cases d <;> cases e <;> rfl
    rw [f σ x.dst y.dst v u h h' h, f σ y.dst x.dst u v h3 h' h, e]
  rw [gstep_iff] at hs ⊢
  have gvx : ∀ (v : V) (h : HT), gv ops y (σ.put x.dst v h).s = gv ops y σ.s := fun v h => gv_put a1
  have gvy : ∀ (v : V) (h : HT), gv ops x (σ.put y.dst v h).s = gv ops x σ.s := fun v h => gv_put a3
  have ph : ∀ (d : Option Tmp) (v : V) (h : HT), (σ.put d v h).h = h := by intro d v h; cases d <;> rfl
  have evy : ∀ (v : V) (h : HT), ∀ z ∈ y.op.operands, (σ.put x.dst v h).eval z = σ.eval z := fun v h z hz => St.eval_put (not_operand a1 hz)
  have evx : ∀ (v : V) (h : HT), ∀ z ∈ x.op.operands, (σ.put y.dst v h).eval z = σ.eval z := fun v h z hz => St.eval_put (not_operand a3 hz)
  rcases hs with ⟨gx, v, h1, hx, hk⟩ | ⟨gx, hk⟩
  · rw [gstep_iff, gvx] at hk
    rcases hk with ⟨gy, u, h2, hy, hk⟩ | ⟨gy, hk⟩
    · have hy' : SR P y.op (y.dst.getD 0) σ.eval h1 u h2 := by
        have := SR_congr (evy v h1) hy
        rw [ph] at this; exact this
      obtain ⟨h3, s1, s2⟩ := SR_swap c1' c2' (by rcases c3 with c | c; exact .inl c; exact .inr c) hx hy'
      refine .inl ⟨gy, u, h3, s1, ?_⟩
      show gstep P ops x _ K
      rw [gstep_iff, gvy]
      refine .inl ⟨gx, v, h2, ?_, ?_⟩
      · rw [ph]
        exact SR_congr (fun z hz => (evx u h3 z hz).symm) s2
      · rw [← comm v u h1 h2 h3]; exact hk
    · refine .inr ⟨gy, ?_⟩
      rw [gstep_iff, gvy]
      refine .inl ⟨gx, v, h1, ?_, ?_⟩
      · rw [ph]
        exact SR_congr (fun z hz => (evx _ _ z hz).symm) hx
      · rw [ph] at hk
        rw [← comm v (.tup []) h1 h1 σ.h]; exact hk
  · rw [gstep_iff, gvx] at hk
    rcases hk with ⟨gy, u, h2, hy, hk⟩ | ⟨gy, hk⟩
    · have hy' : SR P y.op (y.dst.getD 0) σ.eval σ.h u h2 := by
        have := SR_congr (evy (.tup []) σ.h) hy
        rw [ph] at this; exact this
      refine .inl ⟨gy, u, h2, hy', ?_⟩
      show gstep P ops x _ K
      rw [gstep_iff, gvy]
      refine .inr ⟨gx, ?_⟩
      rw [ph, ← comm (.tup []) u σ.h h2 h2]; exact hk
    · refine .inr ⟨gy, ?_⟩
      rw [gstep_iff, gvy]
      refine .inr ⟨gx, ?_⟩
      rw [ph] at hk ⊢
      rw [← comm (.tup []) (.tup []) σ.h σ.h σ.h]; exact hk
end
end
end Go.Av
end
section
set_option linter.unusedVariables false
set_option linter.unusedSimpArgs false
set_option linter.unusedSectionVars false
namespace Go.Av
section
variable [Tables]
inductive Anc (ops : Array Oper) : Nat → Nat → Prop
  | edge {k : Nat} {o : Oper} {e : Edge} (ho : ops[k]? = some o) (he : e ∈ o.after) (hb : Region.binds .any e = true) : Anc ops k e.on
  | more {k j : Nat} {o : Oper} {e : Edge} (ho : ops[k]? = some o) (he : e ∈ o.after) (hb : Region.binds .any e = true) (h : Anc ops e.on j) : Anc ops k j
def maskOf (acc : List Nat) (es : List Edge) : Nat :=
  es.foldl (fun s e => if Region.binds .any e then s ||| (2 ^ e.on ||| acc.getD e.on 0) else s) 0
def masks : List Oper → List Nat → List Nat
  | [], acc => acc
  | o :: l, acc => masks l (acc ++ [maskOf acc o.after.toList])
theorem maskOf_spec (acc : List Nat) : ∀ (es : List Edge) (s j : Nat), (es.foldl (fun s e => if Region.binds .any e then s ||| (2 ^ e.on ||| acc.getD e.on 0) else s) s).testBit j = true →
    s.testBit j = true ∨ ∃ e ∈ es, Region.binds .any e = true ∧ (e.on = j ∨ (acc.getD e.on 0).testBit j = true)
  | [], s, j, h => .inl h
  | e :: es, s, j, h => by
    simp only [List.foldl_cons] at h
    rcases maskOf_spec acc es _ j h with h | ⟨e', h1, h2⟩
    · split at h
      · rename_i hb
        simp only [Nat.testBit_or, Bool.or_eq_true, Nat.testBit_two_pow, decide_eq_true_eq] at h
        rcases h with h | h | h
        · exact .inl h
        · exact .inr ⟨e, by simp, hb, .inl h⟩
        · exact .inr ⟨e, by simp, hb, .inr h⟩
      · exact .inl h
    · exact .inr ⟨e', List.mem_cons_of_mem _ h1, h2⟩
theorem masks_spec {ops : Array Oper} : ∀ (l : List Oper) (acc : List Nat), ops.toList = ops.toList.take acc.length ++ l → acc.length ≤ ops.size →
    (∀ k j, (acc.getD k 0).testBit j = true → Anc ops k j) → ∀ k j, ((masks l acc).getD k 0).testBit j = true → Anc ops k j
  | [], acc, _, _, ha, k, j, h => ha k j h
  | o :: l, acc, hl, hle, ha, k, j, h => by
    simp only [masks] at h
    have hlen : acc.length < ops.size := by
      have := congrArg List.length hl
      simp at this; omega
    have ho : ops[acc.length]? = some o := by
      rw [← Array.getElem?_toList, hl, List.getElem?_append_right (by simp; omega)]
      simp [Nat.min_eq_left hle]
    refine masks_spec l (acc ++ [maskOf acc o.after.toList]) ?_ (by simp; omega) ?_ k j h
    · simp only [List.length_append, List.length_singleton]
      have e1 : ops.toList.take (acc.length + 1) = ops.toList.take acc.length ++ [o] := by
        rw [List.take_add_one]
        simp [ho]
      rw [e1, List.append_assoc]; exact hl
    · intro k j hk
      by_cases h1 : k < acc.length
      · rw [List.getD_eq_getElem?_getD, List.getElem?_append_left h1, ← List.getD_eq_getElem?_getD] at hk
        exact ha k j hk
      · by_cases h2 : k = acc.length
        · subst h2
          rw [List.getD_eq_getElem?_getD, List.getElem?_append_right (Nat.le_refl _)] at hk
          simp only [Nat.sub_self, List.getElem?_cons_zero, Option.getD_some] at hk
          rcases maskOf_spec acc _ 0 j hk with h | ⟨e, h1, h2, h3⟩
          · simp at h
          · rcases h3 with rfl | h3
            · exact .edge ho (by simpa using h1) h2
            · exact .more ho (by simpa using h1) h2 (ha _ _ h3)
        · rw [List.getD_eq_getElem?_getD, List.getElem?_eq_none (by simp; omega)] at hk
          simp at hk
def orderOk (P : Program) (ops : Array Oper) : Bool :=
  let ms := masks ops.toList []
  (List.range ops.size).all fun i =>
    match ops[i]? with
    | none => false
    | some oi => (oi.after.toList.all fun e => !Region.binds .any e || decide (e.on < i)) &&
      (List.range i).all fun j => (ms.getD i 0).testBit j || match ops[j]? with
        | some oj => indep P ops oj oi
        | none => false
section
variable {P : Program} {ops : Array Oper} {K : St → Prop}
def aAny (P : Program) (ops : Array Oper) (K : St → Prop) : Nat → Array Bool → St → Prop
  | 0, listed, σ => Region.ready .any ops listed = [] ∧ K σ
  | fuel + 1, listed, σ =>
    (Region.ready .any ops listed = [] → K σ) ∧
    ∀ i ∈ Region.ready .any ops listed, ∀ o, ops[i]? = some o → gstep P ops o σ (aAny P ops K fuel (listed.setIfInBounds i true))
theorem aAny_wpAny {G0 : Gh} {w0 : World} {Q : Exit → Act → World → Prop} (hn : ∀ σ' G' a' w', K σ' → Rl G0 w0 σ' G' a' w' → Q .normal a' w') :
    ∀ (fuel : Nat) (listed : Array Bool) (σ : St) (G : Gh) (a : Act) (w : World), Rl G0 w0 σ G a w → aAny P ops K fuel listed σ → wpAny P .any ops Q fuel listed a w
  | 0, listed, σ, G, a, w, r, h => ⟨h.1, hn _ _ _ _ h.2 r⟩
  | fuel + 1, listed, σ, G, a, w, r, h => by
    refine ⟨fun h0 => hn _ _ _ _ (h.1 h0) r, fun i hi => ?_⟩
    obtain ⟨_, o, ho, _⟩ := mem_ready.1 hi
    exact gstep_wp ho r (h.2 i hi o ho) fun σ' G' a' w' hk r' => aAny_wpAny hn fuel _ σ' G' a' w' r' hk
def aix (P : Program) (ops : Array Oper) : List Nat → St → (St → Prop) → Prop
  | [], σ, K => K σ
  | i :: l, σ, K => match ops[i]? with
    | some o => gstep P ops o σ fun σ' => aix P ops l σ' K
    | none => False
theorem astep_mono {o : Oper} {σ : St} {K K' : St → Prop} (h : astep P o σ K) (hk : ∀ σ, K σ → K' σ) : astep P o σ K' := by
  obtain ⟨v, h', h1, h2⟩ := h; exact ⟨v, h', h1, hk _ h2⟩
theorem gstep_mono {o : Oper} {σ : St} {K K' : St → Prop} (h : gstep P ops o σ K) (hk : ∀ σ, K σ → K' σ) : gstep P ops o σ K' := by
  rw [gstep_iff] at h ⊢
  rcases h with ⟨a, b⟩ | ⟨a, b⟩
  · exact .inl ⟨a, astep_mono b hk⟩
  · exact .inr ⟨a, hk _ b⟩
theorem aix_front {i : Nat} {oi : Oper} (hi : ops[i]? = some oi) : ∀ (p q : List Nat) (σ : St), (∀ j ∈ p, ∀ oj, ops[j]? = some oj → indep P ops oj oi = true) → aix P ops (p ++ i :: q) σ K →
    gstep P ops oi σ fun σ' => aix P ops (p ++ q) σ' K
  | [], q, σ, _, h => by simpa [aix, hi] using h
  | j :: p, q, σ, hind, h => by
    simp only [List.cons_append, aix] at h
    cases hj : ops[j]? with
    | none => rw [hj] at h; exact h.elim
    | some oj =>
      rw [hj] at h
      simp only at h
      have h1 : gstep P ops oj σ fun σ1 => gstep P ops oi σ1 fun σ' => aix P ops (p ++ q) σ' K :=
        gstep_mono h fun σ1 hh => aix_front hi p q σ1 (fun j' hj' => hind j' (List.mem_cons_of_mem _ hj')) hh
      have h2 := gstep_swap (hind j (by simp) oj hj) h1
      refine gstep_mono h2 fun σ1 hh => ?_
      simp only [List.cons_append, aix, hj]; exact hh
def remOf (n : Nat) (listed : Array Bool) : List Nat := (List.range n).filter fun i => !listed.getD i true
theorem remOf_set {n i : Nat} {listed : Array Bool} (hi : i < n) (hs : listed.size = n) (hu : listed.getD i true = false) :
    ∃ p q, remOf n listed = p ++ i :: q ∧ remOf n (listed.setIfInBounds i true) = p ++ q ∧ ∀ j ∈ p, j < i ∧ listed.getD j true = false := by
  have hr : List.range n = List.range i ++ i :: (List.range' (i + 1) (n - i - 1)) := by
    rw [List.range_eq_range', List.range_eq_range']
    have : n = i + (1 + (n - i - 1)) := by omega
    conv => lhs; rw [this]
    rw [← List.range'_append_1, ← List.range'_append_1]
    simp
  refine ⟨(List.range i).filter fun k => !listed.getD k true, (List.range' (i + 1) (n - i - 1)).filter fun k => !listed.getD k true, ?_, ?_, ?_⟩
  · unfold remOf
    rw [hr, List.filter_append, List.filter_cons_of_pos (by simp [hu])]
  · unfold remOf
    rw [hr, List.filter_append, List.filter_cons_of_neg]
    · congr 1
      · apply List.filter_congr
        intro k hk
        have : i ≠ k := by simp at hk; omega
        rw [getD_set_ne true this]
      · apply List.filter_congr
        intro k hk
        have : i ≠ k := by simp at hk; omega
        rw [getD_set_ne true this]
    · have hlt : i < listed.size := by omega
      simp [hlt]
  · intro j hj
    simp only [List.mem_filter, List.mem_range] at hj
    exact ⟨hj.1, by simpa using hj.2⟩
structure OrdOk (P : Program) (ops : Array Oper) : Prop where
  edges : ∀ i o e, ops[i]? = some o → e ∈ o.after → Region.binds .any e = true → e.on < i
  free : ∀ i j oi oj, ops[i]? = some oi → ops[j]? = some oj → j < i → Anc ops i j ∨ indep P ops oj oi = true
theorem orderOk_spec (h : orderOk P ops = true) : OrdOk P ops := by
  unfold orderOk at h
  simp only [List.all_eq_true, List.mem_range] at h
  have hm := masks_spec (ops := ops) ops.toList [] (by simp) (by simp) (fun k j hk => by simp at hk)
  refine ⟨?_, ?_⟩
  · intro i o e ho he hb
    have hi := (Array.getElem?_eq_some_iff.1 ho).1
    have := h i hi
    rw [ho] at this
    simp only [Bool.and_eq_true, List.all_eq_true] at this
    have := this.1 e (by simpa using he)
    simpa [hb] using this
  · intro i j oi oj ho hj hlt
    have hi := (Array.getElem?_eq_some_iff.1 ho).1
    have := h i hi
    rw [ho] at this
    simp only [Bool.and_eq_true, List.all_eq_true, List.mem_range] at this
    have := this.2 j hlt
    rw [hj] at this
    simp only [Bool.or_eq_true] at this
    rcases this with h1 | h1
    · exact .inl (hm i j h1)
    · exact .inr h1
def Closed (ops : Array Oper) (listed : Array Bool) : Prop :=
  ∀ k o, listed.getD k false = true → ops[k]? = some o → ∀ e ∈ o.after, Region.binds .any e = true → listed.getD e.on false = true
theorem anc_listed {listed : Array Bool} (hc : Closed ops listed) : ∀ {k j : Nat}, Anc ops k j → (∀ o, ops[k]? = some o → ∀ e ∈ o.after, Region.binds .any e = true → listed.getD e.on false = true) → listed.getD j false = true := by
  intro k j h
  induction h with
  | edge ho he hb => intro hk; exact hk _ ho _ he hb
  | more ho he hb h ih =>
    intro hk
    refine ih fun o' ho' e' he' hb' => ?_
    exact hc _ o' (hk _ ho _ he hb) ho' e' he' hb'
theorem any_of_text (hok : OrdOk P ops) : ∀ (fuel : Nat) (listed : Array Bool) (σ : St), listed.size = ops.size → (remOf ops.size listed).length ≤ fuel → Closed ops listed →
    aix P ops (remOf ops.size listed) σ K → aAny P ops K fuel listed σ := by
  have done : ∀ (listed : Array Bool), listed.size = ops.size → Region.ready .any ops listed = [] → remOf ops.size listed = [] := by
    intro listed hs hr
    cases hrem : remOf ops.size listed with
    | nil => rfl
    | cons i l =>
      exfalso
      have hmem : ∀ j, j ∈ remOf ops.size listed → j < ops.size ∧ listed.getD j true = false := by
        intro j hj; simp only [remOf, List.mem_filter, List.mem_range] at hj; exact ⟨hj.1, by simpa using hj.2⟩
      have hleast : ∃ m, m ∈ remOf ops.size listed ∧ ∀ j, j < m → j ∉ remOf ops.size listed := by
        have : ∃ m, m ∈ remOf ops.size listed := ⟨i, by rw [hrem]; simp⟩
        obtain ⟨m, hm⟩ := this
        induction m using Nat.strongRecOn with
        | _ m ih =>
          by_cases hx : ∃ j, j < m ∧ j ∈ remOf ops.size listed
          · obtain ⟨j, h1, h2⟩ := hx; exact ih j h1 h2
          · exact ⟨m, hm, fun j h1 h2 => hx ⟨j, h1, h2⟩⟩
      obtain ⟨m, hm, hl⟩ := hleast
      obtain ⟨h1, h2⟩ := hmem m hm
      have hready : m ∈ Region.ready .any ops listed := by
        rw [mem_ready]
        refine ⟨h2, ops[m], by rw [Array.getElem?_eq_getElem h1], ?_⟩
        intro e he hb
        have hlt := hok.edges m _ e (Array.getElem?_eq_getElem h1) he hb
        have hn := hl e.on hlt
        simp only [remOf, List.mem_filter, List.mem_range, not_and] at hn
        have := hn (by omega)
        have hsz : e.on < listed.size := by omega
        simp [Array.getD_eq_getD_getElem?, hsz] at this ⊢
        exact this
      rw [hr] at hready; simp at hready
  intro fuel
  induction fuel with
  | zero =>
    intro listed σ hs hl hc h
    have hrem : remOf ops.size listed = [] := List.length_eq_zero_iff.1 (by omega)
    rw [hrem] at h
    refine ⟨?_, h⟩
    cases hr : Region.ready .any ops listed with
    | nil => rfl
    | cons i l =>
      exfalso
      have hi : i ∈ Region.ready .any ops listed := by rw [hr]; simp
      obtain ⟨h0, o, ho, _⟩ := mem_ready.1 hi
      have : i ∈ remOf ops.size listed := by
        simp only [remOf, List.mem_filter, List.mem_range]
        exact ⟨(Array.getElem?_eq_some_iff.1 ho).1, by simpa using h0⟩
      rw [hrem] at this; simp at this
  | succ fuel ih =>
    intro listed σ hs hl hc h
    refine ⟨fun hr => ?_, ?_⟩
    · rw [done listed hs hr] at h; exact h
    · intro i hi o ho
      obtain ⟨h0, o', ho', hall⟩ := mem_ready.1 hi
      rw [ho] at ho'; simp only [Option.some.injEq] at ho'; subst ho'
      have hlt := (Array.getElem?_eq_some_iff.1 ho).1
      obtain ⟨p, q, e1, e2, e3⟩ := remOf_set hlt hs h0
      rw [e1] at h
      have hfront := aix_front ho p q σ (fun j hj oj hoj => by
        obtain ⟨g1, g2⟩ := e3 j hj
        rcases hok.free i j o oj ho hoj g1 with ha | hind
        · exfalso
          have := anc_listed hc ha (fun o2 ho2 e he hb => by rw [ho] at ho2; simp only [Option.some.injEq] at ho2; subst ho2; exact hall e he hb)
          have hj : j < listed.size := by omega
          simp [Array.getD_eq_getD_getElem?, hj] at this g2
          rw [this] at g2; simp at g2
        · exact hind) h
      refine gstep_mono hfront fun σ' hk => ?_
      refine ih (listed.setIfInBounds i true) σ' (by simpa using hs) ?_ ?_ (by rw [e2]; exact hk)
      · rw [e2]; rw [e1] at hl; simp at hl ⊢; omega
      · intro k o2 hk2 ho2 e he hb
        by_cases hki : i = k
        · subst hki
          rw [ho] at ho2; simp only [Option.some.injEq] at ho2; subst ho2
          exact getD_set_true (hall e he hb)
        · rw [getD_set_ne false hki] at hk2
          exact getD_set_true (hc k o2 hk2 ho2 e he hb)
theorem aix_range : ∀ (l : List Nat) (os : List Oper) (σ : St), l.length = os.length → (∀ (k i : Nat), l[k]? = some i → ops[i]? = os[k]?) → asteps P ops os σ K → aix P ops l σ K
  | [], os, σ, hl, hi, h => by
    have : os = [] := by cases os <;> simp_all
    subst this; exact h
  | i :: l, os, σ, hl, hi, h => by
    cases os with
    | nil => simp at hl
    | cons o os =>
      have h0 : ops[i]? = some o := by simpa using hi 0 i rfl
      simp only [aix, h0]
      exact gstep_mono h fun σ' hh => aix_range l os σ' (by simpa using hl) (fun k i' hk' => by
        have := hi (k + 1) i' (by simpa using hk'); simpa using this) hh
theorem AW.draw {id : Nat} {Q : Exit → St → Prop} {σ : St} (hm : P.follows .mixedOrders = true) (hok : orderOk P ops = true) (h : runE P ops ops.toList σ (Q .normal)) : AW P (.region id ops true) Q σ := by
  intro G0 w0 G a w hst r
  refine wp_region_any hm ?_
  have r' : Rl G0 w0 σ G a { w with drawn := w.drawn + 1 } := by
    have hk : Keeps G σ.h w G σ.h { w with drawn := w.drawn + 1 } := ⟨fun b o v hv => hv, (Keeps.refl G σ.h w).toks, (Keeps.refl G σ.h w).objs, fun _ _ h => h⟩
    have he : Ext G w G { w with drawn := w.drawn + 1 } := ⟨rfl, rfl, rfl, Nat.le_refl _, fun b hb hs => ⟨rfl, rfl⟩, fun b o v hb hv => hv, fun _ _ h => h⟩
    refine ⟨r.defers, r.size, fun i hi => (r.slots i hi).mono hk, ⟨r.wf.fresh, r.wf.rows, fun id ver hb hl => ?_⟩, r.ext.trans he, r.ids, r.glob⟩
    obtain ⟨o1, o2, o3⟩ := r.wf.objs id ver hb hl
    exact ⟨o1, o2, o3.mono hk rfl⟩
  refine aAny_wpAny (K := Q .normal) (fun σ' G' a' w' hk r' => ⟨σ', G', hk, r'⟩) _ _ σ G a _ r' ?_
  have hrem : remOf ops.size (Array.replicate ops.size false) = List.range ops.size := by
    unfold remOf
    rw [List.filter_eq_self]
    intro i hi
    simp at hi
    simp [hi]
  refine any_of_text (orderOk_spec hok) _ _ σ (by simp) (by rw [hrem]; simp) (fun k o hk => ?_) ?_
  · by_cases hk2 : k < ops.size <;> simp [Array.getD_eq_getD_getElem?, hk2] at hk
  · rw [hrem]
    refine aix_range _ ops.toList σ (by simp) ?_ (runE_asteps _ _ _ h)
    intro k i hk
    rw [List.getElem?_range] at hk
    · simp only [Option.some.injEq] at hk; subst hk; simp
    · rcases Nat.lt_or_ge k ops.size with h | h
      · exact h
      · rw [List.getElem?_eq_none (by simpa using h)] at hk; simp at hk
theorem AW.drawSeq {id : Nat} {y : Code} {Q : Exit → St → Prop} {σ : St} (hm : P.follows .mixedOrders = true) (hok : orderOk P ops = true) (h : runE P ops ops.toList σ (AW P y Q)) : AW P (.seq (.region id ops true) y) Q σ :=
  AW.seq (AW.draw hm hok h)
end
end
end Go.Av
end
