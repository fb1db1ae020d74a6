/- The walks of this seat's functions, and what is known of what they reckon (Can). Conditions: those that each theorem names. -/
import Derived.Test.YtkejhcogjmaleaaCanb
import Derived.Test.YtkejhcogjmaleaaCanc
import Derived.Deep.AppendSrc
import Derived.Lib.AppendZeros

section
set_option linter.unusedSimpArgs false
set_option linter.unusedVariables false
namespace Go.Av.Can
open Go Go.Av Go.Proofs
theorem FnG.turn {P : Program} {f : FuncId} {args res : List V} {ins outs : List HB} {n0 n1 : Nat} (hf : FnG P f args ins n0 res outs n1) {G : Gh} {h : HT} {w : World} (wf : WF G h w)
    (hg : ∀ g r, Tables.gl g = some r → RepP (pm G w) (.eptr r 0 0) (.pointer (some ⟨g, 0, none⟩))) (E : List V) (vs : List Value) (d : Nat) (hl : E.length = vs.length)
    (hr : ∀ i, i < E.length → Rep G h w (E.getD i .junk) (vs.getD i undef)) (h1 : lendArgs h E = args) (h2 : lendIns h E = ins) (h3 : (lendB h E).length = n0) :
    Calls P f vs.toArray w fun e w' => ∃ u, e = .returned u ∧ TurnedTo G h w (backV h E d res outs n1) (backH h E d outs n1) u w' := by
  subst h1 h2 h3
  refine (hf _ _ _ (lend_goes wf hg E vs hl hr)).mono ?_
  rintro e w' ⟨v, rfl, hc⟩
  exact ⟨v, rfl, call_back wf E d hc⟩
theorem nogl : ∀ (m : Nat → Nat → Option Value) g r, Tables.gl g = some r → RepP m (.eptr r 0 0) (.pointer (some ⟨g, 0, none⟩)) := fun m g r h => by cases h
theorem build_turn (ps : Pairs) (hp : PairsOk ps) {G : Gh} {h : HT} {w : World} (wf : WF G h w) {id c : Nat} (hl : look h.H id = some (c, rpl 0 1 .iface0 (.p (.sl (.strs (olds ps)) false)))) :
    Calls Try.prog 51 #[.pointer (some ⟨G.ι id, 0, none⟩)] w fun e w' => ∃ u, e = .returned u ∧
      TurnedTo G h w (.p (.ifc 103 (.eptr (rRow (tabP ps) (tsP ps)) 0 0))) ⟨upd h.H id (c, rpl 0 1 .iface0 (.p (.sl (.strs (olds ps)) false))), h.T⟩ u w' := by
  have hre : reach h.H 400 [] [.ptr id c 0] = [id] := by simp [reach, hl, rpl, HB.list]
  have h0 := FnG.turn (build_ct ps hp) wf (nogl _) [.ptr id c 0] [.pointer (some ⟨G.ι id, 0, none⟩)] 0 rfl (by
    intro i hi
    obtain rfl : i = 0 := by simpa using hi
    exact .ptr id c 0 c _ _ hl (Nat.le_refl _) (fun _ => rfl))
    (by simp [lendArgs, lendFo, lendA, numb, nmO, look, hl, V.rens, V.ren, rpl, reach, HB.list])
    (by simp [lendIns, lendFo, lendA, hre, numb, nmO, look, hl, insOf, HB.ren, rpl, V.rens, V.ren])
    (by simp [lendB, hre, heldBy, hl, rpl, HB.list, V.tokl, V.toks, numb])
  have eV : backV h [.ptr id c 0] 0 [.p (.ifc 103 (.eptr (rRow (tabP ps) (tsP ps)) 0 0))] [rpl 0 1 .iface0 (.p (.sl (.strs (olds ps)) false))] 0 = .p (.ifc 103 (.eptr (rRow (tabP ps) (tsP ps)) 0 0)) := by
    simp [backV, retV, V.ren]
  have eH : backH h [.ptr id c 0] 0 [rpl 0 1 .iface0 (.p (.sl (.strs (olds ps)) false))] 0 = ⟨upd h.H id (c, rpl 0 1 .iface0 (.p (.sl (.strs (olds ps)) false))), h.T⟩ := by
    simp [backH, hre, setObjs, curO, hl, HB.ren, rpl, V.rens, V.ren, impT, backT1, lendToks, heldBy, HB.list, V.tokl, V.toks, bumpAll]
  rw [eV, eH] at h0
  exact h0
/-- The Replacer's block. -/
theorem rpl_block {G : Gh} {h : HT} {w : World} (wf : WF G h w) {id c : Nat} {a b : Int} {x : PV} {l : PV} (hl : look h.H id = some (c, rpl a b x (.p l))) :
    ∃ vs ty fz, w.heap[G.ι id]? = some (.cells vs ty fz) ∧ vs.size = 5 ∧ w.cell? ⟨G.ι id, 0, none⟩ = some (.int .u32 a) ∧ w.cell? ⟨G.ι id, 1, none⟩ = some (.int .i32 b) ∧ w.cell? ⟨G.ι id, 2, none⟩ = some (.int .u32 0) ∧
      (∃ v, w.cell? ⟨G.ι id, 3, none⟩ = some v ∧ RepP (pm G w) x v) ∧ (∃ v, w.cell? ⟨G.ι id, 4, none⟩ = some v ∧ v.oneCell' = true ∧ RepP (pm G w) l v) ∧ ∀ i, i < 6 → w.frozen? ⟨G.ι id, i, none⟩ = false := by
  obtain ⟨o1, o2, vs, ty, fz, h1, h2, h3, h4⟩ := wf.objs id c _ hl
  simp only [rpl, HB.size, List.length_cons, List.length_nil] at h2 h3 h4
  have hc : ∀ i, w.cell? ⟨G.ι id, i, none⟩ = vs[i]? := fun i => cell_of_block h1
  refine ⟨vs, ty, fz, h1, h2, ?_, ?_, ?_, ?_, ?_, h4⟩
  · obtain ⟨v, q1, q2, q3⟩ := h3 0 (by decide)
    rw [hc, q1]; cases q3 with | p q3 => cases q3; rfl
  · obtain ⟨v, q1, q2, q3⟩ := h3 1 (by decide)
    rw [hc, q1]; cases q3 with | p q3 => cases q3; rfl
  · obtain ⟨v, q1, q2, q3⟩ := h3 2 (by decide)
    rw [hc, q1]; cases q3 with | p q3 => cases q3; rfl
  · obtain ⟨v, q1, q2, q3⟩ := h3 3 (by decide)
    refine ⟨v, by rw [hc, q1], ?_⟩
    cases q3 with | p q3 => exact q3
  · obtain ⟨v, q1, q2, q3⟩ := h3 4 (by decide)
    refine ⟨v, by rw [hc, q1], q2, ?_⟩
    cases q3 with | p q3 => exact q3
set_option maxRecDepth 100000 in
set_option maxHeartbeats 1600000 in
/-- '(*strings.Replacer).Replace', not yet built: the walk. -/
theorem replace_walk (b : Nat) (s : ByteArray) (Post : Value → World → Prop) (Fin : Value → World → Prop) (w : World) (h0 : w.cell? ⟨b, 0, none⟩ = some (.int .u32 0)) (h1 : w.cell? ⟨b, 1, none⟩ = some (.int .i32 0)) (f1 : w.frozen? ⟨b, 1, none⟩ = false)
    (hB : Calls Try.prog 51 #[.pointer (some ⟨b, 0, none⟩)] (w.setCell ⟨b, 1, none⟩ (.int .i32 1)) fun e w' => ∃ x, e = .returned x ∧ Post x w')
    (hP : ∀ x w', Post x w' → Built b x w')
    (hF : ∀ x w', Post x w' → ∃ v, x = .iface 103 v ∧ Calls Try.prog 117 #[v, .string s] ((((w'.setCell ⟨b, 3, none⟩ x).setCell ⟨b, 4, none⟩ (.slice none 0 0)).drew.setCell ⟨b, 0, none⟩ (.int .u32 1)).setCell ⟨b, 1, none⟩ (.int .i32 0)) fun e w'' => ∃ u, e = .returned u ∧ Fin u w'') :
    Calls Try.prog 31 #[.pointer (some ⟨b, 0, none⟩), .string s] w fun e w' => ∃ u, e = .returned u ∧ Fin u w' := by
  have hmf : ∀ (fn : Go.Fn) (first cap : Array Value) (w : World), (Instr.makeFunc fn first cap).run Try.prog w = .ok (.func fn first cap) w := fun _ _ _ _ => rfl
  have hO := once_ct b Post _ hB hP
  have hOn : ∀ w', (∃ x w1, Post x w1 ∧ w' = (w1.setCell ⟨b, 3, none⟩ x).setCell ⟨b, 4, none⟩ (.slice none 0 0)) → Once b w' := by
    rintro w' ⟨x, w1, hp, rfl⟩
    have hb := hP x w1 hp
    have q0 := hb.fz 0 (by decide)
    have q1 := hb.fz 1 (by decide)
    refine ⟨?_, ?_, by simp [q0], by simp [q1]⟩
    · rw [World.cell?_setCell_other _ _ _ _ (by simp), World.cell?_setCell_other _ _ _ _ (by simp)]; exact hb.c0
    · rw [World.cell?_setCell_other _ _ _ _ (by simp), World.cell?_setCell_other _ _ _ _ (by simp)]; exact hb.c1
  have hW3 : ∀ x w1, Post x w1 → ((((w1.setCell ⟨b, 3, none⟩ x).setCell ⟨b, 4, none⟩ (.slice none 0 0)).drew.setCell ⟨b, 0, none⟩ (.int .u32 1)).setCell ⟨b, 1, none⟩ (.int .i32 0)).cell? ⟨b, 3, none⟩ = some x := by
    intro x w1 hp
    have hb := hP x w1 hp
    obtain ⟨y, hy⟩ := Option.isSome_iff_exists.1 hb.c3
    rw [World.cell?_setCell_other _ _ _ _ (by simp), World.cell?_setCell_other _ _ _ _ (by simp), World.cell?_drew, World.cell?_setCell_other _ _ _ _ (by simp)]
    exact World.cell?_setCell_same _ _ _ hy
  have hM : ∀ (v : Value) (W : World), Sem.run Try.prog (method 277 103 v "Replace") W = .ok (117, v) W := fun v W => by kernel_rfl
  go_enter Try.func31, Try.ntmps31
  go_wp2_with (first | (go_at_call 42; refine (do_first b _ _ h0 h1 f1 hO hOn).mono ?_; rintro e w'' ⟨rfl, w2, ⟨x, w1, hpost, rfl⟩, rfl⟩; have c3 := hW3 x w1 hpost; obtain ⟨v, rfl, hcall⟩ := hF x w1 hpost; generalize ((((w1.setCell ⟨b, 3, none⟩ (Value.iface 103 v)).setCell ⟨b, 4, none⟩ (.slice none 0 0)).drew.setCell ⟨b, 0, none⟩ (.int .u32 1)).setCell ⟨b, 1, none⟩ (.int .i32 0)) = W at *) | (go_at_call 117; refine hcall.mono ?_; rintro e w'' ⟨u, rfl, hfin⟩))
  go_ret
  exact ⟨u, rfl, hfin⟩
end Go.Av.Can
end

section
set_option linter.unusedSimpArgs false
set_option linter.unusedVariables false
namespace Go.Av.Can
open Go Go.Av Go.Proofs
def eR (ps : Pairs) : PV := .eptr (rRow (tabP ps) (tsP ps)) 0 0
def nilS : V := .p (.sl (.vals 1 []) true)
/-- The Replacer's cells have been turned. -/
theorem rpl_turned {G : Gh} {h : HT} {w : World} (wf : WF G h w) {id c : Nat} {a b : Int} {x : PV} {l : PV} (hl : look h.H id = some (c, rpl a b x (.p l))) {vs : Array Value} {ty : TypeId} {fz : Nat × Nat}
    (hblk : w.heap[G.ι id]? = some (.cells vs ty fz)) (hsz : vs.size = 5) (hfz : ∀ i, i < 6 → w.frozen? ⟨G.ι id, i, none⟩ = false) (a' b' : Int) (x' l' : PV) (vx vl : Value)
    (h1 : vx.oneCell' = true) (h2 : vl.oneCell' = true) (hx : RepP (pm G w) x' vx) (hv : RepP (pm G w) l' vl) (w' : World) (hw : SameW w' (World.withRow w (G.ι id) #[.int .u32 a', .int .i32 b', .int .u32 0, vx, vl] ty fz)) :
    Keeps G h w G ⟨upd h.H id (c, rpl a' b' x' (.p l')), h.T⟩ w' ∧ Ext G w G w' ∧ WF G ⟨upd h.H id (c, rpl a' b' x' (.p l')), h.T⟩ w' := by
  obtain ⟨k1, k2, k3⟩ := turned (vs' := #[.int .u32 a', .int .i32 b', .int .u32 0, vx, vl]) (hb' := rpl a' b' x' (.p l')) wf hl rfl rfl ⟨vs, hblk, by rw [hsz]; rfl⟩ (by intro i hi; exact hfz i (by simpa [rpl, HB.size] using hi)) (by
    intro i hi
    have hi : i < 5 := hi
    match i, hi with
    | 0, _ => exact ⟨_, rfl, rfl, .p (.int _ _)⟩
    | 1, _ => exact ⟨_, rfl, rfl, .p (.int _ _)⟩
    | 2, _ => exact ⟨_, rfl, rfl, .p (.int _ _)⟩
    | 3, _ => exact ⟨_, rfl, h1, .p hx⟩
    | 4, _ => exact ⟨_, rfl, h2, .p hv⟩)
  exact ⟨keeps_heap hw.heap k1, ext_same hw k2, wf_heap hw.heap k3⟩
theorem five {vs : Array Value} (h : vs.size = 5) {a b c d e : Value} (h0 : vs[0]? = some a) (h1 : vs[1]? = some b) (h2 : vs[2]? = some c) (h3 : vs[3]? = some d) (h4 : vs[4]? = some e) : vs = #[a, b, c, d, e] := by
  apply Array.ext_getElem?
  intro i
  by_cases hi : i < 5
  · match i, hi with
    | 0, _ => exact h0
    | 1, _ => exact h1
    | 2, _ => exact h2
    | 3, _ => exact h3
    | 4, _ => exact h4
  · rw [Array.getElem?_eq_none (by omega), Array.getElem?_eq_none (by simp; omega)]
theorem bsr_turn (ps : Pairs) (hp : PairsOk ps) (l : List (BitVec 8)) (hl : l.length ≤ 4000000) {G : Gh} {h : HT} {w : World} (wf : WF G h w) {v : Value} (hv : RepP (pm G w) (eR ps) v) :
    Calls Try.prog 117 #[v, .string (txt l)] w fun e w' => ∃ u, e = .returned u ∧ TurnedTo G h w (.p (.str (txt (replL (tabP ps) l)))) h u w' := by
  have hre : reach h.H 400 [] [V.p (eR ps), V.p (.str (txt l))] = [] := by simp [reach]
  have h0 := FnG.turn (bsr_ct (tabP ps) (tsP ps) hp.tab (by have := hp.few; simp [tsP]; omega) l hl) wf (nogl _) [.p (eR ps), .p (.str (txt l))] [v, .string (txt l)] 0 rfl (by
    intro i hi
    have hi : i < 2 := hi
    match i, hi with
    | 0, _ => exact .p hv
    | 1, _ => exact .p (.str _))
    (by simp [lendArgs, V.rens, V.ren, eR])
    (by simp [lendIns, reach, insOf])
    (by simp [lendB, reach, heldBy, V.tokl, V.toks, numb])
  have eV : backV h [V.p (eR ps), V.p (.str (txt l))] 0 [.p (.str (txt (replL (tabP ps) l)))] [] 0 = .p (.str (txt (replL (tabP ps) l))) := by simp [backV, retV, V.ren]
  have eH : backH h [V.p (eR ps), V.p (.str (txt l))] 0 [] 0 = h := by
    simp [backH, reach, setObjs, impT, backT1, lendToks, heldBy, V.tokl, V.toks, bumpAll]
  rw [eV, eH] at h0
  exact h0
end Go.Av.Can
end

section
set_option linter.unusedSimpArgs false
set_option linter.unusedVariables false
namespace Go.Av.Can
open Go Go.Av Go.Proofs
theorem sameW_refl (w : World) : SameW w w := ⟨rfl, rfl, rfl, rfl⟩
theorem TurnedTo.ifc {G : Gh} {h h' : HT} {w w' : World} {u : Value} {t : TypeId} {x : PV} (q : TurnedTo G h w (.p (.ifc t x)) h' u w') : ∃ G' v, u = .iface t v ∧ RepP (pm G' w') x v ∧ Keeps G h w G' h' w' ∧ Ext G w G' w' ∧ WF G' h' w' := by
  obtain ⟨G', q1, q2, q3, q4⟩ := q
  cases q1 with
  | p q1 =>
    cases q1 with
    | ifc _ _ v hv => exact ⟨G', v, rfl, hv, q2, q3, q4⟩
set_option maxHeartbeats 4000000 in
theorem repl_run (ps : Pairs) (hp : PairsOk ps) {G : Gh} {h : HT} {w : World} (wf : WF G h w) {id c : Nat} (hl : look h.H id = some (c, rpl 0 0 .iface0 (.p (.sl (.strs (olds ps)) false)))) (l : List (BitVec 8)) (hlen : l.length ≤ 4000000) :
    Calls Try.prog 31 #[.pointer (some ⟨G.ι id, 0, none⟩), .string (txt l)] w fun e w' => ∃ u, e = .returned u ∧
      TurnedTo G h w (.p (.str (txt (replL (tabP ps) l)))) ⟨upd h.H id (c, rpl 1 0 (.ifc 103 (eR ps)) nilS), h.T⟩ u w' := by
  obtain ⟨vs, ty, fz, hblk, hsz, c0, c1, c2, ⟨v3, c3, r3⟩, ⟨v4, c4, o4, r4⟩, hfz⟩ := rpl_block wf hl
  have hcv : ∀ i, w.cell? ⟨G.ι id, i, none⟩ = vs[i]? := fun i => cell_of_block hblk
  have hv3 : v3 = .nilIface := by cases r3; rfl
  have hvs := five hsz ((hcv 0).symm.trans c0) ((hcv 1).symm.trans c1) ((hcv 2).symm.trans c2) ((hcv 3).symm.trans c3) ((hcv 4).symm.trans c4)
  have hw1 : w.setCell ⟨G.ι id, 1, none⟩ (.int .i32 1) = World.withRow w (G.ι id) #[.int .u32 0, .int .i32 1, .int .u32 0, v3, v4] ty fz := by
    rw [setCell_row hblk, hvs]; rfl
  obtain ⟨k1, e1, wf1⟩ := rpl_turned wf hl hblk hsz hfz 0 1 .iface0 (.sl (.strs (olds ps)) false) v3 v4 (by rw [hv3]; rfl) o4 r3 r4 (w.setCell ⟨G.ι id, 1, none⟩ (.int .i32 1)) (by rw [hw1]; exact sameW_refl _)
  have hl1 : look (upd h.H id (c, rpl 0 1 .iface0 (.p (.sl (.strs (olds ps)) false)))) id = some (c, rpl 0 1 .iface0 (.p (.sl (.strs (olds ps)) false))) := look_upd_same _ _ _
  have hB := build_turn ps hp wf1 hl1
  generalize hw1' : w.setCell ⟨G.ι id, 1, none⟩ (.int .i32 1) = w1 at *
  -- what is known behind build
  have key : ∀ (G2 : Gh) (w2 : World), Keeps G ⟨upd h.H id (c, rpl 0 1 .iface0 (.p (.sl (.strs (olds ps)) false))), h.T⟩ w1 G2 ⟨upd (upd h.H id (c, rpl 0 1 .iface0 (.p (.sl (.strs (olds ps)) false)))) id (c, rpl 0 1 .iface0 (.p (.sl (.strs (olds ps)) false))), h.T⟩ w2 → G2.ι id = G.ι id := by
    intro G2 w2 k
    obtain ⟨cur', hb', q1, q2, q3⟩ := k.objs id c _ hl1
    simp only at q1
    rw [look_upd_same] at q1
    simp only [Option.some.injEq, Prod.mk.injEq] at q1
    exact q3 q1.1.symm
  refine replace_walk (G.ι id) (txt l) _ (fun u w'' => TurnedTo G h w (.p (.str (txt (replL (tabP ps) l)))) ⟨upd h.H id (c, rpl 1 0 (.ifc 103 (eR ps)) nilS), h.T⟩ u w'') w c0 c1 (hfz 1 (by decide)) (by rw [hw1']; exact hB) ?_ ?_
  · intro x w2 hx
    obtain ⟨G2, v, rfl, hv, k2, e2, wf2⟩ := TurnedTo.ifc hx
    have hι := key G2 w2 k2
    obtain ⟨vs2, ty2, fz2, hblk2, hsz2, d0, d1, d2, ⟨u3, d3, _⟩, ⟨u4, d4, _, _⟩, hfz2⟩ := rpl_block wf2 (look_upd_same _ _ _)
    rw [hι] at d0 d1 d3 d4 hfz2
    exact ⟨d0, d1, by rw [d3]; rfl, by rw [d4]; rfl, fun i hi => hfz2 i (by omega), ⟨_, _, rfl⟩⟩
  · intro x w2 hx
    obtain ⟨G2, v, rfl, hv, k2, e2, wf2⟩ := TurnedTo.ifc hx
    have hι := key G2 w2 k2
    refine ⟨v, rfl, ?_⟩
    obtain ⟨vs2, ty2, fz2, hblk2, hsz2, d0, d1, d2, ⟨u3, d3, _⟩, ⟨u4, d4, _, _⟩, hfz2⟩ := rpl_block wf2 (look_upd_same _ _ _)
    have hcv2 : ∀ i, w2.cell? ⟨G2.ι id, i, none⟩ = vs2[i]? := fun i => cell_of_block hblk2
    have hvs2 := five hsz2 ((hcv2 0).symm.trans d0) ((hcv2 1).symm.trans d1) ((hcv2 2).symm.trans d2) ((hcv2 3).symm.trans d3) ((hcv2 4).symm.trans d4)
    rw [← hι]
    have hlt2 : G2.ι id < w2.heap.size := lt_of_get hblk2
    have hW : SameW ((((w2.setCell ⟨G2.ι id, 3, none⟩ (.iface 103 v)).setCell ⟨G2.ι id, 4, none⟩ (.slice none 0 0)).drew.setCell ⟨G2.ι id, 0, none⟩ (.int .u32 1)).setCell ⟨G2.ι id, 1, none⟩ (.int .i32 0))
        (World.withRow w2 (G2.ι id) #[.int .u32 1, .int .i32 0, .int .u32 0, .iface 103 v, .slice none 0 0] ty2 fz2) := by
      rw [setCell_row hblk2, setCell_row (withRow_get hlt2), withRow_twice]
      generalize hw3 : World.withRow w2 (G2.ι id) ((vs2.setIfInBounds 3 (.iface 103 v)).setIfInBounds 4 (.slice none 0 0)) ty2 fz2 = w3
      have hb3 : w3.drew.heap[G2.ι id]? = some (.cells ((vs2.setIfInBounds 3 (.iface 103 v)).setIfInBounds 4 (.slice none 0 0)) ty2 fz2) := by subst hw3; exact withRow_get hlt2
      have hlt3 : G2.ι id < w3.drew.heap.size := lt_of_get hb3
      rw [setCell_row hb3, setCell_row (withRow_get hlt3), withRow_twice]
      have hv5 : ((((vs2.setIfInBounds 3 (Value.iface 103 v)).setIfInBounds 4 (.slice none 0 0)).setIfInBounds 0 (.int .u32 1)).setIfInBounds 1 (.int .i32 0)) = #[.int .u32 1, .int .i32 0, .int .u32 0, .iface 103 v, .slice none 0 0] := by rw [hvs2]; rfl
      rw [hv5]
      subst hw3
      refine ⟨?_, rfl, rfl, rfl⟩
      have e := withRow_twice (w := w2) (b := G2.ι id) (vs := ((vs2.setIfInBounds 3 (Value.iface 103 v)).setIfInBounds 4 (.slice none 0 0))) (vs' := #[.int .u32 1, .int .i32 0, .int .u32 0, .iface 103 v, .slice none 0 0]) (ty := ty2) (fz := fz2)
      rw [← e]; rfl
    obtain ⟨k3, e3, wf3⟩ := rpl_turned wf2 (look_upd_same _ _ _) hblk2 hsz2 hfz2 1 0 (.ifc 103 (eR ps)) (.sl (.vals 1 []) true) (.iface 103 v) (.slice none 0 0) rfl rfl (.ifc _ _ _ hv) (.slNil _ rfl) _ hW
    simp only [upd_upd] at k2 e2 wf2 k3 e3 wf3
    refine (bsr_turn ps hp l hlen wf3 (hv.mono k3.mem)).mono ?_
    rintro e w4 ⟨u, rfl, G4, q1, q2, q3, q4⟩
    exact ⟨u, rfl, G4, q1, (k1.trans k2).trans (k3.trans q2), (e1.trans e2).trans (e3.trans q3), q4⟩
end Go.Av.Can
end

section
set_option linter.unusedSimpArgs false
set_option linter.unusedVariables false
namespace Go.Av.Can
open Go Go.Av Go.Proofs
set_option maxRecDepth 100000 in
theorem info9 : ∃ i, Try.prog.info? 9 = some i ∧ i.zero = some (.string ⟨#[]⟩) ∧ i.size = 1 ∧ i.bytes = 16 := by
  refine ⟨_, rfl, ?_, ?_, ?_⟩ <;> kernel_rfl
theorem zc (n : Nat) (z : Value) (hz : z.cells = #[z]) : Builtin.zeroCells z.cells n = (List.replicate n z).toArray := by
  rw [hz]
  apply Array.ext_getElem?
  intro i
  simp only [Builtin.zeroCells]
  by_cases h : i < n <;> simp [Array.getElem?_map, h, Nat.mod_one]
set_option maxHeartbeats 4000000 in
set_option maxRecDepth 100000 in
theorem new_run (w : World) (b off cap n : Nat) (xs : List Value) (hn : xs.length = 2 * n) (hx : n ≠ 0) (hx2 : n ≤ 50) (hcell : ∀ j u, xs[j]? = some u → w.cell? ⟨b, off + j, none⟩ = some u) (h1 : ∀ u ∈ xs, u.oneCell' = true) :
    Calls Try.prog 30 #[.slice (some ⟨b, off, none⟩) xs.length cap] w fun e w' => ∃ k, e = .returned (.pointer (some ⟨w.heap.size + 1, 0, none⟩)) ∧
      SameW w' ((w.alloc (.cells (xs ++ List.replicate k (Value.string ⟨#[]⟩)).toArray 9)).alloc (.cells #[.int .u32 0, .int .i32 0, .int .u32 0, .nilIface, .slice (some ⟨w.heap.size, 0, none⟩) xs.length (xs.length + k)] 78)) := by
  have t4 := Try.underlying4; have a4 := fun w => run_isAgg (P := Try.prog) (t := 4) (b := false) (by kernel_rfl) w; have z4 := fun w => tsize_run (P := Try.prog) (t := 4) (n := 1) (by kernel_rfl) w; have u4 := run_underlying t4
  have t9 := Try.underlying9; have a9 := fun w => run_isAgg (P := Try.prog) (t := 9) (b := false) (by kernel_rfl) w; have z9 := fun w => tsize_run (P := Try.prog) (t := 9) (n := 1) (by kernel_rfl) w; have u9 := run_underlying t9
  have t62 := Try.underlying62; have a62 := fun w => run_isAgg (P := Try.prog) (t := 62) (b := false) (by kernel_rfl) w; have z62 := fun w => tsize_run (P := Try.prog) (t := 62) (n := 1) (by kernel_rfl) w; have u62 := run_underlying t62
  have mixed : Try.prog.follows .mixedOrders = true := by kernel_rfl
  obtain ⟨i0, hi0, hz0, hzs, hzb⟩ := info9
  have hsrc : Go.Src Try.prog i0.size 62 (.slice (some ⟨b, off, none⟩) xs.length cap) xs.length xs w := by
    rw [hzs]
    refine Go.Src.ofSlice w Try.underlying62 ⟨b, off, none⟩ xs.length cap xs (by omega) (fun j u hj => ?_) h1
    rw [Addr.add_lit]; exact hcell j u hj
  have hold : (Builtin.firstCells i0.size 0 (.slice none 0 0)).run Try.prog w.drew = .ok ([] : List Value).toArray w.drew := by
    rw [hzs]; exact run_firstCells_none w.drew 1 0 0 0
  have hrun : ∀ ty, (Builtin.append_ #[62, 62] ty #[.slice none 0 0, .slice (some ⟨b, off, none⟩) xs.length cap]).run Try.prog w = _ := fun ty =>
    run_append_grow_src w 62 62 ty 9 i0 _ Try.underlying62 hi0 hz0 none 0 0 [] hold _ xs.length xs hsrc (by omega) (by omega) (by rw [hzb]; exact growslice_fits (by omega) (by omega))
  have hmod : ((xs.length : Nat) : Int).tmod 2 = 0 := by
    rw [hn]
    have : ((2 * n : Nat) : Int) = 2 * (n : Int) := by simp
    rw [this]; exact Int.mul_tmod_right _ _
  go_enter Try.func30, Try.ntmps30
  go_wp2_with (at_builtin; refine Lib.wpList_append_run _ rfl _ _ _ _ rfl _ _ rfl rfl _ _ (hrun _) ?_)
  go_ret
  obtain ⟨k, hk⟩ : ∃ k, grownCap w (2 * n) 0 9 = 2 * n + k := ⟨grownCap w (2 * n) 0 9 - 2 * n, by have := grownCap_ge w (2 * n) 0 9; omega⟩
  refine ⟨k, rfl, ?_⟩
  have e := zc k (.string ⟨#[]⟩) rfl
  rw [show (Value.string ⟨#[]⟩).cells = #[Value.string ⟨#[]⟩] from rfl] at e
  rw [hk, Nat.add_sub_cancel_left, e, List.append_toArray, hn]
  exact ⟨rfl, rfl, rfl, rfl⟩
/-- The strings that a slice shows. -/
def strsOf : V → Option (List ByteArray)
  | .row (.strs l) _ _ false => some l
  | .p (.sl (.strs l) false) => some l
  | _ => none
theorem strsOf_rep {G : Gh} {h : HT} {w : World} {y : V} {l : List ByteArray} {v : Value} (hy : strsOf y = some l) (r : Rep G h w y v) : RepP (pm G w) (.sl (.strs l) false) v := by
  unfold strsOf at hy
  split at hy
  · simp only [Option.some.injEq] at hy; subst hy
    cases r with
    | row _ _ _ _ _ _ _ _ _ hr _ => exact hr
  · simp only [Option.some.injEq] at hy; subst hy
    cases r with
    | p hr => exact hr
  · simp at hy
def newPrim : Prim := fun E h d => match E with
  | [y] => match strsOf y with
    | some l => if l.length % 2 = 0 ∧ l.length ≠ 0 ∧ l.length ≤ 100 then some (.ptr d (nextVer h.H d) 0, ⟨upd h.H d (nextVer h.H d, rpl 0 0 .iface0 (.p (.sl (.strs l) false))), h.T⟩) else none
    | none => none
  | _ => none
theorem new_ok : PrimOk Try.prog 30 newPrim := by
  intro G h w E vs d v h' wf hg hlen hE hp
  refine .inl ⟨Try.call30 _ _, ?_⟩
  unfold newPrim at hp
  split at hp
  · rename_i y
    split at hp
    · rename_i l hy
      split at hp
      · rename_i hc
        obtain ⟨hc1, hc2, hc3⟩ := hc
        simp only [Option.some.injEq, Prod.mk.injEq] at hp
        obtain ⟨rfl, rfl⟩ := hp
        match vs, hlen with
        | [v0], _ =>
        have r0 := hE 0 (by simp)
        simp only [List.getD_cons_zero] at r0
        have hr := strsOf_rep hy r0
        cases hr with
        | sl _ a cap f hc ha hw hf h1 hr =>
        obtain ⟨b, off, sp⟩ := a
        obtain rfl : sp = none := by rcases ha with h2 | h2; exact absurd h2 hc2; exact h2
        have hcell : ∀ i, i < l.length → w.cell? ⟨b, off + i, none⟩ = some (.string (l.getD i ByteArray.empty)) := by
          intro i hi
          have q1 := hf i 0 hi Nat.zero_lt_one
          have q2 := hr i 0 hi Nat.zero_lt_one
          simp only [Row.sz, Nat.mul_one, Nat.add_zero] at q1
          have q3 : f i 0 = .string (l.getD i ByteArray.empty) := by
            have e : (Row.strs l : Row PV).elem i = .str (l.getD i ByteArray.empty) := rfl
            rw [e] at q2
            generalize f i 0 = z at q2
            cases q2; rfl
          rw [q3] at q1
          exact pm_cell q1
        have hrun := new_run w b off cap (l.length / 2) (l.map Value.string) (by simp; omega) (by omega) (by omega) (by
          intro j u hj
          simp only [List.getElem?_map, Option.map_eq_some_iff] at hj
          obtain ⟨s, hs, rfl⟩ := hj
          have hjl := (List.getElem?_eq_some_iff.1 hs).1
          rw [hcell j hjl, List.getD_eq_getElem?_getD, hs]; rfl) (by intro u hu; obtain ⟨s, _, rfl⟩ := List.mem_map.1 hu; rfl)
        rw [List.length_map] at hrun
        refine hrun.mono ?_
        rintro e w' ⟨k, rfl, hw'⟩
        refine ⟨_, rfl, ?_⟩
        obtain ⟨k1, e1, wf1⟩ := free_keeps wf (.cells (l.map Value.string ++ List.replicate k (Value.string ⟨#[]⟩)).toArray 9)
        generalize hw1 : w.alloc (.cells (l.map Value.string ++ List.replicate k (Value.string ⟨#[]⟩)).toArray 9) = w1 at *
        have hsz : w1.heap.size = w.heap.size + 1 := by subst hw1; simp
        have hnew : w1.heap[w.heap.size]? = some (.cells (l.map Value.string ++ List.replicate k (Value.string ⟨#[]⟩)).toArray 9) := by subst hw1; exact alloc_new
        have hfree : G.own w.heap.size = .free := wf.fresh _ (Nat.le_refl _)
        have hsl : RepP (pm G w1) (.sl (.strs l) false) (.slice (some ⟨w.heap.size, 0, none⟩) l.length (l.length + k)) := by
          refine .sl (.strs l) ⟨w.heap.size, 0, none⟩ (l.length + k) (fun i _ => .string (l.getD i ByteArray.empty)) (Nat.le_add_right _ _) (.inr rfl) (fun i _ => rfl) ?_ (fun _ _ _ _ => rfl) (fun i j hi hj => .str _)
          intro i j hi hj
          simp only [Row.sz] at hj
          obtain rfl : j = 0 := by omega
          have hi : i < l.length := hi
          simp only [pm, hfree, Row.sz, Nat.mul_one, Nat.add_zero, Nat.zero_add]
          rw [cell_of_block hnew]
          simp [List.getElem?_append_left, hi, List.getD_eq_getElem?_getD]
        obtain ⟨k2, e2⟩ := made_keeps wf1 d (rpl 0 0 .iface0 (.p (.sl (.strs l) false))) (.cells #[.int .u32 0, .int .i32 0, .int .u32 0, .nilIface, .slice (some ⟨w.heap.size, 0, none⟩) l.length (l.length + k)] 78)
        have wf2 := made_cells wf1 d (rpl 0 0 .iface0 (.p (.sl (.strs l) false))) #[.int .u32 0, .int .i32 0, .int .u32 0, .nilIface, .slice (some ⟨w.heap.size, 0, none⟩) l.length (l.length + k)] 78 rfl rfl (by
          intro i hi
          have hi : i < 5 := hi
          match i, hi with
          | 0, _ => exact ⟨_, rfl, rfl, .p (.int _ _)⟩
          | 1, _ => exact ⟨_, rfl, rfl, .p (.int _ _)⟩
          | 2, _ => exact ⟨_, rfl, rfl, .p (.int _ _)⟩
          | 3, _ => exact ⟨_, rfl, rfl, .p .iface0⟩
          | 4, _ => exact ⟨_, rfl, rfl, .p hsl⟩)
        refine ⟨_, ?_, keeps_heap hw'.heap (k1.trans k2), ext_same hw' (e1.trans e2), wf_heap hw'.heap wf2⟩
        refine .ptr _ _ _ _ _ _ (look_upd_same _ _ _) (Nat.le_refl _) (fun _ => ?_)
        simp only [Gh.made, if_pos, hsz]
      · simp at hp
    · simp at hp
  · simp at hp
end Go.Av.Can
end

section
set_option linter.unusedSimpArgs false
set_option linter.unusedVariables false
open Go Go.Av Go.Proofs
namespace Go.Av.Can
def bytesL (s : ByteArray) : List (BitVec 8) := s.data.toList.map (·.toBitVec)
theorem bytesL_txt (l : List (BitVec 8)) : bytesL (txt l) = l := by
  unfold bytesL; rw [txt_list, List.map_map]
  exact List.map_id' l
theorem txt_bytesL (s : ByteArray) : txt (bytesL s) = s := by
  obtain ⟨l, rfl⟩ := txt_of s
  rw [bytesL_txt]
def replS (ps : Pairs) (s : ByteArray) : ByteArray := txt (replL (tabP ps) (bytesL s))
theorem replS_txt (ps : Pairs) (l : List (BitVec 8)) : replS ps (txt l) = txt (replL (tabP ps) l) := by unfold replS; rw [bytesL_txt]
/-- A Replacer's Replace, the first time. -/
def replPrim (ps : Pairs) : Prim := fun E h d => match E with
  | [.ptr id ver off, .p (.str s)] => match look h.H id with
    | some (c, .cells [.p (.int .u32 a), .p (.int .i32 b), .p (.int .u32 z), .p .iface0, .p (.sl (.strs l) false)]) =>
      if c = ver ∧ off = 0 ∧ a = 0 ∧ b = 0 ∧ z = 0 ∧ l = olds ps ∧ s.size ≤ 4000000 then
        some (.p (.str (replS ps s)), ⟨upd h.H id (c, rpl 1 0 (.ifc 103 (eR ps)) nilS), h.T⟩)
      else none
    | _ => none
  | _ => none
theorem repl_ok (ps : Pairs) (hp : PairsOk ps) : PrimOk Try.prog 31 (replPrim ps) := by
  intro G h w E vs d v h' wf hg hlen hE hpv
  refine .inl ⟨Try.call31 _ _, ?_⟩
  unfold replPrim at hpv
  split at hpv
  · rename_i id ver off s
    split at hpv
    · rename_i c a b z l hl
      split at hpv
      · rename_i hc
        obtain ⟨rfl, rfl, rfl, rfl, rfl, rfl, hs⟩ := hc
        simp only [Option.some.injEq, Prod.mk.injEq] at hpv
        obtain ⟨rfl, rfl⟩ := hpv
        match vs, hlen with
        | [v0, v1], _ =>
        have r0 := hE 0 (by simp)
        have r1 := hE 1 (by simp)
        simp only [List.getD_cons_zero, List.getD_cons_succ] at r0 r1
        obtain rfl := r0.at_ptr hl rfl
        obtain rfl := r1.str
        have := repl_run ps hp wf hl (bytesL s) (by rw [← txt_size, txt_bytesL]; exact hs)
        rw [txt_bytesL] at this
        exact this
      · simp at hpv
    · simp at hpv
  · simp at hpv
def textP : Pairs := [(38#8, [38#8, 97#8, 109#8, 112#8, 59#8]), (60#8, [38#8, 108#8, 116#8, 59#8]), (62#8, [38#8, 103#8, 116#8, 59#8]), (13#8, [38#8, 35#8, 120#8, 68#8, 59#8])]
def valueP : Pairs := [(38#8, [38#8, 97#8, 109#8, 112#8, 59#8]), (60#8, [38#8, 108#8, 116#8, 59#8]), (34#8, [38#8, 113#8, 117#8, 111#8, 116#8, 59#8]), (9#8, [38#8, 35#8, 120#8, 57#8, 59#8]), (10#8, [38#8, 35#8, 120#8, 65#8, 59#8]), (13#8, [38#8, 35#8, 120#8, 68#8, 59#8])]
theorem textP_ok : PairsOk textP := ⟨by decide, by decide, by decide, by decide, by decide⟩
theorem valueP_ok : PairsOk valueP := ⟨by decide, by decide, by decide, by decide, by decide⟩
theorem textP_olds : olds textP = [⟨#[38]⟩, ⟨#[38, 97, 109, 112, 59]⟩, ⟨#[60]⟩, ⟨#[38, 108, 116, 59]⟩, ⟨#[62]⟩, ⟨#[38, 103, 116, 59]⟩, ⟨#[13]⟩, ⟨#[38, 35, 120, 68, 59]⟩] := by kernel_rfl
theorem valueP_olds : olds valueP = [⟨#[38]⟩, ⟨#[38, 97, 109, 112, 59]⟩, ⟨#[60]⟩, ⟨#[38, 108, 116, 59]⟩, ⟨#[34]⟩, ⟨#[38, 113, 117, 111, 116, 59]⟩, ⟨#[9]⟩, ⟨#[38, 35, 120, 57, 59]⟩, ⟨#[10]⟩, ⟨#[38, 35, 120, 65, 59]⟩, ⟨#[13]⟩, ⟨#[38, 35, 120, 68, 59]⟩] := by kernel_rfl
def textL (l : List (BitVec 8)) : List (BitVec 8) := replL (tabP textP) l
def valueL (l : List (BitVec 8)) : List (BitVec 8) := replL (tabP valueP) l
theorem repl_len {g : Tab} {ts : List (BitVec 8)} (h : TabOk g ts) (l : List (BitVec 8)) : (replL g l).length ≤ 16 * l.length := by
  induction l with
  | nil => simp [replL_nil]
  | cons b l ih => rw [replL_cons, List.length_append]; have := rep_len h b; simp; omega
theorem textL_len (l : List (BitVec 8)) : (textL l).length ≤ 16 * l.length := repl_len textP_ok.tab l
theorem valueL_len (l : List (BitVec 8)) : (valueL l).length ≤ 16 * l.length := repl_len valueP_ok.tab l
set_option maxHeartbeats 10000000 in
theorem text_ct (l : List (BitVec 8)) (h : l.length ≤ 4000000) : Fn Try.prog 11 [.str (txt l)] [.p (.str (txt (textL l)))] := by
  have hT := txt_size l
  have hR : replS textP (txt l) = txt (textL l) := replS_txt _ _
  refine Fn.of_body Try.func11 rfl ?_
  repeat (first | ((with_reducible refine callK_at 30 ?_); refine callK_b (by decide) (new_ok) ?_; simp (maxSteps := 1000000) (disch := refine hold_ ?_; first | (simp [Go.Av.copyPrim, Go.Av.strPrim, newPrim, strsOf, replPrim, rpl, textP_olds, hT, h, hR, -List.getD_eq_getElem?_getD]; done) | omega) [Go.Av.copyPrim, Go.Av.strPrim, newPrim, strsOf, replPrim, rpl, textP_olds, hT, h, hR, -List.getD_eq_getElem?_getD]; first | refine zZ ?_ | subst hK_) | ((with_reducible refine callK_at 31 ?_); refine callK_b (by decide) (repl_ok textP textP_ok) ?_; simp (maxSteps := 1000000) (disch := refine hold_ ?_; first | (simp [Go.Av.copyPrim, Go.Av.strPrim, newPrim, strsOf, replPrim, rpl, textP_olds, hT, h, hR, -List.getD_eq_getElem?_getD]; done) | omega) [Go.Av.copyPrim, Go.Av.strPrim, newPrim, strsOf, replPrim, rpl, textP_olds, hT, h, hR, -List.getD_eq_getElem?_getD]; first | refine zZ ?_ | subst hK_) | ((first | (with_reducible first | refine zP fun K_ hK_ => ?_ | refine zQ fun K_ hK_ => ?_ | refine zT ?_ | refine zU ?_ | refine zV ?_ | refine zW ?_ | refine zX ?_ | refine zY ?_) | ((with_reducible first | refine zR ?_ ?_ fun K_ hK_ => ?_ | refine zS ?_ ?_ fun K_ hK_ => ?_); (focus kernel_rfl); (focus kernel_rfl))); first | (simp (maxSteps := 1000000) (disch := refine hold_ ?_; first | (simp [newPrim, strsOf, replPrim, rpl, textP_olds, hT, h, hR, -List.getD_eq_getElem?_getD]; done) | omega) [newPrim, strsOf, replPrim, rpl, textP_olds, hT, h, hR, -List.getD_eq_getElem?_getD]; try first | (with_reducible refine zZ ?_) | subst hK_) | subst hK_) | (with_reducible first | refine zA ?_ | refine zB ?_ | refine zC ?_ | refine zD ?_ | refine zE ?_ | refine zF ?_ | refine zG ?_ | refine zH ?_ | refine zI ?_ | refine zJ ?_ | refine zK ?_ | refine zL ?_ | refine zM ?_ | refine zN ?_ | refine zO ?_) | ((with_reducible refine yG ?_ ?_); (focus decide)) | ((with_reducible refine yA ?_); refine yB rfl ?_; (with_reducible first | refine yC ?_ | refine yD ?_)))
  simp (maxSteps := 1000000) (disch := refine hold_ ?_; first | (simp [-List.getD_eq_getElem?_getD]; done) | omega) [-List.getD_eq_getElem?_getD]
set_option maxHeartbeats 10000000 in
theorem value_ct (l : List (BitVec 8)) (h : l.length ≤ 4000000) : Fn Try.prog 13 [.str (txt l)] [.p (.str (txt (valueL l)))] := by
  have hT := txt_size l
  have hR : replS valueP (txt l) = txt (valueL l) := replS_txt _ _
  refine Fn.of_body Try.func13 rfl ?_
  repeat (first | ((with_reducible refine callK_at 30 ?_); refine callK_b (by decide) (new_ok) ?_; simp (maxSteps := 1000000) (disch := refine hold_ ?_; first | (simp [Go.Av.copyPrim, Go.Av.strPrim, newPrim, strsOf, replPrim, rpl, valueP_olds, hT, h, hR, -List.getD_eq_getElem?_getD]; done) | omega) [Go.Av.copyPrim, Go.Av.strPrim, newPrim, strsOf, replPrim, rpl, valueP_olds, hT, h, hR, -List.getD_eq_getElem?_getD]; first | refine zZ ?_ | subst hK_) | ((with_reducible refine callK_at 31 ?_); refine callK_b (by decide) (repl_ok valueP valueP_ok) ?_; simp (maxSteps := 1000000) (disch := refine hold_ ?_; first | (simp [Go.Av.copyPrim, Go.Av.strPrim, newPrim, strsOf, replPrim, rpl, valueP_olds, hT, h, hR, -List.getD_eq_getElem?_getD]; done) | omega) [Go.Av.copyPrim, Go.Av.strPrim, newPrim, strsOf, replPrim, rpl, valueP_olds, hT, h, hR, -List.getD_eq_getElem?_getD]; first | refine zZ ?_ | subst hK_) | ((first | (with_reducible first | refine zP fun K_ hK_ => ?_ | refine zQ fun K_ hK_ => ?_ | refine zT ?_ | refine zU ?_ | refine zV ?_ | refine zW ?_ | refine zX ?_ | refine zY ?_) | ((with_reducible first | refine zR ?_ ?_ fun K_ hK_ => ?_ | refine zS ?_ ?_ fun K_ hK_ => ?_); (focus kernel_rfl); (focus kernel_rfl))); first | (simp (maxSteps := 1000000) (disch := refine hold_ ?_; first | (simp [newPrim, strsOf, replPrim, rpl, valueP_olds, hT, h, hR, -List.getD_eq_getElem?_getD]; done) | omega) [newPrim, strsOf, replPrim, rpl, valueP_olds, hT, h, hR, -List.getD_eq_getElem?_getD]; try first | (with_reducible refine zZ ?_) | subst hK_) | subst hK_) | (with_reducible first | refine zA ?_ | refine zB ?_ | refine zC ?_ | refine zD ?_ | refine zE ?_ | refine zF ?_ | refine zG ?_ | refine zH ?_ | refine zI ?_ | refine zJ ?_ | refine zK ?_ | refine zL ?_ | refine zM ?_ | refine zN ?_ | refine zO ?_) | ((with_reducible refine yG ?_ ?_); (focus decide)) | ((with_reducible refine yA ?_); refine yB rfl ?_; (with_reducible first | refine yC ?_ | refine yD ?_)))
  simp (maxSteps := 1000000) (disch := refine hold_ ?_; first | (simp [-List.getD_eq_getElem?_getD]; done) | omega) [-List.getD_eq_getElem?_getD]
end Go.Av.Can
end

section
set_option linter.unusedSimpArgs false
set_option linter.unusedVariables false
open Go Go.Av Go.Proofs
namespace Go.Av.Can
theorem kNil : (ByteArray.mk #[]) = txt [] := rfl
theorem kColon : (ByteArray.mk #[58]) = txt [58#8] := rfl
theorem kSp : (ByteArray.mk #[32]) = txt [32#8] := rfl
theorem kEq : (ByteArray.mk #[61, 34]) = txt [61#8, 34#8] := rfl
theorem kQ : (ByteArray.mk #[34]) = txt [34#8] := rfl
theorem kX : (ByteArray.mk #[120, 109, 108, 110, 115]) = txt [120#8, 109#8, 108#8, 110#8, 115#8] := rfl
theorem kXc : (ByteArray.mk #[120, 109, 108, 110, 115, 58]) = txt [120#8, 109#8, 108#8, 110#8, 115#8, 58#8] := rfl

theorem str_eql (a b : List (BitVec 8)) : strBin .eql (txt a) (txt b) = some (.bool (a == b)) := congrArg (fun x => some (PV.bool x)) (txt_beq a b)
theorem str_neq (a b : List (BitVec 8)) : strBin .neq (txt a) (txt b) = some (.bool !(a == b)) := congrArg (fun x => some (PV.bool !x)) (txt_beq a b)
def nameL (p q : List (BitVec 8)) : List (BitVec 8) := if p = [] then q else p ++ ([58#8] ++ q)
def saidL (n v : List (BitVec 8)) : List (BitVec 8) := [32#8] ++ n ++ [61#8, 34#8] ++ valueL v ++ [34#8]
set_option maxHeartbeats 10000000 in
theorem name_ct (p q : List (BitVec 8)) (h : p.length + q.length ≤ 4000000) : Fn Try.prog 16 [.str (txt p), .str (txt q)] [.p (.str (txt (nameL p q)))] := by
  refine Fn.of_body Try.func16 rfl ?_
  by_cases hp : p = []
  · subst hp
    repeat (first | ((first | (with_reducible first | refine zP fun K_ hK_ => ?_ | refine zQ fun K_ hK_ => ?_ | refine zT ?_ | refine zU ?_ | refine zV ?_ | refine zW ?_ | refine zX ?_ | refine zY ?_) | ((with_reducible first | refine zR ?_ ?_ fun K_ hK_ => ?_ | refine zS ?_ ?_ fun K_ hK_ => ?_); (focus kernel_rfl); (focus kernel_rfl))); first | (simp (maxSteps := 1000000) (disch := refine hold_ ?_; first | (simp [kNil, kColon, kSp, kEq, kQ, kX, kXc, txt_beq', str_eql, txt_add, -List.getD_eq_getElem?_getD]; done) | omega) [kNil, kColon, kSp, kEq, kQ, kX, kXc, txt_beq', str_eql, txt_add, -List.getD_eq_getElem?_getD]; try first | (with_reducible refine zZ ?_) | subst hK_) | subst hK_) | (with_reducible first | refine zA ?_ | refine zB ?_ | refine zC ?_ | refine zD ?_ | refine zE ?_ | refine zF ?_ | refine zG ?_ | refine zH ?_ | refine zI ?_ | refine zJ ?_ | refine zK ?_ | refine zL ?_ | refine zM ?_ | refine zN ?_ | refine zO ?_) | ((with_reducible refine yG ?_ ?_); (focus decide)) | ((with_reducible refine yA ?_); refine yB rfl ?_; (with_reducible first | refine yC ?_ | refine yD ?_)))
    simp (maxSteps := 1000000) (disch := refine hold_ ?_; first | (simp [nameL, -List.getD_eq_getElem?_getD]; done) | omega) [nameL, -List.getD_eq_getElem?_getD]
  · have hp2 : (p == []) = false := by rw [beq_eq_false_iff_ne]; exact hp
    have b1 : p.length + 1 ≤ 9223372036854775807 := by omega
    have b2 : p.length + 1 + q.length ≤ 9223372036854775807 := by omega
    repeat (first | ((first | (with_reducible first | refine zP fun K_ hK_ => ?_ | refine zQ fun K_ hK_ => ?_ | refine zT ?_ | refine zU ?_ | refine zV ?_ | refine zW ?_ | refine zX ?_ | refine zY ?_) | ((with_reducible first | refine zR ?_ ?_ fun K_ hK_ => ?_ | refine zS ?_ ?_ fun K_ hK_ => ?_); (focus kernel_rfl); (focus kernel_rfl))); first | (simp (maxSteps := 1000000) (disch := refine hold_ ?_; first | (simp [kNil, kColon, kSp, kEq, kQ, kX, kXc, txt_beq', str_eql, txt_add, hp2, b1, b2, -List.getD_eq_getElem?_getD]; done) | omega) [kNil, kColon, kSp, kEq, kQ, kX, kXc, txt_beq', str_eql, txt_add, hp2, b1, b2, -List.getD_eq_getElem?_getD]; try first | (with_reducible refine zZ ?_) | subst hK_) | subst hK_) | (with_reducible first | refine zA ?_ | refine zB ?_ | refine zC ?_ | refine zD ?_ | refine zE ?_ | refine zF ?_ | refine zG ?_ | refine zH ?_ | refine zI ?_ | refine zJ ?_ | refine zK ?_ | refine zL ?_ | refine zM ?_ | refine zN ?_ | refine zO ?_) | ((with_reducible refine yG ?_ ?_); (focus decide)) | ((with_reducible refine yA ?_); refine yB rfl ?_; (with_reducible first | refine yC ?_ | refine yD ?_)))
    simp (maxSteps := 1000000) (disch := refine hold_ ?_; first | (simp [nameL, hp, -List.getD_eq_getElem?_getD]; done) | omega) [nameL, hp, -List.getD_eq_getElem?_getD]
set_option maxHeartbeats 10000000 in
theorem rname_ct (p q : List (BitVec 8)) (h : p.length + q.length ≤ 4000000) : Fn Try.prog 17 [.str (txt p), .str (txt q)] [.p (.str (txt (nameL p q)))] := by
  refine Fn.of_body Try.func17 rfl ?_
  by_cases hp : p = []
  · subst hp
    repeat (first | ((first | (with_reducible first | refine zP fun K_ hK_ => ?_ | refine zQ fun K_ hK_ => ?_ | refine zT ?_ | refine zU ?_ | refine zV ?_ | refine zW ?_ | refine zX ?_ | refine zY ?_) | ((with_reducible first | refine zR ?_ ?_ fun K_ hK_ => ?_ | refine zS ?_ ?_ fun K_ hK_ => ?_); (focus kernel_rfl); (focus kernel_rfl))); first | (simp (maxSteps := 1000000) (disch := refine hold_ ?_; first | (simp [kNil, kColon, kSp, kEq, kQ, kX, kXc, txt_beq', str_neq, txt_add, -List.getD_eq_getElem?_getD]; done) | omega) [kNil, kColon, kSp, kEq, kQ, kX, kXc, txt_beq', str_neq, txt_add, -List.getD_eq_getElem?_getD]; try first | (with_reducible refine zZ ?_) | subst hK_) | subst hK_) | (with_reducible first | refine zA ?_ | refine zB ?_ | refine zC ?_ | refine zD ?_ | refine zE ?_ | refine zF ?_ | refine zG ?_ | refine zH ?_ | refine zI ?_ | refine zJ ?_ | refine zK ?_ | refine zL ?_ | refine zM ?_ | refine zN ?_ | refine zO ?_) | ((with_reducible refine yG ?_ ?_); (focus decide)) | ((with_reducible refine yA ?_); refine yB rfl ?_; (with_reducible first | refine yC ?_ | refine yD ?_)))
    simp (maxSteps := 1000000) (disch := refine hold_ ?_; first | (simp [nameL, -List.getD_eq_getElem?_getD]; done) | omega) [nameL, -List.getD_eq_getElem?_getD]
  · have hp2 : (p == []) = false := by rw [beq_eq_false_iff_ne]; exact hp
    have b1 : p.length + 1 ≤ 9223372036854775807 := by omega
    have b2 : p.length + 1 + q.length ≤ 9223372036854775807 := by omega
    repeat (first | ((first | (with_reducible first | refine zP fun K_ hK_ => ?_ | refine zQ fun K_ hK_ => ?_ | refine zT ?_ | refine zU ?_ | refine zV ?_ | refine zW ?_ | refine zX ?_ | refine zY ?_) | ((with_reducible first | refine zR ?_ ?_ fun K_ hK_ => ?_ | refine zS ?_ ?_ fun K_ hK_ => ?_); (focus kernel_rfl); (focus kernel_rfl))); first | (simp (maxSteps := 1000000) (disch := refine hold_ ?_; first | (simp [kNil, kColon, kSp, kEq, kQ, kX, kXc, txt_beq', str_neq, txt_add, hp2, b1, b2, -List.getD_eq_getElem?_getD]; done) | omega) [kNil, kColon, kSp, kEq, kQ, kX, kXc, txt_beq', str_neq, txt_add, hp2, b1, b2, -List.getD_eq_getElem?_getD]; try first | (with_reducible refine zZ ?_) | subst hK_) | subst hK_) | (with_reducible first | refine zA ?_ | refine zB ?_ | refine zC ?_ | refine zD ?_ | refine zE ?_ | refine zF ?_ | refine zG ?_ | refine zH ?_ | refine zI ?_ | refine zJ ?_ | refine zK ?_ | refine zL ?_ | refine zM ?_ | refine zN ?_ | refine zO ?_) | ((with_reducible refine yG ?_ ?_); (focus decide)) | ((with_reducible refine yA ?_); refine yB rfl ?_; (with_reducible first | refine yC ?_ | refine yD ?_)))
    simp (maxSteps := 1000000) (disch := refine hold_ ?_; first | (simp [nameL, hp, -List.getD_eq_getElem?_getD]; done) | omega) [nameL, hp, -List.getD_eq_getElem?_getD]
end Go.Av.Can
end

section
set_option linter.unusedSimpArgs false
set_option linter.unusedVariables false
open Go Go.Av Go.Proofs
namespace Go.Av.Can
set_option maxHeartbeats 10000000 in
theorem said_ct (n v : List (BitVec 8)) (h : n.length + v.length ≤ 100000) : Fn Try.prog 32 [.str (txt n), .str (txt v)] [.p (.str (txt (saidL n v)))] := by
  have hv := valueL_len v
  have hc := value_ct v (by omega)
  refine Fn.of_body Try.func32 rfl ?_
  unfold saidL
  generalize valueL v = V at *
  have e1 := txt_add [32#8] n (by simp; omega)
  have e2 := txt_add (32#8 :: n) [61#8, 34#8] (by simp; omega)
  have e3 := txt_add (32#8 :: (n ++ [61#8, 34#8])) V (by simp; omega)
  have e4 := txt_add (32#8 :: (n ++ 61#8 :: 34#8 :: V)) [34#8] (by simp; omega)
  repeat (first | ((with_reducible first | refine callK_at 13 ?_); refine callK_p ?_; simp (maxSteps := 1000000) (disch := refine hold_ ?_; first | (simp [kNil, kColon, kSp, kEq, kQ, kX, kXc, txt_beq', e1, e2, e3, e4, -List.getD_eq_getElem?_getD]; done) | omega) [kNil, kColon, kSp, kEq, kQ, kX, kXc, txt_beq', e1, e2, e3, e4, -List.getD_eq_getElem?_getD]; (first | refine callK1_of (Fn.ct hc Try.call13) ?_); (try simp (maxSteps := 1000000) (disch := refine hold_ ?_; first | (simp [kNil, kColon, kSp, kEq, kQ, kX, kXc, txt_beq', e1, e2, e3, e4, -List.getD_eq_getElem?_getD]; done) | omega) [kNil, kColon, kSp, kEq, kQ, kX, kXc, txt_beq', e1, e2, e3, e4, -List.getD_eq_getElem?_getD]); try first | (with_reducible refine zZ ?_) | subst hK_) | ((first | (with_reducible first | refine zP fun K_ hK_ => ?_ | refine zQ fun K_ hK_ => ?_ | refine zT ?_ | refine zU ?_ | refine zV ?_ | refine zW ?_ | refine zX ?_ | refine zY ?_) | ((with_reducible first | refine zR ?_ ?_ fun K_ hK_ => ?_ | refine zS ?_ ?_ fun K_ hK_ => ?_); (focus kernel_rfl); (focus kernel_rfl))); first | (simp (maxSteps := 1000000) (disch := refine hold_ ?_; first | (simp [kNil, kColon, kSp, kEq, kQ, kX, kXc, txt_beq', e1, e2, e3, e4, -List.getD_eq_getElem?_getD]; done) | omega) [kNil, kColon, kSp, kEq, kQ, kX, kXc, txt_beq', e1, e2, e3, e4, -List.getD_eq_getElem?_getD]; try first | (with_reducible refine zZ ?_) | subst hK_) | subst hK_) | (with_reducible first | refine zA ?_ | refine zB ?_ | refine zC ?_ | refine zD ?_ | refine zE ?_ | refine zF ?_ | refine zG ?_ | refine zH ?_ | refine zI ?_ | refine zJ ?_ | refine zK ?_ | refine zL ?_ | refine zM ?_ | refine zN ?_ | refine zO ?_) | ((with_reducible refine yG ?_ ?_); (focus decide)) | ((with_reducible refine yA ?_); refine yB rfl ?_; (with_reducible first | refine yC ?_ | refine yD ?_)))
  all_goals simp (maxSteps := 1000000) (disch := refine hold_ ?_; first | (simp [-List.getD_eq_getElem?_getD]; done) | omega) [-List.getD_eq_getElem?_getD]
end Go.Av.Can
end

section
set_option linter.unusedSimpArgs false
set_option linter.unusedVariables false
open Go Go.Av Go.Proofs
namespace Go.Av.Can
theorem nameL_len (p q : List (BitVec 8)) : (nameL p q).length ≤ p.length + q.length + 1 := by
  unfold nameL
  split
  · subst_vars; simp
  · simp; omega
def xmlL : List (BitVec 8) := [120#8, 109#8, 108#8, 110#8, 115#8]
theorem kX' : (ByteArray.mk #[120, 109, 108, 110, 115]) = txt xmlL := rfl
def spaceL (p u : List (BitVec 8)) : List (BitVec 8) := if p = [] then saidL xmlL u else saidL (nameL xmlL p) u
def decP (p u : List (BitVec 8)) : PV := .agg (.strs [txt p, txt u])
def attP (p q s v : List (BitVec 8)) : PV := .agg (.strs [txt p, txt q, txt s, txt v])
def markL (p q v : List (BitVec 8)) : List (BitVec 8) := saidL (nameL p q) v
set_option maxHeartbeats 10000000 in
theorem mark_ct (p q s v : List (BitVec 8)) (h : p.length + q.length + v.length ≤ 50000) : Fn Try.prog 20 [attP p q s v] [.p (.str (txt (markL p q v)))] := by
  have hl := nameL_len p q
  have c1 := name_ct p q (by omega)
  have c2 := said_ct (nameL p q) v (by omega)
  refine Fn.of_body Try.func20 rfl ?_
  unfold markL
  generalize saidL (nameL p q) v = S at *
  generalize nameL p q = N at *
  unfold attP
  repeat (first | ((with_reducible first | refine callK_at 16 ?_ | refine callK_at 32 ?_); refine callK_p ?_; simp (maxSteps := 1000000) (disch := refine hold_ ?_; first | (simp [kNil, kColon, kSp, kEq, kQ, kX, kXc, txt_beq', -List.getD_eq_getElem?_getD]; done) | omega) [kNil, kColon, kSp, kEq, kQ, kX, kXc, txt_beq', -List.getD_eq_getElem?_getD]; (first | ((with_reducible refine k1_at 16 ?_); refine callK1_of (Fn.ct c1 Try.call16) ?_) | ((with_reducible refine k1_at 32 ?_); refine callK1_of (Fn.ct c2 Try.call32) ?_)); (try simp (maxSteps := 1000000) (disch := refine hold_ ?_; first | (simp [kNil, kColon, kSp, kEq, kQ, kX, kXc, txt_beq', -List.getD_eq_getElem?_getD]; done) | omega) [kNil, kColon, kSp, kEq, kQ, kX, kXc, txt_beq', -List.getD_eq_getElem?_getD]); try first | (with_reducible refine zZ ?_) | subst hK_) | ((first | (with_reducible first | refine zP fun K_ hK_ => ?_ | refine zQ fun K_ hK_ => ?_ | refine zT ?_ | refine zU ?_ | refine zV ?_ | refine zW ?_ | refine zX ?_ | refine zY ?_) | ((with_reducible first | refine zR ?_ ?_ fun K_ hK_ => ?_ | refine zS ?_ ?_ fun K_ hK_ => ?_); (focus kernel_rfl); (focus kernel_rfl))); first | (simp (maxSteps := 1000000) (disch := refine hold_ ?_; first | (simp [kNil, kColon, kSp, kEq, kQ, kX, kXc, txt_beq', -List.getD_eq_getElem?_getD]; done) | omega) [kNil, kColon, kSp, kEq, kQ, kX, kXc, txt_beq', -List.getD_eq_getElem?_getD]; try first | (with_reducible refine zZ ?_) | subst hK_) | subst hK_) | (with_reducible first | refine zA ?_ | refine zB ?_ | refine zC ?_ | refine zD ?_ | refine zE ?_ | refine zF ?_ | refine zG ?_ | refine zH ?_ | refine zI ?_ | refine zJ ?_ | refine zK ?_ | refine zL ?_ | refine zM ?_ | refine zN ?_ | refine zO ?_) | ((with_reducible refine yG ?_ ?_); (focus decide)) | ((with_reducible refine yA ?_); refine yB rfl ?_; (with_reducible first | refine yC ?_ | refine yD ?_)))
  all_goals simp (maxSteps := 1000000) (disch := refine hold_ ?_; first | (simp [-List.getD_eq_getElem?_getD]; done) | omega) [-List.getD_eq_getElem?_getD]
set_option maxHeartbeats 10000000 in
theorem space_ct (p u : List (BitVec 8)) (h : p.length + u.length ≤ 50000) : Fn Try.prog 18 [decP p u] [.p (.str (txt (spaceL p u)))] := by
  have hx : xmlL.length = 5 := rfl
  by_cases hp : p = []
  · subst hp
    have c2 := said_ct xmlL u (by omega)
    refine Fn.of_body Try.func18 rfl ?_
    have e : spaceL [] u = saidL xmlL u := by unfold spaceL; simp
    rw [e]
    generalize saidL xmlL u = S at *
    unfold decP
    repeat (first | ((with_reducible first | refine callK_at 32 ?_); refine callK_p ?_; simp (maxSteps := 1000000) (disch := refine hold_ ?_; first | (simp [kNil, kX', str_eql, -List.getD_eq_getElem?_getD]; done) | omega) [kNil, kX', str_eql, -List.getD_eq_getElem?_getD]; (first | refine callK1_of (Fn.ct c2 Try.call32) ?_); (try simp (maxSteps := 1000000) (disch := refine hold_ ?_; first | (simp [kNil, kX', str_eql, -List.getD_eq_getElem?_getD]; done) | omega) [kNil, kX', str_eql, -List.getD_eq_getElem?_getD]); try first | (with_reducible refine zZ ?_) | subst hK_) | ((first | (with_reducible first | refine zP fun K_ hK_ => ?_ | refine zQ fun K_ hK_ => ?_ | refine zT ?_ | refine zU ?_ | refine zV ?_ | refine zW ?_ | refine zX ?_ | refine zY ?_) | ((with_reducible first | refine zR ?_ ?_ fun K_ hK_ => ?_ | refine zS ?_ ?_ fun K_ hK_ => ?_); (focus kernel_rfl); (focus kernel_rfl))); first | (simp (maxSteps := 1000000) (disch := refine hold_ ?_; first | (simp [kNil, kX', str_eql, -List.getD_eq_getElem?_getD]; done) | omega) [kNil, kX', str_eql, -List.getD_eq_getElem?_getD]; try first | (with_reducible refine zZ ?_) | subst hK_) | subst hK_) | (with_reducible first | refine zA ?_ | refine zB ?_ | refine zC ?_ | refine zD ?_ | refine zE ?_ | refine zF ?_ | refine zG ?_ | refine zH ?_ | refine zI ?_ | refine zJ ?_ | refine zK ?_ | refine zL ?_ | refine zM ?_ | refine zN ?_ | refine zO ?_) | ((with_reducible refine yG ?_ ?_); (focus decide)) | ((with_reducible refine yA ?_); refine yB rfl ?_; (with_reducible first | refine yC ?_ | refine yD ?_)))
    all_goals simp (maxSteps := 1000000) (disch := refine hold_ ?_; first | (simp [-List.getD_eq_getElem?_getD]; done) | omega) [-List.getD_eq_getElem?_getD]
  · have hl := nameL_len xmlL p
    have c1 := name_ct xmlL p (by omega)
    have c2 := said_ct (nameL xmlL p) u (by omega)
    have hp2 : (p == []) = false := by rw [beq_eq_false_iff_ne]; exact hp
    refine Fn.of_body Try.func18 rfl ?_
    have e : spaceL p u = saidL (nameL xmlL p) u := by unfold spaceL; simp [hp]
    rw [e]
    generalize saidL (nameL xmlL p) u = S at *
    generalize nameL xmlL p = N at *
    generalize hX : xmlL = X at *
    unfold decP
    repeat (first | ((with_reducible first | refine callK_at 16 ?_ | refine callK_at 32 ?_); refine callK_p ?_; simp (maxSteps := 1000000) (disch := refine hold_ ?_; first | (simp [kNil, kX', hX, str_eql, hp2, -List.getD_eq_getElem?_getD]; done) | omega) [kNil, kX', hX, str_eql, hp2, -List.getD_eq_getElem?_getD]; (first | ((with_reducible refine k1_at 16 ?_); refine callK1_of (Fn.ct c1 Try.call16) ?_) | ((with_reducible refine k1_at 32 ?_); refine callK1_of (Fn.ct c2 Try.call32) ?_)); (try simp (maxSteps := 1000000) (disch := refine hold_ ?_; first | (simp [kNil, kX', hX, str_eql, hp2, -List.getD_eq_getElem?_getD]; done) | omega) [kNil, kX', hX, str_eql, hp2, -List.getD_eq_getElem?_getD]); try first | (with_reducible refine zZ ?_) | subst hK_) | ((first | (with_reducible first | refine zP fun K_ hK_ => ?_ | refine zQ fun K_ hK_ => ?_ | refine zT ?_ | refine zU ?_ | refine zV ?_ | refine zW ?_ | refine zX ?_ | refine zY ?_) | ((with_reducible first | refine zR ?_ ?_ fun K_ hK_ => ?_ | refine zS ?_ ?_ fun K_ hK_ => ?_); (focus kernel_rfl); (focus kernel_rfl))); first | (simp (maxSteps := 1000000) (disch := refine hold_ ?_; first | (simp [kNil, kX', hX, str_eql, hp2, -List.getD_eq_getElem?_getD]; done) | omega) [kNil, kX', hX, str_eql, hp2, -List.getD_eq_getElem?_getD]; try first | (with_reducible refine zZ ?_) | subst hK_) | subst hK_) | (with_reducible first | refine zA ?_ | refine zB ?_ | refine zC ?_ | refine zD ?_ | refine zE ?_ | refine zF ?_ | refine zG ?_ | refine zH ?_ | refine zI ?_ | refine zJ ?_ | refine zK ?_ | refine zL ?_ | refine zM ?_ | refine zN ?_ | refine zO ?_) | ((with_reducible refine yG ?_ ?_); (focus decide)) | ((with_reducible refine yA ?_); refine yB rfl ?_; (with_reducible first | refine yC ?_ | refine yD ?_)))
    all_goals simp (maxSteps := 1000000) (disch := refine hold_ ?_; first | (simp [-List.getD_eq_getElem?_getD]; done) | omega) [-List.getD_eq_getElem?_getD]
end Go.Av.Can
end

section
set_option linter.unusedSimpArgs false
set_option linter.unusedVariables false
open Go Go.Av Go.Proofs
namespace Go.Av.Can
theorem ub_ne {b c : BitVec 8} (h : ¬ b = c) : ¬ ub b = ub c := fun e => h (BitVec.eq_of_toNat_eq (by unfold ub at e; omega))
theorem one_drop (l : List (BitVec 8)) (k : Nat) (h : k < l.length) : (l.take (k + 1)).drop k = [l.getD k 0#8] := by
  rw [List.take_succ_eq_append_getElem h, List.drop_append]
  have e : min k l.length = k := by omega
  simp [List.getD_eq_getElem?_getD, h, e]
theorem kN0 : (ByteArray.mk #[38, 35, 120, 57, 59]) = txt [38#8, 35#8, 120#8, 57#8, 59#8] := rfl
theorem kN1 : (ByteArray.mk #[38, 35, 120, 65, 59]) = txt [38#8, 35#8, 120#8, 65#8, 59#8] := rfl
theorem kN2 : (ByteArray.mk #[38, 35, 120, 68, 59]) = txt [38#8, 35#8, 120#8, 68#8, 59#8] := rfl
theorem kN3 : (ByteArray.mk #[38, 97, 109, 112, 59]) = txt [38#8, 97#8, 109#8, 112#8, 59#8] := rfl
theorem kN4 : (ByteArray.mk #[38, 103, 116, 59]) = txt [38#8, 103#8, 116#8, 59#8] := rfl
theorem kN5 : (ByteArray.mk #[38, 108, 116, 59]) = txt [38#8, 108#8, 116#8, 59#8] := rfl
theorem kN6 : (ByteArray.mk #[38, 113, 117, 111, 116, 59]) = txt [38#8, 113#8, 117#8, 111#8, 116#8, 59#8] := rfl
theorem rep_text (b : BitVec 8) : repB (tabP textP) b = if b = 38#8 then [38#8, 97#8, 109#8, 112#8, 59#8] else if b = 60#8 then [38#8, 108#8, 116#8, 59#8] else if b = 62#8 then [38#8, 103#8, 116#8, 59#8] else if b = 13#8 then [38#8, 35#8, 120#8, 68#8, 59#8] else [b] := by
  unfold repB textP
  simp only [tabP]
  by_cases q38 : b = 38#8
  · subst q38; rfl
  by_cases q60 : b = 60#8
  · subst q60; rfl
  by_cases q62 : b = 62#8
  · subst q62; rfl
  by_cases q13 : b = 13#8
  · subst q13; rfl
  simp_all
set_option maxHeartbeats 10000000 in
theorem rtext_ct (l : List (BitVec 8)) (h : l.length ≤ 100000) : Fn Try.prog 14 [.str (txt l)] [.p (.str (txt (textL l)))] := by
  have hsz := txt_size l
  have hE : txt (textL l) = txt (textL (l.take l.length)) := by rw [List.take_length]
  rw [hE]
  refine Fn.of_body Try.func14 rfl ?_
  repeat (first | ((first | (with_reducible first | refine zP fun K_ hK_ => ?_ | refine zQ fun K_ hK_ => ?_ | refine zT ?_ | refine zU ?_ | refine zV ?_ | refine zW ?_ | refine zX ?_ | refine zY ?_) | ((with_reducible first | refine zR ?_ ?_ fun K_ hK_ => ?_ | refine zS ?_ ?_ fun K_ hK_ => ?_); (focus kernel_rfl); (focus kernel_rfl))); first | (simp (maxSteps := 1000000) (disch := refine hold_ ?_; first | (simp [kNil, hsz, -List.getD_eq_getElem?_getD]; done) | omega) [kNil, hsz, -List.getD_eq_getElem?_getD]; try first | (with_reducible refine zZ ?_) | subst hK_) | subst hK_) | (with_reducible first | refine zA ?_ | refine zB ?_ | refine zC ?_ | refine zD ?_ | refine zE ?_ | refine zF ?_ | refine zG ?_ | refine zH ?_ | refine zI ?_ | refine zJ ?_ | refine zK ?_ | refine zL ?_ | refine zM ?_ | refine zN ?_ | refine zO ?_) | ((with_reducible refine yG ?_ ?_); (focus decide)) | ((with_reducible refine yA ?_); refine yB rfl ?_; (with_reducible first | refine yC ?_ | refine yD ?_)))
  refine AW.iter (true :: false :: false :: true :: false :: false :: true :: true :: false :: false :: false :: false :: false :: false :: false :: false :: false :: false :: false :: false :: false :: false :: false :: false :: false :: false :: false :: false :: false :: false :: false :: false :: false :: false :: false :: false :: false :: false :: []) l.length (fun k => ⟨(.p (.str (txt l)) :: V.junk :: V.junk :: .p (.str (txt (textL (l.take k)))) :: V.junk :: V.junk :: .p (.int .i64 l.length) :: .p (.int .i64 k) :: V.junk :: V.junk :: V.junk :: V.junk :: V.junk :: V.junk :: V.junk :: V.junk :: V.junk :: V.junk :: V.junk :: V.junk :: V.junk :: V.junk :: V.junk :: V.junk :: V.junk :: V.junk :: V.junk :: V.junk :: V.junk :: V.junk :: V.junk :: V.junk :: V.junk :: V.junk :: V.junk :: V.junk :: V.junk :: V.junk :: []), ⟨[], []⟩⟩) ?_ ?_
  · have e0 : textL [] = [] := rfl
    simp (maxSteps := 1000000) (disch := refine hold_ ?_; first | (simp [e0, kNil, -List.getD_eq_getElem?_getD]; done) | omega) [e0, kNil, -List.getD_eq_getElem?_getD]
  intro k hk
  have e1 : IntKind.i64.wrap ((k : Int) + 1) = k + 1 := wrap_i64 _ (by omega) (by omega)
  by_cases hkc : k < l.length
  · have hkz : (k : Int) < l.length := by omega
    have hs : textL (l.take (k + 1)) = textL (l.take k) ++ repB (tabP textP) (l.getD k 0#8) := replL_take _ l k hkc
    rw [rep_text] at hs
    have hlen := textL_len (l.take k)
    rw [List.length_take] at hlen
    have hg := txt_get l k
    have hx := txt_extract l k (k + 1)
    rw [one_drop l k hkc] at hx
    generalize textL (l.take k) = A at *
    generalize textL (l.take (k + 1)) = B at *
    generalize l.getD k 0#8 = b at *
    by_cases q38 : b = 38#8
    · subst q38
      have u : ub 38#8 = 38 := rfl
      rw [u] at hg
      have ea := txt_add A [38#8, 97#8, 109#8, 112#8, 59#8] (by simp; omega)
      have hB : A ++ [38#8, 97#8, 109#8, 112#8, 59#8] = B := by rw [hs]; rfl
      rw [hB] at ea
      clear hs hB
      repeat (first | ((first | (with_reducible first | refine zP fun K_ hK_ => ?_ | refine zQ fun K_ hK_ => ?_ | refine zT ?_ | refine zU ?_ | refine zV ?_ | refine zW ?_ | refine zX ?_ | refine zY ?_) | ((with_reducible first | refine zR ?_ ?_ fun K_ hK_ => ?_ | refine zS ?_ ?_ fun K_ hK_ => ?_); (focus kernel_rfl); (focus kernel_rfl))); first | (simp (maxSteps := 1000000) (disch := refine hold_ ?_; first | (simp [kN3, hkc, hkz, hsz, hg, e1, ea, -List.getD_eq_getElem?_getD]; done) | omega) [kN3, hkc, hkz, hsz, hg, e1, ea, -List.getD_eq_getElem?_getD]; try first | (with_reducible refine zZ ?_) | subst hK_) | subst hK_) | (with_reducible first | refine zA ?_ | refine zB ?_ | refine zC ?_ | refine zD ?_ | refine zE ?_ | refine zF ?_ | refine zG ?_ | refine zH ?_ | refine zI ?_ | refine zJ ?_ | refine zK ?_ | refine zL ?_ | refine zM ?_ | refine zN ?_ | refine zO ?_) | ((with_reducible refine yG ?_ ?_); (focus decide)) | ((with_reducible refine yA ?_); refine yB rfl ?_; (with_reducible first | refine yC ?_ | refine yD ?_)))
      refine ⟨hkc, ?_⟩
      simp (maxSteps := 1000000) (disch := refine hold_ ?_; first | (simp [-List.getD_eq_getElem?_getD]; done) | omega) [-List.getD_eq_getElem?_getD]
    have n38 : (ub b == 38) = false := beq_eq_false_iff_ne.2 (ub_ne q38)
    by_cases q60 : b = 60#8
    · subst q60
      have u : ub 60#8 = 60 := rfl
      rw [u] at hg
      have ea := txt_add A [38#8, 108#8, 116#8, 59#8] (by simp; omega)
      have hB : A ++ [38#8, 108#8, 116#8, 59#8] = B := by rw [hs]; rfl
      rw [hB] at ea
      clear hs hB
      repeat (first | ((first | (with_reducible first | refine zP fun K_ hK_ => ?_ | refine zQ fun K_ hK_ => ?_ | refine zT ?_ | refine zU ?_ | refine zV ?_ | refine zW ?_ | refine zX ?_ | refine zY ?_) | ((with_reducible first | refine zR ?_ ?_ fun K_ hK_ => ?_ | refine zS ?_ ?_ fun K_ hK_ => ?_); (focus kernel_rfl); (focus kernel_rfl))); first | (simp (maxSteps := 1000000) (disch := refine hold_ ?_; first | (simp [kN5, hkc, hkz, hsz, hg, e1, ea, -List.getD_eq_getElem?_getD]; done) | omega) [kN5, hkc, hkz, hsz, hg, e1, ea, -List.getD_eq_getElem?_getD]; try first | (with_reducible refine zZ ?_) | subst hK_) | subst hK_) | (with_reducible first | refine zA ?_ | refine zB ?_ | refine zC ?_ | refine zD ?_ | refine zE ?_ | refine zF ?_ | refine zG ?_ | refine zH ?_ | refine zI ?_ | refine zJ ?_ | refine zK ?_ | refine zL ?_ | refine zM ?_ | refine zN ?_ | refine zO ?_) | ((with_reducible refine yG ?_ ?_); (focus decide)) | ((with_reducible refine yA ?_); refine yB rfl ?_; (with_reducible first | refine yC ?_ | refine yD ?_)))
      refine ⟨hkc, ?_⟩
      simp (maxSteps := 1000000) (disch := refine hold_ ?_; first | (simp [-List.getD_eq_getElem?_getD]; done) | omega) [-List.getD_eq_getElem?_getD]
    have n60 : (ub b == 60) = false := beq_eq_false_iff_ne.2 (ub_ne q60)
    by_cases q62 : b = 62#8
    · subst q62
      have u : ub 62#8 = 62 := rfl
      rw [u] at hg
      have ea := txt_add A [38#8, 103#8, 116#8, 59#8] (by simp; omega)
      have hB : A ++ [38#8, 103#8, 116#8, 59#8] = B := by rw [hs]; rfl
      rw [hB] at ea
      clear hs hB
      repeat (first | ((first | (with_reducible first | refine zP fun K_ hK_ => ?_ | refine zQ fun K_ hK_ => ?_ | refine zT ?_ | refine zU ?_ | refine zV ?_ | refine zW ?_ | refine zX ?_ | refine zY ?_) | ((with_reducible first | refine zR ?_ ?_ fun K_ hK_ => ?_ | refine zS ?_ ?_ fun K_ hK_ => ?_); (focus kernel_rfl); (focus kernel_rfl))); first | (simp (maxSteps := 1000000) (disch := refine hold_ ?_; first | (simp [kN4, hkc, hkz, hsz, hg, e1, ea, -List.getD_eq_getElem?_getD]; done) | omega) [kN4, hkc, hkz, hsz, hg, e1, ea, -List.getD_eq_getElem?_getD]; try first | (with_reducible refine zZ ?_) | subst hK_) | subst hK_) | (with_reducible first | refine zA ?_ | refine zB ?_ | refine zC ?_ | refine zD ?_ | refine zE ?_ | refine zF ?_ | refine zG ?_ | refine zH ?_ | refine zI ?_ | refine zJ ?_ | refine zK ?_ | refine zL ?_ | refine zM ?_ | refine zN ?_ | refine zO ?_) | ((with_reducible refine yG ?_ ?_); (focus decide)) | ((with_reducible refine yA ?_); refine yB rfl ?_; (with_reducible first | refine yC ?_ | refine yD ?_)))
      refine ⟨hkc, ?_⟩
      simp (maxSteps := 1000000) (disch := refine hold_ ?_; first | (simp [-List.getD_eq_getElem?_getD]; done) | omega) [-List.getD_eq_getElem?_getD]
    have n62 : (ub b == 62) = false := beq_eq_false_iff_ne.2 (ub_ne q62)
    by_cases q13 : b = 13#8
    · subst q13
      have u : ub 13#8 = 13 := rfl
      rw [u] at hg
      have ea := txt_add A [38#8, 35#8, 120#8, 68#8, 59#8] (by simp; omega)
      have hB : A ++ [38#8, 35#8, 120#8, 68#8, 59#8] = B := by rw [hs]; rfl
      rw [hB] at ea
      clear hs hB
      repeat (first | ((first | (with_reducible first | refine zP fun K_ hK_ => ?_ | refine zQ fun K_ hK_ => ?_ | refine zT ?_ | refine zU ?_ | refine zV ?_ | refine zW ?_ | refine zX ?_ | refine zY ?_) | ((with_reducible first | refine zR ?_ ?_ fun K_ hK_ => ?_ | refine zS ?_ ?_ fun K_ hK_ => ?_); (focus kernel_rfl); (focus kernel_rfl))); first | (simp (maxSteps := 1000000) (disch := refine hold_ ?_; first | (simp [kN2, hkc, hkz, hsz, hg, e1, ea, -List.getD_eq_getElem?_getD]; done) | omega) [kN2, hkc, hkz, hsz, hg, e1, ea, -List.getD_eq_getElem?_getD]; try first | (with_reducible refine zZ ?_) | subst hK_) | subst hK_) | (with_reducible first | refine zA ?_ | refine zB ?_ | refine zC ?_ | refine zD ?_ | refine zE ?_ | refine zF ?_ | refine zG ?_ | refine zH ?_ | refine zI ?_ | refine zJ ?_ | refine zK ?_ | refine zL ?_ | refine zM ?_ | refine zN ?_ | refine zO ?_) | ((with_reducible refine yG ?_ ?_); (focus decide)) | ((with_reducible refine yA ?_); refine yB rfl ?_; (with_reducible first | refine yC ?_ | refine yD ?_)))
      refine ⟨hkc, ?_⟩
      simp (maxSteps := 1000000) (disch := refine hold_ ?_; first | (simp [-List.getD_eq_getElem?_getD]; done) | omega) [-List.getD_eq_getElem?_getD]
    have n13 : (ub b == 13) = false := beq_eq_false_iff_ne.2 (ub_ne q13)
    have hz := ub_lt b
    have ea := txt_add A [b] (by simp; omega)
    have hB : A ++ [b] = B := by rw [hs]; simp only [q38, q60, q62, q13, if_false]
    rw [hB] at ea
    clear hs hB
    repeat (first | ((first | (with_reducible first | refine zP fun K_ hK_ => ?_ | refine zQ fun K_ hK_ => ?_ | refine zT ?_ | refine zU ?_ | refine zV ?_ | refine zW ?_ | refine zX ?_ | refine zY ?_) | ((with_reducible first | refine zR ?_ ?_ fun K_ hK_ => ?_ | refine zS ?_ ?_ fun K_ hK_ => ?_); (focus kernel_rfl); (focus kernel_rfl))); first | (simp (maxSteps := 1000000) (disch := refine hold_ ?_; first | (simp [n38, n60, n62, n13, hkc, hkz, hsz, hg, e1, hx, ea, -List.getD_eq_getElem?_getD]; done) | omega) [n38, n60, n62, n13, hkc, hkz, hsz, hg, e1, hx, ea, -List.getD_eq_getElem?_getD]; try first | (with_reducible refine zZ ?_) | subst hK_) | subst hK_) | (with_reducible first | refine zA ?_ | refine zB ?_ | refine zC ?_ | refine zD ?_ | refine zE ?_ | refine zF ?_ | refine zG ?_ | refine zH ?_ | refine zI ?_ | refine zJ ?_ | refine zK ?_ | refine zL ?_ | refine zM ?_ | refine zN ?_ | refine zO ?_) | ((with_reducible refine yG ?_ ?_); (focus decide)) | ((with_reducible refine yA ?_); refine yB rfl ?_; (with_reducible first | refine yC ?_ | refine yD ?_)))
    refine ⟨hkc, ?_⟩
    simp (maxSteps := 1000000) (disch := refine hold_ ?_; first | (simp [-List.getD_eq_getElem?_getD]; done) | omega) [-List.getD_eq_getElem?_getD]
  · have hkc2 : k = l.length := by omega
    subst hkc2
    repeat (first | ((first | (with_reducible first | refine zP fun K_ hK_ => ?_ | refine zQ fun K_ hK_ => ?_ | refine zT ?_ | refine zU ?_ | refine zV ?_ | refine zW ?_ | refine zX ?_ | refine zY ?_) | ((with_reducible first | refine zR ?_ ?_ fun K_ hK_ => ?_ | refine zS ?_ ?_ fun K_ hK_ => ?_); (focus kernel_rfl); (focus kernel_rfl))); first | (simp (maxSteps := 1000000) (disch := refine hold_ ?_; first | (simp [-List.getD_eq_getElem?_getD]; done) | omega) [-List.getD_eq_getElem?_getD]; try first | (with_reducible refine zZ ?_) | subst hK_) | subst hK_) | (with_reducible first | refine zA ?_ | refine zB ?_ | refine zC ?_ | refine zD ?_ | refine zE ?_ | refine zF ?_ | refine zG ?_ | refine zH ?_ | refine zI ?_ | refine zJ ?_ | refine zK ?_ | refine zL ?_ | refine zM ?_ | refine zN ?_ | refine zO ?_) | ((with_reducible refine yG ?_ ?_); (focus decide)) | ((with_reducible refine yA ?_); refine yB rfl ?_; (with_reducible first | refine yC ?_ | refine yD ?_)))
    simp (maxSteps := 1000000) (disch := refine hold_ ?_; first | (simp [-List.getD_eq_getElem?_getD]; done) | omega) [-List.getD_eq_getElem?_getD]
theorem rep_value (b : BitVec 8) : repB (tabP valueP) b = if b = 38#8 then [38#8, 97#8, 109#8, 112#8, 59#8] else if b = 60#8 then [38#8, 108#8, 116#8, 59#8] else if b = 34#8 then [38#8, 113#8, 117#8, 111#8, 116#8, 59#8] else if b = 9#8 then [38#8, 35#8, 120#8, 57#8, 59#8] else if b = 10#8 then [38#8, 35#8, 120#8, 65#8, 59#8] else if b = 13#8 then [38#8, 35#8, 120#8, 68#8, 59#8] else [b] := by
  unfold repB valueP
  simp only [tabP]
  by_cases q38 : b = 38#8
  · subst q38; rfl
  by_cases q60 : b = 60#8
  · subst q60; rfl
  by_cases q34 : b = 34#8
  · subst q34; rfl
  by_cases q9 : b = 9#8
  · subst q9; rfl
  by_cases q10 : b = 10#8
  · subst q10; rfl
  by_cases q13 : b = 13#8
  · subst q13; rfl
  simp_all
set_option maxHeartbeats 10000000 in
theorem rvalue_ct (l : List (BitVec 8)) (h : l.length ≤ 100000) : Fn Try.prog 15 [.str (txt l)] [.p (.str (txt (valueL l)))] := by
  have hsz := txt_size l
  have hE : txt (valueL l) = txt (valueL (l.take l.length)) := by rw [List.take_length]
  rw [hE]
  refine Fn.of_body Try.func15 rfl ?_
  repeat (first | ((first | (with_reducible first | refine zP fun K_ hK_ => ?_ | refine zQ fun K_ hK_ => ?_ | refine zT ?_ | refine zU ?_ | refine zV ?_ | refine zW ?_ | refine zX ?_ | refine zY ?_) | ((with_reducible first | refine zR ?_ ?_ fun K_ hK_ => ?_ | refine zS ?_ ?_ fun K_ hK_ => ?_); (focus kernel_rfl); (focus kernel_rfl))); first | (simp (maxSteps := 1000000) (disch := refine hold_ ?_; first | (simp [kNil, hsz, -List.getD_eq_getElem?_getD]; done) | omega) [kNil, hsz, -List.getD_eq_getElem?_getD]; try first | (with_reducible refine zZ ?_) | subst hK_) | subst hK_) | (with_reducible first | refine zA ?_ | refine zB ?_ | refine zC ?_ | refine zD ?_ | refine zE ?_ | refine zF ?_ | refine zG ?_ | refine zH ?_ | refine zI ?_ | refine zJ ?_ | refine zK ?_ | refine zL ?_ | refine zM ?_ | refine zN ?_ | refine zO ?_) | ((with_reducible refine yG ?_ ?_); (focus decide)) | ((with_reducible refine yA ?_); refine yB rfl ?_; (with_reducible first | refine yC ?_ | refine yD ?_)))
  refine AW.iter (true :: false :: false :: true :: false :: false :: true :: true :: false :: false :: false :: false :: false :: false :: false :: false :: false :: false :: false :: false :: false :: false :: false :: false :: false :: false :: false :: false :: false :: false :: false :: false :: false :: false :: false :: false :: false :: false :: false :: false :: false :: false :: false :: false :: false :: false :: []) l.length (fun k => ⟨(.p (.str (txt l)) :: V.junk :: V.junk :: .p (.str (txt (valueL (l.take k)))) :: V.junk :: V.junk :: .p (.int .i64 l.length) :: .p (.int .i64 k) :: V.junk :: V.junk :: V.junk :: V.junk :: V.junk :: V.junk :: V.junk :: V.junk :: V.junk :: V.junk :: V.junk :: V.junk :: V.junk :: V.junk :: V.junk :: V.junk :: V.junk :: V.junk :: V.junk :: V.junk :: V.junk :: V.junk :: V.junk :: V.junk :: V.junk :: V.junk :: V.junk :: V.junk :: V.junk :: V.junk :: V.junk :: V.junk :: V.junk :: V.junk :: V.junk :: V.junk :: V.junk :: V.junk :: []), ⟨[], []⟩⟩) ?_ ?_
  · have e0 : valueL [] = [] := rfl
    simp (maxSteps := 1000000) (disch := refine hold_ ?_; first | (simp [e0, kNil, -List.getD_eq_getElem?_getD]; done) | omega) [e0, kNil, -List.getD_eq_getElem?_getD]
  intro k hk
  have e1 : IntKind.i64.wrap ((k : Int) + 1) = k + 1 := wrap_i64 _ (by omega) (by omega)
  by_cases hkc : k < l.length
  · have hkz : (k : Int) < l.length := by omega
    have hs : valueL (l.take (k + 1)) = valueL (l.take k) ++ repB (tabP valueP) (l.getD k 0#8) := replL_take _ l k hkc
    rw [rep_value] at hs
    have hlen := valueL_len (l.take k)
    rw [List.length_take] at hlen
    have hg := txt_get l k
    have hx := txt_extract l k (k + 1)
    rw [one_drop l k hkc] at hx
    generalize valueL (l.take k) = A at *
    generalize valueL (l.take (k + 1)) = B at *
    generalize l.getD k 0#8 = b at *
    by_cases q38 : b = 38#8
    · subst q38
      have u : ub 38#8 = 38 := rfl
      rw [u] at hg
      have ea := txt_add A [38#8, 97#8, 109#8, 112#8, 59#8] (by simp; omega)
      have hB : A ++ [38#8, 97#8, 109#8, 112#8, 59#8] = B := by rw [hs]; rfl
      rw [hB] at ea
      clear hs hB
      repeat (first | ((first | (with_reducible first | refine zP fun K_ hK_ => ?_ | refine zQ fun K_ hK_ => ?_ | refine zT ?_ | refine zU ?_ | refine zV ?_ | refine zW ?_ | refine zX ?_ | refine zY ?_) | ((with_reducible first | refine zR ?_ ?_ fun K_ hK_ => ?_ | refine zS ?_ ?_ fun K_ hK_ => ?_); (focus kernel_rfl); (focus kernel_rfl))); first | (simp (maxSteps := 1000000) (disch := refine hold_ ?_; first | (simp [kN3, hkc, hkz, hsz, hg, e1, ea, -List.getD_eq_getElem?_getD]; done) | omega) [kN3, hkc, hkz, hsz, hg, e1, ea, -List.getD_eq_getElem?_getD]; try first | (with_reducible refine zZ ?_) | subst hK_) | subst hK_) | (with_reducible first | refine zA ?_ | refine zB ?_ | refine zC ?_ | refine zD ?_ | refine zE ?_ | refine zF ?_ | refine zG ?_ | refine zH ?_ | refine zI ?_ | refine zJ ?_ | refine zK ?_ | refine zL ?_ | refine zM ?_ | refine zN ?_ | refine zO ?_) | ((with_reducible refine yG ?_ ?_); (focus decide)) | ((with_reducible refine yA ?_); refine yB rfl ?_; (with_reducible first | refine yC ?_ | refine yD ?_)))
      refine ⟨hkc, ?_⟩
      simp (maxSteps := 1000000) (disch := refine hold_ ?_; first | (simp [-List.getD_eq_getElem?_getD]; done) | omega) [-List.getD_eq_getElem?_getD]
    have n38 : (ub b == 38) = false := beq_eq_false_iff_ne.2 (ub_ne q38)
    by_cases q60 : b = 60#8
    · subst q60
      have u : ub 60#8 = 60 := rfl
      rw [u] at hg
      have ea := txt_add A [38#8, 108#8, 116#8, 59#8] (by simp; omega)
      have hB : A ++ [38#8, 108#8, 116#8, 59#8] = B := by rw [hs]; rfl
      rw [hB] at ea
      clear hs hB
      repeat (first | ((first | (with_reducible first | refine zP fun K_ hK_ => ?_ | refine zQ fun K_ hK_ => ?_ | refine zT ?_ | refine zU ?_ | refine zV ?_ | refine zW ?_ | refine zX ?_ | refine zY ?_) | ((with_reducible first | refine zR ?_ ?_ fun K_ hK_ => ?_ | refine zS ?_ ?_ fun K_ hK_ => ?_); (focus kernel_rfl); (focus kernel_rfl))); first | (simp (maxSteps := 1000000) (disch := refine hold_ ?_; first | (simp [kN5, hkc, hkz, hsz, hg, e1, ea, -List.getD_eq_getElem?_getD]; done) | omega) [kN5, hkc, hkz, hsz, hg, e1, ea, -List.getD_eq_getElem?_getD]; try first | (with_reducible refine zZ ?_) | subst hK_) | subst hK_) | (with_reducible first | refine zA ?_ | refine zB ?_ | refine zC ?_ | refine zD ?_ | refine zE ?_ | refine zF ?_ | refine zG ?_ | refine zH ?_ | refine zI ?_ | refine zJ ?_ | refine zK ?_ | refine zL ?_ | refine zM ?_ | refine zN ?_ | refine zO ?_) | ((with_reducible refine yG ?_ ?_); (focus decide)) | ((with_reducible refine yA ?_); refine yB rfl ?_; (with_reducible first | refine yC ?_ | refine yD ?_)))
      refine ⟨hkc, ?_⟩
      simp (maxSteps := 1000000) (disch := refine hold_ ?_; first | (simp [-List.getD_eq_getElem?_getD]; done) | omega) [-List.getD_eq_getElem?_getD]
    have n60 : (ub b == 60) = false := beq_eq_false_iff_ne.2 (ub_ne q60)
    by_cases q34 : b = 34#8
    · subst q34
      have u : ub 34#8 = 34 := rfl
      rw [u] at hg
      have ea := txt_add A [38#8, 113#8, 117#8, 111#8, 116#8, 59#8] (by simp; omega)
      have hB : A ++ [38#8, 113#8, 117#8, 111#8, 116#8, 59#8] = B := by rw [hs]; rfl
      rw [hB] at ea
      clear hs hB
      repeat (first | ((first | (with_reducible first | refine zP fun K_ hK_ => ?_ | refine zQ fun K_ hK_ => ?_ | refine zT ?_ | refine zU ?_ | refine zV ?_ | refine zW ?_ | refine zX ?_ | refine zY ?_) | ((with_reducible first | refine zR ?_ ?_ fun K_ hK_ => ?_ | refine zS ?_ ?_ fun K_ hK_ => ?_); (focus kernel_rfl); (focus kernel_rfl))); first | (simp (maxSteps := 1000000) (disch := refine hold_ ?_; first | (simp [kN6, hkc, hkz, hsz, hg, e1, ea, -List.getD_eq_getElem?_getD]; done) | omega) [kN6, hkc, hkz, hsz, hg, e1, ea, -List.getD_eq_getElem?_getD]; try first | (with_reducible refine zZ ?_) | subst hK_) | subst hK_) | (with_reducible first | refine zA ?_ | refine zB ?_ | refine zC ?_ | refine zD ?_ | refine zE ?_ | refine zF ?_ | refine zG ?_ | refine zH ?_ | refine zI ?_ | refine zJ ?_ | refine zK ?_ | refine zL ?_ | refine zM ?_ | refine zN ?_ | refine zO ?_) | ((with_reducible refine yG ?_ ?_); (focus decide)) | ((with_reducible refine yA ?_); refine yB rfl ?_; (with_reducible first | refine yC ?_ | refine yD ?_)))
      refine ⟨hkc, ?_⟩
      simp (maxSteps := 1000000) (disch := refine hold_ ?_; first | (simp [-List.getD_eq_getElem?_getD]; done) | omega) [-List.getD_eq_getElem?_getD]
    have n34 : (ub b == 34) = false := beq_eq_false_iff_ne.2 (ub_ne q34)
    by_cases q9 : b = 9#8
    · subst q9
      have u : ub 9#8 = 9 := rfl
      rw [u] at hg
      have ea := txt_add A [38#8, 35#8, 120#8, 57#8, 59#8] (by simp; omega)
      have hB : A ++ [38#8, 35#8, 120#8, 57#8, 59#8] = B := by rw [hs]; rfl
      rw [hB] at ea
      clear hs hB
      repeat (first | ((first | (with_reducible first | refine zP fun K_ hK_ => ?_ | refine zQ fun K_ hK_ => ?_ | refine zT ?_ | refine zU ?_ | refine zV ?_ | refine zW ?_ | refine zX ?_ | refine zY ?_) | ((with_reducible first | refine zR ?_ ?_ fun K_ hK_ => ?_ | refine zS ?_ ?_ fun K_ hK_ => ?_); (focus kernel_rfl); (focus kernel_rfl))); first | (simp (maxSteps := 1000000) (disch := refine hold_ ?_; first | (simp [kN0, hkc, hkz, hsz, hg, e1, ea, -List.getD_eq_getElem?_getD]; done) | omega) [kN0, hkc, hkz, hsz, hg, e1, ea, -List.getD_eq_getElem?_getD]; try first | (with_reducible refine zZ ?_) | subst hK_) | subst hK_) | (with_reducible first | refine zA ?_ | refine zB ?_ | refine zC ?_ | refine zD ?_ | refine zE ?_ | refine zF ?_ | refine zG ?_ | refine zH ?_ | refine zI ?_ | refine zJ ?_ | refine zK ?_ | refine zL ?_ | refine zM ?_ | refine zN ?_ | refine zO ?_) | ((with_reducible refine yG ?_ ?_); (focus decide)) | ((with_reducible refine yA ?_); refine yB rfl ?_; (with_reducible first | refine yC ?_ | refine yD ?_)))
      refine ⟨hkc, ?_⟩
      simp (maxSteps := 1000000) (disch := refine hold_ ?_; first | (simp [-List.getD_eq_getElem?_getD]; done) | omega) [-List.getD_eq_getElem?_getD]
    have n9 : (ub b == 9) = false := beq_eq_false_iff_ne.2 (ub_ne q9)
    by_cases q10 : b = 10#8
    · subst q10
      have u : ub 10#8 = 10 := rfl
      rw [u] at hg
      have ea := txt_add A [38#8, 35#8, 120#8, 65#8, 59#8] (by simp; omega)
      have hB : A ++ [38#8, 35#8, 120#8, 65#8, 59#8] = B := by rw [hs]; rfl
      rw [hB] at ea
      clear hs hB
      repeat (first | ((first | (with_reducible first | refine zP fun K_ hK_ => ?_ | refine zQ fun K_ hK_ => ?_ | refine zT ?_ | refine zU ?_ | refine zV ?_ | refine zW ?_ | refine zX ?_ | refine zY ?_) | ((with_reducible first | refine zR ?_ ?_ fun K_ hK_ => ?_ | refine zS ?_ ?_ fun K_ hK_ => ?_); (focus kernel_rfl); (focus kernel_rfl))); first | (simp (maxSteps := 1000000) (disch := refine hold_ ?_; first | (simp [kN1, hkc, hkz, hsz, hg, e1, ea, -List.getD_eq_getElem?_getD]; done) | omega) [kN1, hkc, hkz, hsz, hg, e1, ea, -List.getD_eq_getElem?_getD]; try first | (with_reducible refine zZ ?_) | subst hK_) | subst hK_) | (with_reducible first | refine zA ?_ | refine zB ?_ | refine zC ?_ | refine zD ?_ | refine zE ?_ | refine zF ?_ | refine zG ?_ | refine zH ?_ | refine zI ?_ | refine zJ ?_ | refine zK ?_ | refine zL ?_ | refine zM ?_ | refine zN ?_ | refine zO ?_) | ((with_reducible refine yG ?_ ?_); (focus decide)) | ((with_reducible refine yA ?_); refine yB rfl ?_; (with_reducible first | refine yC ?_ | refine yD ?_)))
      refine ⟨hkc, ?_⟩
      simp (maxSteps := 1000000) (disch := refine hold_ ?_; first | (simp [-List.getD_eq_getElem?_getD]; done) | omega) [-List.getD_eq_getElem?_getD]
    have n10 : (ub b == 10) = false := beq_eq_false_iff_ne.2 (ub_ne q10)
    by_cases q13 : b = 13#8
    · subst q13
      have u : ub 13#8 = 13 := rfl
      rw [u] at hg
      have ea := txt_add A [38#8, 35#8, 120#8, 68#8, 59#8] (by simp; omega)
      have hB : A ++ [38#8, 35#8, 120#8, 68#8, 59#8] = B := by rw [hs]; rfl
      rw [hB] at ea
      clear hs hB
      repeat (first | ((first | (with_reducible first | refine zP fun K_ hK_ => ?_ | refine zQ fun K_ hK_ => ?_ | refine zT ?_ | refine zU ?_ | refine zV ?_ | refine zW ?_ | refine zX ?_ | refine zY ?_) | ((with_reducible first | refine zR ?_ ?_ fun K_ hK_ => ?_ | refine zS ?_ ?_ fun K_ hK_ => ?_); (focus kernel_rfl); (focus kernel_rfl))); first | (simp (maxSteps := 1000000) (disch := refine hold_ ?_; first | (simp [kN2, hkc, hkz, hsz, hg, e1, ea, -List.getD_eq_getElem?_getD]; done) | omega) [kN2, hkc, hkz, hsz, hg, e1, ea, -List.getD_eq_getElem?_getD]; try first | (with_reducible refine zZ ?_) | subst hK_) | subst hK_) | (with_reducible first | refine zA ?_ | refine zB ?_ | refine zC ?_ | refine zD ?_ | refine zE ?_ | refine zF ?_ | refine zG ?_ | refine zH ?_ | refine zI ?_ | refine zJ ?_ | refine zK ?_ | refine zL ?_ | refine zM ?_ | refine zN ?_ | refine zO ?_) | ((with_reducible refine yG ?_ ?_); (focus decide)) | ((with_reducible refine yA ?_); refine yB rfl ?_; (with_reducible first | refine yC ?_ | refine yD ?_)))
      refine ⟨hkc, ?_⟩
      simp (maxSteps := 1000000) (disch := refine hold_ ?_; first | (simp [-List.getD_eq_getElem?_getD]; done) | omega) [-List.getD_eq_getElem?_getD]
    have n13 : (ub b == 13) = false := beq_eq_false_iff_ne.2 (ub_ne q13)
    have hz := ub_lt b
    have ea := txt_add A [b] (by simp; omega)
    have hB : A ++ [b] = B := by rw [hs]; simp only [q38, q60, q34, q9, q10, q13, if_false]
    rw [hB] at ea
    clear hs hB
    repeat (first | ((first | (with_reducible first | refine zP fun K_ hK_ => ?_ | refine zQ fun K_ hK_ => ?_ | refine zT ?_ | refine zU ?_ | refine zV ?_ | refine zW ?_ | refine zX ?_ | refine zY ?_) | ((with_reducible first | refine zR ?_ ?_ fun K_ hK_ => ?_ | refine zS ?_ ?_ fun K_ hK_ => ?_); (focus kernel_rfl); (focus kernel_rfl))); first | (simp (maxSteps := 1000000) (disch := refine hold_ ?_; first | (simp [n38, n60, n34, n9, n10, n13, hkc, hkz, hsz, hg, e1, hx, ea, -List.getD_eq_getElem?_getD]; done) | omega) [n38, n60, n34, n9, n10, n13, hkc, hkz, hsz, hg, e1, hx, ea, -List.getD_eq_getElem?_getD]; try first | (with_reducible refine zZ ?_) | subst hK_) | subst hK_) | (with_reducible first | refine zA ?_ | refine zB ?_ | refine zC ?_ | refine zD ?_ | refine zE ?_ | refine zF ?_ | refine zG ?_ | refine zH ?_ | refine zI ?_ | refine zJ ?_ | refine zK ?_ | refine zL ?_ | refine zM ?_ | refine zN ?_ | refine zO ?_) | ((with_reducible refine yG ?_ ?_); (focus decide)) | ((with_reducible refine yA ?_); refine yB rfl ?_; (with_reducible first | refine yC ?_ | refine yD ?_)))
    refine ⟨hkc, ?_⟩
    simp (maxSteps := 1000000) (disch := refine hold_ ?_; first | (simp [-List.getD_eq_getElem?_getD]; done) | omega) [-List.getD_eq_getElem?_getD]
  · have hkc2 : k = l.length := by omega
    subst hkc2
    repeat (first | ((first | (with_reducible first | refine zP fun K_ hK_ => ?_ | refine zQ fun K_ hK_ => ?_ | refine zT ?_ | refine zU ?_ | refine zV ?_ | refine zW ?_ | refine zX ?_ | refine zY ?_) | ((with_reducible first | refine zR ?_ ?_ fun K_ hK_ => ?_ | refine zS ?_ ?_ fun K_ hK_ => ?_); (focus kernel_rfl); (focus kernel_rfl))); first | (simp (maxSteps := 1000000) (disch := refine hold_ ?_; first | (simp [-List.getD_eq_getElem?_getD]; done) | omega) [-List.getD_eq_getElem?_getD]; try first | (with_reducible refine zZ ?_) | subst hK_) | subst hK_) | (with_reducible first | refine zA ?_ | refine zB ?_ | refine zC ?_ | refine zD ?_ | refine zE ?_ | refine zF ?_ | refine zG ?_ | refine zH ?_ | refine zI ?_ | refine zJ ?_ | refine zK ?_ | refine zL ?_ | refine zM ?_ | refine zN ?_ | refine zO ?_) | ((with_reducible refine yG ?_ ?_); (focus decide)) | ((with_reducible refine yA ?_); refine yB rfl ?_; (with_reducible first | refine yC ?_ | refine yD ?_)))
    simp (maxSteps := 1000000) (disch := refine hold_ ?_; first | (simp [-List.getD_eq_getElem?_getD]; done) | omega) [-List.getD_eq_getElem?_getD]
end Go.Av.Can
end

section
set_option linter.unusedSimpArgs false
set_option linter.unusedVariables false
open Go Go.Av Go.Proofs
namespace Go.Av.Can
theorem kCo : (ByteArray.mk #[60, 33, 45, 45]) = txt [60#8, 33#8, 45#8, 45#8] := rfl
theorem kCc : (ByteArray.mk #[45, 45, 62]) = txt [45#8, 45#8, 62#8] := rfl
theorem kPo : (ByteArray.mk #[60, 63]) = txt [60#8, 63#8] := rfl
theorem kPc : (ByteArray.mk #[63, 62]) = txt [63#8, 62#8] := rfl

def asideL (k : Int) (n d : List (BitVec 8)) : List (BitVec 8) :=
  if k = 3 then [60#8, 33#8, 45#8, 45#8] ++ d ++ [45#8, 45#8, 62#8] else if k = 4 then (if d = [] then [60#8, 63#8] ++ n ++ [63#8, 62#8] else [60#8, 63#8] ++ n ++ [32#8] ++ d ++ [63#8, 62#8]) else []
def nodP (k : Int) (n d : List (BitVec 8)) : PV := .agg (.vals 1 [.int .i64 k, .int .i64 0, .str ByteArray.empty, .str (txt n), .str ByteArray.empty, .str (txt d), .sl (.vals 1 []) true, .sl (.vals 1 []) true])
set_option maxHeartbeats 10000000 in
theorem rmark_ct (p q s v : List (BitVec 8)) (h : p.length + q.length + v.length ≤ 50000) : Fn Try.prog 21 [attP p q s v] [.p (.str (txt (markL p q v)))] := by
  have hl := nameL_len p q
  have c1 := rname_ct p q (by omega)
  have c2 := rvalue_ct v (by omega)
  have hv := valueL_len v
  refine Fn.of_body Try.func21 rfl ?_
  unfold markL saidL
  generalize valueL v = V at *
  generalize nameL p q = n at *
  have e1 := txt_add [32#8] n (by simp; omega)
  have e2 := txt_add (32#8 :: n) [61#8, 34#8] (by simp; omega)
  have e3 := txt_add (32#8 :: (n ++ [61#8, 34#8])) V (by simp; omega)
  have e4 := txt_add (32#8 :: (n ++ 61#8 :: 34#8 :: V)) [34#8] (by simp; omega)
  unfold attP
  repeat (first | ((with_reducible first | refine callK_at 17 ?_ | refine callK_at 15 ?_); refine callK_p ?_; simp (maxSteps := 1000000) (disch := refine hold_ ?_; first | (simp [kSp, kEq, kQ, e1, e2, e3, e4, -List.getD_eq_getElem?_getD]; done) | omega) [kSp, kEq, kQ, e1, e2, e3, e4, -List.getD_eq_getElem?_getD]; (first | ((with_reducible refine k1_at 17 ?_); refine callK1_of (Fn.ct c1 Try.call17) ?_) | ((with_reducible refine k1_at 15 ?_); refine callK1_of (Fn.ct c2 Try.call15) ?_)); (try simp (maxSteps := 1000000) (disch := refine hold_ ?_; first | (simp [kSp, kEq, kQ, e1, e2, e3, e4, -List.getD_eq_getElem?_getD]; done) | omega) [kSp, kEq, kQ, e1, e2, e3, e4, -List.getD_eq_getElem?_getD]); try first | (with_reducible refine zZ ?_) | subst hK_) | ((first | (with_reducible first | refine zP fun K_ hK_ => ?_ | refine zQ fun K_ hK_ => ?_ | refine zT ?_ | refine zU ?_ | refine zV ?_ | refine zW ?_ | refine zX ?_ | refine zY ?_) | ((with_reducible first | refine zR ?_ ?_ fun K_ hK_ => ?_ | refine zS ?_ ?_ fun K_ hK_ => ?_); (focus kernel_rfl); (focus kernel_rfl))); first | (simp (maxSteps := 1000000) (disch := refine hold_ ?_; first | (simp [kSp, kEq, kQ, e1, e2, e3, e4, -List.getD_eq_getElem?_getD]; done) | omega) [kSp, kEq, kQ, e1, e2, e3, e4, -List.getD_eq_getElem?_getD]; try first | (with_reducible refine zZ ?_) | subst hK_) | subst hK_) | (with_reducible first | refine zA ?_ | refine zB ?_ | refine zC ?_ | refine zD ?_ | refine zE ?_ | refine zF ?_ | refine zG ?_ | refine zH ?_ | refine zI ?_ | refine zJ ?_ | refine zK ?_ | refine zL ?_ | refine zM ?_ | refine zN ?_ | refine zO ?_) | ((with_reducible refine yG ?_ ?_); (focus decide)) | ((with_reducible refine yA ?_); refine yB rfl ?_; (with_reducible first | refine yC ?_ | refine yD ?_)))
  all_goals simp (maxSteps := 1000000) (disch := refine hold_ ?_; first | (simp [-List.getD_eq_getElem?_getD]; done) | omega) [-List.getD_eq_getElem?_getD]
set_option maxHeartbeats 10000000 in
theorem rspace_ct (p u : List (BitVec 8)) (h : p.length + u.length ≤ 50000) : Fn Try.prog 19 [decP p u] [.p (.str (txt (spaceL p u)))] := by
  have hx : xmlL.length = 5 := rfl
  have c2 := rvalue_ct u (by omega)
  have hv := valueL_len u
  by_cases hp : p = []
  · subst hp
    refine Fn.of_body Try.func19 rfl ?_
    have e : spaceL [] u = saidL xmlL u := by unfold spaceL; simp
    rw [e]
    unfold saidL
    generalize valueL u = V at *
    generalize hX : xmlL = n at *
    have e1 := txt_add [32#8] n (by simp; omega)
    have e2 := txt_add (32#8 :: n) [61#8, 34#8] (by simp; omega)
    have e3 := txt_add (32#8 :: (n ++ [61#8, 34#8])) V (by simp; omega)
    have e4 := txt_add (32#8 :: (n ++ 61#8 :: 34#8 :: V)) [34#8] (by simp; omega)
    unfold decP
    repeat (first | ((with_reducible first | refine callK_at 15 ?_); refine callK_p ?_; simp (maxSteps := 1000000) (disch := refine hold_ ?_; first | (simp [kNil, kX', hX, str_neq, kSp, kEq, kQ, e1, e2, e3, e4, -List.getD_eq_getElem?_getD]; done) | omega) [kNil, kX', hX, str_neq, kSp, kEq, kQ, e1, e2, e3, e4, -List.getD_eq_getElem?_getD]; (first | refine callK1_of (Fn.ct c2 Try.call15) ?_); (try simp (maxSteps := 1000000) (disch := refine hold_ ?_; first | (simp [kNil, kX', hX, str_neq, kSp, kEq, kQ, e1, e2, e3, e4, -List.getD_eq_getElem?_getD]; done) | omega) [kNil, kX', hX, str_neq, kSp, kEq, kQ, e1, e2, e3, e4, -List.getD_eq_getElem?_getD]); try first | (with_reducible refine zZ ?_) | subst hK_) | ((first | (with_reducible first | refine zP fun K_ hK_ => ?_ | refine zQ fun K_ hK_ => ?_ | refine zT ?_ | refine zU ?_ | refine zV ?_ | refine zW ?_ | refine zX ?_ | refine zY ?_) | ((with_reducible first | refine zR ?_ ?_ fun K_ hK_ => ?_ | refine zS ?_ ?_ fun K_ hK_ => ?_); (focus kernel_rfl); (focus kernel_rfl))); first | (simp (maxSteps := 1000000) (disch := refine hold_ ?_; first | (simp [kNil, kX', hX, str_neq, kSp, kEq, kQ, e1, e2, e3, e4, -List.getD_eq_getElem?_getD]; done) | omega) [kNil, kX', hX, str_neq, kSp, kEq, kQ, e1, e2, e3, e4, -List.getD_eq_getElem?_getD]; try first | (with_reducible refine zZ ?_) | subst hK_) | subst hK_) | (with_reducible first | refine zA ?_ | refine zB ?_ | refine zC ?_ | refine zD ?_ | refine zE ?_ | refine zF ?_ | refine zG ?_ | refine zH ?_ | refine zI ?_ | refine zJ ?_ | refine zK ?_ | refine zL ?_ | refine zM ?_ | refine zN ?_ | refine zO ?_) | ((with_reducible refine yG ?_ ?_); (focus decide)) | ((with_reducible refine yA ?_); refine yB rfl ?_; (with_reducible first | refine yC ?_ | refine yD ?_)))
    all_goals simp (maxSteps := 1000000) (disch := refine hold_ ?_; first | (simp [-List.getD_eq_getElem?_getD]; done) | omega) [-List.getD_eq_getElem?_getD]
  · have hp2 : (p == []) = false := by rw [beq_eq_false_iff_ne]; exact hp
    refine Fn.of_body Try.func19 rfl ?_
    have e : spaceL p u = saidL (nameL xmlL p) u := by unfold spaceL; simp [hp]
    rw [e]
    have ex : strBin .add (txt [120#8, 109#8, 108#8, 110#8, 115#8, 58#8]) (txt p) = some (.str (txt (nameL xmlL p))) := txt_add [120#8, 109#8, 108#8, 110#8, 115#8, 58#8] p (by simp; omega)
    have hl := nameL_len xmlL p
    unfold saidL
    generalize valueL u = V at *
    generalize nameL xmlL p = n at *
    have e1 := txt_add [32#8] n (by simp; omega)
    have e2 := txt_add (32#8 :: n) [61#8, 34#8] (by simp; omega)
    have e3 := txt_add (32#8 :: (n ++ [61#8, 34#8])) V (by simp; omega)
    have e4 := txt_add (32#8 :: (n ++ 61#8 :: 34#8 :: V)) [34#8] (by simp; omega)
    unfold decP
    repeat (first | ((with_reducible first | refine callK_at 15 ?_); refine callK_p ?_; simp (maxSteps := 1000000) (disch := refine hold_ ?_; first | (simp [kNil, kX, kXc, ex, str_neq, hp2, kSp, kEq, kQ, e1, e2, e3, e4, -List.getD_eq_getElem?_getD]; done) | omega) [kNil, kX, kXc, ex, str_neq, hp2, kSp, kEq, kQ, e1, e2, e3, e4, -List.getD_eq_getElem?_getD]; (first | refine callK1_of (Fn.ct c2 Try.call15) ?_); (try simp (maxSteps := 1000000) (disch := refine hold_ ?_; first | (simp [kNil, kX, kXc, ex, str_neq, hp2, kSp, kEq, kQ, e1, e2, e3, e4, -List.getD_eq_getElem?_getD]; done) | omega) [kNil, kX, kXc, ex, str_neq, hp2, kSp, kEq, kQ, e1, e2, e3, e4, -List.getD_eq_getElem?_getD]); try first | (with_reducible refine zZ ?_) | subst hK_) | ((first | (with_reducible first | refine zP fun K_ hK_ => ?_ | refine zQ fun K_ hK_ => ?_ | refine zT ?_ | refine zU ?_ | refine zV ?_ | refine zW ?_ | refine zX ?_ | refine zY ?_) | ((with_reducible first | refine zR ?_ ?_ fun K_ hK_ => ?_ | refine zS ?_ ?_ fun K_ hK_ => ?_); (focus kernel_rfl); (focus kernel_rfl))); first | (simp (maxSteps := 1000000) (disch := refine hold_ ?_; first | (simp [kNil, kX, kXc, ex, str_neq, hp2, kSp, kEq, kQ, e1, e2, e3, e4, -List.getD_eq_getElem?_getD]; done) | omega) [kNil, kX, kXc, ex, str_neq, hp2, kSp, kEq, kQ, e1, e2, e3, e4, -List.getD_eq_getElem?_getD]; try first | (with_reducible refine zZ ?_) | subst hK_) | subst hK_) | (with_reducible first | refine zA ?_ | refine zB ?_ | refine zC ?_ | refine zD ?_ | refine zE ?_ | refine zF ?_ | refine zG ?_ | refine zH ?_ | refine zI ?_ | refine zJ ?_ | refine zK ?_ | refine zL ?_ | refine zM ?_ | refine zN ?_ | refine zO ?_) | ((with_reducible refine yG ?_ ?_); (focus decide)) | ((with_reducible refine yA ?_); refine yB rfl ?_; (with_reducible first | refine yC ?_ | refine yD ?_)))
    all_goals simp (maxSteps := 1000000) (disch := refine hold_ ?_; first | (simp [-List.getD_eq_getElem?_getD]; done) | omega) [-List.getD_eq_getElem?_getD]
set_option maxHeartbeats 10000000 in
theorem aside_ct (k : Int) (n d : List (BitVec 8)) (h : n.length + d.length ≤ 50000) : Fn Try.prog 22 [nodP k n d] [.p (.str (txt (asideL k n d)))] := by
  refine Fn.of_body Try.func22 rfl ?_
  unfold asideL nodP
  by_cases k3 : k = 3
  · subst k3
    have e1 := txt_add [60#8, 33#8, 45#8, 45#8] d (by simp; omega)
    have e2 := txt_add (60#8 :: 33#8 :: 45#8 :: 45#8 :: d) [45#8, 45#8, 62#8] (by simp; omega)
    repeat (first | ((first | (with_reducible first | refine zP fun K_ hK_ => ?_ | refine zQ fun K_ hK_ => ?_ | refine zT ?_ | refine zU ?_ | refine zV ?_ | refine zW ?_ | refine zX ?_ | refine zY ?_) | ((with_reducible first | refine zR ?_ ?_ fun K_ hK_ => ?_ | refine zS ?_ ?_ fun K_ hK_ => ?_); (focus kernel_rfl); (focus kernel_rfl))); first | (simp (maxSteps := 1000000) (disch := refine hold_ ?_; first | (simp [kCo, kCc, kNil, e1, e2, -List.getD_eq_getElem?_getD]; done) | omega) [kCo, kCc, kNil, e1, e2, -List.getD_eq_getElem?_getD]; try first | (with_reducible refine zZ ?_) | subst hK_) | subst hK_) | (with_reducible first | refine zA ?_ | refine zB ?_ | refine zC ?_ | refine zD ?_ | refine zE ?_ | refine zF ?_ | refine zG ?_ | refine zH ?_ | refine zI ?_ | refine zJ ?_ | refine zK ?_ | refine zL ?_ | refine zM ?_ | refine zN ?_ | refine zO ?_) | ((with_reducible refine yG ?_ ?_); (focus decide)) | ((with_reducible refine yA ?_); refine yB rfl ?_; (with_reducible first | refine yC ?_ | refine yD ?_)))
    all_goals simp (maxSteps := 1000000) (disch := refine hold_ ?_; first | (simp [-List.getD_eq_getElem?_getD]; done) | omega) [-List.getD_eq_getElem?_getD]
  · have k3b : (k == 3) = false := beq_eq_false_iff_ne.2 k3
    by_cases k4 : k = 4
    · subst k4
      by_cases hd : d = []
      · subst hd
        have e1 := txt_add [60#8, 63#8] n (by simp at h ⊢; omega)
        have e2 := txt_add (60#8 :: 63#8 :: n) [63#8, 62#8] (by simp at h ⊢; omega)
        repeat (first | ((first | (with_reducible first | refine zP fun K_ hK_ => ?_ | refine zQ fun K_ hK_ => ?_ | refine zT ?_ | refine zU ?_ | refine zV ?_ | refine zW ?_ | refine zX ?_ | refine zY ?_) | ((with_reducible first | refine zR ?_ ?_ fun K_ hK_ => ?_ | refine zS ?_ ?_ fun K_ hK_ => ?_); (focus kernel_rfl); (focus kernel_rfl))); first | (simp (maxSteps := 1000000) (disch := refine hold_ ?_; first | (simp [kPo, kPc, kNil, str_eql, e1, e2, -List.getD_eq_getElem?_getD]; done) | omega) [kPo, kPc, kNil, str_eql, e1, e2, -List.getD_eq_getElem?_getD]; try first | (with_reducible refine zZ ?_) | subst hK_) | subst hK_) | (with_reducible first | refine zA ?_ | refine zB ?_ | refine zC ?_ | refine zD ?_ | refine zE ?_ | refine zF ?_ | refine zG ?_ | refine zH ?_ | refine zI ?_ | refine zJ ?_ | refine zK ?_ | refine zL ?_ | refine zM ?_ | refine zN ?_ | refine zO ?_) | ((with_reducible refine yG ?_ ?_); (focus decide)) | ((with_reducible refine yA ?_); refine yB rfl ?_; (with_reducible first | refine yC ?_ | refine yD ?_)))
        all_goals simp (maxSteps := 1000000) (disch := refine hold_ ?_; first | (simp [-List.getD_eq_getElem?_getD]; done) | omega) [-List.getD_eq_getElem?_getD]
      · have hd2 : (d == []) = false := by rw [beq_eq_false_iff_ne]; exact hd
        have e1 := txt_add [60#8, 63#8] n (by simp at h ⊢; omega)
        have e2 := txt_add (60#8 :: 63#8 :: n) [32#8] (by simp at h ⊢; omega)
        have e3 := txt_add (60#8 :: 63#8 :: (n ++ [32#8])) d (by simp at h ⊢; omega)
        have e4 := txt_add (60#8 :: 63#8 :: (n ++ 32#8 :: d)) [63#8, 62#8] (by simp at h ⊢; omega)
        repeat (first | ((first | (with_reducible first | refine zP fun K_ hK_ => ?_ | refine zQ fun K_ hK_ => ?_ | refine zT ?_ | refine zU ?_ | refine zV ?_ | refine zW ?_ | refine zX ?_ | refine zY ?_) | ((with_reducible first | refine zR ?_ ?_ fun K_ hK_ => ?_ | refine zS ?_ ?_ fun K_ hK_ => ?_); (focus kernel_rfl); (focus kernel_rfl))); first | (simp (maxSteps := 1000000) (disch := refine hold_ ?_; first | (simp [kPo, kPc, kNil, kSp, str_eql, hd2, e1, e2, e3, e4, -List.getD_eq_getElem?_getD]; done) | omega) [kPo, kPc, kNil, kSp, str_eql, hd2, e1, e2, e3, e4, -List.getD_eq_getElem?_getD]; try first | (with_reducible refine zZ ?_) | subst hK_) | subst hK_) | (with_reducible first | refine zA ?_ | refine zB ?_ | refine zC ?_ | refine zD ?_ | refine zE ?_ | refine zF ?_ | refine zG ?_ | refine zH ?_ | refine zI ?_ | refine zJ ?_ | refine zK ?_ | refine zL ?_ | refine zM ?_ | refine zN ?_ | refine zO ?_) | ((with_reducible refine yG ?_ ?_); (focus decide)) | ((with_reducible refine yA ?_); refine yB rfl ?_; (with_reducible first | refine yC ?_ | refine yD ?_)))
        all_goals simp (maxSteps := 1000000) (disch := refine hold_ ?_; first | (simp [hd, -List.getD_eq_getElem?_getD]; done) | omega) [hd, -List.getD_eq_getElem?_getD]
    · have k4b : (k == 4) = false := beq_eq_false_iff_ne.2 k4
      repeat (first | ((first | (with_reducible first | refine zP fun K_ hK_ => ?_ | refine zQ fun K_ hK_ => ?_ | refine zT ?_ | refine zU ?_ | refine zV ?_ | refine zW ?_ | refine zX ?_ | refine zY ?_) | ((with_reducible first | refine zR ?_ ?_ fun K_ hK_ => ?_ | refine zS ?_ ?_ fun K_ hK_ => ?_); (focus kernel_rfl); (focus kernel_rfl))); first | (simp (maxSteps := 1000000) (disch := refine hold_ ?_; first | (simp [k3b, k4b, kNil, -List.getD_eq_getElem?_getD]; done) | omega) [k3b, k4b, kNil, -List.getD_eq_getElem?_getD]; try first | (with_reducible refine zZ ?_) | subst hK_) | subst hK_) | (with_reducible first | refine zA ?_ | refine zB ?_ | refine zC ?_ | refine zD ?_ | refine zE ?_ | refine zF ?_ | refine zG ?_ | refine zH ?_ | refine zI ?_ | refine zJ ?_ | refine zK ?_ | refine zL ?_ | refine zM ?_ | refine zN ?_ | refine zO ?_) | ((with_reducible refine yG ?_ ?_); (focus decide)) | ((with_reducible refine yA ?_); refine yB rfl ?_; (with_reducible first | refine yC ?_ | refine yD ?_)))
      all_goals simp (maxSteps := 1000000) (disch := refine hold_ ?_; first | (simp [k3, k4, kNil, -List.getD_eq_getElem?_getD]; done) | omega) [k3, k4, kNil, -List.getD_eq_getElem?_getD]
set_option maxHeartbeats 10000000 in
theorem raside_ct (k : Int) (n d : List (BitVec 8)) (h : n.length + d.length ≤ 50000) : Fn Try.prog 23 [nodP k n d] [.p (.str (txt (asideL k n d)))] := by
  refine Fn.of_body Try.func23 rfl ?_
  unfold asideL nodP
  by_cases k3 : k = 3
  · subst k3
    have e1 := txt_add [60#8, 33#8, 45#8, 45#8] d (by simp; omega)
    have e2 := txt_add (60#8 :: 33#8 :: 45#8 :: 45#8 :: d) [45#8, 45#8, 62#8] (by simp; omega)
    repeat (first | ((first | (with_reducible first | refine zP fun K_ hK_ => ?_ | refine zQ fun K_ hK_ => ?_ | refine zT ?_ | refine zU ?_ | refine zV ?_ | refine zW ?_ | refine zX ?_ | refine zY ?_) | ((with_reducible first | refine zR ?_ ?_ fun K_ hK_ => ?_ | refine zS ?_ ?_ fun K_ hK_ => ?_); (focus kernel_rfl); (focus kernel_rfl))); first | (simp (maxSteps := 1000000) (disch := refine hold_ ?_; first | (simp [kCo, kCc, kNil, e1, e2, -List.getD_eq_getElem?_getD]; done) | omega) [kCo, kCc, kNil, e1, e2, -List.getD_eq_getElem?_getD]; try first | (with_reducible refine zZ ?_) | subst hK_) | subst hK_) | (with_reducible first | refine zA ?_ | refine zB ?_ | refine zC ?_ | refine zD ?_ | refine zE ?_ | refine zF ?_ | refine zG ?_ | refine zH ?_ | refine zI ?_ | refine zJ ?_ | refine zK ?_ | refine zL ?_ | refine zM ?_ | refine zN ?_ | refine zO ?_) | ((with_reducible refine yG ?_ ?_); (focus decide)) | ((with_reducible refine yA ?_); refine yB rfl ?_; (with_reducible first | refine yC ?_ | refine yD ?_)))
    all_goals simp (maxSteps := 1000000) (disch := refine hold_ ?_; first | (simp [-List.getD_eq_getElem?_getD]; done) | omega) [-List.getD_eq_getElem?_getD]
  · have k3b : (k == 3) = false := beq_eq_false_iff_ne.2 k3
    by_cases k4 : k = 4
    · subst k4
      by_cases hd : d = []
      · subst hd
        have e1 := txt_add [60#8, 63#8] n (by simp at h ⊢; omega)
        have e2 := txt_add (60#8 :: 63#8 :: n) [63#8, 62#8] (by simp at h ⊢; omega)
        repeat (first | ((first | (with_reducible first | refine zP fun K_ hK_ => ?_ | refine zQ fun K_ hK_ => ?_ | refine zT ?_ | refine zU ?_ | refine zV ?_ | refine zW ?_ | refine zX ?_ | refine zY ?_) | ((with_reducible first | refine zR ?_ ?_ fun K_ hK_ => ?_ | refine zS ?_ ?_ fun K_ hK_ => ?_); (focus kernel_rfl); (focus kernel_rfl))); first | (simp (maxSteps := 1000000) (disch := refine hold_ ?_; first | (simp [kPo, kPc, kNil, str_eql, e1, e2, -List.getD_eq_getElem?_getD]; done) | omega) [kPo, kPc, kNil, str_eql, e1, e2, -List.getD_eq_getElem?_getD]; try first | (with_reducible refine zZ ?_) | subst hK_) | subst hK_) | (with_reducible first | refine zA ?_ | refine zB ?_ | refine zC ?_ | refine zD ?_ | refine zE ?_ | refine zF ?_ | refine zG ?_ | refine zH ?_ | refine zI ?_ | refine zJ ?_ | refine zK ?_ | refine zL ?_ | refine zM ?_ | refine zN ?_ | refine zO ?_) | ((with_reducible refine yG ?_ ?_); (focus decide)) | ((with_reducible refine yA ?_); refine yB rfl ?_; (with_reducible first | refine yC ?_ | refine yD ?_)))
        all_goals simp (maxSteps := 1000000) (disch := refine hold_ ?_; first | (simp [-List.getD_eq_getElem?_getD]; done) | omega) [-List.getD_eq_getElem?_getD]
      · have hd2 : (d == []) = false := by rw [beq_eq_false_iff_ne]; exact hd
        have e1 := txt_add [60#8, 63#8] n (by simp at h ⊢; omega)
        have e2 := txt_add (60#8 :: 63#8 :: n) [32#8] (by simp at h ⊢; omega)
        have e3 := txt_add (60#8 :: 63#8 :: (n ++ [32#8])) d (by simp at h ⊢; omega)
        have e4 := txt_add (60#8 :: 63#8 :: (n ++ 32#8 :: d)) [63#8, 62#8] (by simp at h ⊢; omega)
        repeat (first | ((first | (with_reducible first | refine zP fun K_ hK_ => ?_ | refine zQ fun K_ hK_ => ?_ | refine zT ?_ | refine zU ?_ | refine zV ?_ | refine zW ?_ | refine zX ?_ | refine zY ?_) | ((with_reducible first | refine zR ?_ ?_ fun K_ hK_ => ?_ | refine zS ?_ ?_ fun K_ hK_ => ?_); (focus kernel_rfl); (focus kernel_rfl))); first | (simp (maxSteps := 1000000) (disch := refine hold_ ?_; first | (simp [kPo, kPc, kNil, kSp, str_eql, hd2, e1, e2, e3, e4, -List.getD_eq_getElem?_getD]; done) | omega) [kPo, kPc, kNil, kSp, str_eql, hd2, e1, e2, e3, e4, -List.getD_eq_getElem?_getD]; try first | (with_reducible refine zZ ?_) | subst hK_) | subst hK_) | (with_reducible first | refine zA ?_ | refine zB ?_ | refine zC ?_ | refine zD ?_ | refine zE ?_ | refine zF ?_ | refine zG ?_ | refine zH ?_ | refine zI ?_ | refine zJ ?_ | refine zK ?_ | refine zL ?_ | refine zM ?_ | refine zN ?_ | refine zO ?_) | ((with_reducible refine yG ?_ ?_); (focus decide)) | ((with_reducible refine yA ?_); refine yB rfl ?_; (with_reducible first | refine yC ?_ | refine yD ?_)))
        all_goals simp (maxSteps := 1000000) (disch := refine hold_ ?_; first | (simp [hd, -List.getD_eq_getElem?_getD]; done) | omega) [hd, -List.getD_eq_getElem?_getD]
    · have k4b : (k == 4) = false := beq_eq_false_iff_ne.2 k4
      repeat (first | ((first | (with_reducible first | refine zP fun K_ hK_ => ?_ | refine zQ fun K_ hK_ => ?_ | refine zT ?_ | refine zU ?_ | refine zV ?_ | refine zW ?_ | refine zX ?_ | refine zY ?_) | ((with_reducible first | refine zR ?_ ?_ fun K_ hK_ => ?_ | refine zS ?_ ?_ fun K_ hK_ => ?_); (focus kernel_rfl); (focus kernel_rfl))); first | (simp (maxSteps := 1000000) (disch := refine hold_ ?_; first | (simp [k3b, k4b, kNil, -List.getD_eq_getElem?_getD]; done) | omega) [k3b, k4b, kNil, -List.getD_eq_getElem?_getD]; try first | (with_reducible refine zZ ?_) | subst hK_) | subst hK_) | (with_reducible first | refine zA ?_ | refine zB ?_ | refine zC ?_ | refine zD ?_ | refine zE ?_ | refine zF ?_ | refine zG ?_ | refine zH ?_ | refine zI ?_ | refine zJ ?_ | refine zK ?_ | refine zL ?_ | refine zM ?_ | refine zN ?_ | refine zO ?_) | ((with_reducible refine yG ?_ ?_); (focus decide)) | ((with_reducible refine yA ?_); refine yB rfl ?_; (with_reducible first | refine yC ?_ | refine yD ?_)))
      all_goals simp (maxSteps := 1000000) (disch := refine hold_ ?_; first | (simp [k3, k4, kNil, -List.getD_eq_getElem?_getD]; done) | omega) [k3, k4, kNil, -List.getD_eq_getElem?_getD]
end Go.Av.Can
end

section
set_option linter.unusedSimpArgs false
set_option linter.unusedVariables false
open Go Go.Av Go.Proofs
namespace Go.Av.Can
theorem kA1 : (ByteArray.mk #[97, 34, 98]) = txt [97#8, 34#8, 98#8] := rfl
theorem kA2 : (ByteArray.mk #[97, 38, 113, 117, 111, 116, 59, 98]) = txt [97#8, 38#8, 113#8, 117#8, 111#8, 116#8, 59#8, 98#8] := rfl
theorem kA3 : (ByteArray.mk #[60]) = txt [60#8] := rfl
theorem kA4 : (ByteArray.mk #[38, 108, 116, 59]) = txt [38#8, 108#8, 116#8, 59#8] := rfl
theorem kA5 : (ByteArray.mk #[112]) = txt [112#8] := rfl
theorem kA6 : (ByteArray.mk #[97]) = txt [97#8] := rfl
theorem kA7 : (ByteArray.mk #[112, 58, 97]) = txt [112#8, 58#8, 97#8] := rfl

theorem deep_nod (k : Int) (n d : List (BitVec 8)) : deep (onlyK 7) [(7, (0, .cells [.p (.int .i64 k), .p (.int .i64 0), .p (.str ByteArray.empty), .p (.str (txt n)), .p (.str ByteArray.empty), .p (.str (txt d)), .p (.sl (.vals 1 []) true), .p (.sl (.vals 1 []) true)]))] 600 (.ptr 7 0 0) = some (.eptr (.vals 8 [.agg (.vals 1 [.int .i64 k, .int .i64 0, .str ByteArray.empty, .str (txt n), .str ByteArray.empty, .str (txt d), .sl (.vals 1 []) true, .sl (.vals 1 []) true])]) 0 0) := by
  first | rfl | kernel_rfl
set_option maxHeartbeats 10000000 in
theorem awake_ct : Fn Try.prog 8 [] [.p (.bool true)] := by
  have c1 := value_ct [97#8, 34#8, 98#8] (by decide)
  have c2 := text_ct [60#8] (by decide)
  have c3 := name_ct [112#8] [97#8] (by decide)
  rw [show valueL [97#8, 34#8, 98#8] = [97#8, 38#8, 113#8, 117#8, 111#8, 116#8, 59#8, 98#8] from by decide +kernel] at c1
  rw [show textL [60#8] = [38#8, 108#8, 116#8, 59#8] from by decide +kernel] at c2
  rw [show nameL [112#8] [97#8] = [112#8, 58#8, 97#8] from by decide +kernel] at c3
  refine Fn.of_body Try.func8 rfl ?_
  repeat (first | ((with_reducible first | refine callK_at 13 ?_ | refine callK_at 11 ?_ | refine callK_at 16 ?_); refine callK_p ?_; simp (maxSteps := 1000000) (disch := refine hold_ ?_; first | (simp [kA1, kA2, kA3, kA4, kA5, kA6, kA7, str_eql, -List.getD_eq_getElem?_getD]; done) | omega) [kA1, kA2, kA3, kA4, kA5, kA6, kA7, str_eql, -List.getD_eq_getElem?_getD]; (first | ((with_reducible refine k1_at 13 ?_); refine callK1_of (Fn.ct c1 Try.call13) ?_) | ((with_reducible refine k1_at 11 ?_); refine callK1_of (Fn.ct c2 Try.call11) ?_) | ((with_reducible refine k1_at 16 ?_); refine callK1_of (Fn.ct c3 Try.call16) ?_)); (try simp (maxSteps := 1000000) (disch := refine hold_ ?_; first | (simp [kA1, kA2, kA3, kA4, kA5, kA6, kA7, str_eql, -List.getD_eq_getElem?_getD]; done) | omega) [kA1, kA2, kA3, kA4, kA5, kA6, kA7, str_eql, -List.getD_eq_getElem?_getD]); try first | (with_reducible refine zZ ?_) | subst hK_) | ((first | (with_reducible first | refine zP fun K_ hK_ => ?_ | refine zQ fun K_ hK_ => ?_ | refine zT ?_ | refine zU ?_ | refine zV ?_ | refine zW ?_ | refine zX ?_ | refine zY ?_) | ((with_reducible first | refine zR ?_ ?_ fun K_ hK_ => ?_ | refine zS ?_ ?_ fun K_ hK_ => ?_); (focus kernel_rfl); (focus kernel_rfl))); first | (simp (maxSteps := 1000000) (disch := refine hold_ ?_; first | (simp [kA1, kA2, kA3, kA4, kA5, kA6, kA7, str_eql, -List.getD_eq_getElem?_getD]; done) | omega) [kA1, kA2, kA3, kA4, kA5, kA6, kA7, str_eql, -List.getD_eq_getElem?_getD]; try first | (with_reducible refine zZ ?_) | subst hK_) | subst hK_) | (with_reducible first | refine zA ?_ | refine zB ?_ | refine zC ?_ | refine zD ?_ | refine zE ?_ | refine zF ?_ | refine zG ?_ | refine zH ?_ | refine zI ?_ | refine zJ ?_ | refine zK ?_ | refine zL ?_ | refine zM ?_ | refine zN ?_ | refine zO ?_) | ((with_reducible refine yG ?_ ?_); (focus decide)) | ((with_reducible refine yA ?_); refine yB rfl ?_; (with_reducible first | refine yC ?_ | refine yD ?_)))
  all_goals simp (maxSteps := 1000000) (disch := refine hold_ ?_; first | (simp [-List.getD_eq_getElem?_getD]; done) | omega) [-List.getD_eq_getElem?_getD]
set_option maxHeartbeats 10000000 in
theorem writes_ct (a b v : List (BitVec 8)) (ha : a.length ≤ reachBytes) (hb : b.length ≤ reachBytes) (hv : v.length ≤ reachBytes) : Fn Try.prog 5 [.str (txt a), .str (txt b), .str (txt v)] [.p (.bool true)] := by
  have cw := awake_ct
  have z1 := txt_size a
  have z2 := txt_size b
  have z3 := txt_size v
  have hm : reachBytes = 140737488351232 := rfl
  rw [hm] at ha hb hv
  have e1 : IntKind.i64.wrap ((a.length : Int) + b.length) = (a.length : Int) + b.length := wrap_i64 _ (by omega) (by omega)
  have e2 : IntKind.i64.wrap ((a.length : Int) + b.length + v.length) = (a.length : Int) + b.length + v.length := wrap_i64 _ (by omega) (by omega)
  refine Fn.of_body Try.func5 rfl ?_
  by_cases hc : 1000 < (a.length : Int) + b.length + v.length
  · repeat (first | ((with_reducible first | refine callK_at 8 ?_); refine callK_p ?_; simp (maxSteps := 1000000) (disch := refine hold_ ?_; first | (simp [z1, z2, z3, e1, e2, hc, -List.getD_eq_getElem?_getD]; done) | omega) [z1, z2, z3, e1, e2, hc, -List.getD_eq_getElem?_getD]; (first | refine callK1_of (Fn.ct cw Try.call8) ?_); (try simp (maxSteps := 1000000) (disch := refine hold_ ?_; first | (simp [z1, z2, z3, e1, e2, hc, -List.getD_eq_getElem?_getD]; done) | omega) [z1, z2, z3, e1, e2, hc, -List.getD_eq_getElem?_getD]); try first | (with_reducible refine zZ ?_) | subst hK_) | ((first | (with_reducible first | refine zP fun K_ hK_ => ?_ | refine zQ fun K_ hK_ => ?_ | refine zT ?_ | refine zU ?_ | refine zV ?_ | refine zW ?_ | refine zX ?_ | refine zY ?_) | ((with_reducible first | refine zR ?_ ?_ fun K_ hK_ => ?_ | refine zS ?_ ?_ fun K_ hK_ => ?_); (focus kernel_rfl); (focus kernel_rfl))); first | (simp (maxSteps := 1000000) (disch := refine hold_ ?_; first | (simp [z1, z2, z3, e1, e2, hc, -List.getD_eq_getElem?_getD]; done) | omega) [z1, z2, z3, e1, e2, hc, -List.getD_eq_getElem?_getD]; try first | (with_reducible refine zZ ?_) | subst hK_) | subst hK_) | (with_reducible first | refine zA ?_ | refine zB ?_ | refine zC ?_ | refine zD ?_ | refine zE ?_ | refine zF ?_ | refine zG ?_ | refine zH ?_ | refine zI ?_ | refine zJ ?_ | refine zK ?_ | refine zL ?_ | refine zM ?_ | refine zN ?_ | refine zO ?_) | ((with_reducible refine yG ?_ ?_); (focus decide)) | ((with_reducible refine yA ?_); refine yB rfl ?_; (with_reducible first | refine yC ?_ | refine yD ?_)))
    all_goals simp (maxSteps := 1000000) (disch := refine hold_ ?_; first | (simp [-List.getD_eq_getElem?_getD]; done) | omega) [-List.getD_eq_getElem?_getD]
  · have c1 := text_ct a (by omega)
    have c2 := rtext_ct a (by omega)
    have c3 := value_ct a (by omega)
    have c4 := rvalue_ct a (by omega)
    have c5 := name_ct a b (by omega)
    have c6 := rname_ct a b (by omega)
    have c7 : Fn Try.prog 18 [.agg (.strs [txt a, txt b])] [.p (.str (txt (spaceL a b)))] := space_ct a b (by omega)
    have c8 : Fn Try.prog 19 [.agg (.strs [txt a, txt b])] [.p (.str (txt (spaceL a b)))] := rspace_ct a b (by omega)
    have c9 : Fn Try.prog 20 [.agg (.strs [txt a, txt b, ByteArray.empty, txt v])] [.p (.str (txt (markL a b v)))] := mark_ct a b [] v (by omega)
    have c10 : Fn Try.prog 21 [.agg (.strs [txt a, txt b, ByteArray.empty, txt v])] [.p (.str (txt (markL a b v)))] := rmark_ct a b [] v (by omega)
    generalize textL a = T at *
    generalize valueL a = V at *
    generalize nameL a b = N at *
    generalize spaceL a b = SP at *
    generalize markL a b v = MK at *
    repeat (first | ((with_reducible first | refine callK_at 8 ?_ | refine callK_at 11 ?_ | refine callK_at 14 ?_ | refine callK_at 13 ?_ | refine callK_at 15 ?_ | refine callK_at 16 ?_ | refine callK_at 17 ?_ | refine callK_at 18 ?_ | refine callK_at 19 ?_ | refine callK_at 20 ?_ | refine callK_at 21 ?_); refine callK_p ?_; simp (maxSteps := 1000000) (disch := refine hold_ ?_; first | (simp [z1, z2, z3, e1, e2, hc, str_eql, -List.getD_eq_getElem?_getD]; done) | omega) [z1, z2, z3, e1, e2, hc, str_eql, -List.getD_eq_getElem?_getD]; (first | ((with_reducible refine k1_at 8 ?_); refine callK1_of (Fn.ct cw Try.call8) ?_) | ((with_reducible refine k1_at 11 ?_); refine callK1_of (Fn.ct c1 Try.call11) ?_) | ((with_reducible refine k1_at 14 ?_); refine callK1_of (Fn.ct c2 Try.call14) ?_) | ((with_reducible refine k1_at 13 ?_); refine callK1_of (Fn.ct c3 Try.call13) ?_) | ((with_reducible refine k1_at 15 ?_); refine callK1_of (Fn.ct c4 Try.call15) ?_) | ((with_reducible refine k1_at 16 ?_); refine callK1_of (Fn.ct c5 Try.call16) ?_) | ((with_reducible refine k1_at 17 ?_); refine callK1_of (Fn.ct c6 Try.call17) ?_) | ((with_reducible refine k1_at 18 ?_); refine callK1_of (Fn.ct c7 Try.call18) ?_) | ((with_reducible refine k1_at 19 ?_); refine callK1_of (Fn.ct c8 Try.call19) ?_) | ((with_reducible refine k1_at 20 ?_); refine callK1_of (Fn.ct c9 Try.call20) ?_) | ((with_reducible refine k1_at 21 ?_); refine callK1_of (Fn.ct c10 Try.call21) ?_)); (try simp (maxSteps := 1000000) (disch := refine hold_ ?_; first | (simp [z1, z2, z3, e1, e2, hc, str_eql, -List.getD_eq_getElem?_getD]; done) | omega) [z1, z2, z3, e1, e2, hc, str_eql, -List.getD_eq_getElem?_getD]); try first | (with_reducible refine zZ ?_) | subst hK_) | ((first | (with_reducible first | refine zP fun K_ hK_ => ?_ | refine zQ fun K_ hK_ => ?_ | refine zT ?_ | refine zU ?_ | refine zV ?_ | refine zW ?_ | refine zX ?_ | refine zY ?_) | ((with_reducible first | refine zR ?_ ?_ fun K_ hK_ => ?_ | refine zS ?_ ?_ fun K_ hK_ => ?_); (focus kernel_rfl); (focus kernel_rfl))); first | (simp (maxSteps := 1000000) (disch := refine hold_ ?_; first | (simp [z1, z2, z3, e1, e2, hc, str_eql, -List.getD_eq_getElem?_getD]; done) | omega) [z1, z2, z3, e1, e2, hc, str_eql, -List.getD_eq_getElem?_getD]; try first | (with_reducible refine zZ ?_) | subst hK_) | subst hK_) | (with_reducible first | refine zA ?_ | refine zB ?_ | refine zC ?_ | refine zD ?_ | refine zE ?_ | refine zF ?_ | refine zG ?_ | refine zH ?_ | refine zI ?_ | refine zJ ?_ | refine zK ?_ | refine zL ?_ | refine zM ?_ | refine zN ?_ | refine zO ?_) | ((with_reducible refine yG ?_ ?_); (focus decide)) | ((with_reducible refine yA ?_); refine yB rfl ?_; (with_reducible first | refine yC ?_ | refine yD ?_)))
    all_goals simp (maxSteps := 1000000) (disch := refine hold_ ?_; first | (simp [-List.getD_eq_getElem?_getD]; done) | omega) [-List.getD_eq_getElem?_getD]
set_option maxHeartbeats 10000000 in
theorem asides_ct (k : Int) (n d : List (BitVec 8)) (ha : n.length ≤ reachBytes) (hb : d.length ≤ reachBytes) : Fn Try.prog 6 [.int .i64 k, .str (txt n), .str (txt d)] [.p (.bool true)] := by
  have cw := awake_ct
  have z1 := txt_size n
  have z2 := txt_size d
  have hm : reachBytes = 140737488351232 := rfl
  rw [hm] at ha hb
  have e1 : IntKind.i64.wrap ((n.length : Int) + d.length) = (n.length : Int) + d.length := wrap_i64 _ (by omega) (by omega)
  refine Fn.of_body Try.func6 rfl ?_
  by_cases hc : 500 < (n.length : Int) + d.length
  · repeat (first | ((with_reducible first | refine callK_at 8 ?_); refine callK_p ?_; simp (maxSteps := 1000000) (disch := refine hold_ ?_; first | (simp [z1, z2, e1, hc, -List.getD_eq_getElem?_getD]; done) | omega) [z1, z2, e1, hc, -List.getD_eq_getElem?_getD]; (first | refine callK1_of (Fn.ct cw Try.call8) ?_); (try simp (maxSteps := 1000000) (disch := refine hold_ ?_; first | (simp [z1, z2, e1, hc, -List.getD_eq_getElem?_getD]; done) | omega) [z1, z2, e1, hc, -List.getD_eq_getElem?_getD]); try first | (with_reducible refine zZ ?_) | subst hK_) | ((first | (with_reducible first | refine zP fun K_ hK_ => ?_ | refine zQ fun K_ hK_ => ?_ | refine zT ?_ | refine zU ?_ | refine zV ?_ | refine zW ?_ | refine zX ?_ | refine zY ?_) | ((with_reducible first | refine zR ?_ ?_ fun K_ hK_ => ?_ | refine zS ?_ ?_ fun K_ hK_ => ?_); (focus kernel_rfl); (focus kernel_rfl))); first | (simp (maxSteps := 1000000) (disch := refine hold_ ?_; first | (simp [z1, z2, e1, hc, -List.getD_eq_getElem?_getD]; done) | omega) [z1, z2, e1, hc, -List.getD_eq_getElem?_getD]; try first | (with_reducible refine zZ ?_) | subst hK_) | subst hK_) | (with_reducible first | refine zA ?_ | refine zB ?_ | refine zC ?_ | refine zD ?_ | refine zE ?_ | refine zF ?_ | refine zG ?_ | refine zH ?_ | refine zI ?_ | refine zJ ?_ | refine zK ?_ | refine zL ?_ | refine zM ?_ | refine zN ?_ | refine zO ?_) | ((with_reducible refine yG ?_ ?_); (focus decide)) | ((with_reducible refine yA ?_); refine yB rfl ?_; (with_reducible first | refine yC ?_ | refine yD ?_)))
    all_goals simp (maxSteps := 1000000) (disch := refine hold_ ?_; first | (simp [-List.getD_eq_getElem?_getD]; done) | omega) [-List.getD_eq_getElem?_getD]
  · have c1 : Fn Try.prog 22 [.agg (.vals 1 [.int .i64 k, .int .i64 0, .str ByteArray.empty, .str (txt n), .str ByteArray.empty, .str (txt d), .sl (.vals 1 []) true, .sl (.vals 1 []) true])] [.p (.str (txt (asideL k n d)))] := aside_ct k n d (by omega)
    have c2 : Fn Try.prog 23 [.agg (.vals 1 [.int .i64 k, .int .i64 0, .str ByteArray.empty, .str (txt n), .str ByteArray.empty, .str (txt d), .sl (.vals 1 []) true, .sl (.vals 1 []) true])] [.p (.str (txt (asideL k n d)))] := raside_ct k n d (by omega)
    have hdp := deep_nod k n d
    generalize asideL k n d = T at *
    repeat (first | ((with_reducible refine Go.Av.AW.freezeAtB 4 7 ?_ ?_ fun K_ hK_ => ?_); (focus decide); (focus (simp; done)); simp (maxSteps := 1000000) (disch := refine hold_ ?_; first | (simp [z1, z2, e1, hc, str_eql, hdp, -List.getD_eq_getElem?_getD]; done) | omega) [z1, z2, e1, hc, str_eql, hdp, -List.getD_eq_getElem?_getD]; subst hK_) | ((with_reducible first | refine callK_at 8 ?_ | refine callK_at 22 ?_ | refine callK_at 23 ?_); refine callK_p ?_; simp (maxSteps := 1000000) (disch := refine hold_ ?_; first | (simp [z1, z2, e1, hc, str_eql, hdp, -List.getD_eq_getElem?_getD]; done) | omega) [z1, z2, e1, hc, str_eql, hdp, -List.getD_eq_getElem?_getD]; (first | ((with_reducible refine k1_at 8 ?_); refine callK1_of (Fn.ct cw Try.call8) ?_) | ((with_reducible refine k1_at 22 ?_); refine callK1_of (Fn.ct c1 Try.call22) ?_) | ((with_reducible refine k1_at 23 ?_); refine callK1_of (Fn.ct c2 Try.call23) ?_)); (try simp (maxSteps := 1000000) (disch := refine hold_ ?_; first | (simp [z1, z2, e1, hc, str_eql, hdp, -List.getD_eq_getElem?_getD]; done) | omega) [z1, z2, e1, hc, str_eql, hdp, -List.getD_eq_getElem?_getD]); try first | (with_reducible refine zZ ?_) | subst hK_) | ((first | (with_reducible first | refine zP fun K_ hK_ => ?_ | refine zQ fun K_ hK_ => ?_ | refine zT ?_ | refine zU ?_ | refine zV ?_ | refine zW ?_ | refine zX ?_ | refine zY ?_) | ((with_reducible first | refine zR ?_ ?_ fun K_ hK_ => ?_ | refine zS ?_ ?_ fun K_ hK_ => ?_); (focus kernel_rfl); (focus kernel_rfl))); first | (simp (maxSteps := 1000000) (disch := refine hold_ ?_; first | (simp [z1, z2, e1, hc, str_eql, hdp, -List.getD_eq_getElem?_getD]; done) | omega) [z1, z2, e1, hc, str_eql, hdp, -List.getD_eq_getElem?_getD]; try first | (with_reducible refine zZ ?_) | subst hK_) | subst hK_) | (with_reducible first | refine zA ?_ | refine zB ?_ | refine zC ?_ | refine zD ?_ | refine zE ?_ | refine zF ?_ | refine zG ?_ | refine zH ?_ | refine zI ?_ | refine zJ ?_ | refine zK ?_ | refine zL ?_ | refine zM ?_ | refine zN ?_ | refine zO ?_) | ((with_reducible refine yG ?_ ?_); (focus decide)) | ((with_reducible refine yA ?_); refine yB rfl ?_; (with_reducible first | refine yC ?_ | refine yD ?_)))
    all_goals simp (maxSteps := 1000000) (disch := refine hold_ ?_; first | (simp [-List.getD_eq_getElem?_getD]; done) | omega) [-List.getD_eq_getElem?_getD]
theorem writes_law (s : ByteArray) (h1 : s.size ≤ reachBytes) (t : ByteArray) (h2 : t.size ≤ reachBytes) (u : ByteArray) (h3 : u.size ≤ reachBytes) : Fn Try.prog 5 [.str s, .str t, .str u] [.p (.bool true)] := by
  obtain ⟨a, rfl⟩ := txt_of s
  obtain ⟨b, rfl⟩ := txt_of t
  obtain ⟨v, rfl⟩ := txt_of u
  rw [txt_size] at h1 h2 h3
  exact writes_ct a b v h1 h2 h3
theorem aside_law (k : Int) (_ : (Lit.int .i64 k).wf = true) (s : ByteArray) (h1 : s.size ≤ reachBytes) (t : ByteArray) (h2 : t.size ≤ reachBytes) : Fn Try.prog 6 [.int .i64 k, .str s, .str t] [.p (.bool true)] := by
  obtain ⟨a, rfl⟩ := txt_of s
  obtain ⟨b, rfl⟩ := txt_of t
  rw [txt_size] at h1 h2
  exact asides_ct k a b h1 h2
end Go.Av.Can
end

section
namespace Go.Proofs.Ytkejhcogjmaleaa
open Go Go.Av Go.Av.Can
/-- No package variable is read. -/
theorem noVars (W : World) : ∀ g r, Tables.gl g = some r → RepP (cellsOf W) (.eptr r 0 0) (.pointer (some ⟨g, 0, none⟩)) := fun g r h => by cases h
end Go.Proofs.Ytkejhcogjmaleaa
end
