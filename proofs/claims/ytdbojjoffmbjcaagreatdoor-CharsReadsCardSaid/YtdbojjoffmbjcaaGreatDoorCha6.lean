/- The walks of this seat's functions, and what is known of what they reckon (Cha6). Conditions: those that each theorem names. -/
import Derived.Test.YtdbojjoffmbjcaaGreatDoorCha5
import Derived.WalkKit
import Derived.Tactics
import Derived.Tactics2
import Derived.Defers
import Derived.Laws.Pointers
import Derived.Laws.LoneSync
import Derived.Laws.NewBlocks
import Derived.RegionTactic
import Derived.RegionCalls
import Derived.ChangeAlike
import Derived.Deep.AppendSrc
import Derived.Lib.AppendZeros
section
set_option linter.unusedSimpArgs false
set_option linter.unusedVariables false
set_option linter.unusedSectionVars false
namespace Go.Av.Cha
open Go Go.Av Go.Proofs
variable [ML]
theorem disable (w : World) : (callFunc 86 #[]).run Tryz.prog w = .ok (.value (.tuple #[])) w := run_call_mark0 Tryz.func86 (by kernel_rfl) (by kernel_rfl) (by kernel_rfl) .disable (by kernel_rfl) w
theorem enable (w : World) : (callFunc 88 #[]).run Tryz.prog w = .ok (.value (.tuple #[])) w := run_call_mark0 Tryz.func88 (by kernel_rfl) (by kernel_rfl) (by kernel_rfl) .enable (by kernel_rfl) w
theorem acquire (a : Addr) (w : World) : (callFunc 89 #[.pointer (some a)]).run Tryz.prog w = .ok (.value (.tuple #[])) w := run_call_marked Tryz.func89 (by kernel_rfl) (by kernel_rfl) (by kernel_rfl) .acquire (by kernel_rfl) a w
theorem releaseMerge (a : Addr) (w : World) : (callFunc 91 #[.pointer (some a)]).run Tryz.prog w = .ok (.value (.tuple #[])) w := run_call_marked Tryz.func91 (by kernel_rfl) (by kernel_rfl) (by kernel_rfl) .releaseMerge (by kernel_rfl) a w
set_option maxRecDepth 100000 in
set_option maxHeartbeats 1600000 in
theorem store_deferred (a : Addr) (x : Value) (u : FrameMode) (w : World) (hc : w.cell? a = some x) (hz : w.frozen? a = false) :
    CallsD Tryz.prog 63 #[.pointer (some a), .bool true] u w fun e u' w' => u' = u ∧ (e = .returned (.tuple #[]) ∧ w' = w.drew.setCell a (.int .u32 1)) := by
  have hc' : w.drew.cell? a = some x := by go_simp
  have hz' : w.drew.frozen? a = false := by go_simp
  have hst := run_call_store (P := Tryz.prog) Tryz.func79 (by kernel_rfl) (by kernel_rfl) (by kernel_rfl) (by kernel_rfl) (k := .u32) (y := 1) hc' hz'
  go_enter_d Tryz.func63, Tryz.ntmps63
  go_wp2
  go_region_calls
  all_goals (go_end0; exact ⟨rfl, rfl⟩)
set_option maxRecDepth 100000 in
set_option maxHeartbeats 1600000 in
theorem unlock_deferred (a : Addr) (u : FrameMode) (w : World) (hc : w.cell? a = some (.int .i32 1)) (hz : w.frozen? a = false) :
    CallsD Tryz.prog 62 #[.pointer (some a)] u w fun e u' w' => u' = u ∧ (e = .returned (.tuple #[]) ∧ w' = w.setCell a (.int .i32 0)) := by
  have hd := disable
  have he := enable
  have hr := releaseMerge
  have hadd := run_call_add (P := Tryz.prog) Tryz.func92 (by kernel_rfl) (by kernel_rfl) (by kernel_rfl) .i32 (by kernel_rfl) (y := -1) (s := 0) hc hz (by simp [go_sem]; rfl)
  have hcv := run_convert_to_unsafe (P := Tryz.prog) (src := 128) (dst := 87) Tryz.underlying128 Tryz.underlying87 (by kernel_rfl) hc
  go_enter_d Tryz.func62, Tryz.ntmps62
  go_wp2
  go_end0
  go_wp2
  go_end0
  exact ⟨rfl, rfl⟩
set_option maxRecDepth 100000 in
set_option maxHeartbeats 1600000 in
theorem lock_free (a : Addr) (w : World) (hc : w.cell? a = some (.int .i32 0)) (hz : w.frozen? a = false) :
    Calls Tryz.prog 61 #[.pointer (some a)] w fun e w' => e = .returned (.tuple #[]) ∧ w' = w.setCell a (.int .i32 1) := by
  have hd := disable
  have he := enable
  have ha := acquire
  have hcas := run_call_cas_hit (P := Tryz.prog) Tryz.func87 (by kernel_rfl) (by kernel_rfl) (by kernel_rfl) .i32 (by kernel_rfl) (y := 1) hc hz
  have hc' : (w.setCell a (.int .i32 1)).cell? a = some (.int .i32 1) := World.cell?_setCell_same w a _ hc
  have hcv := run_convert_to_unsafe (P := Tryz.prog) (src := 128) (dst := 87) Tryz.underlying128 Tryz.underlying87 (by kernel_rfl) hc'
  go_enter Tryz.func61, Tryz.ntmps61
  go_wp2
  first | go_end0 | (simp only [Exit.inBlock, Exit.then]; refine bodyPost_ret (results_none rfl _ _ _) rfl ?_) | refine bodyPost_ret (results_none rfl _ _ _) rfl ?_
  go_wp2
  go_end0
  exact ⟨rfl, rfl⟩
set_option maxRecDepth 100000 in
set_option maxHeartbeats 1600000 in
theorem do_done (a : Addr) (d : Int) (hd : ¬ d = 0) (fv : Value) (w : World) (h0 : w.cell? a = some (.int .u32 d)) :
    Calls Tryz.prog 28 #[.pointer (some a), fv] w fun e w' => e = .returned (.tuple #[]) ∧ w' = w := by
  have hl := run_call_load (P := Tryz.prog) Tryz.func60 (by kernel_rfl) (by kernel_rfl) (by kernel_rfl) .u32 (by kernel_rfl) h0
  have hnot : ∀ (x : Bool) (w : World), (Op.unary .not (.bool x)).run Tryz.prog w = .ok (.bool (!x)) w := fun _ _ => rfl
  have hd' : (d != 0) = true := by simp [hd]
  go_enter Tryz.func28, Tryz.ntmps28
  go_wp2
  go_end0
  exact ⟨rfl, rfl⟩
structure Built (b : Nat) (x : Value) (w : World) : Prop where
  c0 : w.cell? ⟨b, 0, none⟩ = some (.int .u32 0)
  c1 : w.cell? ⟨b, 1, none⟩ = some (.int .i32 1)
  c3 : (w.cell? ⟨b, 3, none⟩).isSome = true
  c4 : (w.cell? ⟨b, 4, none⟩).isSome = true
  fz : ∀ i, i < 5 → w.frozen? ⟨b, i, none⟩ = false
  ifc : ∃ t v, x = .iface t v
structure Once (b : Nat) (w : World) : Prop where
  c0 : w.cell? ⟨b, 0, none⟩ = some (.int .u32 0)
  c1 : w.cell? ⟨b, 1, none⟩ = some (.int .i32 1)
  f0 : w.frozen? ⟨b, 0, none⟩ = false
  f1 : w.frozen? ⟨b, 1, none⟩ = false
set_option maxRecDepth 100000 in
set_option maxHeartbeats 1600000 in
theorem once_ct (b : Nat) (Post : Value → World → Prop) (w : World) (hB : Calls Tryz.prog 44 #[.pointer (some ⟨b, 0, none⟩)] w fun e w' => ∃ x, e = .returned x ∧ Post x w') (hP : ∀ x w', Post x w' → Built b x w') :
    Calls Tryz.prog 29 #[.pointer (some ⟨b, 0, none⟩)] w fun e w'' => e = .returned (.tuple #[]) ∧ ∃ x w', Post x w' ∧ w'' = (w'.setCell ⟨b, 3, none⟩ x).setCell ⟨b, 4, none⟩ (.slice none 0 0) := by
  go_enter Tryz.func29, Tryz.ntmps29
  go_wp2_with (go_at_call 44; refine hB.mono ?_; rintro e w' ⟨x, rfl, hpost⟩; have hb := hP x w' hpost; have q3 := hb.fz 3 (by decide); have q4 := hb.fz 4 (by decide); obtain ⟨t0, v0, rfl⟩ := hb.ifc; obtain ⟨y3, hy3⟩ := Option.isSome_iff_exists.1 hb.c3; obtain ⟨y4, hy4⟩ := Option.isSome_iff_exists.1 hb.c4)
  go_end0
  exact ⟨rfl, _, w', hpost, rfl⟩
set_option maxRecDepth 100000 in
set_option maxHeartbeats 1600000 in
theorem slow_once (b : Nat) (Post : World → Prop) (w : World) (h0 : w.cell? ⟨b, 0, none⟩ = some (.int .u32 0)) (h1 : w.cell? ⟨b, 1, none⟩ = some (.int .i32 0))
    (f1 : w.frozen? ⟨b, 1, none⟩ = false)
    (hB : Calls Tryz.prog 29 #[.pointer (some ⟨b, 0, none⟩)] (w.setCell ⟨b, 1, none⟩ (.int .i32 1)) fun e w' => e = .returned (.tuple #[]) ∧ Post w')
    (hP : ∀ w', Post w' → Once b w') :
    Calls Tryz.prog 43 #[.pointer (some ⟨b, 0, none⟩), .func (.func 29) #[.pointer (some ⟨b, 0, none⟩)] #[]] w fun e w'' => e = .returned (.tuple #[]) ∧
      ∃ w', Post w' ∧ w'' = (w'.drew.setCell ⟨b, 0, none⟩ (.int .u32 1)).setCell ⟨b, 1, none⟩ (.int .i32 0) := by
  have hl := run_call_load (P := Tryz.prog) Tryz.func60 (by kernel_rfl) (by kernel_rfl) (by kernel_rfl) .u32 (by kernel_rfl) (w := w.setCell ⟨b, 1, none⟩ (.int .i32 1)) (a := ⟨b, 0, none⟩) (x := 0) ((World.cell?_setCell_other _ ⟨b, 1, none⟩ ⟨b, 0, none⟩ _ (by simp)).trans h0)
  have hnot : ∀ (x : Bool) (w : World), (Op.unary .not (.bool x)).run Tryz.prog w = .ok (.bool (!x)) w := fun _ _ => rfl
  go_enter_defers Tryz.func43, Tryz.ntmps43
  go_wp2_with (first | (go_at_call 61; refine (lock_free ⟨b, 1, none⟩ _ (by go_simp) (by go_simp)).mono ?_; rintro e w' ⟨rfl, rfl⟩) | (refine hB.mono ?_; rintro e w' ⟨rfl, hpost⟩; have hb := hP w' hpost) | (go_at_call 42; go_in))
  go_wp2
  refine leaves_cons (f := 63) (args := #[.pointer (some ⟨b, 0, none⟩), .bool true]) (by simp) (by simp [go_sem]) ?_
  refine (store_deferred ⟨b, 0, none⟩ (.int .u32 0) .returning _ hb.c0 hb.f0).mono ?_
  rintro e u' w'' ⟨rfl, rfl, rfl⟩
  refine leaves_cons (f := 62) (args := #[.pointer (some ⟨b, 1, none⟩)]) (by simp [settle]) (by simp [go_sem]) ?_
  have hf1 := hb.f1
  refine (unlock_deferred ⟨b, 1, none⟩ _ _ ?_ (by simp [hf1])).mono ?_
  · refine (World.cell?_setCell_other _ ⟨b, 0, none⟩ ⟨b, 1, none⟩ _ (by simp)).trans ?_
    rw [World.cell?_drew]
    exact hb.c1
  rintro e u' w'' ⟨rfl, rfl, rfl⟩
  simp [Leaves, settle, results, Tryz.results43]
  exact ⟨w', hpost, rfl⟩
set_option maxRecDepth 100000 in
set_option maxHeartbeats 1600000 in
theorem do_first (b : Nat) (Post : World → Prop) (w : World) (h0 : w.cell? ⟨b, 0, none⟩ = some (.int .u32 0)) (h1 : w.cell? ⟨b, 1, none⟩ = some (.int .i32 0)) (f1 : w.frozen? ⟨b, 1, none⟩ = false)
    (hB : Calls Tryz.prog 29 #[.pointer (some ⟨b, 0, none⟩)] (w.setCell ⟨b, 1, none⟩ (.int .i32 1)) fun e w' => e = .returned (.tuple #[]) ∧ Post w')
    (hP : ∀ w', Post w' → Once b w') :
    Calls Tryz.prog 28 #[.pointer (some ⟨b, 0, none⟩), .func (.func 29) #[.pointer (some ⟨b, 0, none⟩)] #[]] w fun e w'' => e = .returned (.tuple #[]) ∧
      ∃ w', Post w' ∧ w'' = (w'.drew.setCell ⟨b, 0, none⟩ (.int .u32 1)).setCell ⟨b, 1, none⟩ (.int .i32 0) := by
  have hl := run_call_load (P := Tryz.prog) Tryz.func60 (by kernel_rfl) (by kernel_rfl) (by kernel_rfl) .u32 (by kernel_rfl) h0
  have hnot : ∀ (x : Bool) (w : World), (Op.unary .not (.bool x)).run Tryz.prog w = .ok (.bool (!x)) w := fun _ _ => rfl
  go_enter Tryz.func28, Tryz.ntmps28
  go_wp2_with (first | (go_at_call 43; refine (slow_once b Post _ h0 h1 f1 hB hP).mono ?_; rintro e w'' ⟨rfl, w', hpost, rfl⟩) | (go_at_call 42; go_in))
  go_end0
  exact ⟨rfl, w', hpost, rfl⟩
end Go.Av.Cha
end
section
set_option linter.unusedSimpArgs false
set_option linter.unusedVariables false
set_option linter.unusedSectionVars false
namespace Go.Av.Cha
open Go Go.Av Go.Proofs
variable [ML]
theorem FnG.turn {P : Program} {f : FuncId} {args res : List V} {ins outs : List HB} {n0 n1 : Nat} (hf : FnG P f args ins n0 res outs n1) {G : Gh} {h : HT} {w : World} (wf : WF G h w)
    (hg : ∀ g r, Tables.gl g = some r → RepP (pm G w) (.eptr r 0 0) (.pointer (some ⟨g, 0, none⟩))) (E : List V) (vs : List Value) (d : Nat) (hl : E.length = vs.length)
    (hr : ∀ i, i < E.length → Rep G h w (E.getD i .junk) (vs.getD i undef)) (h1 : lendArgs h E = args) (h2 : lendIns h E = ins) (h3 : (lendB h E).length = n0) :
    Calls P f vs.toArray w fun e w' => ∃ u, e = .returned u ∧ TurnedTo G h w (backV h E d res outs n1) (backH h E d outs n1) u w' := by
  subst h1 h2 h3
  refine (hf _ _ _ (lend_goes wf hg E vs hl hr)).mono ?_
  rintro e w' ⟨v, rfl, hc⟩
  exact ⟨v, rfl, call_back wf E d hc⟩
theorem build_turn {G : Gh} {h : HT} {w : World} (wf : WF G h w) (hg : ∀ g r, Tables.gl g = some r → RepP (pm G w) (.eptr r 0 0) (.pointer (some ⟨g, 0, none⟩))) {id c : Nat} (hl : look h.H id = some (c, rpl 0 1 .iface0 (.p (.sl (.strs oldB) false)))) :
    Calls Tryz.prog 44 #[.pointer (some ⟨G.ι id, 0, none⟩)] w fun e w' => ∃ u, e = .returned u ∧
      TurnedTo G h w (.p (.ifc 100 tabP)) ⟨upd h.H id (c, rpl 0 1 .iface0 (.p (.sl (.strs oldB) false))), h.T⟩ u w' := by
  have hre : reach h.H 400 [] [.ptr id c 0] = [id] := by simp [reach, hl, rpl, HB.list]
  have h0 := FnG.turn build_ct wf hg [.ptr id c 0] [.pointer (some ⟨G.ι id, 0, none⟩)] 0 rfl (by
    intro i hi
    obtain rfl : i = 0 := by simpa using hi
    exact .ptr id c 0 c _ _ hl (Nat.le_refl _) (fun _ => rfl))
    (by simp [lendArgs, lendFo, lendA, numb, nmO, look, hl, V.rens, V.ren, rpl, reach, HB.list])
    (by simp [lendIns, lendFo, lendA, hre, numb, nmO, look, hl, insOf, HB.ren, rpl, V.rens, V.ren])
    (by simp [lendB, hre, heldBy, hl, rpl, HB.list, V.tokl, V.toks, numb])
  have eV : backV h [.ptr id c 0] 0 [.p (.ifc 100 tabP)] [rpl 0 1 .iface0 (.p (.sl (.strs oldB) false))] 0 = .p (.ifc 100 tabP) := by
    simp [backV, retV, V.ren]
  have eH : backH h [.ptr id c 0] 0 [rpl 0 1 .iface0 (.p (.sl (.strs oldB) false))] 0 = ⟨upd h.H id (c, rpl 0 1 .iface0 (.p (.sl (.strs oldB) false))), h.T⟩ := by
    simp [backH, hre, setObjs, curO, hl, HB.ren, rpl, V.rens, V.ren, impT, backT1, lendToks, heldBy, HB.list, V.tokl, V.toks, bumpAll]
  rw [eV, eH] at h0
  exact h0
theorem rpl_block {G : Gh} {h : HT} {w : World} (wf : WF G h w) {id c : Nat} {a b : Int} {x : PV} {l : PV} (hl : look h.H id = some (c, rpl a b x (.p l))) :
    ∃ vs ty fz, w.heap[G.ι id]? = some (.cells vs ty fz) ∧ vs.size = 5 ∧ w.cell? ⟨G.ι id, 0, none⟩ = some (.int .u32 a) ∧ w.cell? ⟨G.ι id, 1, none⟩ = some (.int .i32 b) ∧ w.cell? ⟨G.ι id, 2, none⟩ = some (.int .u32 0) ∧
      (∃ v, w.cell? ⟨G.ι id, 3, none⟩ = some v ∧ RepP (pm G w) x v) ∧ (∃ v, w.cell? ⟨G.ι id, 4, none⟩ = some v ∧ v.oneCell' = true ∧ RepP (pm G w) l v) ∧ ∀ i, i < 5 → w.frozen? ⟨G.ι id, i, none⟩ = false := by
  obtain ⟨o1, o2, vs, ty, fz, h1, h2, h3, h4⟩ := wf.objs id c _ hl
  simp only [rpl, HB.size, List.length_cons, List.length_nil] at h2 h3 h4
  have hc : ∀ i, w.cell? ⟨G.ι id, i, none⟩ = vs[i]? := fun i => cell_of_block h1
  refine ⟨vs, ty, fz, h1, h2, ?_, ?_, ?_, ?_, ?_, h4⟩
  · obtain ⟨v, q1, q2, q3⟩ := h3 0 (by decide)
    rw [hc, q1]; cases q3 with | p q3 => cases q3; rfl
  · obtain ⟨v, q1, q2, q3⟩ := h3 1 (by decide)
    rw [hc, q1]; cases q3 with | p q3 => cases q3; rfl
  · obtain ⟨v, q1, q2, q3⟩ := h3 2 (by decide)
    rw [hc, q1]; cases q3 with | p q3 => cases q3; rfl
  · obtain ⟨v, q1, q2, q3⟩ := h3 3 (by decide)
    refine ⟨v, by rw [hc, q1], ?_⟩
    cases q3 with | p q3 => exact q3
  · obtain ⟨v, q1, q2, q3⟩ := h3 4 (by decide)
    refine ⟨v, by rw [hc, q1], q2, ?_⟩
    cases q3 with | p q3 => exact q3
set_option maxRecDepth 100000 in
set_option maxHeartbeats 1600000 in
theorem replace_walk (b : Nat) (s : ByteArray) (Post : Value → World → Prop) (Fin : Value → World → Prop) (w : World) (h0 : w.cell? ⟨b, 0, none⟩ = some (.int .u32 0)) (h1 : w.cell? ⟨b, 1, none⟩ = some (.int .i32 0)) (f1 : w.frozen? ⟨b, 1, none⟩ = false)
    (hB : Calls Tryz.prog 44 #[.pointer (some ⟨b, 0, none⟩)] (w.setCell ⟨b, 1, none⟩ (.int .i32 1)) fun e w' => ∃ x, e = .returned x ∧ Post x w')
    (hP : ∀ x w', Post x w' → Built b x w')
    (hF : ∀ x w', Post x w' → ∃ v, x = .iface 100 v ∧ Calls Tryz.prog 126 #[v, .string s] ((((w'.setCell ⟨b, 3, none⟩ x).setCell ⟨b, 4, none⟩ (.slice none 0 0)).drew.setCell ⟨b, 0, none⟩ (.int .u32 1)).setCell ⟨b, 1, none⟩ (.int .i32 0)) fun e w'' => ∃ u, e = .returned u ∧ Fin u w'') :
    Calls Tryz.prog 18 #[.pointer (some ⟨b, 0, none⟩), .string s] w fun e w' => ∃ u, e = .returned u ∧ Fin u w' := by
  have hmf : ∀ (fn : Go.Fn) (first cap : Array Value) (w : World), (Instr.makeFunc fn first cap).run Tryz.prog w = .ok (.func fn first cap) w := fun _ _ _ _ => rfl
  have hO := once_ct b Post _ hB hP
  have hOn : ∀ w', (∃ x w1, Post x w1 ∧ w' = (w1.setCell ⟨b, 3, none⟩ x).setCell ⟨b, 4, none⟩ (.slice none 0 0)) → Once b w' := by
    rintro w' ⟨x, w1, hp, rfl⟩
    have hb := hP x w1 hp
    have q0 := hb.fz 0 (by decide)
    have q1 := hb.fz 1 (by decide)
    refine ⟨?_, ?_, by simp [q0], by simp [q1]⟩
    · rw [World.cell?_setCell_other _ _ _ _ (by simp), World.cell?_setCell_other _ _ _ _ (by simp)]; exact hb.c0
    · rw [World.cell?_setCell_other _ _ _ _ (by simp), World.cell?_setCell_other _ _ _ _ (by simp)]; exact hb.c1
  have hW3 : ∀ x w1, Post x w1 → ((((w1.setCell ⟨b, 3, none⟩ x).setCell ⟨b, 4, none⟩ (.slice none 0 0)).drew.setCell ⟨b, 0, none⟩ (.int .u32 1)).setCell ⟨b, 1, none⟩ (.int .i32 0)).cell? ⟨b, 3, none⟩ = some x := by
    intro x w1 hp
    have hb := hP x w1 hp
    obtain ⟨y, hy⟩ := Option.isSome_iff_exists.1 hb.c3
    rw [World.cell?_setCell_other _ _ _ _ (by simp), World.cell?_setCell_other _ _ _ _ (by simp), World.cell?_drew, World.cell?_setCell_other _ _ _ _ (by simp)]
    exact World.cell?_setCell_same _ _ _ hy
  have hM : ∀ (v : Value) (W : World), Sem.run Tryz.prog (method 270 100 v "Replace") W = .ok (126, v) W := fun v W => by kernel_rfl
  go_enter Tryz.func18, Tryz.ntmps18
  go_wp2_with (first | (go_at_call 28; refine (do_first b _ _ h0 h1 f1 hO hOn).mono ?_; rintro e w'' ⟨rfl, w2, ⟨x, w1, hpost, rfl⟩, rfl⟩; have c3 := hW3 x w1 hpost; obtain ⟨v, rfl, hcall⟩ := hF x w1 hpost; generalize ((((w1.setCell ⟨b, 3, none⟩ (Value.iface 100 v)).setCell ⟨b, 4, none⟩ (.slice none 0 0)).drew.setCell ⟨b, 0, none⟩ (.int .u32 1)).setCell ⟨b, 1, none⟩ (.int .i32 0)) = W at *) | (go_at_call 126; refine hcall.mono ?_; rintro e w'' ⟨u, rfl, hfin⟩))
  go_ret
  exact ⟨u, rfl, hfin⟩
end Go.Av.Cha
end
section
set_option linter.unusedSimpArgs false
set_option linter.unusedVariables false
set_option linter.unusedSectionVars false
namespace Go.Av.Cha
open Go Go.Av Go.Proofs
variable [ML]
def nilS : V := .p (.sl (.vals 1 []) true)
theorem rpl_turned {G : Gh} {h : HT} {w : World} (wf : WF G h w) {id c : Nat} {a b : Int} {x : PV} {l : PV} (hl : look h.H id = some (c, rpl a b x (.p l))) {vs : Array Value} {ty : TypeId} {fz : Nat × Nat}
    (hblk : w.heap[G.ι id]? = some (.cells vs ty fz)) (hsz : vs.size = 5) (hfz : ∀ i, i < 5 → w.frozen? ⟨G.ι id, i, none⟩ = false) (a' b' : Int) (x' l' : PV) (vx vl : Value)
    (h1 : vx.oneCell' = true) (h2 : vl.oneCell' = true) (hx : RepP (pm G w) x' vx) (hv : RepP (pm G w) l' vl) (w' : World) (hw : SameW w' (World.withRow w (G.ι id) #[.int .u32 a', .int .i32 b', .int .u32 0, vx, vl] ty fz)) :
    Keeps G h w G ⟨upd h.H id (c, rpl a' b' x' (.p l')), h.T⟩ w' ∧ Ext G w G w' ∧ WF G ⟨upd h.H id (c, rpl a' b' x' (.p l')), h.T⟩ w' := by
  obtain ⟨k1, k2, k3⟩ := turned (vs' := #[.int .u32 a', .int .i32 b', .int .u32 0, vx, vl]) (hb' := rpl a' b' x' (.p l')) wf hl rfl rfl ⟨vs, hblk, by rw [hsz]; rfl⟩ (by intro i hi; exact hfz i (by simpa [rpl, HB.size] using hi)) (by
    intro i hi
    have hi : i < 5 := hi
    match i, hi with
    | 0, _ => exact ⟨_, rfl, rfl, .p (.int _ _)⟩
    | 1, _ => exact ⟨_, rfl, rfl, .p (.int _ _)⟩
    | 2, _ => exact ⟨_, rfl, rfl, .p (.int _ _)⟩
    | 3, _ => exact ⟨_, rfl, h1, .p hx⟩
    | 4, _ => exact ⟨_, rfl, h2, .p hv⟩)
  exact ⟨keeps_heap hw.heap k1, ext_same hw k2, wf_heap hw.heap k3⟩
theorem five {vs : Array Value} (h : vs.size = 5) {a b c d e : Value} (h0 : vs[0]? = some a) (h1 : vs[1]? = some b) (h2 : vs[2]? = some c) (h3 : vs[3]? = some d) (h4 : vs[4]? = some e) : vs = #[a, b, c, d, e] := by
  apply Array.ext_getElem?
  intro i
  by_cases hi : i < 5
  · match i, hi with
    | 0, _ => exact h0
    | 1, _ => exact h1
    | 2, _ => exact h2
    | 3, _ => exact h3
    | 4, _ => exact h4
  · rw [Array.getElem?_eq_none (by omega), Array.getElem?_eq_none (by simp; omega)]
theorem br_turn (l : List (BitVec 8)) (hl : l.length ≤ 4000000) {G : Gh} {h : HT} {w : World} (wf : WF G h w) (hg : ∀ g r, Tables.gl g = some r → RepP (pm G w) (.eptr r 0 0) (.pointer (some ⟨g, 0, none⟩))) {v : Value} (hv : RepP (pm G w) tabP v) :
    Calls Tryz.prog 126 #[v, .string (txt l)] w fun e w' => ∃ u, e = .returned u ∧ TurnedTo G h w (.p (.str (txt (l.map blk)))) h u w' := by
  have hre : reach h.H 400 [] [V.p tabP, V.p (.str (txt l))] = [] := by simp [reach]
  have h0 := FnG.turn (br_ct l hl) wf hg [.p tabP, .p (.str (txt l))] [v, .string (txt l)] 0 rfl (by
    intro i hi
    have hi : i < 2 := hi
    match i, hi with
    | 0, _ => exact .p hv
    | 1, _ => exact .p (.str _))
    (by simp [lendArgs, V.rens, V.ren])
    (by simp [lendIns, reach, insOf])
    (by simp [lendB, reach, heldBy, V.tokl, V.toks, numb])
  have eV : backV h [V.p tabP, V.p (.str (txt l))] 0 [.p (.str (txt (l.map blk)))] [] 0 = .p (.str (txt (l.map blk))) := by simp [backV, retV, V.ren]
  have eH : backH h [V.p tabP, V.p (.str (txt l))] 0 [] 0 = h := by
    simp [backH, reach, setObjs, impT, backT1, lendToks, heldBy, V.tokl, V.toks, bumpAll]
  rw [eV, eH] at h0
  exact h0
end Go.Av.Cha
end
section
set_option linter.unusedSimpArgs false
set_option linter.unusedVariables false
set_option linter.unusedSectionVars false
namespace Go.Av.Cha
open Go Go.Av Go.Proofs
variable [ML]
theorem sameW_refl (w : World) : SameW w w := ⟨rfl, rfl, rfl, rfl⟩
theorem TurnedTo.ifc {G : Gh} {h h' : HT} {w w' : World} {u : Value} {t : TypeId} {x : PV} (q : TurnedTo G h w (.p (.ifc t x)) h' u w') : ∃ G' v, u = .iface t v ∧ RepP (pm G' w') x v ∧ Keeps G h w G' h' w' ∧ Ext G w G' w' ∧ WF G' h' w' := by
  obtain ⟨G', q1, q2, q3, q4⟩ := q
  cases q1 with
  | p q1 =>
    cases q1 with
    | ifc _ _ v hv => exact ⟨G', v, rfl, hv, q2, q3, q4⟩
set_option maxHeartbeats 4000000 in
theorem repl_run {G : Gh} {h : HT} {w : World} (wf : WF G h w) (hg : ∀ g r, Tables.gl g = some r → RepP (pm G w) (.eptr r 0 0) (.pointer (some ⟨g, 0, none⟩))) {id c : Nat} (hl : look h.H id = some (c, rpl 0 0 .iface0 (.p (.sl (.strs oldB) false)))) (l : List (BitVec 8)) (hlen : l.length ≤ 4000000) :
    Calls Tryz.prog 18 #[.pointer (some ⟨G.ι id, 0, none⟩), .string (txt l)] w fun e w' => ∃ u, e = .returned u ∧
      TurnedTo G h w (.p (.str (txt (l.map blk)))) ⟨upd h.H id (c, rpl 1 0 (.ifc 100 tabP) nilS), h.T⟩ u w' := by
  obtain ⟨vs, ty, fz, hblk, hsz, c0, c1, c2, ⟨v3, c3, r3⟩, ⟨v4, c4, o4, r4⟩, hfz⟩ := rpl_block wf hl
  have hcv : ∀ i, w.cell? ⟨G.ι id, i, none⟩ = vs[i]? := fun i => cell_of_block hblk
  have hv3 : v3 = .nilIface := by cases r3; rfl
  have hvs := five hsz ((hcv 0).symm.trans c0) ((hcv 1).symm.trans c1) ((hcv 2).symm.trans c2) ((hcv 3).symm.trans c3) ((hcv 4).symm.trans c4)
  have hw1 : w.setCell ⟨G.ι id, 1, none⟩ (.int .i32 1) = World.withRow w (G.ι id) #[.int .u32 0, .int .i32 1, .int .u32 0, v3, v4] ty fz := by
    rw [setCell_row hblk, hvs]; rfl
  obtain ⟨k1, e1, wf1⟩ := rpl_turned wf hl hblk hsz hfz 0 1 .iface0 (.sl (.strs oldB) false) v3 v4 (by rw [hv3]; rfl) o4 r3 r4 (w.setCell ⟨G.ι id, 1, none⟩ (.int .i32 1)) (by rw [hw1]; exact sameW_refl _)
  have hl1 : look (upd h.H id (c, rpl 0 1 .iface0 (.p (.sl (.strs oldB) false)))) id = some (c, rpl 0 1 .iface0 (.p (.sl (.strs oldB) false))) := look_upd_same _ _ _
  have hB := build_turn wf1 (fun g r hr => (hg g r hr).mono k1.mem) hl1
  generalize hw1' : w.setCell ⟨G.ι id, 1, none⟩ (.int .i32 1) = w1 at *
  have key : ∀ (G2 : Gh) (w2 : World), Keeps G ⟨upd h.H id (c, rpl 0 1 .iface0 (.p (.sl (.strs oldB) false))), h.T⟩ w1 G2 ⟨upd (upd h.H id (c, rpl 0 1 .iface0 (.p (.sl (.strs oldB) false)))) id (c, rpl 0 1 .iface0 (.p (.sl (.strs oldB) false))), h.T⟩ w2 → G2.ι id = G.ι id := by
    intro G2 w2 k
    obtain ⟨cur', hb', q1, q2, q3⟩ := k.objs id c _ hl1
    simp only at q1
    rw [look_upd_same] at q1
    simp only [Option.some.injEq, Prod.mk.injEq] at q1
    exact q3 q1.1.symm
  refine replace_walk (G.ι id) (txt l) _ (fun u w'' => TurnedTo G h w (.p (.str (txt (l.map blk)))) ⟨upd h.H id (c, rpl 1 0 (.ifc 100 tabP) nilS), h.T⟩ u w'') w c0 c1 (hfz 1 (by decide)) (by rw [hw1']; exact hB) ?_ ?_
  · intro x w2 hx
    obtain ⟨G2, v, rfl, hv, k2, e2, wf2⟩ := TurnedTo.ifc hx
    have hι := key G2 w2 k2
    obtain ⟨vs2, ty2, fz2, hblk2, hsz2, d0, d1, d2, ⟨u3, d3, _⟩, ⟨u4, d4, _, _⟩, hfz2⟩ := rpl_block wf2 (look_upd_same _ _ _)
    rw [hι] at d0 d1 d3 d4 hfz2
    exact ⟨d0, d1, by rw [d3]; rfl, by rw [d4]; rfl, fun i hi => hfz2 i (by omega), ⟨_, _, rfl⟩⟩
  · intro x w2 hx
    obtain ⟨G2, v, rfl, hv, k2, e2, wf2⟩ := TurnedTo.ifc hx
    have hι := key G2 w2 k2
    refine ⟨v, rfl, ?_⟩
    obtain ⟨vs2, ty2, fz2, hblk2, hsz2, d0, d1, d2, ⟨u3, d3, _⟩, ⟨u4, d4, _, _⟩, hfz2⟩ := rpl_block wf2 (look_upd_same _ _ _)
    have hcv2 : ∀ i, w2.cell? ⟨G2.ι id, i, none⟩ = vs2[i]? := fun i => cell_of_block hblk2
    have hvs2 := five hsz2 ((hcv2 0).symm.trans d0) ((hcv2 1).symm.trans d1) ((hcv2 2).symm.trans d2) ((hcv2 3).symm.trans d3) ((hcv2 4).symm.trans d4)
    rw [← hι]
    have hlt2 : G2.ι id < w2.heap.size := lt_of_get hblk2
    have hW : SameW ((((w2.setCell ⟨G2.ι id, 3, none⟩ (.iface 100 v)).setCell ⟨G2.ι id, 4, none⟩ (.slice none 0 0)).drew.setCell ⟨G2.ι id, 0, none⟩ (.int .u32 1)).setCell ⟨G2.ι id, 1, none⟩ (.int .i32 0))
        (World.withRow w2 (G2.ι id) #[.int .u32 1, .int .i32 0, .int .u32 0, .iface 100 v, .slice none 0 0] ty2 fz2) := by
      rw [setCell_row hblk2, setCell_row (withRow_get hlt2), withRow_twice]
      generalize hw3 : World.withRow w2 (G2.ι id) ((vs2.setIfInBounds 3 (.iface 100 v)).setIfInBounds 4 (.slice none 0 0)) ty2 fz2 = w3
      have hb3 : w3.drew.heap[G2.ι id]? = some (.cells ((vs2.setIfInBounds 3 (.iface 100 v)).setIfInBounds 4 (.slice none 0 0)) ty2 fz2) := by subst hw3; exact withRow_get hlt2
      have hlt3 : G2.ι id < w3.drew.heap.size := lt_of_get hb3
      rw [setCell_row hb3, setCell_row (withRow_get hlt3), withRow_twice]
      have hv5 : ((((vs2.setIfInBounds 3 (Value.iface 100 v)).setIfInBounds 4 (.slice none 0 0)).setIfInBounds 0 (.int .u32 1)).setIfInBounds 1 (.int .i32 0)) = #[.int .u32 1, .int .i32 0, .int .u32 0, .iface 100 v, .slice none 0 0] := by rw [hvs2]; rfl
      rw [hv5]
      subst hw3
      refine ⟨?_, rfl, rfl, rfl⟩
      have e := withRow_twice (w := w2) (b := G2.ι id) (vs := ((vs2.setIfInBounds 3 (Value.iface 100 v)).setIfInBounds 4 (.slice none 0 0))) (vs' := #[.int .u32 1, .int .i32 0, .int .u32 0, .iface 100 v, .slice none 0 0]) (ty := ty2) (fz := fz2)
      rw [← e]; rfl
    obtain ⟨k3, e3, wf3⟩ := rpl_turned wf2 (look_upd_same _ _ _) hblk2 hsz2 hfz2 1 0 (.ifc 100 tabP) (.sl (.vals 1 []) true) (.iface 100 v) (.slice none 0 0) rfl rfl (.ifc _ _ _ hv) (.slNil _ rfl) _ hW
    simp only [upd_upd] at k2 e2 wf2 k3 e3 wf3
    refine (br_turn l hlen wf3 (fun g r hr => (((hg g r hr).mono k1.mem).mono k2.mem).mono k3.mem) (hv.mono k3.mem)).mono ?_
    rintro e w4 ⟨u, rfl, G4, q1, q2, q3, q4⟩
    exact ⟨u, rfl, G4, q1, (k1.trans k2).trans (k3.trans q2), (e1.trans e2).trans (e3.trans q3), q4⟩
end Go.Av.Cha
end
section
set_option linter.unusedSimpArgs false
set_option linter.unusedVariables false
set_option linter.unusedSectionVars false
namespace Go.Av.Cha
open Go Go.Av Go.Proofs
variable [ML]
set_option maxRecDepth 100000 in
set_option maxHeartbeats 1600000 in
theorem replace_done (b : Nat) (s : ByteArray) (Fin : Value → World → Prop) (w : World) (v : Value) (h0 : w.cell? ⟨b, 0, none⟩ = some (.int .u32 1)) (h3 : w.cell? ⟨b, 3, none⟩ = some (.iface 100 v))
    (hF : Calls Tryz.prog 126 #[v, .string s] w fun e w'' => ∃ u, e = .returned u ∧ Fin u w'') :
    Calls Tryz.prog 18 #[.pointer (some ⟨b, 0, none⟩), .string s] w fun e w' => ∃ u, e = .returned u ∧ Fin u w' := by
  have hmf : ∀ (fn : Go.Fn) (first cap : Array Value) (w : World), (Instr.makeFunc fn first cap).run Tryz.prog w = .ok (.func fn first cap) w := fun _ _ _ _ => rfl
  have hM : ∀ (v : Value) (W : World), Sem.run Tryz.prog (method 270 100 v "Replace") W = .ok (126, v) W := fun v W => by kernel_rfl
  have hD := fun fv => do_done ⟨b, 0, none⟩ 1 (by decide) fv w h0
  go_enter Tryz.func18, Tryz.ntmps18
  go_wp2_with (first | (go_at_call 28; refine (hD _).mono ?_; rintro e w'' ⟨rfl, rfl⟩) | (go_at_call 126; refine hF.mono ?_; rintro e w'' ⟨u, rfl, hfin⟩))
  go_ret
  exact ⟨u, rfl, hfin⟩
theorem repl_again {G : Gh} {h : HT} {w : World} (wf : WF G h w) (hg : ∀ g r, Tables.gl g = some r → RepP (pm G w) (.eptr r 0 0) (.pointer (some ⟨g, 0, none⟩))) {id c : Nat} (hl : look h.H id = some (c, rpl 1 0 (.ifc 100 tabP) nilS)) (l : List (BitVec 8)) (hlen : l.length ≤ 4000000) :
    Calls Tryz.prog 18 #[.pointer (some ⟨G.ι id, 0, none⟩), .string (txt l)] w fun e w' => ∃ u, e = .returned u ∧ TurnedTo G h w (.p (.str (txt (l.map blk)))) h u w' := by
  obtain ⟨vs, ty, fz, hblk, hsz, c0, c1, c2, ⟨v3, c3, r3⟩, ⟨v4, c4, o4, r4⟩, hfz⟩ := rpl_block wf hl
  obtain ⟨v, hv, hr⟩ : ∃ v, v3 = .iface 100 v ∧ RepP (pm G w) tabP v := by
    cases r3 with
    | ifc _ _ v hv => exact ⟨v, rfl, hv⟩
  subst hv
  exact replace_done (G.ι id) (txt l) _ w v c0 c3 (br_turn l hlen wf hg hr)
end Go.Av.Cha
end
section
set_option linter.unusedSimpArgs false
set_option linter.unusedVariables false
set_option linter.unusedSectionVars false
namespace Go.Av.Cha
open Go Go.Av Go.Proofs
variable [ML]
set_option maxRecDepth 100000 in
theorem info9 : ∃ i, Tryz.prog.info? 9 = some i ∧ i.zero = some (.string ⟨#[]⟩) ∧ i.size = 1 ∧ i.bytes = 16 := by
  refine ⟨_, rfl, ?_, ?_, ?_⟩ <;> kernel_rfl
theorem zc (n : Nat) (z : Value) (hz : z.cells = #[z]) : Builtin.zeroCells z.cells n = (List.replicate n z).toArray := by
  rw [hz]
  apply Array.ext_getElem?
  intro i
  simp only [Builtin.zeroCells]
  by_cases h : i < n <;> simp [Array.getElem?_map, h, Nat.mod_one]
set_option maxHeartbeats 4000000 in
set_option maxRecDepth 100000 in
theorem new_run (w : World) (b off cap n : Nat) (xs : List Value) (hn : xs.length = 2 * n) (hx : n ≠ 0) (hx2 : n ≤ 50) (hcell : ∀ j u, xs[j]? = some u → w.cell? ⟨b, off + j, none⟩ = some u) (h1 : ∀ u ∈ xs, u.oneCell' = true) :
    Calls Tryz.prog 17 #[.slice (some ⟨b, off, none⟩) xs.length cap] w fun e w' => ∃ k, e = .returned (.pointer (some ⟨w.heap.size + 1, 0, none⟩)) ∧
      SameW w' ((w.alloc (.cells (xs ++ List.replicate k (Value.string ⟨#[]⟩)).toArray 9)).alloc (.cells #[.int .u32 0, .int .i32 0, .int .u32 0, .nilIface, .slice (some ⟨w.heap.size, 0, none⟩) xs.length (xs.length + k)] 65)) := by
  have t4 := Tryz.underlying4; have a4 := fun w => run_isAgg (P := Tryz.prog) (t := 4) (b := false) (by kernel_rfl) w; have z4 := fun w => tsize_run (P := Tryz.prog) (t := 4) (n := 1) (by kernel_rfl) w; have u4 := run_underlying t4
  have t9 := Tryz.underlying9; have a9 := fun w => run_isAgg (P := Tryz.prog) (t := 9) (b := false) (by kernel_rfl) w; have z9 := fun w => tsize_run (P := Tryz.prog) (t := 9) (n := 1) (by kernel_rfl) w; have u9 := run_underlying t9
  have t62 := Tryz.underlying50; have a62 := fun w => run_isAgg (P := Tryz.prog) (t := 50) (b := false) (by kernel_rfl) w; have z62 := fun w => tsize_run (P := Tryz.prog) (t := 50) (n := 1) (by kernel_rfl) w; have u62 := run_underlying t62
  have mixed : Tryz.prog.follows .mixedOrders = true := by kernel_rfl
  obtain ⟨i0, hi0, hz0, hzs, hzb⟩ := info9
  have hsrc : Go.Src Tryz.prog i0.size 50 (.slice (some ⟨b, off, none⟩) xs.length cap) xs.length xs w := by
    rw [hzs]
    refine Go.Src.ofSlice w Tryz.underlying50 ⟨b, off, none⟩ xs.length cap xs (by omega) (fun j u hj => ?_) h1
    rw [Addr.add_lit]; exact hcell j u hj
  have hold : (Builtin.firstCells i0.size 0 (.slice none 0 0)).run Tryz.prog w.drew = .ok ([] : List Value).toArray w.drew := by
    rw [hzs]; exact run_firstCells_none w.drew 1 0 0 0
  have hrun : ∀ ty, (Builtin.append_ #[50, 50] ty #[.slice none 0 0, .slice (some ⟨b, off, none⟩) xs.length cap]).run Tryz.prog w = _ := fun ty =>
    run_append_grow_src w 50 50 ty 9 i0 _ Tryz.underlying50 hi0 hz0 none 0 0 [] hold _ xs.length xs hsrc (by omega) (by omega) (by rw [hzb]; exact growslice_fits (by omega) (by omega))
  have hmod : ((xs.length : Nat) : Int).tmod 2 = 0 := by
    rw [hn]
    have : ((2 * n : Nat) : Int) = 2 * (n : Int) := by simp
    rw [this]; exact Int.mul_tmod_right _ _
  go_enter Tryz.func17, Tryz.ntmps17
  go_wp2_with (at_builtin; refine Lib.wpList_append_run _ rfl _ _ _ _ rfl _ _ rfl rfl _ _ (hrun _) ?_)
  go_ret
  obtain ⟨k, hk⟩ : ∃ k, grownCap w (2 * n) 0 9 = 2 * n + k := ⟨grownCap w (2 * n) 0 9 - 2 * n, by have := grownCap_ge w (2 * n) 0 9; omega⟩
  refine ⟨k, rfl, ?_⟩
  have e := zc k (.string ⟨#[]⟩) rfl
  rw [show (Value.string ⟨#[]⟩).cells = #[Value.string ⟨#[]⟩] from rfl] at e
  rw [hk, Nat.add_sub_cancel_left, e, List.append_toArray, hn]
  exact ⟨rfl, rfl, rfl, rfl⟩
def strsOf : V → Option (List ByteArray)
  | .row (.strs l) _ _ false => some l
  | .p (.sl (.strs l) false) => some l
  | _ => none
theorem strsOf_rep {G : Gh} {h : HT} {w : World} {y : V} {l : List ByteArray} {v : Value} (hy : strsOf y = some l) (r : Rep G h w y v) : RepP (pm G w) (.sl (.strs l) false) v := by
  unfold strsOf at hy
  split at hy
  · simp only [Option.some.injEq] at hy; subst hy
    cases r with
    | row _ _ _ _ _ _ _ _ _ hr _ => exact hr
  · simp only [Option.some.injEq] at hy; subst hy
    cases r with
    | p hr => exact hr
  · simp at hy
def newPrim : Prim := fun E h d => match E with
  | [y] => match strsOf y with
    | some l => if l.length % 2 = 0 ∧ l.length ≠ 0 ∧ l.length ≤ 100 then some (.ptr d (nextVer h.H d) 0, ⟨upd h.H d (nextVer h.H d, rpl 0 0 .iface0 (.p (.sl (.strs l) false))), h.T⟩) else none
    | none => none
  | _ => none
theorem new_ok : PrimOk Tryz.prog 17 newPrim := by
  intro G h w E vs d v h' wf hg hlen hE hp
  refine .inl ⟨Tryz.call17 _ _, ?_⟩
  unfold newPrim at hp
  split at hp
  · rename_i y
    split at hp
    · rename_i l hy
      split at hp
      · rename_i hc
        obtain ⟨hc1, hc2, hc3⟩ := hc
        simp only [Option.some.injEq, Prod.mk.injEq] at hp
        obtain ⟨rfl, rfl⟩ := hp
        match vs, hlen with
        | [v0], _ =>
        have r0 := hE 0 (by simp)
        simp only [List.getD_cons_zero] at r0
        have hr := strsOf_rep hy r0
        cases hr with
        | sl _ a cap f hc ha hw hf h1 hr =>
        obtain ⟨b, off, sp⟩ := a
        obtain rfl : sp = none := by rcases ha with h2 | h2; exact absurd h2 hc2; exact h2
        have hcell : ∀ i, i < l.length → w.cell? ⟨b, off + i, none⟩ = some (.string (l.getD i ByteArray.empty)) := by
          intro i hi
          have q1 := hf i 0 hi Nat.zero_lt_one
          have q2 := hr i 0 hi Nat.zero_lt_one
          simp only [Row.sz, Nat.mul_one, Nat.add_zero] at q1
          have q3 : f i 0 = .string (l.getD i ByteArray.empty) := by
            have e : (Row.strs l : Row PV).elem i = .str (l.getD i ByteArray.empty) := rfl
            rw [e] at q2
            generalize f i 0 = z at q2
            cases q2; rfl
          rw [q3] at q1
          exact pm_cell q1
        have hrun := new_run w b off cap (l.length / 2) (l.map Value.string) (by simp; omega) (by omega) (by omega) (by
          intro j u hj
          simp only [List.getElem?_map, Option.map_eq_some_iff] at hj
          obtain ⟨s, hs, rfl⟩ := hj
          have hjl := (List.getElem?_eq_some_iff.1 hs).1
          rw [hcell j hjl, List.getD_eq_getElem?_getD, hs]; rfl) (by intro u hu; obtain ⟨s, _, rfl⟩ := List.mem_map.1 hu; rfl)
        rw [List.length_map] at hrun
        refine hrun.mono ?_
        rintro e w' ⟨k, rfl, hw'⟩
        refine ⟨_, rfl, ?_⟩
        obtain ⟨k1, e1, wf1⟩ := free_keeps wf (.cells (l.map Value.string ++ List.replicate k (Value.string ⟨#[]⟩)).toArray 9)
        generalize hw1 : w.alloc (.cells (l.map Value.string ++ List.replicate k (Value.string ⟨#[]⟩)).toArray 9) = w1 at *
        have hsz : w1.heap.size = w.heap.size + 1 := by subst hw1; simp
        have hnew : w1.heap[w.heap.size]? = some (.cells (l.map Value.string ++ List.replicate k (Value.string ⟨#[]⟩)).toArray 9) := by subst hw1; exact alloc_new
        have hfree : G.own w.heap.size = .free := wf.fresh _ (Nat.le_refl _)
        have hsl : RepP (pm G w1) (.sl (.strs l) false) (.slice (some ⟨w.heap.size, 0, none⟩) l.length (l.length + k)) := by
          refine .sl (.strs l) ⟨w.heap.size, 0, none⟩ (l.length + k) (fun i _ => .string (l.getD i ByteArray.empty)) (Nat.le_add_right _ _) (.inr rfl) (fun i _ => rfl) ?_ (fun _ _ _ _ => rfl) (fun i j hi hj => .str _)
          intro i j hi hj
          simp only [Row.sz] at hj
          obtain rfl : j = 0 := by omega
          have hi : i < l.length := hi
          simp only [pm, hfree, Row.sz, Nat.mul_one, Nat.add_zero, Nat.zero_add]
          rw [cell_of_block hnew]
          simp [List.getElem?_append_left, hi, List.getD_eq_getElem?_getD]
        obtain ⟨k2, e2⟩ := made_keeps wf1 d (rpl 0 0 .iface0 (.p (.sl (.strs l) false))) (.cells #[.int .u32 0, .int .i32 0, .int .u32 0, .nilIface, .slice (some ⟨w.heap.size, 0, none⟩) l.length (l.length + k)] 65)
        have wf2 := made_cells wf1 d (rpl 0 0 .iface0 (.p (.sl (.strs l) false))) #[.int .u32 0, .int .i32 0, .int .u32 0, .nilIface, .slice (some ⟨w.heap.size, 0, none⟩) l.length (l.length + k)] 65 rfl rfl (by
          intro i hi
          have hi : i < 5 := hi
          match i, hi with
          | 0, _ => exact ⟨_, rfl, rfl, .p (.int _ _)⟩
          | 1, _ => exact ⟨_, rfl, rfl, .p (.int _ _)⟩
          | 2, _ => exact ⟨_, rfl, rfl, .p (.int _ _)⟩
          | 3, _ => exact ⟨_, rfl, rfl, .p .iface0⟩
          | 4, _ => exact ⟨_, rfl, rfl, .p hsl⟩)
        refine ⟨_, ?_, keeps_heap hw'.heap (k1.trans k2), ext_same hw' (e1.trans e2), wf_heap hw'.heap wf2⟩
        refine .ptr _ _ _ _ _ _ (look_upd_same _ _ _) (Nat.le_refl _) (fun _ => ?_)
        simp only [Gh.made, if_pos, hsz]
      · simp at hp
    · simp at hp
  · simp at hp
end Go.Av.Cha
end
section
set_option linter.unusedSimpArgs false
set_option linter.unusedVariables false
set_option linter.unusedSectionVars false
namespace Go.Av.Cha
open Go Go.Av Go.Proofs
variable [ML]
def bytesL (s : ByteArray) : List (BitVec 8) := s.data.toList.map (·.toBitVec)
theorem bytesL_txt (l : List (BitVec 8)) : bytesL (txt l) = l := by
  unfold bytesL; rw [txt_list, List.map_map]
  exact List.map_id' l
theorem txt_bytesL (s : ByteArray) : txt (bytesL s) = s := by
  obtain ⟨l, rfl⟩ := txt_of s
  rw [bytesL_txt]
def replPrim : Prim := fun E h d => match E with
  | [.ptr id ver off, .p (.str s)] => match look h.H id with
    | some (c, .cells [.p (.int .u32 a), .p (.int .i32 b), .p (.int .u32 z), .p .iface0, .p (.sl (.strs l) false)]) =>
      if c = ver ∧ off = 0 ∧ a = 0 ∧ b = 0 ∧ z = 0 ∧ l = oldB ∧ s.size ≤ 4000000 then
        some (.p (.str (txt ((bytesL s).map blk))), ⟨upd h.H id (c, rpl 1 0 (.ifc 100 tabP) nilS), h.T⟩)
      else none
    | some (c, .cells [.p (.int .u32 a), .p (.int .i32 b), .p (.int .u32 z), .p (.ifc t (.eptr (.vals n [.agg (.ints .u8 T)]) i j)), .p (.sl (.vals y []) true)]) =>
      if c = ver ∧ off = 0 ∧ a = 1 ∧ b = 0 ∧ z = 0 ∧ t = 100 ∧ n = 256 ∧ i = 0 ∧ j = 0 ∧ y = 1 ∧ T = tabT ∧ s.size ≤ 4000000 then
        some (.p (.str (txt ((bytesL s).map blk))), h)
      else none
    | _ => none
  | _ => none
theorem repl_ok : PrimOk Tryz.prog 18 replPrim := by
  intro G h w E vs d v h' wf hg hlen hE hpv
  refine .inl ⟨Tryz.call18 _ _, ?_⟩
  unfold replPrim at hpv
  split at hpv
  · rename_i id ver off s
    split at hpv
    · rename_i c a b z l hl
      split at hpv
      · rename_i hc
        obtain ⟨rfl, rfl, rfl, rfl, rfl, rfl, hs⟩ := hc
        simp only [Option.some.injEq, Prod.mk.injEq] at hpv
        obtain ⟨rfl, rfl⟩ := hpv
        match vs, hlen with
        | [v0, v1], _ =>
        have r0 := hE 0 (by simp)
        have r1 := hE 1 (by simp)
        simp only [List.getD_cons_zero, List.getD_cons_succ] at r0 r1
        obtain rfl := r0.at_ptr hl rfl
        obtain rfl := r1.str
        have := repl_run wf hg hl (bytesL s) (by rw [← txt_size, txt_bytesL]; exact hs)
        rw [txt_bytesL] at this
        exact this
      · simp at hpv
    · rename_i c a b z t n T i j y hl
      split at hpv
      · rename_i hc
        obtain ⟨rfl, rfl, rfl, rfl, rfl, rfl, rfl, rfl, rfl, rfl, rfl, hs⟩ := hc
        simp only [Option.some.injEq, Prod.mk.injEq] at hpv
        obtain ⟨rfl, rfl⟩ := hpv
        match vs, hlen with
        | [v0, v1], _ =>
        have r0 := hE 0 (by simp)
        have r1 := hE 1 (by simp)
        simp only [List.getD_cons_zero, List.getD_cons_succ] at r0 r1
        obtain rfl := r0.at_ptr hl rfl
        obtain rfl := r1.str
        have := repl_again wf hg hl (bytesL s) (by rw [← txt_size, txt_bytesL]; exact hs)
        rw [txt_bytesL] at this
        exact this
      · simp at hpv
    · simp at hpv
  · simp at hpv
end Go.Av.Cha
end
