/- The walks of this seat's functions, and what is known of what they reckon (Canc). Conditions: those that each theorem names. -/
import Derived.Test.YtkejhcogjmaleaaCana
import Derived.WalkKit
import Derived.Tactics
import Derived.Tactics2
import Derived.Defers
import Derived.Laws.Pointers
import Derived.Laws.LoneSync
import Derived.Laws.NewBlocks
import Derived.RegionTactic
import Derived.RegionCalls
import Derived.ChangeAlike

section
set_option linter.unusedSimpArgs false
set_option linter.unusedVariables false
/-! sync.Once: the walks are the kit's (its textbook program of a value that is laid once), turned to this program. -/
namespace Go.Av.Can
open Go Go.Av Go.Proofs
theorem disable (w : World) : (callFunc 68 #[]).run Try.prog w = .ok (.value (.tuple #[])) w := run_call_mark0 Try.func68 (by kernel_rfl) (by kernel_rfl) (by kernel_rfl) .disable (by kernel_rfl) w
theorem enable (w : World) : (callFunc 70 #[]).run Try.prog w = .ok (.value (.tuple #[])) w := run_call_mark0 Try.func70 (by kernel_rfl) (by kernel_rfl) (by kernel_rfl) .enable (by kernel_rfl) w
theorem acquire (a : Addr) (w : World) : (callFunc 71 #[.pointer (some a)]).run Try.prog w = .ok (.value (.tuple #[])) w := run_call_marked Try.func71 (by kernel_rfl) (by kernel_rfl) (by kernel_rfl) .acquire (by kernel_rfl) a w
theorem releaseMerge (a : Addr) (w : World) : (callFunc 73 #[.pointer (some a)]).run Try.prog w = .ok (.value (.tuple #[])) w := run_call_marked Try.func73 (by kernel_rfl) (by kernel_rfl) (by kernel_rfl) .releaseMerge (by kernel_rfl) a w

set_option maxRecDepth 100000 in
set_option maxHeartbeats 1600000 in
theorem store_deferred (a : Addr) (x : Value) (u : FrameMode) (w : World) (hc : w.cell? a = some x) (hz : w.frozen? a = false) :
    CallsD Try.prog 57 #[.pointer (some a), .bool true] u w fun e u' w' => u' = u ∧ (e = .returned (.tuple #[]) ∧ w' = w.drew.setCell a (.int .u32 1)) := by
  have hc' : w.drew.cell? a = some x := by go_simp
  have hz' : w.drew.frozen? a = false := by go_simp
  have hst := run_call_store (P := Try.prog) Try.func63 (by kernel_rfl) (by kernel_rfl) (by kernel_rfl) (by kernel_rfl) (k := .u32) (y := 1) hc' hz'
  go_enter_d Try.func57, Try.ntmps57
  go_wp2
  go_region_calls
  all_goals (go_end0; exact ⟨rfl, rfl⟩)

set_option maxRecDepth 100000 in
set_option maxHeartbeats 1600000 in
theorem unlock_deferred (a : Addr) (u : FrameMode) (w : World) (hc : w.cell? a = some (.int .i32 1)) (hz : w.frozen? a = false) :
    CallsD Try.prog 56 #[.pointer (some a)] u w fun e u' w' => u' = u ∧ (e = .returned (.tuple #[]) ∧ w' = w.setCell a (.int .i32 0)) := by
  have hd := disable
  have he := enable
  have hr := releaseMerge
  have hadd := run_call_add (P := Try.prog) Try.func74 (by kernel_rfl) (by kernel_rfl) (by kernel_rfl) .i32 (by kernel_rfl) (y := -1) (s := 0) hc hz (by simp [go_sem]; rfl)
  have hcv := run_convert_to_unsafe (P := Try.prog) (src := 119) (dst := 123) Try.underlying119 Try.underlying123 (by kernel_rfl) hc
  go_enter_d Try.func56, Try.ntmps56
  go_wp2
  go_end0
  go_wp2
  go_end0
  exact ⟨rfl, rfl⟩

set_option maxRecDepth 100000 in
set_option maxHeartbeats 1600000 in
theorem lock_free (a : Addr) (w : World) (hc : w.cell? a = some (.int .i32 0)) (hz : w.frozen? a = false) :
    Calls Try.prog 55 #[.pointer (some a)] w fun e w' => e = .returned (.tuple #[]) ∧ w' = w.setCell a (.int .i32 1) := by
  have hd := disable
  have he := enable
  have ha := acquire
  have hcas := run_call_cas_hit (P := Try.prog) Try.func69 (by kernel_rfl) (by kernel_rfl) (by kernel_rfl) .i32 (by kernel_rfl) (y := 1) hc hz
  have hc' : (w.setCell a (.int .i32 1)).cell? a = some (.int .i32 1) := World.cell?_setCell_same w a _ hc
  have hcv := run_convert_to_unsafe (P := Try.prog) (src := 119) (dst := 123) Try.underlying119 Try.underlying123 (by kernel_rfl) hc'
  go_enter Try.func55, Try.ntmps55
  go_wp2
  first | go_end0 | (simp only [Exit.inBlock, Exit.then]; refine bodyPost_ret (results_none rfl _ _ _) rfl ?_) | refine bodyPost_ret (results_none rfl _ _ _) rfl ?_
  go_wp2
  go_end0
  exact ⟨rfl, rfl⟩

set_option maxRecDepth 100000 in
set_option maxHeartbeats 1600000 in
theorem do_done (a : Addr) (d : Int) (hd : ¬ d = 0) (fv : Value) (w : World) (h0 : w.cell? a = some (.int .u32 d)) :
    Calls Try.prog 42 #[.pointer (some a), fv] w fun e w' => e = .returned (.tuple #[]) ∧ w' = w := by
  have hl := run_call_load (P := Try.prog) Try.func54 (by kernel_rfl) (by kernel_rfl) (by kernel_rfl) .u32 (by kernel_rfl) h0
  have hnot : ∀ (x : Bool) (w : World), (Op.unary .not (.bool x)).run Try.prog w = .ok (.bool (!x)) w := fun _ _ => rfl
  have hd' : (d != 0) = true := by simp [hd]
  go_enter Try.func42, Try.ntmps42
  go_wp2
  go_end0
  exact ⟨rfl, rfl⟩


/-- What is known of the Replacer's block behind build. -/
structure Built (b : Nat) (x : Value) (w : World) : Prop where
  c0 : w.cell? ⟨b, 0, none⟩ = some (.int .u32 0)
  c1 : w.cell? ⟨b, 1, none⟩ = some (.int .i32 1)
  c3 : (w.cell? ⟨b, 3, none⟩).isSome = true
  c4 : (w.cell? ⟨b, 4, none⟩).isSome = true
  fz : ∀ i, i < 5 → w.frozen? ⟨b, i, none⟩ = false
  ifc : ∃ t v, x = .iface t v
/-- What is known of the Replacer's block behind buildOnce. -/
structure Once (b : Nat) (w : World) : Prop where
  c0 : w.cell? ⟨b, 0, none⟩ = some (.int .u32 0)
  c1 : w.cell? ⟨b, 1, none⟩ = some (.int .i32 1)
  f0 : w.frozen? ⟨b, 0, none⟩ = false
  f1 : w.frozen? ⟨b, 1, none⟩ = false
set_option maxRecDepth 100000 in
set_option maxHeartbeats 1600000 in
theorem once_ct (b : Nat) (Post : Value → World → Prop) (w : World) (hB : Calls Try.prog 51 #[.pointer (some ⟨b, 0, none⟩)] w fun e w' => ∃ x, e = .returned x ∧ Post x w') (hP : ∀ x w', Post x w' → Built b x w') :
    Calls Try.prog 43 #[.pointer (some ⟨b, 0, none⟩)] w fun e w'' => e = .returned (.tuple #[]) ∧ ∃ x w', Post x w' ∧ w'' = (w'.setCell ⟨b, 3, none⟩ x).setCell ⟨b, 4, none⟩ (.slice none 0 0) := by
  go_enter Try.func43, Try.ntmps43
  go_wp2_with (go_at_call 51; refine hB.mono ?_; rintro e w' ⟨x, rfl, hpost⟩; have hb := hP x w' hpost; have q3 := hb.fz 3 (by decide); have q4 := hb.fz 4 (by decide); obtain ⟨t0, v0, rfl⟩ := hb.ifc; obtain ⟨y3, hy3⟩ := Option.isSome_iff_exists.1 hb.c3; obtain ⟨y4, hy4⟩ := Option.isSome_iff_exists.1 hb.c4)
  go_end0
  exact ⟨rfl, _, w', hpost, rfl⟩
set_option maxRecDepth 100000 in
set_option maxHeartbeats 1600000 in
/-- '(*sync.Once).doSlow', not yet done, the lock free. -/
theorem slow_once (b : Nat) (Post : World → Prop) (w : World) (h0 : w.cell? ⟨b, 0, none⟩ = some (.int .u32 0)) (h1 : w.cell? ⟨b, 1, none⟩ = some (.int .i32 0))
    (f1 : w.frozen? ⟨b, 1, none⟩ = false)
    (hB : Calls Try.prog 43 #[.pointer (some ⟨b, 0, none⟩)] (w.setCell ⟨b, 1, none⟩ (.int .i32 1)) fun e w' => e = .returned (.tuple #[]) ∧ Post w')
    (hP : ∀ w', Post w' → Once b w') :
    Calls Try.prog 50 #[.pointer (some ⟨b, 0, none⟩), .func (.func 43) #[.pointer (some ⟨b, 0, none⟩)] #[]] w fun e w'' => e = .returned (.tuple #[]) ∧
      ∃ w', Post w' ∧ w'' = (w'.drew.setCell ⟨b, 0, none⟩ (.int .u32 1)).setCell ⟨b, 1, none⟩ (.int .i32 0) := by
  have hl := run_call_load (P := Try.prog) Try.func54 (by kernel_rfl) (by kernel_rfl) (by kernel_rfl) .u32 (by kernel_rfl) (w := w.setCell ⟨b, 1, none⟩ (.int .i32 1)) (a := ⟨b, 0, none⟩) (x := 0) ((World.cell?_setCell_other _ ⟨b, 1, none⟩ ⟨b, 0, none⟩ _ (by simp)).trans h0)
  have hnot : ∀ (x : Bool) (w : World), (Op.unary .not (.bool x)).run Try.prog w = .ok (.bool (!x)) w := fun _ _ => rfl
  go_enter_defers Try.func50, Try.ntmps50
  go_wp2_with (first | (go_at_call 55; refine (lock_free ⟨b, 1, none⟩ _ (by go_simp) (by go_simp)).mono ?_; rintro e w' ⟨rfl, rfl⟩) | (refine hB.mono ?_; rintro e w' ⟨rfl, hpost⟩; have hb := hP w' hpost) | (go_at_call 49; go_in))
  go_wp2
  refine leaves_cons (f := 57) (args := #[.pointer (some ⟨b, 0, none⟩), .bool true]) (by simp) (by simp [go_sem]) ?_
  refine (store_deferred ⟨b, 0, none⟩ (.int .u32 0) .returning _ hb.c0 hb.f0).mono ?_
  rintro e u' w'' ⟨rfl, rfl, rfl⟩
  refine leaves_cons (f := 56) (args := #[.pointer (some ⟨b, 1, none⟩)]) (by simp [settle]) (by simp [go_sem]) ?_
  have hf1 := hb.f1
  refine (unlock_deferred ⟨b, 1, none⟩ _ _ ?_ (by simp [hf1])).mono ?_
  · refine (World.cell?_setCell_other _ ⟨b, 0, none⟩ ⟨b, 1, none⟩ _ (by simp)).trans ?_
    rw [World.cell?_drew]
    exact hb.c1
  rintro e u' w'' ⟨rfl, rfl, rfl⟩
  simp [Leaves, settle, results, Try.results50]
  exact ⟨w', hpost, rfl⟩
set_option maxRecDepth 100000 in
set_option maxHeartbeats 1600000 in
/-- '(*sync.Once).Do', not yet done, the lock free. -/
theorem do_first (b : Nat) (Post : World → Prop) (w : World) (h0 : w.cell? ⟨b, 0, none⟩ = some (.int .u32 0)) (h1 : w.cell? ⟨b, 1, none⟩ = some (.int .i32 0)) (f1 : w.frozen? ⟨b, 1, none⟩ = false)
    (hB : Calls Try.prog 43 #[.pointer (some ⟨b, 0, none⟩)] (w.setCell ⟨b, 1, none⟩ (.int .i32 1)) fun e w' => e = .returned (.tuple #[]) ∧ Post w')
    (hP : ∀ w', Post w' → Once b w') :
    Calls Try.prog 42 #[.pointer (some ⟨b, 0, none⟩), .func (.func 43) #[.pointer (some ⟨b, 0, none⟩)] #[]] w fun e w'' => e = .returned (.tuple #[]) ∧
      ∃ w', Post w' ∧ w'' = (w'.drew.setCell ⟨b, 0, none⟩ (.int .u32 1)).setCell ⟨b, 1, none⟩ (.int .i32 0) := by
  have hl := run_call_load (P := Try.prog) Try.func54 (by kernel_rfl) (by kernel_rfl) (by kernel_rfl) .u32 (by kernel_rfl) h0
  have hnot : ∀ (x : Bool) (w : World), (Op.unary .not (.bool x)).run Try.prog w = .ok (.bool (!x)) w := fun _ _ => rfl
  go_enter Try.func42, Try.ntmps42
  go_wp2_with (first | (go_at_call 50; refine (slow_once b Post _ h0 h1 f1 hB hP).mono ?_; rintro e w'' ⟨rfl, w', hpost, rfl⟩) | (go_at_call 49; go_in))
  go_end0
  exact ⟨rfl, w', hpost, rfl⟩
end Go.Av.Can
end
