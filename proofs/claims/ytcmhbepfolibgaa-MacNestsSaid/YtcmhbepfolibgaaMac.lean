/- The walks of this seat's functions, and what is known of what they reckon (Mac). Conditions: those that each theorem names. -/
import Derived.Test.YtcmhbepfolibgaaRef
import Derived.Shelf.Spec.SlicesInsertGrow
import Derived.Shelf.RegionOpenPlain
import Derived.WalkKit
import Derived.Lib.Walk
import Derived.Lib.SliceRun
import Derived.Lib.JoinLaws
import Derived.Lib.AppendZeros
import Derived.Lib.Overlaps
import Derived.Laws.Externs
import Derived.Laws.IdiomCopy

section
set_option linter.unusedSimpArgs false
set_option linter.unusedVariables false
/-! slices.Insert and slices.Clone at [][]byte: the walks are the kit's shelf's (slices.Insert at []string), turned to this program. -/
namespace Go.Av.Sha
open Go Go.Av Go.Proofs Go.Lib
theorem info22 : ∃ i, Try.prog.info? 22 = some i ∧ i.zero = some (.slice none 0 0) ∧ i.size = 1 ∧ i.bytes = 24 := by
  refine ⟨_, rfl, ?_, ?_, ?_⟩ <;> kernel_rfl
set_option maxHeartbeats 4000000 in
set_option maxRecDepth 100000 in
theorem ins_shift (b off n c i vb voff m vc : Nat) (cs vs : List Value) (w : World) (hi : i < n) (hm : 0 < m) (hroom : n + m ≤ c) (hc63 : c ≤ 9223372036854775807) (hvb : vb ≠ b)
    (hcl : cs.length = n) (hvl : vs.length = m)
    (hcs : ∀ j v, cs[j]? = some v → w.cell? ⟨b, off + j, none⟩ = some v) (hsp : ∀ j, j < n + m → (w.cell? ⟨b, off + j, none⟩).isSome = true) (hfz : ∀ j, j < n + m → w.frozen? ⟨b, off + j, none⟩ = false)
    (hvs : ∀ j v, vs[j]? = some v → w.cell? ⟨vb, voff + j, none⟩ = some v) (h1c : ∀ v ∈ cs, v.oneCell' = true) (h1v : ∀ v ∈ vs, v.oneCell' = true)
    (tA tB : TypeId) (kA kB : Nat) (hsa : w.shape? vb = some (tA, kA)) (hsb : w.shape? b = some (tB, kB)) (hkA : kA ≠ 0) (hle : off + (i + m) ≤ kB) (hfb : ∀ k, k ≤ kB → w.frozen? ⟨b, k, none⟩ = false) :
    Calls Try.prog 26 #[.slice (some ⟨b, off, none⟩) n c, .int .i64 i, .slice (some ⟨vb, voff, none⟩) m vc] w fun e w' =>
      e = .returned (.slice (some ⟨b, off, none⟩) (n + m) c) ∧ w' = (w.drew.setCells b (off + (i + m)) (cs.drop i)).setCells b (off + i) vs := by
  have t0 := Try.underlying0; have a0 := fun w => run_isAgg (P := Try.prog) (t := 0) (b := false) (by kernel_rfl) w; have z0 := fun w => tsize_run (P := Try.prog) (t := 0) (n := 1) (by kernel_rfl) w; have u0 := run_underlying t0
  have t3 := Try.underlying3; have a3 := fun w => run_isAgg (P := Try.prog) (t := 3) (b := false) (by kernel_rfl) w; have z3 := fun w => tsize_run (P := Try.prog) (t := 3) (n := 1) (by kernel_rfl) w; have u3 := run_underlying t3
  have t4 := Try.underlying4; have a4 := fun w => run_isAgg (P := Try.prog) (t := 4) (b := false) (by kernel_rfl) w; have z4 := fun w => tsize_run (P := Try.prog) (t := 4) (n := 1) (by kernel_rfl) w; have u4 := run_underlying t4
  have t22 := Try.underlying22; have a22 := fun w => run_isAgg (P := Try.prog) (t := 22) (b := false) (by kernel_rfl) w; have z22 := fun w => tsize_run (P := Try.prog) (t := 22) (n := 1) (by kernel_rfl) w; have u22 := run_underlying t22
  have t45 := Try.underlying45; have a45 := fun w => run_isAgg (P := Try.prog) (t := 45) (b := false) (by kernel_rfl) w; have z45 := fun w => tsize_run (P := Try.prog) (t := 45) (n := 1) (by kernel_rfl) w; have u45 := run_underlying t45
  have hz1 : ¬ ((m : Int) = 0) := by omega
  have hz2 : ¬ ((i : Int) = (n : Int)) := by omega
  have hsz : (Try.prog.info? 22).map (·.size) = some 1 := by
    obtain ⟨i0, hi0, h0, h1, h2⟩ := info22
    rw [hi0]; simp [h1]
  have hov : ∀ lb cb, (callFunc 35 #[.slice (some ⟨vb, voff, none⟩) m vc, .slice (some ⟨b, off + (i + m), none⟩) lb cb]).run Try.prog w = .ok (.value (.bool false)) w := fun lb cb => by
    rw [run_callFunc_extern Try.func35 (by kernel_rfl) (by kernel_rfl) (by kernel_rfl) (e := Extern.SlicesOverlaps.overlaps #[45, 45] #[4]) (by kernel_rfl),
      run_overlaps_own w 45 4 22 Try.underlying45 1 (fun w => tsize_run (P := Try.prog) (t := 22) (n := 1) (by kernel_rfl) w) ⟨vb, voff, none⟩ ⟨b, off + (i + m), none⟩ m vc lb cb hvb tA tB kA kB hsa hsb hkA (hfb _ hle) (hfb kB (Nat.le_refl _))]
    rfl
  have hdl : (cs.drop i).length = n - i := by rw [List.length_drop, hcl]
  have mixed : Try.prog.follows .mixedOrders = true := by kernel_rfl
  have hw1 : IntKind.i64.wrap ((i : Int) + (m : Int)) = (i : Int) + (m : Int) := by rw [IntKind.wrap_i64]; omega
  have hb1 : (0 : Int) ≤ (i : Int) + (m : Int) := by omega
  have hin : i ≤ n := by omega
  have htn : ((i : Int) + (m : Int)).toNat = i + m := by omega
  have hb2 : ¬ (c = i + m) := by omega
  have hb3 : (i : Int) ≤ (n : Int) + (m : Int) := by omega
  have hb4 : ¬ (c = i) := by omega
  have hcp1 : ∀ ty dc sc, (Builtin.copy_ #[45, 45] ty #[.slice (some ⟨b, off + (i + m), none⟩) (n + m - (i + m)) dc, .slice (some ⟨b, off + i, none⟩) (n + m - i) sc]).run Try.prog w.drew = .ok (goInt (cs.drop i).length) (w.drew.setCells b (off + (i + m)) (cs.drop i)) := fun ty dc sc =>
    run_copy_cells w.drew _ _ ty 22 b (off + (i + m)) (n + m - (i + m)) dc ⟨b, off + i, none⟩ (n + m - i) sc (cs.drop i) Try.underlying45 hsz (by rw [hdl]; simp only [Nat.min_def]; split <;> omega)
      (fun j v hj => by rw [Addr.add_lit, Nat.add_assoc]; exact hcs (i + j) v (by rwa [List.getElem?_drop] at hj))
      (fun j hj => by rw [Nat.add_assoc]; exact hsp _ (by omega)) (fun j hj => by rw [Nat.add_assoc]; exact hfz _ (by omega)) (fun v hv => h1c v (List.mem_of_mem_drop hv))
  obtain ⟨W1, hW1⟩ : ∃ W1, W1 = w.drew.setCells b (off + (i + m)) (cs.drop i) := ⟨_, rfl⟩
  have hsp1 : ∀ k, k < n + m → (W1.cell? ⟨b, off + k, none⟩).isSome = true := fun k hk => by
    rw [hW1]
    exact isSome_setCells b _ _ _ (fun j hj => by rw [Nat.add_assoc]; exact hsp _ (by omega)) _ (hsp k hk)
  have hcp2 : ∀ (W : World), (∀ x, W.cell? x = W1.cell? x) → (∀ x, W.frozen? x = W1.frozen? x) → ∀ ty dc, (Builtin.copy_ #[45, 45] ty #[.slice (some ⟨b, off + i, none⟩) (n + m - i) dc, .slice (some ⟨vb, voff, none⟩) m vc]).run Try.prog W = .ok (goInt vs.length) (W.setCells b (off + i) vs) := fun W hWc hWf ty dc =>
    run_copy_cells W _ _ ty 22 b (off + i) (n + m - i) dc ⟨vb, voff, none⟩ m vc vs Try.underlying45 hsz (by rw [hvl]; simp only [Nat.min_def]; split <;> omega)
      (fun j v hj => by
        rw [Addr.add_lit, hWc, hW1, World.cell?_setCells_out b _ _ _ _ (fun h _ => absurd h hvb)]
        exact hvs j v hj)
      (fun j hj => by rw [hWc, Nat.add_assoc]; exact hsp1 _ (by omega)) (fun j hj => by rw [hWf, hW1, World.frozen?_setCells, Nat.add_assoc]; exact hfz _ (by omega)) h1v
  rw [← hW1] at hcp1
  go_enter Try.func26, Try.ntmps26
  go_wp2_with (simp only [hov])
  go_region_law_o (refine step_copy_runI rfl _ _ 45 45 rfl _ _ (by simp [Act.eval, Act.put]) (by simp [Act.eval, Act.put]) (hcp1 _ _ _) ?_)
  go_wp2_with (at_builtin; refine wpList_copy_runI _ rfl _ _ 45 45 rfl _ _ rfl rfl (hcp2 _ (fun _ => rfl) (fun _ => rfl) _ _) ?_)
  go_ret
  first | exact ⟨rfl, rfl⟩ | exact ⟨rfl, by rw [hW1]⟩

set_option maxHeartbeats 4000000 in
set_option maxRecDepth 100000 in
theorem ins_grow (b off n c i vb voff m vc : Nat) (cs vs : List Value) (w : World) (hi : i < n) (hm : 0 < m) (hnc : n ≤ c) (hroom : c < n + m) (hbig : (n + m) * 24 ≤ 140737488355328)
    (hcl : cs.length = n) (hvl : vs.length = m)
    (hcs : ∀ j v, cs[j]? = some v → w.cell? ⟨b, off + j, none⟩ = some v)
    (hvs : ∀ j v, vs[j]? = some v → w.cell? ⟨vb, voff + j, none⟩ = some v) (h1c : ∀ v ∈ cs, v.oneCell' = true) (h1v : ∀ v ∈ vs, v.oneCell' = true) :
    Calls Try.prog 26 #[.slice (some ⟨b, off, none⟩) n c, .int .i64 i, .slice (some ⟨vb, voff, none⟩) m vc] w fun e w' =>
      e = .returned (.slice (some ⟨w.heap.size, 0, none⟩) (n + m) (grownCap w (n + m) c 22)) ∧
      w' = (((w.alloc (.cells ((cs.take i).toArray ++ Builtin.zeroCells (Value.slice none 0 0).cells (n + m - i) ++ Builtin.zeroCells (Value.slice none 0 0).cells (grownCap w (n + m) c 22 - (n + m))) 22)).drew.setCells w.heap.size i vs).drew).setCells w.heap.size (i + m) (cs.drop i) := by
  have t0 := Try.underlying0; have a0 := fun w => run_isAgg (P := Try.prog) (t := 0) (b := false) (by kernel_rfl) w; have z0 := fun w => tsize_run (P := Try.prog) (t := 0) (n := 1) (by kernel_rfl) w; have u0 := run_underlying t0
  have t3 := Try.underlying3; have a3 := fun w => run_isAgg (P := Try.prog) (t := 3) (b := false) (by kernel_rfl) w; have z3 := fun w => tsize_run (P := Try.prog) (t := 3) (n := 1) (by kernel_rfl) w; have u3 := run_underlying t3
  have t4 := Try.underlying4; have a4 := fun w => run_isAgg (P := Try.prog) (t := 4) (b := false) (by kernel_rfl) w; have z4 := fun w => tsize_run (P := Try.prog) (t := 4) (n := 1) (by kernel_rfl) w; have u4 := run_underlying t4
  have t22 := Try.underlying22; have a22 := fun w => run_isAgg (P := Try.prog) (t := 22) (b := false) (by kernel_rfl) w; have z22 := fun w => tsize_run (P := Try.prog) (t := 22) (n := 1) (by kernel_rfl) w; have u22 := run_underlying t22
  have t45 := Try.underlying45; have a45 := fun w => run_isAgg (P := Try.prog) (t := 45) (b := false) (by kernel_rfl) w; have z45 := fun w => tsize_run (P := Try.prog) (t := 45) (n := 1) (by kernel_rfl) w; have u45 := run_underlying t45
  have mixed : Try.prog.follows .mixedOrders = true := by kernel_rfl
  obtain ⟨i0, hi0, hz0, hzs, hzb⟩ := info22
  have hz1 : ¬ ((m : Int) = 0) := by omega
  have hz2 : ¬ ((i : Int) = (n : Int)) := by omega
  have hz3 : (c : Int) < (n : Int) + (m : Int) := by omega
  have hsz : (Try.prog.info? 22).map (·.size) = some 1 := by rw [hi0]; simp [hzs]
  have hbw : b < w.heap.size := block_lt_of_cell (hcs 0 _ (List.getElem?_eq_getElem (by omega)))
  have hvw : vb < w.heap.size := block_lt_of_cell (hvs 0 _ (List.getElem?_eq_getElem (by omega)))
  have hkk : (n : Int) + (m : Int) - (i : Int) = ((n + m - i : Nat) : Int) := by omega
  have hik : i + (n + m - i) = n + m := by omega
  have hold : (Builtin.firstCells i0.size i (.slice (some ⟨b, off, none⟩) i c)).run Try.prog w.drew = .ok (cs.take i).toArray w.drew := by
    rw [hzs]
    exact run_firstCells_some w.drew 1 i ⟨b, off, none⟩ i c (cs.take i) (by rw [List.length_take]; omega) (fun j v hj => by
      rw [Addr.add_lit]
      rw [List.getElem?_take] at hj
      split at hj
      · exact hcs j v hj
      · cases hj)
  have hrz : ∀ ty, (Builtin.append_ #[45, 3] ty #[.slice (some ⟨b, off, none⟩) i c, .int .i64 ((n : Int) + (m : Int) - (i : Int))]).run Try.prog w =
      .ok (.slice (some ⟨w.heap.size, 0, none⟩) (n + m) (grownCap w (n + m) c 22)) (w.drew.alloc (.cells ((cs.take i).toArray ++ Builtin.zeroCells (Value.slice none 0 0).cells (n + m - i) ++ Builtin.zeroCells (Value.slice none 0 0).cells (grownCap w (n + m) c 22 - (n + m))) 22)) := fun ty => by
    have h := Lib.run_append_grow_zeros w 45 3 ty 22 i0 _ .i64 .i64 Try.underlying45 Try.underlying3 hi0 hz0 (some ⟨b, off, none⟩) i c (cs.take i) hold (n + m - i) (by omega) (by omega) (by omega) (by omega) (by rw [hzb]; omega) (by rw [hzb, hik]; exact growslice_fits hroom hbig)
    rw [hik] at h
    rw [hkk]
    exact h
  obtain ⟨G, hG⟩ : ∃ G, G = grownCap w (n + m) c 22 := ⟨_, rfl⟩
  obtain ⟨ROW, hROW⟩ : ∃ ROW : Array Value, ROW = (cs.take i).toArray ++ Builtin.zeroCells (Value.slice none 0 0).cells (n + m - i) ++ Builtin.zeroCells (Value.slice none 0 0).cells (G - (n + m)) := ⟨_, rfl⟩
  rw [← hG] at hrz ⊢
  rw [← hROW] at hrz ⊢
  have hRl : n + m ≤ ROW.size := by
    rw [hROW]
    simp [Builtin.zeroCells, Value.cells]
    omega
  obtain ⟨W1, hW1⟩ : ∃ W1, W1 = w.drew.alloc (.cells ROW 22) := ⟨_, rfl⟩
  rw [← hW1] at hrz
  have hN : ∀ j, j < n + m → (W1.cell? ⟨w.heap.size, j, none⟩).isSome = true := fun j hj => by
    rw [hW1, World.cell?_alloc_at (w := w.drew) ROW _ w.heap.size j rfl, Array.getElem?_eq_getElem (by omega)]; rfl
  have hNf : ∀ j, W1.frozen? ⟨w.heap.size, j, none⟩ = false := fun j => by rw [hW1]; exact World.frozen?_alloc_at (w := w.drew) ROW _ w.heap.size j rfl
  have hOb : ∀ j v, w.cell? ⟨b, j, none⟩ = some v → W1.cell? ⟨b, j, none⟩ = some v := fun j v h => by rw [hW1, World.cell?_alloc_past (w := w.drew) _ b j hbw]; exact h
  have hOv : ∀ j v, w.cell? ⟨vb, j, none⟩ = some v → W1.cell? ⟨vb, j, none⟩ = some v := fun j v h => by rw [hW1, World.cell?_alloc_past (w := w.drew) _ vb j hvw]; exact h
  have hcpA : ∀ (W : World), (∀ x, W.cell? x = W1.cell? x) → (∀ x, W.frozen? x = W1.frozen? x) → ∀ ty dc, (Builtin.copy_ #[45, 45] ty #[.slice (some ⟨w.heap.size, i, none⟩) (n + m - i) dc, .slice (some ⟨vb, voff, none⟩) m vc]).run Try.prog W = .ok (goInt vs.length) (W.setCells w.heap.size i vs) := fun W hWc hWf ty dc =>
    run_copy_cells W _ _ ty 22 w.heap.size i (n + m - i) dc ⟨vb, voff, none⟩ m vc vs Try.underlying45 hsz (by rw [hvl]; simp only [Nat.min_def]; split <;> omega)
      (fun j v hj => by rw [Addr.add_lit, hWc]; exact hOv _ v (hvs j v hj))
      (fun j hj => by rw [hWc]; exact hN _ (by omega)) (fun j hj => by rw [hWf]; exact hNf _) h1v
  have hGn : n + m ≤ G := by rw [hG]; exact grownCap_ge w _ _ _
  have hG63 : G ≤ 9223372036854775807 := by
    have := grownCap_le_maxLen w (n + m) c 22 (by unfold maxLen; omega)
    rw [← hG] at this
    unfold maxLen at this
    omega
  have hGi : ¬ (G = i) := by omega
  have hGim : ¬ (G = i + m) := by omega
  have hci : ¬ (c = i) := by omega
  have hbN : b ≠ w.heap.size := by omega
  have hdl : (cs.drop i).length = n - i := by rw [List.length_drop, hcl]
  have hcpB : ∀ (W : World), (∀ x, W.cell? x = (W1.setCells w.heap.size i vs).cell? x) → (∀ x, W.frozen? x = (W1.setCells w.heap.size i vs).frozen? x) → ∀ ty dc sc, (Builtin.copy_ #[45, 45] ty #[.slice (some ⟨w.heap.size, i + m, none⟩) (n + m - (i + m)) dc, .slice (some ⟨b, off + i, none⟩) (n - i) sc]).run Try.prog W = .ok (goInt (cs.drop i).length) (W.setCells w.heap.size (i + m) (cs.drop i)) := fun W hWc hWf ty dc sc =>
    run_copy_cells W _ _ ty 22 w.heap.size (i + m) (n + m - (i + m)) dc ⟨b, off + i, none⟩ (n - i) sc (cs.drop i) Try.underlying45 hsz (by rw [hdl]; simp only [Nat.min_def]; split <;> omega)
      (fun j v hj => by
        rw [Addr.add_lit, hWc, World.cell?_setCells_out _ _ _ _ _ (fun h _ => absurd h hbN), Nat.add_assoc]
        exact hOb _ v (hcs (i + j) v (by rwa [List.getElem?_drop] at hj)))
      (fun j hj => by rw [hWc]; exact isSome_setCells _ _ _ _ (fun t ht => hN _ (by omega)) _ (hN _ (by omega)))
      (fun j hj => by rw [hWf, World.frozen?_setCells]; exact hNf _) (fun v hv => h1c v (List.mem_of_mem_drop hv))
  subst hW1
  have hE1 : ∀ x, ((w.alloc (.cells ROW 22)).drew).cell? x = (w.drew.alloc (.cells ROW 22)).cell? x := fun x => rfl
  have hE2 : ∀ x, ((w.alloc (.cells ROW 22)).drew).frozen? x = (w.drew.alloc (.cells ROW 22)).frozen? x := fun x => rfl
  have hF1 : ∀ x, (((w.alloc (.cells ROW 22)).drew.setCells w.heap.size i vs).drew).cell? x = ((w.drew.alloc (.cells ROW 22)).setCells w.heap.size i vs).cell? x := fun x => rfl
  have hF2 : ∀ x, (((w.alloc (.cells ROW 22)).drew.setCells w.heap.size i vs).drew).frozen? x = ((w.drew.alloc (.cells ROW 22)).setCells w.heap.size i vs).frozen? x := fun x => rfl
  have hw1 : IntKind.i64.wrap ((i : Int) + (m : Int)) = (i : Int) + (m : Int) := by rw [IntKind.wrap_i64]; omega
  have hb1 : (0 : Int) ≤ (i : Int) + (m : Int) := by omega
  have hin : i ≤ n := by omega
  have htn : ((i : Int) + (m : Int)).toNat = i + m := by omega
  have hb3 : (i : Int) ≤ (n : Int) := by omega
  clear hkk hik hold hROW hG hRl
  go_enter Try.func26, Try.ntmps26
  go_wp2_with (first
    | (at_builtin; refine Lib.wpList_append_run _ rfl _ _ _ _ rfl _ _ rfl rfl _ _ (hrz _) ?_)
    | (at_builtin; refine wpList_copy_runI _ rfl _ _ 45 45 rfl _ _ rfl rfl (hcpA _ hE1 hE2 _ _) ?_)
    | (at_builtin; refine wpList_copy_runI _ rfl _ _ 45 45 rfl _ _ rfl rfl (hcpB _ (fun _ => rfl) (fun _ => rfl) _ _ _) ?_))
  go_region_law_o (refine step_copy_runI rfl _ _ 45 45 rfl (.slice (some ⟨w.heap.size, i + m, none⟩) (n + m - (i + m)) (G - (i + m))) (.slice (some ⟨b, off + i, none⟩) (n - i) (c - i)) (by simp [Act.eval, Act.put]) (by simp [Act.eval, Act.put]) (hcpB _ hF1 hF2 3 (G - (i + m)) (c - i)) ?_)
  go_wp2
  go_ret
  exact ⟨rfl, rfl⟩


theorem heap_setCells (ty : TypeId) (fz : Nat × Nat) (b : Nat) (L : List Value) : ∀ (o : Nat) (A : Array Value) (w : World), w.heap[b]? = some (.cells A ty fz) →
    (w.setCells b o L).heap = (World.withRow w b (spliceA A o L) ty fz).heap ∧ (w.setCells b o L).os = w.os ∧ (w.setCells b o L).tape = w.tape ∧ (w.setCells b o L).output = w.output := by
  induction L with
  | nil => intro o A w h; exact ⟨by simp only [World.setCells, spliceA]; rw [withRow_same h], rfl, rfl, rfl⟩
  | cons v L ih =>
    intro o A w h
    rw [World.setCells, setCell_row h]
    have hlt : b < w.heap.size := lt_of_get h
    obtain ⟨h1, h2, h3, h4⟩ := ih (o + 1) (A.setIfInBounds o v) (World.withRow w b (A.setIfInBounds o v) ty fz) (withRow_get hlt)
    rw [withRow_twice] at h1
    exact ⟨h1, h2, h3, h4⟩
theorem splice_room (u : Value) (xs ys : List Value) (hy : ys.length ≠ 0) : spliceA (spliceA (xs ++ ys).toArray 1 xs) 0 [u] = (u :: (xs ++ ys.drop 1)).toArray := by
  apply Array.ext_getElem?
  intro i
  rw [spliceA_get _ _ _ _ (by rw [spliceA_size]; simp; omega), spliceA_get _ _ _ _ (by simp; omega)]
  cases i with
  | zero => simp
  | succ i =>
    rw [if_neg (by simp)]
    by_cases h : i < xs.length
    · rw [if_pos (by omega)]; simp [List.getElem?_append_left, h]
    · rw [if_neg (by omega)]
      simp only [List.getElem?_toArray, List.getElem?_cons_succ]
      rw [List.getElem?_append_right (by omega), List.getElem?_append_right (by omega), List.getElem?_drop]
      congr 1; omega
theorem splice_grow (u : Value) (xs : List Value) (k : Nat) (z : Value) :
    spliceA (spliceA (List.replicate (xs.length + 1 + k) z).toArray 0 [u]) 1 xs = (u :: xs ++ List.replicate k z).toArray := by
  apply Array.ext_getElem?
  intro i
  rw [spliceA_get _ _ _ _ (by rw [spliceA_size]; simp; omega), spliceA_get _ _ _ _ (by simp; omega)]
  cases i with
  | zero => rw [if_neg (by omega), if_pos (by simp)]; simp
  | succ i =>
    by_cases h : i < xs.length
    · rw [if_pos (by omega)]; simp [List.getElem?_append_left, h]
    · rw [if_neg (by omega), if_neg (by simp)]
      simp only [List.getElem?_toArray, List.cons_append, List.getElem?_cons_succ]
      rw [List.getElem?_append_right (by omega), List.getElem?_replicate, List.getElem?_replicate]
      by_cases h2 : i - xs.length < k
      · rw [if_pos (by omega), if_pos h2]
      · rw [if_neg (by omega), if_neg h2]
theorem zc (n : Nat) (z : Value) (hz : z.cells = #[z]) : Builtin.zeroCells z.cells n = (List.replicate n z).toArray := by
  rw [hz]
  apply Array.ext_getElem?
  intro i
  simp only [Builtin.zeroCells]
  by_cases h : i < n <;> simp [Array.getElem?_map, h, Nat.mod_one]
theorem heap_of_cell {w : World} {b o : Nat} {u : Value} (h : w.cell? ⟨b, o, none⟩ = some u) : ∃ A ty fz, w.heap[b]? = some (.cells A ty fz) ∧ A[o]? = some u := by
  unfold World.cell? at h
  split at h
  · rename_i c ty fz hh
    exact ⟨c, ty, fz, hh, by simpa using h⟩
  · simp at h
theorem ins_room (w : World) (b vb voff vc : Nat) (xs ys : List Value) (u : Value) (ty : TypeId) (fz : Nat × Nat) (hx : xs.length ≠ 0) (hx2 : xs.length ≤ 1000) (hy : ys.length ≠ 0) (hc : xs.length + ys.length ≤ 9223372036854775807)
    (hb : w.heap[b]? = some (.cells (xs ++ ys).toArray ty fz)) (hf : ∀ i, i < xs.length + ys.length + 1 → w.frozen? ⟨b, i, none⟩ = false) (h1 : ∀ v ∈ xs, v.oneCell' = true) (hne : vb ≠ b) (hu : w.cell? ⟨vb, voff, none⟩ = some u) (h1u : u.oneCell' = true) :
    Calls Try.prog 26 #[.slice (some ⟨b, 0, none⟩) xs.length (xs.length + ys.length), .int .i64 0, .slice (some ⟨vb, voff, none⟩) 1 vc] w fun e w' => e = .returned (.slice (some ⟨b, 0, none⟩) (xs.length + 1) (xs.length + ys.length)) ∧
      SameW w' (World.withRow w b (u :: (xs ++ ys.drop 1)).toArray ty fz) := by
  obtain ⟨A, tyA, fzA, hA, hAo⟩ := heap_of_cell hu
  have hcell : ∀ j, w.cell? ⟨b, j, none⟩ = (xs ++ ys)[j]? := by intro j; rw [cell_of_block hb]; simp
  have hrun := ins_shift b 0 xs.length (xs.length + ys.length) 0 vb voff 1 vc xs [u] w (by omega) (by omega) (by omega) hc hne rfl rfl
    (by intro j v hj; rw [Nat.zero_add, hcell, List.getElem?_append_left (List.getElem?_eq_some_iff.1 hj).1]; exact hj)
    (by intro j hj; rw [Nat.zero_add, hcell, List.getElem?_eq_getElem (by simp; omega)]; rfl)
    (by intro j hj; rw [Nat.zero_add]; exact hf j (by omega))
    (by intro j v hj; cases j with
      | zero => simp at hj; subst hj; exact hu
      | succ j => simp at hj)
    h1 (by intro v hv; simp at hv; subst hv; exact h1u) tyA ty A.size (xs.length + ys.length) (by simp [World.shape?, hA]) (by simp [World.shape?, hb])
    (by have := (Array.getElem?_eq_some_iff.1 hAo).1; omega) (by omega) (fun k hk => hf k (by omega))
  refine hrun.mono ?_
  rintro e w' ⟨rfl, rfl⟩
  refine ⟨rfl, ?_⟩
  obtain ⟨p1, p2, p3, p4⟩ := heap_setCells ty fz b xs (0 + (0 + 1)) (xs ++ ys).toArray w.drew hb
  have hlt : b < w.drew.heap.size := lt_of_get hb
  obtain ⟨q1, q2, q3, q4⟩ := heap_setCells ty fz b [u] (0 + 0) (spliceA (xs ++ ys).toArray (0 + (0 + 1)) xs) (w.drew.setCells b (0 + (0 + 1)) xs) (by rw [p1]; exact withRow_get hlt)
  rw [List.drop_zero]
  refine ⟨?_, q2.trans p2, q3.trans p3, q4.trans p4⟩
  rw [q1]
  have e1 : ∀ (X Y : World) (B : Array Value), X.heap = Y.heap → (World.withRow X b B ty fz).heap = (World.withRow Y b B ty fz).heap := by intro X Y B h; simp only [World.withRow, h]
  rw [e1 _ _ _ p1, withRow_twice]
  have := splice_room u xs ys hy
  simp only [Nat.zero_add] at this ⊢
  rw [this]; rfl
theorem withRow_alloc (w : World) (A B : Array Value) (ty : TypeId) (fz : Nat × Nat) : (World.withRow (w.alloc (.cells A ty fz)) w.heap.size B ty fz).heap = (w.alloc (.cells B ty fz)).heap := by
  simp only [World.withRow, World.alloc]
  apply Array.ext_getElem?
  intro i
  rw [Array.getElem?_setIfInBounds, Array.getElem?_push, Array.getElem?_push]
  by_cases hi : w.heap.size = i
  · subst hi; simp
  · rw [if_neg hi, if_neg (by omega), if_neg (by omega)]
theorem ins_more (w : World) (b vb voff vc : Nat) (xs : List Value) (u : Value) (ty : TypeId) (fz : Nat × Nat) (hx : xs.length ≠ 0) (hx2 : xs.length ≤ 1000) (hb : w.heap[b]? = some (.cells xs.toArray ty fz)) (h1 : ∀ v ∈ xs, v.oneCell' = true) (hne : vb ≠ b)
    (hu : w.cell? ⟨vb, voff, none⟩ = some u) (h1u : u.oneCell' = true) :
    Calls Try.prog 26 #[.slice (some ⟨b, 0, none⟩) xs.length xs.length, .int .i64 0, .slice (some ⟨vb, voff, none⟩) 1 vc] w fun e w' => ∃ k, e = .returned (.slice (some ⟨w.heap.size, 0, none⟩) (xs.length + 1) (xs.length + 1 + k)) ∧
      SameW w' (w.alloc (.cells (u :: xs ++ List.replicate k (Value.slice none 0 0)).toArray 22)) := by
  have hcell : ∀ j, w.cell? ⟨b, j, none⟩ = xs[j]? := by intro j; rw [cell_of_block hb]; simp
  have hrun := ins_grow b 0 xs.length xs.length 0 vb voff 1 vc xs [u] w (by omega) (by omega) (by omega) (by omega) (by omega) rfl rfl
    (by intro j v hj; rw [Nat.zero_add, hcell]; exact hj)
    (by intro j v hj; cases j with
      | zero => simp at hj; subst hj; exact hu
      | succ j => simp at hj)
    h1 (by intro v hv; simp at hv; subst hv; exact h1u)
  refine hrun.mono ?_
  rintro e w' ⟨rfl, rfl⟩
  obtain ⟨k, hk⟩ : ∃ k, grownCap w (xs.length + 1) xs.length 22 = xs.length + 1 + k := ⟨grownCap w (xs.length + 1) xs.length 22 - (xs.length + 1), by have := grownCap_ge w (xs.length + 1) xs.length 22; omega⟩
  rw [hk]
  refine ⟨k, rfl, ?_⟩
  have hrow : ((xs.take 0).toArray ++ Builtin.zeroCells (Value.slice none 0 0).cells (xs.length + 1 - 0) ++ Builtin.zeroCells (Value.slice none 0 0).cells (xs.length + 1 + k - (xs.length + 1))) = (List.replicate (xs.length + 1 + k) (Value.slice none 0 0)).toArray := by
    rw [zc _ _ rfl, zc _ _ rfl]
    simp only [List.take_zero, List.append_toArray, List.nil_append, Nat.sub_zero, Nat.add_sub_cancel_left, List.replicate_append_replicate]
  rw [hrow, List.drop_zero]
  generalize hw1 : (w.alloc (.cells (List.replicate (xs.length + 1 + k) (Value.slice none 0 0)).toArray 22)).drew = w1
  have hN : w1.heap[w.heap.size]? = some (.cells (List.replicate (xs.length + 1 + k) (Value.slice none 0 0)).toArray 22) := by subst hw1; show (w.heap.push _)[w.heap.size]? = _; exact Array.getElem?_push_size
  have hlt := lt_of_get hN
  obtain ⟨p1, p2, p3, p4⟩ := heap_setCells _ _ _ [u] 0 _ w1 hN
  obtain ⟨q1, q2, q3, q4⟩ := heap_setCells _ _ w.heap.size xs (0 + 1) _ (w1.setCells w.heap.size 0 [u]).drew (by show (w1.setCells w.heap.size 0 [u]).heap[w.heap.size]? = _; rw [p1]; exact withRow_get hlt)
  refine ⟨?_, q2.trans (p2.trans (by subst hw1; rfl)), q3.trans (p3.trans (by subst hw1; rfl)), q4.trans (p4.trans (by subst hw1; rfl))⟩
  rw [q1]
  have e1 : ∀ (X Y : World) (B : Array Value) ty fz, X.heap = Y.heap → (World.withRow X w.heap.size B ty fz).heap = (World.withRow Y w.heap.size B ty fz).heap := by intro X Y B ty fz h; simp only [World.withRow, h]
  rw [e1 (w1.setCells w.heap.size 0 [u]).drew _ _ _ _ p1, withRow_twice, Nat.zero_add, splice_grow]
  subst hw1
  exact withRow_alloc w _ _ _ _
set_option maxHeartbeats 4000000 in
set_option maxRecDepth 100000 in
theorem clone_run (w : World) (b off cap : Nat) (xs : List Value) (hx : xs.length ≠ 0) (hx2 : xs.length ≤ 1000) (hcell : ∀ j u, xs[j]? = some u → w.cell? ⟨b, off + j, none⟩ = some u) (h1 : ∀ u ∈ xs, u.oneCell' = true) :
    Calls Try.prog 27 #[.slice (some ⟨b, off, none⟩) xs.length cap] w fun e w' => ∃ c, xs.length + c ≤ 9223372036854775807 ∧ e = .returned (.slice (some ⟨w.heap.size + 1, 0, none⟩) xs.length (xs.length + c)) ∧
      SameW w' ((w.alloc (.cells #[] 22)).alloc (.cells (xs ++ List.replicate c (Value.slice none 0 0)).toArray 22)) := by
  have t4 := Try.underlying4; have a4 := fun w => run_isAgg (P := Try.prog) (t := 4) (b := false) (by kernel_rfl) w; have z4 := fun w => tsize_run (P := Try.prog) (t := 4) (n := 1) (by kernel_rfl) w; have u4 := run_underlying t4
  have t22 := Try.underlying22; have a22 := fun w => run_isAgg (P := Try.prog) (t := 22) (b := false) (by kernel_rfl) w; have z22 := fun w => tsize_run (P := Try.prog) (t := 22) (n := 1) (by kernel_rfl) w; have u22 := run_underlying t22
  have t45 := Try.underlying45; have a45 := fun w => run_isAgg (P := Try.prog) (t := 45) (b := false) (by kernel_rfl) w; have z45 := fun w => tsize_run (P := Try.prog) (t := 45) (n := 1) (by kernel_rfl) w; have u45 := run_underlying t45
  have mixed : Try.prog.follows .mixedOrders = true := by kernel_rfl
  obtain ⟨i0, hi0, hz0, hzs, hzb⟩ := info22
  have q45 : ∀ (w : World) (a : Option Addr) (n c n' c' : Nat), (binOp .eql 45 (.slice a n c) (.slice none n' c')).run Try.prog w = .ok (.bool a.isNone) w := fun w a n c n' c' => Lib.run_eql_slice_nil w _ _ a n c n' c' Try.underlying45
  generalize hw1 : w.alloc (.cells #[] 22) = w1
  have hsz : w1.heap.size = w.heap.size + 1 := by subst hw1; show (w.heap.push _).size = _; exact Array.size_push _
  have hsrc : Go.Src Try.prog i0.size 45 (.slice (some ⟨b, off, none⟩) xs.length cap) xs.length xs w1 := by
    rw [hzs]
    refine Go.Src.ofSlice w1 Try.underlying45 ⟨b, off, none⟩ xs.length cap xs (by omega) (fun j u hj => ?_) h1
    rw [Addr.add_lit]
    subst hw1
    exact Lib.cell?_alloc_some _ (hcell j u hj)
  have hold : (Builtin.firstCells i0.size 0 (.slice (some ⟨w.heap.size, 0, none⟩) 0 0)).run Try.prog w1.drew = .ok ([] : List Value).toArray w1.drew := by
    rw [hzs]
    exact run_firstCells_some w1.drew 1 0 _ 0 0 [] (by simp) (fun j v hj => by simp at hj)
  have hrun : ∀ ty, (Builtin.append_ #[45, 45] ty #[.slice (some ⟨w.heap.size, 0, none⟩) 0 0, .slice (some ⟨b, off, none⟩) xs.length cap]).run Try.prog w1 = _ := fun ty =>
    run_append_grow_src w1 45 45 ty 22 i0 _ Try.underlying45 hi0 hz0 (some ⟨w.heap.size, 0, none⟩) 0 0 [] hold _ xs.length xs hsrc (by omega) (by omega) (by rw [hzb]; exact growslice_fits (by omega) (by omega))
  have hG := grownCap_le_maxLen w1 (0 + xs.length) 0 22 (by unfold maxLen; omega)
  unfold maxLen at hG
  go_enter Try.func27, Try.ntmps27
  go_wp2_with (first | (at_builtin; rw [hw1]; refine Lib.wpList_append_run _ rfl _ _ _ _ rfl _ _ rfl rfl _ _ (hrun _) ?_) | (at_builtin; refine Lib.wpList_append_run _ rfl _ _ _ _ rfl _ _ rfl rfl _ _ (hrun _) ?_))
  go_ret
  obtain ⟨k, hk⟩ : ∃ k, grownCap w1 (0 + xs.length) 0 22 = xs.length + k := ⟨grownCap w1 (0 + xs.length) 0 22 - xs.length, by have := grownCap_ge w1 (0 + xs.length) 0 22; omega⟩
  rw [hk] at hG
  refine ⟨k, hG, ?_, ?_⟩
  · rw [Nat.zero_add] at hk
    rw [hk]; rfl
  · rw [Nat.zero_add] at hk
    have e := zc k (.slice none 0 0) rfl
    rw [show (Value.slice none 0 0).cells = #[Value.slice none 0 0] from rfl] at e
    rw [hk, Nat.add_sub_cancel_left, e, List.append_toArray]
    exact ⟨by subst hw1; rfl, by subst hw1; rfl, by subst hw1; rfl, by subst hw1; rfl⟩
theorem clone_ok : PrimN Try.prog 27 clonePrim := clonePrim_ok (ety := 22) (fun args w => Try.call27 args w) clone_run
theorem ins_ok : PrimOk Try.prog 26 insPrim := insPrim_ok (ety := 22) (fun args w => Try.call26 args w) ins_more ins_room
end Go.Av.Sha
end

section
set_option linter.unusedSimpArgs false
set_option linter.unusedVariables false
open Go Go.Av Go.Proofs
namespace Go.Av.Sha
/-- The first k bytes xored. -/
def xorTo (D : List (BitVec 8)) (x : BitVec 8) (k : Nat) : List (BitVec 8) := (D.take k).map (· ^^^ x) ++ D.drop k
theorem xorTo_len (D : List (BitVec 8)) (x : BitVec 8) (k : Nat) : (xorTo D x k).length = D.length := by simp [xorTo]; omega
theorem xorTo_zero (D : List (BitVec 8)) (x : BitVec 8) : xorTo D x 0 = D := by simp [xorTo]
theorem xorTo_get (D : List (BitVec 8)) (x : BitVec 8) (k : Nat) (h : k < D.length) : (xorTo D x k).getD k 0#8 = D.getD k 0#8 := by
  simp only [xorTo, List.getD_eq_getElem?_getD]
  rw [List.getElem?_append_right (by simp; omega), List.getElem?_drop]
  simp; congr 2; omega
theorem xorTo_succ (D : List (BitVec 8)) (x : BitVec 8) (k : Nat) (h : k < D.length) : (xorTo D x k).set k (D.getD k 0#8 ^^^ x) = xorTo D x (k + 1) := by
  have hl : ((D.take k).map (· ^^^ x)).length = k := by simp; omega
  have hd : D.drop k = D.getD k 0#8 :: D.drop (k + 1) := by
    rw [List.drop_eq_getElem_cons h, List.getD_eq_getElem?_getD, List.getElem?_eq_getElem h]; rfl
  unfold xorTo
  rw [List.set_append_right _ _ (by omega), hl, Nat.sub_self, hd, List.set_cons_zero, List.take_succ_eq_append_getElem h, List.map_append, List.append_assoc]
  simp [List.getD_eq_getElem?_getD, h]
def z64 : List (BitVec 8) := List.replicate 64 0#8
theorem z64_len : z64.length = 64 := rfl
@[simp high] theorem mk64 (H : List (Nat × (Nat × HB))) (d : Nat) : amakeSlice Try.prog H d 22 (.p (.int .i64 64)) (.p (.int .i64 64)) = some (.own d (nextVer H d) 0 64 64, upd H d (nextVer H d, .row (bl z64))) :=
  amake_bytes (e := 5) (by kernel_rfl) H d .i64 .i64 64 64 (by decide) (by decide) (by decide)
theorem z64_drop (n : Nat) : z64.drop n = List.replicate (64 - n) 0#8 := by unfold z64; exact List.drop_replicate
/-- A key's bytes, with noughts behind them, xored. -/
def padM (key : List (BitVec 8)) (x : BitVec 8) : List (BitVec 8) := xorTo (key ++ List.replicate (64 - key.length) 0#8) x 64
theorem padM_len (key : List (BitVec 8)) (x : BitVec 8) (h : key.length ≤ 64) : (padM key x).length = 64 := by unfold padM; rw [xorTo_len]; simp; omega
set_option maxHeartbeats 10000000 in
theorem pad_ct (nl : Bool) (key : List (BitVec 8)) (h : key.length ≤ 64) (x : BitVec 8) : Fn Try.prog 28 [.sl (bl key) nl, .int .u8 (ub x)] [.p (.sl (bl (padM key x)) false)] := by
  have h64 := z64_len
  have hsp : key.take 64 ++ z64.drop key.length = key ++ List.replicate (64 - key.length) 0#8 := by
    rw [List.take_of_length_le h, z64_drop]
  have hDl : (key ++ List.replicate (64 - key.length) 0#8).length = 64 := by simp; omega
  have hP : padM key x = xorTo (key ++ List.replicate (64 - key.length) 0#8) x 64 := rfl
  refine Fn.of_body Try.func28 rfl ?_
  generalize key ++ List.replicate (64 - key.length) 0#8 = D at *
  repeat (first | ((first | (with_reducible first | refine zP fun K_ hK_ => ?_ | refine zQ fun K_ hK_ => ?_ | refine zT ?_ | refine zU ?_ | refine zV ?_ | refine zW ?_ | refine zX ?_ | refine zY ?_) | ((with_reducible first | refine zR ?_ ?_ fun K_ hK_ => ?_ | refine zS ?_ ?_ fun K_ hK_ => ?_); (focus kernel_rfl); (focus kernel_rfl))); first | (simp (maxSteps := 1000000) (disch := refine hold_ ?_; first | (simp [h64, hsp, h, -List.getD_eq_getElem?_getD]; done) | omega) [h64, hsp, h, -List.getD_eq_getElem?_getD]; try first | (with_reducible refine zZ ?_) | subst hK_) | subst hK_) | (with_reducible first | refine zA ?_ | refine zB ?_ | refine zC ?_ | refine zD ?_ | refine zE ?_ | refine zF ?_ | refine zG ?_ | refine zH ?_ | refine zI ?_ | refine zJ ?_ | refine zK ?_ | refine zL ?_ | refine zM ?_ | refine zN ?_ | refine zO ?_) | ((with_reducible refine yG ?_ ?_); (focus decide)) | ((with_reducible refine yA ?_); refine yB rfl ?_; (with_reducible first | refine yC ?_ | refine yD ?_)))
  refine AW.iter (true :: true :: false :: false :: false :: true :: false :: false :: false :: false :: false :: false :: true :: true :: false :: false :: false :: false :: false :: false :: false :: false :: false :: false :: false :: []) 64 (fun k => ⟨(.p (.sl (bl key) nl) :: .p (.int .u8 (ub x)) :: V.junk :: V.junk :: V.junk :: .own 7 0 0 64 64 :: V.junk :: V.junk :: V.junk :: V.junk :: V.junk :: V.junk :: .p (.int .i64 64) :: .p (.int .i64 k) :: V.junk :: V.junk :: V.junk :: V.junk :: V.junk :: V.junk :: V.junk :: V.junk :: V.junk :: V.junk :: V.junk :: []), ⟨[(7, 0, .row (bl (xorTo D x k)))], []⟩⟩) ?_ ?_
  · simp (maxSteps := 1000000) (disch := refine hold_ ?_; first | (simp [xorTo_zero, hsp, -List.getD_eq_getElem?_getD]; done) | omega) [xorTo_zero, hsp, -List.getD_eq_getElem?_getD]
  intro k hk
  have e0 : IntKind.i64.wrap ((k : Int) + 1) = k + 1 := wrap_i64 _ (by omega) (by omega)
  have e1 := xorTo_len D x k
  repeat (first | ((first | (with_reducible first | refine zP fun K_ hK_ => ?_ | refine zQ fun K_ hK_ => ?_ | refine zT ?_ | refine zU ?_ | refine zV ?_ | refine zW ?_ | refine zX ?_ | refine zY ?_) | ((with_reducible first | refine zR ?_ ?_ fun K_ hK_ => ?_ | refine zS ?_ ?_ fun K_ hK_ => ?_); (focus kernel_rfl); (focus kernel_rfl))); first | (simp (maxSteps := 1000000) (disch := refine hold_ ?_; first | (simp [e0, e1, hDl, -List.getD_eq_getElem?_getD]; done) | omega) [e0, e1, hDl, -List.getD_eq_getElem?_getD]; try first | (with_reducible refine zZ ?_) | subst hK_) | subst hK_) | (with_reducible first | refine zA ?_ | refine zB ?_ | refine zC ?_ | refine zD ?_ | refine zE ?_ | refine zF ?_ | refine zG ?_ | refine zH ?_ | refine zI ?_ | refine zJ ?_ | refine zK ?_ | refine zL ?_ | refine zM ?_ | refine zN ?_ | refine zO ?_) | ((with_reducible refine yG ?_ ?_); (focus decide)) | ((with_reducible refine yA ?_); refine yB rfl ?_; (with_reducible first | refine yC ?_ | refine yD ?_)))
  first | refine AW.condD rfl (fun hc => ?_) (fun hc => ?_) | refine AW.cond rfl (fun hc => ?_) (fun hc => ?_)
  · have hk2 : k < 64 := by omega
    have e2 := xorTo_get D x k (by omega)
    have e3 := xorTo_succ D x k (by omega)
    repeat (first | ((first | (with_reducible first | refine zP fun K_ hK_ => ?_ | refine zQ fun K_ hK_ => ?_ | refine zT ?_ | refine zU ?_ | refine zV ?_ | refine zW ?_ | refine zX ?_ | refine zY ?_) | ((with_reducible first | refine zR ?_ ?_ fun K_ hK_ => ?_ | refine zS ?_ ?_ fun K_ hK_ => ?_); (focus kernel_rfl); (focus kernel_rfl))); first | (simp (maxSteps := 1000000) (disch := refine hold_ ?_; first | (simp [e0, e1, e2, hDl, hk2, -List.getD_eq_getElem?_getD]; done) | omega) [e0, e1, e2, hDl, hk2, -List.getD_eq_getElem?_getD]; try first | (with_reducible refine zZ ?_) | subst hK_) | subst hK_) | (with_reducible first | refine zA ?_ | refine zB ?_ | refine zC ?_ | refine zD ?_ | refine zE ?_ | refine zF ?_ | refine zG ?_ | refine zH ?_ | refine zI ?_ | refine zJ ?_ | refine zK ?_ | refine zL ?_ | refine zM ?_ | refine zN ?_ | refine zO ?_) | ((with_reducible refine yG ?_ ?_); (focus decide)) | ((with_reducible refine yA ?_); refine yB rfl ?_; (with_reducible first | refine yC ?_ | refine yD ?_)))
    refine ⟨hk2, ?_⟩
    simp (maxSteps := 1000000) (disch := refine hold_ ?_; first | (simp [e3, -List.getD_eq_getElem?_getD]; done) | omega) [e3, -List.getD_eq_getElem?_getD]
  · have hk2 : k = 64 := by omega
    subst hk2
    rw [hP]
    generalize hX : xorTo D x 64 = X at *
    repeat (first | ((with_reducible refine Go.Av.AW.freezeAt 8 7 ?_ ?_ fun K_ hK_ => ?_); (focus decide); (focus (simp; done)); simp (maxSteps := 1000000) (disch := refine hold_ ?_; first | (simp [-ownSl, Go.Av.ownSl_bl, e1, hDl, -List.getD_eq_getElem?_getD]; done) | omega) [-ownSl, Go.Av.ownSl_bl, e1, hDl, -List.getD_eq_getElem?_getD]; subst hK_) | ((first | (with_reducible first | refine zP fun K_ hK_ => ?_ | refine zQ fun K_ hK_ => ?_ | refine zT ?_ | refine zU ?_ | refine zV ?_ | refine zW ?_ | refine zX ?_ | refine zY ?_) | ((with_reducible first | refine zR ?_ ?_ fun K_ hK_ => ?_ | refine zS ?_ ?_ fun K_ hK_ => ?_); (focus kernel_rfl); (focus kernel_rfl))); first | (simp (maxSteps := 1000000) (disch := refine hold_ ?_; first | (simp [e1, hDl, -List.getD_eq_getElem?_getD]; done) | omega) [e1, hDl, -List.getD_eq_getElem?_getD]; try first | (with_reducible refine zZ ?_) | subst hK_) | subst hK_) | (with_reducible first | refine zA ?_ | refine zB ?_ | refine zC ?_ | refine zD ?_ | refine zE ?_ | refine zF ?_ | refine zG ?_ | refine zH ?_ | refine zI ?_ | refine zJ ?_ | refine zK ?_ | refine zL ?_ | refine zM ?_ | refine zN ?_ | refine zO ?_) | ((with_reducible refine yG ?_ ?_); (focus decide)) | ((with_reducible refine yA ?_); refine yB rfl ?_; (with_reducible first | refine yC ?_ | refine yD ?_)))
    simp (maxSteps := 1000000) (disch := refine hold_ ?_; first | (simp [e1, hDl, List.take_of_length_le, -List.getD_eq_getElem?_getD]; done) | omega) [e1, hDl, List.take_of_length_le, -List.getD_eq_getElem?_getD]
end Go.Av.Sha
end

section
set_option linter.unusedSimpArgs false
set_option linter.unusedVariables false
open Go Go.Av Go.Proofs
namespace Go.Av.Sha
def keyM (key : List (BitVec 8)) : List (BitVec 8) := if key.length ≤ 64 then key else shaL key
theorem shaL_len (c : List (BitVec 8)) : (shaL c).length = 32 := outL_len _ _
theorem keyM_len (key : List (BitVec 8)) : (keyM key).length ≤ 64 := by unfold keyM; split; assumption; rw [shaL_len]; omega
/-- The HMAC. -/
def macL (key c : List (BitVec 8)) : List (BitVec 8) := shaL (padM (keyM key) 0x5C#8 ++ shaL (padM (keyM key) 0x36#8 ++ c))
def catL (ps : List Part) : List (BitVec 8) := cat ps ps.length
theorem catL_cons (p : Part) (ps : List Part) : catL (p :: ps) = p.1 ++ catL ps := by simp [catL, cat]
theorem sum_all (ps : List Part) (n0 : Bool) (hps : ps.length ≤ 1000000) (hcat : (catL ps).length ≤ 4000000) : Fn Try.prog 13 [.sl (pR ps) n0] [.p (.agg (bl (shaL (catL ps))))] := sum_ct ps n0 hps hcat
theorem sum_one (nl : Bool) (c : List (BitVec 8)) (h : c.length ≤ 4000000) (n0 : Bool) : Fn Try.prog 13 [.sl (.vals 1 [.sl (bl c) nl]) n0] [.p (.agg (bl (shaL c)))] := by
  have := sum_all [(c, nl)] n0 (by simp) (by rw [catL_cons]; simpa [catL, cat] using h)
  rw [catL_cons, show catL [] = [] from rfl, List.append_nil] at this
  exact this
theorem sum_two (na nb : Bool) (a b : List (BitVec 8)) (h : a.length + b.length ≤ 4000000) (n0 : Bool) : Fn Try.prog 13 [.sl (.vals 1 [.sl (bl a) na, .sl (bl b) nb]) n0] [.p (.agg (bl (shaL (a ++ b))))] := by
  have := sum_all [(a, na), (b, nb)] n0 (by simp) (by rw [catL_cons, catL_cons]; simpa [catL, cat] using h)
  rw [catL_cons, catL_cons, show catL [] = [] from rfl, List.append_nil] at this
  exact this
theorem cut_ins (x : PV) (cs zs : List PV) (h : zs.length ≠ 0) : ownSl (.vals 1 (x :: (cs ++ zs.drop 1))) 0 (cs.length + 1) = some (.sl (.vals 1 (x :: cs)) false) := by
  unfold ownSl
  rw [if_pos ⟨rfl, by simp [Row.len]⟩]
  congr 2
  split
  · rename_i hc
    have : (zs.drop 1).length = 0 := by have := hc.2; simp [Row.len] at this; simp; omega
    rw [List.length_eq_zero_iff.1 this, List.append_nil]
  · simp [Row.cut]
set_option maxHeartbeats 10000000 in
theorem of_ct (nl : Bool) (key : List (BitVec 8)) (hk : key.length ≤ 4000000) (ps : List Part) (h0 : ps.length ≠ 0) (h1 : ps.length ≤ 900) (h2 : (catL ps).length ≤ 3000000) :
    Fn Try.prog 18 [.sl (bl key) nl, .sl (pR ps) false] [.p (.agg (bl (macL key (catL ps))))] := by
  have hz : zero32.length = 32 := rfl
  have hKl := keyM_len key
  have hAl := padM_len (keyM key) 0x36#8 hKl
  have hBl := padM_len (keyM key) 0x5C#8 hKl
  have cA : ∀ n, Fn Try.prog 28 [.sl (bl (keyM key)) n, .int .u8 54] [.p (.sl (bl (padM (keyM key) 0x36#8)) false)] := fun n => pad_ct n _ hKl 0x36#8
  have cB : ∀ n, Fn Try.prog 28 [.sl (bl (keyM key)) n, .int .u8 92] [.p (.sl (bl (padM (keyM key) 0x5C#8)) false)] := fun n => pad_ct n _ hKl 0x5C#8
  have c13 := sum_all ((padM (keyM key) 0x36#8, false) :: ps) false (by simp; omega) (by rw [catL_cons, List.length_append, hAl]; omega)
  rw [catL_cons] at c13
  have hSl := shaL_len (padM (keyM key) 0x36#8 ++ catL ps)
  have cC := sum_two false false (padM (keyM key) 0x5C#8) (shaL (padM (keyM key) 0x36#8 ++ catL ps)) (by rw [hBl, hSl]; omega) false
  have hMl : (macL key (catL ps)).length = 32 := shaL_len _
  have hM : shaL (padM (keyM key) 0x5C#8 ++ shaL (padM (keyM key) 0x36#8 ++ catL ps)) = macL key (catL ps) := rfl
  rw [hM] at cC
  simp only at c13
  clear hM h2
  have hS0 : ¬ key.length ≤ 64 → keyM key = shaL key := by intro h; unfold keyM; rw [if_neg h]
  have hS1 : key.length ≤ 64 → keyM key = key := by intro h; unfold keyM; rw [if_pos h]
  have c0 := sum_one nl key hk false
  have h0l := shaL_len key
  have hcs : (pR ps) = .vals 1 (ps.map fun p => .sl (bl p.1) p.2) := rfl
  have hc1 : ((ps.map fun p => PV.sl (bl p.1) p.2).all PV.one) = true := by simp [PV.one]
  have hcl : (ps.map fun p => PV.sl (bl p.1) p.2).length = ps.length := by simp
  have hcA : (pR ((padM (keyM key) 0x36#8, false) :: ps)) = .vals 1 (.sl (bl (padM (keyM key) 0x36#8)) false :: ps.map fun p => .sl (bl p.1) p.2) := rfl
  rw [hcA] at c13
  rw [hcs]
  generalize (ps.map fun p => PV.sl (bl p.1) p.2) = cs at *
  generalize ps.length = n at *
  generalize macL key (catL ps) = M at *
  generalize shaL (padM (keyM key) 0x36#8 ++ catL ps) = S at *
  generalize padM (keyM key) 0x36#8 = A at *
  generalize padM (keyM key) 0x5C#8 = B at *
  generalize keyM key = K at *
  generalize shaL key = S0 at *
  subst hcl
  have hw : ∀ m : Nat, (List.replicate m zsl).all PV.one = true := by intro m; simp [zsl, PV.one]
  refine Fn.of_body Try.func18 rfl ?_
  have hM := hMl
  have hT2 : S.take 32 = S := List.take_of_length_le (by omega)
  repeat (first | ((first | (with_reducible first | refine zP fun K_ hK_ => ?_ | refine zQ fun K_ hK_ => ?_ | refine zT ?_ | refine zU ?_ | refine zV ?_ | refine zW ?_ | refine zX ?_ | refine zY ?_) | ((with_reducible first | refine zR ?_ ?_ fun K_ hK_ => ?_ | refine zS ?_ ?_ fun K_ hK_ => ?_); (focus kernel_rfl); (focus kernel_rfl))); first | (simp (maxSteps := 1000000) (disch := refine hold_ ?_; first | (simp [-List.getD_eq_getElem?_getD]; done) | omega) [-List.getD_eq_getElem?_getD]; try first | (with_reducible refine zZ ?_) | subst hK_) | subst hK_) | (with_reducible first | refine zA ?_ | refine zB ?_ | refine zC ?_ | refine zD ?_ | refine zE ?_ | refine zF ?_ | refine zG ?_ | refine zH ?_ | refine zI ?_ | refine zJ ?_ | refine zK ?_ | refine zL ?_ | refine zM ?_ | refine zN ?_ | refine zO ?_) | ((with_reducible refine yG ?_ ?_); (focus decide)) | ((with_reducible refine yA ?_); refine yB rfl ?_; (with_reducible first | refine yC ?_ | refine yD ?_)))
  first | refine AW.condD rfl (fun hc => ?_) (fun hc => ?_) | refine AW.cond rfl (fun hc => ?_) (fun hc => ?_)
  · have hk2 : ¬ key.length ≤ 64 := by omega
    obtain rfl := hS0 hk2
    have hT : K.take 32 = K := List.take_of_length_le (by omega)
    repeat (first | ((with_reducible refine Go.Av.AW.freezeAt 4 5 ?_ ?_ fun K_ hK_ => ?_); (focus decide); (focus (simp; done)); simp (maxSteps := 1000000) (disch := refine hold_ ?_; first | (simp [-ownSl, Go.Av.ownSl_bl, h0l, hz, hT, clonePrim, h0, h1, hc1, -List.getD_eq_getElem?_getD]; done) | omega) [-ownSl, Go.Av.ownSl_bl, h0l, hz, hT, clonePrim, h0, h1, hc1, -List.getD_eq_getElem?_getD]; subst hK_) | ((with_reducible refine Go.Av.AW.regCAt 4 [1] ?_ fun K_ hK_ => ?_); (focus decide)) | (with_reducible refine Go.Av.runC_cons fun K_ hK_ => ?_; (try simp (maxSteps := 1000000) (disch := refine hold_ ?_; first | (simp [h0l, hz, hT, clonePrim, h0, h1, hc1, -List.getD_eq_getElem?_getD]; done) | omega) [h0l, hz, hT, clonePrim, h0, h1, hc1, -List.getD_eq_getElem?_getD]); first | (with_reducible refine zZ ?_) | subst hK_) | (with_reducible refine Go.Av.runC_nil ?_; (try simp (maxSteps := 1000000) (disch := refine hold_ ?_; first | (simp [h0l, hz, hT, clonePrim, h0, h1, hc1, -List.getD_eq_getElem?_getD]; done) | omega) [h0l, hz, hT, clonePrim, h0, h1, hc1, -List.getD_eq_getElem?_getD]); first | (with_reducible refine zZ ?_) | subst hK_) | ((with_reducible refine Go.Av.XS_at 1 ?_); refine Go.Av.XS.way rfl rfl rfl (by decide) (clone_ok) fun c_ hc_ => ?_; (try simp (maxSteps := 1000000) (disch := refine hold_ ?_; first | (simp [h0l, hz, hT, clonePrim, h0, h1, hc1, -List.getD_eq_getElem?_getD]; done) | omega) [h0l, hz, hT, clonePrim, h0, h1, hc1, -List.getD_eq_getElem?_getD]); try first | (with_reducible refine zZ ?_) | subst hK_) | ((with_reducible first | refine callK_at 13 ?_); refine callK_p ?_; simp (maxSteps := 1000000) (disch := refine hold_ ?_; first | (simp [h0l, hz, hT, clonePrim, h0, h1, hc1, -List.getD_eq_getElem?_getD]; done) | omega) [h0l, hz, hT, clonePrim, h0, h1, hc1, -List.getD_eq_getElem?_getD]; (first | refine callK1_of (Fn.ct c0 Try.call13) ?_); (try simp (maxSteps := 1000000) (disch := refine hold_ ?_; first | (simp [h0l, hz, hT, clonePrim, h0, h1, hc1, -List.getD_eq_getElem?_getD]; done) | omega) [h0l, hz, hT, clonePrim, h0, h1, hc1, -List.getD_eq_getElem?_getD]); try first | (with_reducible refine zZ ?_) | subst hK_) | ((first | (with_reducible first | refine zP fun K_ hK_ => ?_ | refine zQ fun K_ hK_ => ?_ | refine zT ?_ | refine zU ?_ | refine zV ?_ | refine zW ?_ | refine zX ?_ | refine zY ?_) | ((with_reducible first | refine zR ?_ ?_ fun K_ hK_ => ?_ | refine zS ?_ ?_ fun K_ hK_ => ?_); (focus kernel_rfl); (focus kernel_rfl))); first | (simp (maxSteps := 1000000) (disch := refine hold_ ?_; first | (simp [h0l, hz, hT, clonePrim, h0, h1, hc1, -List.getD_eq_getElem?_getD]; done) | omega) [h0l, hz, hT, clonePrim, h0, h1, hc1, -List.getD_eq_getElem?_getD]; try first | (with_reducible refine zZ ?_) | subst hK_) | subst hK_) | (with_reducible first | refine zA ?_ | refine zB ?_ | refine zC ?_ | refine zD ?_ | refine zE ?_ | refine zF ?_ | refine zG ?_ | refine zH ?_ | refine zI ?_ | refine zJ ?_ | refine zK ?_ | refine zL ?_ | refine zM ?_ | refine zN ?_ | refine zO ?_) | ((with_reducible refine yG ?_ ?_); (focus decide)) | ((with_reducible refine yA ?_); refine yB rfl ?_; (with_reducible first | refine yC ?_ | refine yD ?_)))
    obtain ⟨m, hm⟩ : ∃ m, c_ - cs.length = m := ⟨_, rfl⟩
    have hb : cs.length + m ≤ 9223372036854775807 := by omega
    rw [hm]
    have hall : (cs ++ List.replicate m zsl).all PV.one = true := by rw [List.all_append, hc1, hw]; rfl
    cases m with
    | zero =>
      repeat (first | ((with_reducible refine callK_at 26 ?_); refine callK_b (by decide) (ins_ok) ?_; simp (maxSteps := 1000000) (disch := refine hold_ ?_; first | (simp [Go.Av.copyPrim, Go.Av.strPrim, insPrim, oneOf, h0, h1, hc1, hb, hz, hSl, hM, hT2, PV.one, -List.getD_eq_getElem?_getD]; done) | omega) [Go.Av.copyPrim, Go.Av.strPrim, insPrim, oneOf, h0, h1, hc1, hb, hz, hSl, hM, hT2, PV.one, -List.getD_eq_getElem?_getD]; first | refine zZ ?_ | subst hK_) | ((with_reducible refine Go.Av.AW.freezeAt 5 6 ?_ ?_ fun K_ hK_ => ?_); (focus decide); (focus (simp; done)); simp (maxSteps := 1000000) (disch := refine hold_ ?_; first | (simp [-ownSl, Go.Av.ownSl_bl, insPrim, oneOf, h0, h1, hc1, hb, hz, hSl, hM, hT2, PV.one, -List.getD_eq_getElem?_getD]; done) | omega) [-ownSl, Go.Av.ownSl_bl, insPrim, oneOf, h0, h1, hc1, hb, hz, hSl, hM, hT2, PV.one, -List.getD_eq_getElem?_getD]; subst hK_) | ((with_reducible first | refine callK_at 28 ?_ | refine callK_at 13 ?_); refine callK_p ?_; simp (maxSteps := 1000000) (disch := refine hold_ ?_; first | (simp [insPrim, oneOf, h0, h1, hc1, hb, hz, hSl, hM, hT2, PV.one, -List.getD_eq_getElem?_getD]; done) | omega) [insPrim, oneOf, h0, h1, hc1, hb, hz, hSl, hM, hT2, PV.one, -List.getD_eq_getElem?_getD]; (first | ((with_reducible refine k1_at 28 ?_); refine callK1_of (Fn.ct (cA _) Try.call28) ?_) | ((with_reducible refine k1_at 28 ?_); refine callK1_of (Fn.ct (cB _) Try.call28) ?_) | ((with_reducible refine k1_at 13 ?_); refine callK1_of (Fn.ct c13 Try.call13) ?_) | ((with_reducible refine k1_at 13 ?_); refine callK1_of (Fn.ct cC Try.call13) ?_)); (try simp (maxSteps := 1000000) (disch := refine hold_ ?_; first | (simp [insPrim, oneOf, h0, h1, hc1, hb, hz, hSl, hM, hT2, PV.one, -List.getD_eq_getElem?_getD]; done) | omega) [insPrim, oneOf, h0, h1, hc1, hb, hz, hSl, hM, hT2, PV.one, -List.getD_eq_getElem?_getD]); try first | (with_reducible refine zZ ?_) | subst hK_) | ((with_reducible first | refine callK_at 13 ?_); refine callK_s (by decide) ?_; simp (maxSteps := 1000000) (disch := refine hold_ ?_; first | (simp [insPrim, oneOf, h0, h1, hc1, hb, hz, hSl, hM, hT2, PV.one, -List.getD_eq_getElem?_getD]; done) | omega) [insPrim, oneOf, h0, h1, hc1, hb, hz, hSl, hM, hT2, PV.one, -List.getD_eq_getElem?_getD]; (first | refine callK2_of rfl (Fn.ct c13 Try.call13) ?_); (try simp (maxSteps := 1000000) (disch := refine hold_ ?_; first | (simp [insPrim, oneOf, h0, h1, hc1, hb, hz, hSl, hM, hT2, PV.one, -List.getD_eq_getElem?_getD]; done) | omega) [insPrim, oneOf, h0, h1, hc1, hb, hz, hSl, hM, hT2, PV.one, -List.getD_eq_getElem?_getD]); try first | (with_reducible refine zZ ?_) | subst hK_) | ((first | (with_reducible first | refine zP fun K_ hK_ => ?_ | refine zQ fun K_ hK_ => ?_ | refine zT ?_ | refine zU ?_ | refine zV ?_ | refine zW ?_ | refine zX ?_ | refine zY ?_) | ((with_reducible first | refine zR ?_ ?_ fun K_ hK_ => ?_ | refine zS ?_ ?_ fun K_ hK_ => ?_); (focus kernel_rfl); (focus kernel_rfl))); first | (simp (maxSteps := 1000000) (disch := refine hold_ ?_; first | (simp [insPrim, oneOf, h0, h1, hc1, hb, hz, hSl, hM, hT2, PV.one, -List.getD_eq_getElem?_getD]; done) | omega) [insPrim, oneOf, h0, h1, hc1, hb, hz, hSl, hM, hT2, PV.one, -List.getD_eq_getElem?_getD]; try first | (with_reducible refine zZ ?_) | subst hK_) | subst hK_) | (with_reducible first | refine zA ?_ | refine zB ?_ | refine zC ?_ | refine zD ?_ | refine zE ?_ | refine zF ?_ | refine zG ?_ | refine zH ?_ | refine zI ?_ | refine zJ ?_ | refine zK ?_ | refine zL ?_ | refine zM ?_ | refine zN ?_ | refine zO ?_) | ((with_reducible refine yG ?_ ?_); (focus decide)) | ((with_reducible refine yA ?_); refine yB rfl ?_; (with_reducible first | refine yC ?_ | refine yD ?_)))
      simp (maxSteps := 1000000) (disch := refine hold_ ?_; first | (simp [hM, -List.getD_eq_getElem?_getD]; done) | omega) [hM, -List.getD_eq_getElem?_getD]
    | succ m =>
      have hcut : ownSl (Row.vals 1 (.sl (bl A) false :: (cs ++ List.replicate m zsl))) 0 (cs.length + 1) = some (.sl (Row.vals 1 (.sl (bl A) false :: cs)) false) := by
        have := cut_ins (.sl (bl A) false) cs (List.replicate (m + 1) zsl) (by simp)
        rw [List.drop_replicate] at this; exact this
      repeat (first | ((with_reducible refine callK_at 26 ?_); refine callK_b (by decide) (ins_ok) ?_; simp (maxSteps := 1000000) (disch := refine hold_ ?_; first | (simp [Go.Av.copyPrim, Go.Av.strPrim, insPrim, oneOf, h0, h1, hc1, hb, hz, hSl, hM, hT2, hall, PV.one, -ownSl, hcut, -List.getD_eq_getElem?_getD]; done) | omega) [Go.Av.copyPrim, Go.Av.strPrim, insPrim, oneOf, h0, h1, hc1, hb, hz, hSl, hM, hT2, hall, PV.one, -ownSl, hcut, -List.getD_eq_getElem?_getD]; first | refine zZ ?_ | subst hK_) | ((with_reducible refine Go.Av.AW.freezeAt 5 6 ?_ ?_ fun K_ hK_ => ?_); (focus decide); (focus (simp; done)); simp (maxSteps := 1000000) (disch := refine hold_ ?_; first | (simp [-ownSl, Go.Av.ownSl_bl, insPrim, oneOf, h0, h1, hc1, hb, hz, hSl, hM, hT2, hall, PV.one, -ownSl, hcut, -List.getD_eq_getElem?_getD]; done) | omega) [-ownSl, Go.Av.ownSl_bl, insPrim, oneOf, h0, h1, hc1, hb, hz, hSl, hM, hT2, hall, PV.one, -ownSl, hcut, -List.getD_eq_getElem?_getD]; subst hK_) | ((with_reducible first | refine callK_at 28 ?_ | refine callK_at 13 ?_); refine callK_p ?_; simp (maxSteps := 1000000) (disch := refine hold_ ?_; first | (simp [insPrim, oneOf, h0, h1, hc1, hb, hz, hSl, hM, hT2, hall, PV.one, -ownSl, hcut, -List.getD_eq_getElem?_getD]; done) | omega) [insPrim, oneOf, h0, h1, hc1, hb, hz, hSl, hM, hT2, hall, PV.one, -ownSl, hcut, -List.getD_eq_getElem?_getD]; (first | ((with_reducible refine k1_at 28 ?_); refine callK1_of (Fn.ct (cA _) Try.call28) ?_) | ((with_reducible refine k1_at 28 ?_); refine callK1_of (Fn.ct (cB _) Try.call28) ?_) | ((with_reducible refine k1_at 13 ?_); refine callK1_of (Fn.ct cC Try.call13) ?_)); (try simp (maxSteps := 1000000) (disch := refine hold_ ?_; first | (simp [insPrim, oneOf, h0, h1, hc1, hb, hz, hSl, hM, hT2, hall, PV.one, -ownSl, hcut, -List.getD_eq_getElem?_getD]; done) | omega) [insPrim, oneOf, h0, h1, hc1, hb, hz, hSl, hM, hT2, hall, PV.one, -ownSl, hcut, -List.getD_eq_getElem?_getD]); try first | (with_reducible refine zZ ?_) | subst hK_) | ((with_reducible first | refine callK_at 13 ?_); refine callK_s (by decide) ?_; simp (maxSteps := 1000000) (disch := refine hold_ ?_; first | (simp [insPrim, oneOf, h0, h1, hc1, hb, hz, hSl, hM, hT2, hall, PV.one, -ownSl, hcut, -List.getD_eq_getElem?_getD]; done) | omega) [insPrim, oneOf, h0, h1, hc1, hb, hz, hSl, hM, hT2, hall, PV.one, -ownSl, hcut, -List.getD_eq_getElem?_getD]; (first | refine callK2_of rfl (Fn.ct c13 Try.call13) ?_); (try simp (maxSteps := 1000000) (disch := refine hold_ ?_; first | (simp [insPrim, oneOf, h0, h1, hc1, hb, hz, hSl, hM, hT2, hall, PV.one, -ownSl, hcut, -List.getD_eq_getElem?_getD]; done) | omega) [insPrim, oneOf, h0, h1, hc1, hb, hz, hSl, hM, hT2, hall, PV.one, -ownSl, hcut, -List.getD_eq_getElem?_getD]); try first | (with_reducible refine zZ ?_) | subst hK_) | ((first | (with_reducible first | refine zP fun K_ hK_ => ?_ | refine zQ fun K_ hK_ => ?_ | refine zT ?_ | refine zU ?_ | refine zV ?_ | refine zW ?_ | refine zX ?_ | refine zY ?_) | ((with_reducible first | refine zR ?_ ?_ fun K_ hK_ => ?_ | refine zS ?_ ?_ fun K_ hK_ => ?_); (focus kernel_rfl); (focus kernel_rfl))); first | (simp (maxSteps := 1000000) (disch := refine hold_ ?_; first | (simp [insPrim, oneOf, h0, h1, hc1, hb, hz, hSl, hM, hT2, hall, PV.one, -ownSl, hcut, -List.getD_eq_getElem?_getD]; done) | omega) [insPrim, oneOf, h0, h1, hc1, hb, hz, hSl, hM, hT2, hall, PV.one, -ownSl, hcut, -List.getD_eq_getElem?_getD]; try first | (with_reducible refine zZ ?_) | subst hK_) | subst hK_) | (with_reducible first | refine zA ?_ | refine zB ?_ | refine zC ?_ | refine zD ?_ | refine zE ?_ | refine zF ?_ | refine zG ?_ | refine zH ?_ | refine zI ?_ | refine zJ ?_ | refine zK ?_ | refine zL ?_ | refine zM ?_ | refine zN ?_ | refine zO ?_) | ((with_reducible refine yG ?_ ?_); (focus decide)) | ((with_reducible refine yA ?_); refine yB rfl ?_; (with_reducible first | refine yC ?_ | refine yD ?_)))
      simp (maxSteps := 1000000) (disch := refine hold_ ?_; first | (simp [hM, -List.getD_eq_getElem?_getD]; done) | omega) [hM, -List.getD_eq_getElem?_getD]
  · have hk2 : key.length ≤ 64 := by omega
    obtain rfl := hS1 hk2
    repeat (first | ((with_reducible refine Go.Av.AW.regCAt 4 [1] ?_ fun K_ hK_ => ?_); (focus decide)) | (with_reducible refine Go.Av.runC_cons fun K_ hK_ => ?_; (try simp (maxSteps := 1000000) (disch := refine hold_ ?_; first | (simp [hz, clonePrim, h0, h1, hc1, -List.getD_eq_getElem?_getD]; done) | omega) [hz, clonePrim, h0, h1, hc1, -List.getD_eq_getElem?_getD]); first | (with_reducible refine zZ ?_) | subst hK_) | (with_reducible refine Go.Av.runC_nil ?_; (try simp (maxSteps := 1000000) (disch := refine hold_ ?_; first | (simp [hz, clonePrim, h0, h1, hc1, -List.getD_eq_getElem?_getD]; done) | omega) [hz, clonePrim, h0, h1, hc1, -List.getD_eq_getElem?_getD]); first | (with_reducible refine zZ ?_) | subst hK_) | ((with_reducible refine Go.Av.XS_at 1 ?_); refine Go.Av.XS.way rfl rfl rfl (by decide) (clone_ok) fun c_ hc_ => ?_; (try simp (maxSteps := 1000000) (disch := refine hold_ ?_; first | (simp [hz, clonePrim, h0, h1, hc1, -List.getD_eq_getElem?_getD]; done) | omega) [hz, clonePrim, h0, h1, hc1, -List.getD_eq_getElem?_getD]); try first | (with_reducible refine zZ ?_) | subst hK_) | ((first | (with_reducible first | refine zP fun K_ hK_ => ?_ | refine zQ fun K_ hK_ => ?_ | refine zT ?_ | refine zU ?_ | refine zV ?_ | refine zW ?_ | refine zX ?_ | refine zY ?_) | ((with_reducible first | refine zR ?_ ?_ fun K_ hK_ => ?_ | refine zS ?_ ?_ fun K_ hK_ => ?_); (focus kernel_rfl); (focus kernel_rfl))); first | (simp (maxSteps := 1000000) (disch := refine hold_ ?_; first | (simp [hz, clonePrim, h0, h1, hc1, -List.getD_eq_getElem?_getD]; done) | omega) [hz, clonePrim, h0, h1, hc1, -List.getD_eq_getElem?_getD]; try first | (with_reducible refine zZ ?_) | subst hK_) | subst hK_) | (with_reducible first | refine zA ?_ | refine zB ?_ | refine zC ?_ | refine zD ?_ | refine zE ?_ | refine zF ?_ | refine zG ?_ | refine zH ?_ | refine zI ?_ | refine zJ ?_ | refine zK ?_ | refine zL ?_ | refine zM ?_ | refine zN ?_ | refine zO ?_) | ((with_reducible refine yG ?_ ?_); (focus decide)) | ((with_reducible refine yA ?_); refine yB rfl ?_; (with_reducible first | refine yC ?_ | refine yD ?_)))
    obtain ⟨m, hm⟩ : ∃ m, c_ - cs.length = m := ⟨_, rfl⟩
    have hb : cs.length + m ≤ 9223372036854775807 := by omega
    rw [hm]
    have hall : (cs ++ List.replicate m zsl).all PV.one = true := by rw [List.all_append, hc1, hw]; rfl
    cases m with
    | zero =>
      repeat (first | ((with_reducible refine callK_at 26 ?_); refine callK_b (by decide) (ins_ok) ?_; simp (maxSteps := 1000000) (disch := refine hold_ ?_; first | (simp [Go.Av.copyPrim, Go.Av.strPrim, insPrim, oneOf, h0, h1, hc1, hb, hz, hSl, hM, hT2, PV.one, -List.getD_eq_getElem?_getD]; done) | omega) [Go.Av.copyPrim, Go.Av.strPrim, insPrim, oneOf, h0, h1, hc1, hb, hz, hSl, hM, hT2, PV.one, -List.getD_eq_getElem?_getD]; first | refine zZ ?_ | subst hK_) | ((with_reducible refine Go.Av.AW.freezeAt 5 6 ?_ ?_ fun K_ hK_ => ?_); (focus decide); (focus (simp; done)); simp (maxSteps := 1000000) (disch := refine hold_ ?_; first | (simp [-ownSl, Go.Av.ownSl_bl, insPrim, oneOf, h0, h1, hc1, hb, hz, hSl, hM, hT2, PV.one, -List.getD_eq_getElem?_getD]; done) | omega) [-ownSl, Go.Av.ownSl_bl, insPrim, oneOf, h0, h1, hc1, hb, hz, hSl, hM, hT2, PV.one, -List.getD_eq_getElem?_getD]; subst hK_) | ((with_reducible first | refine callK_at 28 ?_ | refine callK_at 13 ?_); refine callK_p ?_; simp (maxSteps := 1000000) (disch := refine hold_ ?_; first | (simp [insPrim, oneOf, h0, h1, hc1, hb, hz, hSl, hM, hT2, PV.one, -List.getD_eq_getElem?_getD]; done) | omega) [insPrim, oneOf, h0, h1, hc1, hb, hz, hSl, hM, hT2, PV.one, -List.getD_eq_getElem?_getD]; (first | ((with_reducible refine k1_at 28 ?_); refine callK1_of (Fn.ct (cA _) Try.call28) ?_) | ((with_reducible refine k1_at 28 ?_); refine callK1_of (Fn.ct (cB _) Try.call28) ?_) | ((with_reducible refine k1_at 13 ?_); refine callK1_of (Fn.ct c13 Try.call13) ?_) | ((with_reducible refine k1_at 13 ?_); refine callK1_of (Fn.ct cC Try.call13) ?_)); (try simp (maxSteps := 1000000) (disch := refine hold_ ?_; first | (simp [insPrim, oneOf, h0, h1, hc1, hb, hz, hSl, hM, hT2, PV.one, -List.getD_eq_getElem?_getD]; done) | omega) [insPrim, oneOf, h0, h1, hc1, hb, hz, hSl, hM, hT2, PV.one, -List.getD_eq_getElem?_getD]); try first | (with_reducible refine zZ ?_) | subst hK_) | ((with_reducible first | refine callK_at 13 ?_); refine callK_s (by decide) ?_; simp (maxSteps := 1000000) (disch := refine hold_ ?_; first | (simp [insPrim, oneOf, h0, h1, hc1, hb, hz, hSl, hM, hT2, PV.one, -List.getD_eq_getElem?_getD]; done) | omega) [insPrim, oneOf, h0, h1, hc1, hb, hz, hSl, hM, hT2, PV.one, -List.getD_eq_getElem?_getD]; (first | refine callK2_of rfl (Fn.ct c13 Try.call13) ?_); (try simp (maxSteps := 1000000) (disch := refine hold_ ?_; first | (simp [insPrim, oneOf, h0, h1, hc1, hb, hz, hSl, hM, hT2, PV.one, -List.getD_eq_getElem?_getD]; done) | omega) [insPrim, oneOf, h0, h1, hc1, hb, hz, hSl, hM, hT2, PV.one, -List.getD_eq_getElem?_getD]); try first | (with_reducible refine zZ ?_) | subst hK_) | ((first | (with_reducible first | refine zP fun K_ hK_ => ?_ | refine zQ fun K_ hK_ => ?_ | refine zT ?_ | refine zU ?_ | refine zV ?_ | refine zW ?_ | refine zX ?_ | refine zY ?_) | ((with_reducible first | refine zR ?_ ?_ fun K_ hK_ => ?_ | refine zS ?_ ?_ fun K_ hK_ => ?_); (focus kernel_rfl); (focus kernel_rfl))); first | (simp (maxSteps := 1000000) (disch := refine hold_ ?_; first | (simp [insPrim, oneOf, h0, h1, hc1, hb, hz, hSl, hM, hT2, PV.one, -List.getD_eq_getElem?_getD]; done) | omega) [insPrim, oneOf, h0, h1, hc1, hb, hz, hSl, hM, hT2, PV.one, -List.getD_eq_getElem?_getD]; try first | (with_reducible refine zZ ?_) | subst hK_) | subst hK_) | (with_reducible first | refine zA ?_ | refine zB ?_ | refine zC ?_ | refine zD ?_ | refine zE ?_ | refine zF ?_ | refine zG ?_ | refine zH ?_ | refine zI ?_ | refine zJ ?_ | refine zK ?_ | refine zL ?_ | refine zM ?_ | refine zN ?_ | refine zO ?_) | ((with_reducible refine yG ?_ ?_); (focus decide)) | ((with_reducible refine yA ?_); refine yB rfl ?_; (with_reducible first | refine yC ?_ | refine yD ?_)))
      simp (maxSteps := 1000000) (disch := refine hold_ ?_; first | (simp [hM, -List.getD_eq_getElem?_getD]; done) | omega) [hM, -List.getD_eq_getElem?_getD]
    | succ m =>
      have hcut : ownSl (Row.vals 1 (.sl (bl A) false :: (cs ++ List.replicate m zsl))) 0 (cs.length + 1) = some (.sl (Row.vals 1 (.sl (bl A) false :: cs)) false) := by
        have := cut_ins (.sl (bl A) false) cs (List.replicate (m + 1) zsl) (by simp)
        rw [List.drop_replicate] at this; exact this
      repeat (first | ((with_reducible refine callK_at 26 ?_); refine callK_b (by decide) (ins_ok) ?_; simp (maxSteps := 1000000) (disch := refine hold_ ?_; first | (simp [Go.Av.copyPrim, Go.Av.strPrim, insPrim, oneOf, h0, h1, hc1, hb, hz, hSl, hM, hT2, hall, PV.one, -ownSl, hcut, -List.getD_eq_getElem?_getD]; done) | omega) [Go.Av.copyPrim, Go.Av.strPrim, insPrim, oneOf, h0, h1, hc1, hb, hz, hSl, hM, hT2, hall, PV.one, -ownSl, hcut, -List.getD_eq_getElem?_getD]; first | refine zZ ?_ | subst hK_) | ((with_reducible refine Go.Av.AW.freezeAt 5 6 ?_ ?_ fun K_ hK_ => ?_); (focus decide); (focus (simp; done)); simp (maxSteps := 1000000) (disch := refine hold_ ?_; first | (simp [-ownSl, Go.Av.ownSl_bl, insPrim, oneOf, h0, h1, hc1, hb, hz, hSl, hM, hT2, hall, PV.one, -ownSl, hcut, -List.getD_eq_getElem?_getD]; done) | omega) [-ownSl, Go.Av.ownSl_bl, insPrim, oneOf, h0, h1, hc1, hb, hz, hSl, hM, hT2, hall, PV.one, -ownSl, hcut, -List.getD_eq_getElem?_getD]; subst hK_) | ((with_reducible first | refine callK_at 28 ?_ | refine callK_at 13 ?_); refine callK_p ?_; simp (maxSteps := 1000000) (disch := refine hold_ ?_; first | (simp [insPrim, oneOf, h0, h1, hc1, hb, hz, hSl, hM, hT2, hall, PV.one, -ownSl, hcut, -List.getD_eq_getElem?_getD]; done) | omega) [insPrim, oneOf, h0, h1, hc1, hb, hz, hSl, hM, hT2, hall, PV.one, -ownSl, hcut, -List.getD_eq_getElem?_getD]; (first | ((with_reducible refine k1_at 28 ?_); refine callK1_of (Fn.ct (cA _) Try.call28) ?_) | ((with_reducible refine k1_at 28 ?_); refine callK1_of (Fn.ct (cB _) Try.call28) ?_) | ((with_reducible refine k1_at 13 ?_); refine callK1_of (Fn.ct cC Try.call13) ?_)); (try simp (maxSteps := 1000000) (disch := refine hold_ ?_; first | (simp [insPrim, oneOf, h0, h1, hc1, hb, hz, hSl, hM, hT2, hall, PV.one, -ownSl, hcut, -List.getD_eq_getElem?_getD]; done) | omega) [insPrim, oneOf, h0, h1, hc1, hb, hz, hSl, hM, hT2, hall, PV.one, -ownSl, hcut, -List.getD_eq_getElem?_getD]); try first | (with_reducible refine zZ ?_) | subst hK_) | ((with_reducible first | refine callK_at 13 ?_); refine callK_s (by decide) ?_; simp (maxSteps := 1000000) (disch := refine hold_ ?_; first | (simp [insPrim, oneOf, h0, h1, hc1, hb, hz, hSl, hM, hT2, hall, PV.one, -ownSl, hcut, -List.getD_eq_getElem?_getD]; done) | omega) [insPrim, oneOf, h0, h1, hc1, hb, hz, hSl, hM, hT2, hall, PV.one, -ownSl, hcut, -List.getD_eq_getElem?_getD]; (first | refine callK2_of rfl (Fn.ct c13 Try.call13) ?_); (try simp (maxSteps := 1000000) (disch := refine hold_ ?_; first | (simp [insPrim, oneOf, h0, h1, hc1, hb, hz, hSl, hM, hT2, hall, PV.one, -ownSl, hcut, -List.getD_eq_getElem?_getD]; done) | omega) [insPrim, oneOf, h0, h1, hc1, hb, hz, hSl, hM, hT2, hall, PV.one, -ownSl, hcut, -List.getD_eq_getElem?_getD]); try first | (with_reducible refine zZ ?_) | subst hK_) | ((first | (with_reducible first | refine zP fun K_ hK_ => ?_ | refine zQ fun K_ hK_ => ?_ | refine zT ?_ | refine zU ?_ | refine zV ?_ | refine zW ?_ | refine zX ?_ | refine zY ?_) | ((with_reducible first | refine zR ?_ ?_ fun K_ hK_ => ?_ | refine zS ?_ ?_ fun K_ hK_ => ?_); (focus kernel_rfl); (focus kernel_rfl))); first | (simp (maxSteps := 1000000) (disch := refine hold_ ?_; first | (simp [insPrim, oneOf, h0, h1, hc1, hb, hz, hSl, hM, hT2, hall, PV.one, -ownSl, hcut, -List.getD_eq_getElem?_getD]; done) | omega) [insPrim, oneOf, h0, h1, hc1, hb, hz, hSl, hM, hT2, hall, PV.one, -ownSl, hcut, -List.getD_eq_getElem?_getD]; try first | (with_reducible refine zZ ?_) | subst hK_) | subst hK_) | (with_reducible first | refine zA ?_ | refine zB ?_ | refine zC ?_ | refine zD ?_ | refine zE ?_ | refine zF ?_ | refine zG ?_ | refine zH ?_ | refine zI ?_ | refine zJ ?_ | refine zK ?_ | refine zL ?_ | refine zM ?_ | refine zN ?_ | refine zO ?_) | ((with_reducible refine yG ?_ ?_); (focus decide)) | ((with_reducible refine yA ?_); refine yB rfl ?_; (with_reducible first | refine yC ?_ | refine yD ?_)))
      simp (maxSteps := 1000000) (disch := refine hold_ ?_; first | (simp [hM, -List.getD_eq_getElem?_getD]; done) | omega) [hM, -List.getD_eq_getElem?_getD]
end Go.Av.Sha
end

section
set_option linter.unusedSimpArgs false
set_option linter.unusedVariables false
open Go Go.Av Go.Proofs
namespace Go.Av.Sha
/-! ### Equal -/
/-- Where two differ. -/
def accL (a b : List (BitVec 8)) : Nat → BitVec 8
  | 0 => 0#8
  | k + 1 => accL a b k ||| (a.getD k 0#8 ^^^ b.getD k 0#8)
theorem or_zero (x y : BitVec 8) : x ||| y = 0#8 ↔ x = 0#8 ∧ y = 0#8 := by
  constructor
  · intro h
    have hx : x &&& (x ||| y) = x := by ext i; simp; exact fun h => .inl h
    have hy : y &&& (x ||| y) = y := by ext i; simp; exact fun h => .inr h
    rw [h] at hx hy
    simp at hx hy
    exact ⟨hx.symm, hy.symm⟩
  · rintro ⟨rfl, rfl⟩; rfl
theorem xor_zero (x y : BitVec 8) : x ^^^ y = 0#8 ↔ x = y := by
  constructor
  · intro h
    have : (x ^^^ y) ^^^ y = x := by rw [BitVec.xor_assoc, BitVec.xor_self, BitVec.xor_zero]
    rw [h, BitVec.zero_xor] at this
    exact this.symm
  · rintro rfl; exact BitVec.xor_self
theorem accL_zero (a b : List (BitVec 8)) (k : Nat) : accL a b k = 0#8 ↔ ∀ i, i < k → a.getD i 0#8 = b.getD i 0#8 := by
  induction k with
  | zero => simp [accL]
  | succ k ih =>
    rw [accL, or_zero, ih, xor_zero]
    constructor
    · rintro ⟨h1, h2⟩ i hi
      by_cases h : i < k
      · exact h1 i h
      · obtain rfl : i = k := by omega
        exact h2
    · intro h; exact ⟨fun i hi => h i (by omega), h k (by omega)⟩
theorem accL_eq (a b : List (BitVec 8)) (h : a.length = b.length) : (ub (accL a b a.length) == 0) = (a == b) := by
  rw [Bool.eq_iff_iff, beq_iff_eq, beq_iff_eq]
  have e : ub (accL a b a.length) = 0 ↔ accL a b a.length = 0#8 := by
    constructor
    · intro h; apply BitVec.eq_of_toNat_eq; unfold ub at h; simpa using h
    · intro h; rw [h]; rfl
  rw [e, accL_zero]
  constructor
  · intro h1
    apply List.ext_getElem h
    intro i hi hj
    have := h1 i hi
    simpa [List.getD_eq_getElem?_getD, hi, hj] using this
  · rintro rfl i hi; rfl
set_option maxHeartbeats 10000000 in
theorem equal_ct (na nb : Bool) (a b : List (BitVec 8)) (ha : a.length ≤ 1000000) (hb : b.length ≤ 1000000) : Fn Try.prog 19 [.sl (bl a) na, .sl (bl b) nb] [.p (.bool (a == b))] := by
  refine Fn.of_body Try.func19 rfl ?_
  repeat (first | ((first | (with_reducible first | refine zP fun K_ hK_ => ?_ | refine zQ fun K_ hK_ => ?_ | refine zT ?_ | refine zU ?_ | refine zV ?_ | refine zW ?_ | refine zX ?_ | refine zY ?_) | ((with_reducible first | refine zR ?_ ?_ fun K_ hK_ => ?_ | refine zS ?_ ?_ fun K_ hK_ => ?_); (focus kernel_rfl); (focus kernel_rfl))); first | (simp (maxSteps := 1000000) (disch := refine hold_ ?_; first | (simp [-List.getD_eq_getElem?_getD]; done) | omega) [-List.getD_eq_getElem?_getD]; try first | (with_reducible refine zZ ?_) | subst hK_) | subst hK_) | (with_reducible first | refine zA ?_ | refine zB ?_ | refine zC ?_ | refine zD ?_ | refine zE ?_ | refine zF ?_ | refine zG ?_ | refine zH ?_ | refine zI ?_ | refine zJ ?_ | refine zK ?_ | refine zL ?_ | refine zM ?_ | refine zN ?_ | refine zO ?_) | ((with_reducible refine yG ?_ ?_); (focus decide)) | ((with_reducible refine yA ?_); refine yB rfl ?_; (with_reducible first | refine yC ?_ | refine yD ?_)))
  first | refine AW.condD rfl (fun hc => ?_) (fun hc => ?_) | refine AW.cond rfl (fun hc => ?_) (fun hc => ?_)
  · have h1 : ¬ a.length = b.length := by simp at hc; omega
    have h2 : (a == b) = false := by rw [beq_eq_false_iff_ne]; intro h; exact h1 (by rw [h])
    repeat (first | ((first | (with_reducible first | refine zP fun K_ hK_ => ?_ | refine zQ fun K_ hK_ => ?_ | refine zT ?_ | refine zU ?_ | refine zV ?_ | refine zW ?_ | refine zX ?_ | refine zY ?_) | ((with_reducible first | refine zR ?_ ?_ fun K_ hK_ => ?_ | refine zS ?_ ?_ fun K_ hK_ => ?_); (focus kernel_rfl); (focus kernel_rfl))); first | (simp (maxSteps := 1000000) (disch := refine hold_ ?_; first | (simp [-List.getD_eq_getElem?_getD]; done) | omega) [-List.getD_eq_getElem?_getD]; try first | (with_reducible refine zZ ?_) | subst hK_) | subst hK_) | (with_reducible first | refine zA ?_ | refine zB ?_ | refine zC ?_ | refine zD ?_ | refine zE ?_ | refine zF ?_ | refine zG ?_ | refine zH ?_ | refine zI ?_ | refine zJ ?_ | refine zK ?_ | refine zL ?_ | refine zM ?_ | refine zN ?_ | refine zO ?_) | ((with_reducible refine yG ?_ ?_); (focus decide)) | ((with_reducible refine yA ?_); refine yB rfl ?_; (with_reducible first | refine yC ?_ | refine yD ?_)))
    simp (maxSteps := 1000000) (disch := refine hold_ ?_; first | (simp [h2, -List.getD_eq_getElem?_getD]; done) | omega) [h2, -List.getD_eq_getElem?_getD]
  · have h1 : a.length = b.length := by simp at hc; omega
    have he := accL_eq a b h1
    repeat (first | ((first | (with_reducible first | refine zP fun K_ hK_ => ?_ | refine zQ fun K_ hK_ => ?_ | refine zT ?_ | refine zU ?_ | refine zV ?_ | refine zW ?_ | refine zX ?_ | refine zY ?_) | ((with_reducible first | refine zR ?_ ?_ fun K_ hK_ => ?_ | refine zS ?_ ?_ fun K_ hK_ => ?_); (focus kernel_rfl); (focus kernel_rfl))); first | (simp (maxSteps := 1000000) (disch := refine hold_ ?_; first | (simp [-List.getD_eq_getElem?_getD]; done) | omega) [-List.getD_eq_getElem?_getD]; try first | (with_reducible refine zZ ?_) | subst hK_) | subst hK_) | (with_reducible first | refine zA ?_ | refine zB ?_ | refine zC ?_ | refine zD ?_ | refine zE ?_ | refine zF ?_ | refine zG ?_ | refine zH ?_ | refine zI ?_ | refine zJ ?_ | refine zK ?_ | refine zL ?_ | refine zM ?_ | refine zN ?_ | refine zO ?_) | ((with_reducible refine yG ?_ ?_); (focus decide)) | ((with_reducible refine yA ?_); refine yB rfl ?_; (with_reducible first | refine yC ?_ | refine yD ?_)))
    refine AW.iter (true :: true :: false :: false :: false :: true :: false :: false :: false :: false :: false :: false :: false :: true :: true :: false :: false :: false :: false :: false :: false :: false :: false :: false :: false :: false :: false :: false :: false :: false :: false :: []) a.length (fun k => ⟨(.p (.sl (bl a) na) :: .p (.sl (bl b) nb) :: V.junk :: V.junk :: V.junk :: .p (.int .u8 (ub (accL a b k))) :: V.junk :: V.junk :: V.junk :: V.junk :: V.junk :: V.junk :: V.junk :: .p (.int .i64 a.length) :: .p (.int .i64 k) :: V.junk :: V.junk :: V.junk :: V.junk :: V.junk :: V.junk :: V.junk :: V.junk :: V.junk :: V.junk :: V.junk :: V.junk :: V.junk :: V.junk :: V.junk :: V.junk :: []), ⟨[], []⟩⟩) ?_ ?_
    · simp (maxSteps := 1000000) (disch := refine hold_ ?_; first | (simp [accL, ub, -List.getD_eq_getElem?_getD]; done) | omega) [accL, ub, -List.getD_eq_getElem?_getD]
    intro k hk
    have e0 : IntKind.i64.wrap ((k : Int) + 1) = k + 1 := wrap_i64 _ (by omega) (by omega)
    have e1 : accL a b (k + 1) = accL a b k ||| (a.getD k 0#8 ^^^ b.getD k 0#8) := rfl
    repeat (first | ((first | (with_reducible first | refine zP fun K_ hK_ => ?_ | refine zQ fun K_ hK_ => ?_ | refine zT ?_ | refine zU ?_ | refine zV ?_ | refine zW ?_ | refine zX ?_ | refine zY ?_) | ((with_reducible first | refine zR ?_ ?_ fun K_ hK_ => ?_ | refine zS ?_ ?_ fun K_ hK_ => ?_); (focus kernel_rfl); (focus kernel_rfl))); first | (simp (maxSteps := 1000000) (disch := refine hold_ ?_; first | (simp [e0, -List.getD_eq_getElem?_getD]; done) | omega) [e0, -List.getD_eq_getElem?_getD]; try first | (with_reducible refine zZ ?_) | subst hK_) | subst hK_) | (with_reducible first | refine zA ?_ | refine zB ?_ | refine zC ?_ | refine zD ?_ | refine zE ?_ | refine zF ?_ | refine zG ?_ | refine zH ?_ | refine zI ?_ | refine zJ ?_ | refine zK ?_ | refine zL ?_ | refine zM ?_ | refine zN ?_ | refine zO ?_) | ((with_reducible refine yG ?_ ?_); (focus decide)) | ((with_reducible refine yA ?_); refine yB rfl ?_; (with_reducible first | refine yC ?_ | refine yD ?_)))
    first | refine AW.condD rfl (fun hc => ?_) (fun hc => ?_) | refine AW.cond rfl (fun hc => ?_) (fun hc => ?_)
    · have hk2 : k < a.length := by omega
      have hk3 : k < b.length := by omega
      repeat (first | ((first | (with_reducible first | refine zP fun K_ hK_ => ?_ | refine zQ fun K_ hK_ => ?_ | refine zT ?_ | refine zU ?_ | refine zV ?_ | refine zW ?_ | refine zX ?_ | refine zY ?_) | ((with_reducible first | refine zR ?_ ?_ fun K_ hK_ => ?_ | refine zS ?_ ?_ fun K_ hK_ => ?_); (focus kernel_rfl); (focus kernel_rfl))); first | (simp (maxSteps := 1000000) (disch := refine hold_ ?_; first | (simp [e0, hk2, hk3, -List.getD_eq_getElem?_getD]; done) | omega) [e0, hk2, hk3, -List.getD_eq_getElem?_getD]; try first | (with_reducible refine zZ ?_) | subst hK_) | subst hK_) | (with_reducible first | refine zA ?_ | refine zB ?_ | refine zC ?_ | refine zD ?_ | refine zE ?_ | refine zF ?_ | refine zG ?_ | refine zH ?_ | refine zI ?_ | refine zJ ?_ | refine zK ?_ | refine zL ?_ | refine zM ?_ | refine zN ?_ | refine zO ?_) | ((with_reducible refine yG ?_ ?_); (focus decide)) | ((with_reducible refine yA ?_); refine yB rfl ?_; (with_reducible first | refine yC ?_ | refine yD ?_)))
      refine ⟨hk2, ?_⟩
      simp (maxSteps := 1000000) (disch := refine hold_ ?_; first | (simp [e1, -List.getD_eq_getElem?_getD]; done) | omega) [e1, -List.getD_eq_getElem?_getD]
    · have hk2 : k = a.length := by omega
      subst hk2
      repeat (first | ((first | (with_reducible first | refine zP fun K_ hK_ => ?_ | refine zQ fun K_ hK_ => ?_ | refine zT ?_ | refine zU ?_ | refine zV ?_ | refine zW ?_ | refine zX ?_ | refine zY ?_) | ((with_reducible first | refine zR ?_ ?_ fun K_ hK_ => ?_ | refine zS ?_ ?_ fun K_ hK_ => ?_); (focus kernel_rfl); (focus kernel_rfl))); first | (simp (maxSteps := 1000000) (disch := refine hold_ ?_; first | (simp [-List.getD_eq_getElem?_getD]; done) | omega) [-List.getD_eq_getElem?_getD]; try first | (with_reducible refine zZ ?_) | subst hK_) | subst hK_) | (with_reducible first | refine zA ?_ | refine zB ?_ | refine zC ?_ | refine zD ?_ | refine zE ?_ | refine zF ?_ | refine zG ?_ | refine zH ?_ | refine zI ?_ | refine zJ ?_ | refine zK ?_ | refine zL ?_ | refine zM ?_ | refine zN ?_ | refine zO ?_) | ((with_reducible refine yG ?_ ?_); (focus decide)) | ((with_reducible refine yA ?_); refine yB rfl ?_; (with_reducible first | refine yC ?_ | refine yD ?_)))
      simp (maxSteps := 1000000) (disch := refine hold_ ?_; first | (simp [he, -List.getD_eq_getElem?_getD]; done) | omega) [he, -List.getD_eq_getElem?_getD]
/-! ### what is known of one sum -/
def keyB : List (BitVec 8) := [107#8, 101#8, 121#8]
def textB : List (BitVec 8) := [84#8, 104#8, 101#8, 32#8, 113#8, 117#8, 105#8, 99#8, 107#8, 32#8, 98#8, 114#8, 111#8, 119#8, 110#8, 32#8, 102#8, 111#8, 120#8, 32#8, 106#8, 117#8, 109#8, 112#8, 115#8, 32#8, 111#8, 118#8, 101#8, 114#8, 32#8, 116#8, 104#8, 101#8, 32#8, 108#8, 97#8, 122#8, 121#8, 32#8, 100#8, 111#8, 103#8]
def macS : List (BitVec 8) := [247#8, 188#8, 131#8, 244#8, 48#8, 83#8, 132#8, 36#8, 177#8, 50#8, 152#8, 230#8, 170#8, 111#8, 177#8, 67#8, 239#8, 77#8, 89#8, 161#8, 73#8, 70#8, 23#8, 89#8, 151#8, 71#8, 157#8, 188#8, 45#8, 26#8, 60#8, 216#8]
def macT : ByteArray := ⟨#[102, 55, 98, 99, 56, 51, 102, 52, 51, 48, 53, 51, 56, 52, 50, 52, 98, 49, 51, 50, 57, 56, 101, 54, 97, 97, 54, 102, 98, 49, 52, 51, 101, 102, 52, 100, 53, 57, 97, 49, 52, 57, 52, 54, 49, 55, 53, 57, 57, 55, 52, 55, 57, 100, 98, 99, 50, 100, 49, 97, 51, 99, 100, 56]⟩
set_option maxRecDepth 100000 in
theorem mac_kt : macL keyB (catL [(textB, false)]) = macS := by kernel_rfl
theorem of_kt : Fn Try.prog 18 [.sl (.ints .u8 [107, 101, 121]) false, .sl (.vals 1 [.sl (.ints .u8 [84, 104, 101, 32, 113, 117, 105, 99, 107, 32, 98, 114, 111, 119, 110, 32, 102, 111, 120, 32, 106, 117, 109, 112, 115, 32, 111, 118, 101, 114, 32, 116, 104, 101, 32, 108, 97, 122, 121, 32, 100, 111, 103]) false]) false] [.p (.agg (bl macS))] := by
  have h := of_ct false keyB (by decide) [(textB, false)] (by decide) (by decide) (by decide)
  rw [mac_kt] at h
  exact h
set_option maxRecDepth 100000 in
theorem hex_kt : strBin .eql (txt (hexL macS 32)) (ByteArray.mk #[102, 55, 98, 99, 56, 51, 102, 52, 51, 48, 53, 51, 56, 52, 50, 52, 98, 49, 51, 50, 57, 56, 101, 54, 97, 97, 54, 102, 98, 49, 52, 51, 101, 102, 52, 100, 53, 57, 97, 49, 52, 57, 52, 54, 49, 55, 53, 57, 57, 55, 52, 55, 57, 100, 98, 99, 50, 100, 49, 97, 51, 99, 100, 56]) = some (.bool true) := by kernel_rfl
theorem equal_nil : Ct Try.prog 19 [.p (.sl (.vals 1 []) true), .p (.sl (.vals 1 []) true)] [] 0 [.p (.bool true)] [] 0 :=
  Ct.args (Fn.ct (equal_ct true true [] [] (by decide) (by decide)) Try.call19) (.cons (PEq.nil _ _ rfl rfl) (.cons (PEq.nil _ _ rfl rfl) .nil))
set_option maxRecDepth 100000 in
set_option maxHeartbeats 10000000 in
theorem mawake_ct : Fn Try.prog 16 [] [.p (.bool true)] := by
  refine Fn.of_body Try.func16 rfl ?_
  repeat (first | ((with_reducible first | refine callK_at 18 ?_ | refine callK_at 14 ?_ | refine callK_at 19 ?_); refine callK_p ?_; simp (maxSteps := 1000000) (disch := refine hold_ ?_; first | (simp [hex_kt, -List.getD_eq_getElem?_getD]; done) | omega) [hex_kt, -List.getD_eq_getElem?_getD]; (first | ((with_reducible refine k1_at 18 ?_); refine callK1_of (Fn.ct of_kt Try.call18) ?_) | ((with_reducible refine k1_at 14 ?_); refine callK1_of (Fn.ct (hex_ct macS rfl) Try.call14) ?_) | ((with_reducible refine k1_at 19 ?_); refine callK1_of (equal_nil) ?_)); (try simp (maxSteps := 1000000) (disch := refine hold_ ?_; first | (simp [hex_kt, -List.getD_eq_getElem?_getD]; done) | omega) [hex_kt, -List.getD_eq_getElem?_getD]); try first | (with_reducible refine zZ ?_) | subst hK_) | ((first | (with_reducible first | refine zP fun K_ hK_ => ?_ | refine zQ fun K_ hK_ => ?_ | refine zT ?_ | refine zU ?_ | refine zV ?_ | refine zW ?_ | refine zX ?_ | refine zY ?_) | ((with_reducible first | refine zR ?_ ?_ fun K_ hK_ => ?_ | refine zS ?_ ?_ fun K_ hK_ => ?_); (focus kernel_rfl); (focus kernel_rfl))); first | (simp (maxSteps := 1000000) (disch := refine hold_ ?_; first | (simp [hex_kt, -List.getD_eq_getElem?_getD]; done) | omega) [hex_kt, -List.getD_eq_getElem?_getD]; try first | (with_reducible refine zZ ?_) | subst hK_) | subst hK_) | (with_reducible first | refine zA ?_ | refine zB ?_ | refine zC ?_ | refine zD ?_ | refine zE ?_ | refine zF ?_ | refine zG ?_ | refine zH ?_ | refine zI ?_ | refine zJ ?_ | refine zK ?_ | refine zL ?_ | refine zM ?_ | refine zN ?_ | refine zO ?_) | ((with_reducible refine yG ?_ ?_); (focus decide)) | ((with_reducible refine yA ?_); refine yB rfl ?_; (with_reducible first | refine yC ?_ | refine yD ?_)))
  simp (maxSteps := 1000000) (disch := refine hold_ ?_; first | (simp [-List.getD_eq_getElem?_getD]; done) | omega) [-List.getD_eq_getElem?_getD]
end Go.Av.Sha
end

section
set_option linter.unusedSimpArgs false
set_option linter.unusedVariables false
open Go Go.Av Go.Proofs
namespace Go.Av.Sha
theorem xorTo_app (X Z : List (BitVec 8)) (x : BitVec 8) (n : Nat) (h : X.length = n) : (xorTo (X ++ Z) x n).take n = xorTo X x n := by
  subst h; simp [xorTo]
theorem rep_app (K : List (BitVec 8)) (j m : Nat) : K ++ List.replicate j 0#8 ++ [0#8] ++ List.replicate m 0#8 = K ++ List.replicate (j + 1) 0#8 ++ List.replicate m 0#8 := by
  rw [List.replicate_succ', List.append_assoc K]
def zs (K : List (BitVec 8)) (j : Nat) : List (BitVec 8) := K ++ List.replicate j 0#8
theorem zs_zero (K : List (BitVec 8)) : zs K 0 = K := by simp [zs]
theorem e22 : elemInfo Try.prog 22 = some (5, 1, 1, .int .u8 0) := by kernel_rfl
theorem n22 : notInt Try.prog 22 = true := by kernel_rfl
theorem appX_at {id ver n e : Nat} {y : V} {h : HT} {X Y : List (BitVec 8)} (hl : look h.H id = some (ver, .row (bl (X ++ List.replicate e 0#8)))) (hy : srcV h.H 1 y = some (bl Y)) (hn : X.length = n)
    (h4 : n + e ≤ 9223372036854775807) (h5 : n + Y.length ≤ 140737488355328) (c : Nat) (hc : c ≤ 9223372036854775807) :
    ∃ m, n + Y.length + m ≤ 9223372036854775807 ∧ appX Try.prog 22 22 (.own id ver 0 n (n + e)) y h c = some (.own id (ver + 1) 0 (n + Y.length) (n + Y.length + m), ⟨upd h.H id (ver + 1, .row (bl (X ++ Y ++ List.replicate m 0#8))), h.T⟩) := by
  subst hn
  refine ⟨c - (X.length + Y.length), by omega, ?_⟩
  rw [appX_bl e22 hl hy n22 (by simp) (by omega) (by simp) h4 h5 c]
  simp
set_option maxHeartbeats 10000000 in
theorem key_ct (nl : Bool) (key : List (BitVec 8)) (hk : key.length ≤ 4000000) (x : BitVec 8) : Fn Try.prog 25 [.sl (bl key) nl, .int .u8 (ub x)] [.row (bl (padM (keyM key) x)) 0 0 false] 1 := by
  have hz : zero32.length = 32 := rfl
  have hKl := keyM_len key
  have hS0 : ¬ key.length ≤ 64 → keyM key = shaL key := by intro h; unfold keyM; rw [if_neg h]
  have hS1 : key.length ≤ 64 → keyM key = key := by intro h; unfold keyM; rw [if_pos h]
  have c0 := rsum_ct nl key hk
  have h0l := shaL_len key
  have hP : xorTo (keyM key ++ List.replicate (64 - (keyM key).length) 0#8) x 64 = padM (keyM key) x := rfl
  generalize padM (keyM key) x = M at *
  generalize keyM key = K at *
  generalize shaL key = S0 at *
  refine Fn.of_body Try.func25 rfl ?_
  repeat (first | ((first | (with_reducible first | refine zP fun K_ hK_ => ?_ | refine zQ fun K_ hK_ => ?_ | refine zT ?_ | refine zU ?_ | refine zV ?_ | refine zW ?_ | refine zX ?_ | refine zY ?_) | ((with_reducible first | refine zR ?_ ?_ fun K_ hK_ => ?_ | refine zS ?_ ?_ fun K_ hK_ => ?_); (focus kernel_rfl); (focus kernel_rfl))); first | (simp (maxSteps := 1000000) (disch := refine hold_ ?_; first | (simp [-List.getD_eq_getElem?_getD]; done) | omega) [-List.getD_eq_getElem?_getD]; try first | (with_reducible refine zZ ?_) | subst hK_) | subst hK_) | (with_reducible first | refine zA ?_ | refine zB ?_ | refine zC ?_ | refine zD ?_ | refine zE ?_ | refine zF ?_ | refine zG ?_ | refine zH ?_ | refine zI ?_ | refine zJ ?_ | refine zK ?_ | refine zL ?_ | refine zM ?_ | refine zN ?_ | refine zO ?_) | ((with_reducible refine yG ?_ ?_); (focus decide)) | ((with_reducible refine yA ?_); refine yB rfl ?_; (with_reducible first | refine yC ?_ | refine yD ?_)))
  first | refine AW.condD rfl (fun hc => ?_) (fun hc => ?_) | refine AW.cond rfl (fun hc => ?_) (fun hc => ?_)
  · have hk2 : ¬ key.length ≤ 64 := by omega
    obtain rfl := hS0 hk2
    have hT : K.take 32 = K := List.take_of_length_le (by omega)
    repeat (first | ((with_reducible refine Go.Av.AW.freezeAt 4 5 ?_ ?_ fun K_ hK_ => ?_); (focus decide); (focus (simp; done)); simp (maxSteps := 1000000) (disch := refine hold_ ?_; first | (simp [-ownSl, Go.Av.ownSl_bl, h0l, hz, hT, -List.getD_eq_getElem?_getD]; done) | omega) [-ownSl, Go.Av.ownSl_bl, h0l, hz, hT, -List.getD_eq_getElem?_getD]; subst hK_) | ((with_reducible first | refine Go.Av.AW.regCAt 4 [0, 2] ?_ fun K_ hK_ => ?_ | refine Go.Av.AW.regCAt1 4 [0, 2] ?_ fun K_ hK_ => ?_); (focus decide)) | ((with_reducible refine Go.Av.runC_cons fun K_ hK_ => ?_); (try simp (maxSteps := 1000000) (disch := refine hold_ ?_; first | (simp [h0l, hz, hT, -List.getD_eq_getElem?_getD]; done) | omega) [h0l, hz, hT, -List.getD_eq_getElem?_getD]); try first | (with_reducible refine zZ ?_) | subst hK_) | ((with_reducible refine Go.Av.runC_nil ?_); (try simp (maxSteps := 1000000) (disch := refine hold_ ?_; first | (simp [h0l, hz, hT, -List.getD_eq_getElem?_getD]; done) | omega) [h0l, hz, hT, -List.getD_eq_getElem?_getD]); try first | (with_reducible refine zZ ?_) | subst hK_) | ((with_reducible refine Go.Av.XS_at 0 ?_); refine Go.Av.XS.own rfl rfl rfl ?_; (try simp (maxSteps := 1000000) (disch := refine hold_ ?_; first | (simp [Go.Av.ownStep, h0l, hz, hT, -List.getD_eq_getElem?_getD]; done) | omega) [Go.Av.ownStep, h0l, hz, hT, -List.getD_eq_getElem?_getD]); try first | (with_reducible refine zZ ?_) | subst hK_) | ((with_reducible refine Go.Av.XS_at 2 ?_); refine Go.Av.XS.retag 14 rfl ?_; simp only [Go.Av.upd, if_pos]; refine Go.Av.XS.app rfl rfl rfl fun c_ hc_ => ?_; (try simp (maxSteps := 1000000) (disch := refine hold_ ?_; first | (simp [h0l, hz, hT, -List.getD_eq_getElem?_getD]; done) | omega) [h0l, hz, hT, -List.getD_eq_getElem?_getD]); try first | (with_reducible refine zZ ?_) | subst hK_) | ((with_reducible first | refine callK_at 12 ?_); refine callK_p ?_; simp (maxSteps := 1000000) (disch := refine hold_ ?_; first | (simp [h0l, hz, hT, -List.getD_eq_getElem?_getD]; done) | omega) [h0l, hz, hT, -List.getD_eq_getElem?_getD]; (first | refine callK1_of (Fn.ct c0 Try.call12) ?_); (try simp (maxSteps := 1000000) (disch := refine hold_ ?_; first | (simp [h0l, hz, hT, -List.getD_eq_getElem?_getD]; done) | omega) [h0l, hz, hT, -List.getD_eq_getElem?_getD]); try first | (with_reducible refine zZ ?_) | subst hK_) | ((first | (with_reducible first | refine zP fun K_ hK_ => ?_ | refine zQ fun K_ hK_ => ?_ | refine zT ?_ | refine zU ?_ | refine zV ?_ | refine zW ?_ | refine zX ?_ | refine zY ?_) | ((with_reducible first | refine zR ?_ ?_ fun K_ hK_ => ?_ | refine zS ?_ ?_ fun K_ hK_ => ?_); (focus kernel_rfl); (focus kernel_rfl))); first | (simp (maxSteps := 1000000) (disch := refine hold_ ?_; first | (simp [h0l, hz, hT, -List.getD_eq_getElem?_getD]; done) | omega) [h0l, hz, hT, -List.getD_eq_getElem?_getD]; try first | (with_reducible refine zZ ?_) | subst hK_) | subst hK_) | (with_reducible first | refine zA ?_ | refine zB ?_ | refine zC ?_ | refine zD ?_ | refine zE ?_ | refine zF ?_ | refine zG ?_ | refine zH ?_ | refine zI ?_ | refine zJ ?_ | refine zK ?_ | refine zL ?_ | refine zM ?_ | refine zN ?_ | refine zO ?_) | ((with_reducible refine yG ?_ ?_); (focus decide)) | ((with_reducible refine yA ?_); refine yB rfl ?_; (with_reducible first | refine yC ?_ | refine yD ?_)))
    obtain ⟨m, hm, hA⟩ := appX_at (id := 14) (ver := 0) (n := 0) (e := 0) (X := []) (Y := K) (y := V.p (PV.sl (bl K) false)) (h := ⟨[(14, 0, HB.row (bl []))], []⟩) rfl (by simp) rfl (by omega) (by omega) c_ hc_
    simp only [Nat.zero_add, List.nil_append, Nat.add_zero, Go.Av.upd, if_pos] at hA hm
    rw [hA]
    repeat (first | ((with_reducible first | refine Go.Av.AW.regCAt 4 [0, 2] ?_ fun K_ hK_ => ?_ | refine Go.Av.AW.regCAt1 4 [0, 2] ?_ fun K_ hK_ => ?_); (focus decide)) | ((with_reducible refine Go.Av.runC_cons fun K_ hK_ => ?_); (try simp (maxSteps := 1000000) (disch := refine hold_ ?_; first | (simp [-List.getD_eq_getElem?_getD]; done) | omega) [-List.getD_eq_getElem?_getD]); try first | (with_reducible refine zZ ?_) | subst hK_) | ((with_reducible refine Go.Av.runC_nil ?_); (try simp (maxSteps := 1000000) (disch := refine hold_ ?_; first | (simp [-List.getD_eq_getElem?_getD]; done) | omega) [-List.getD_eq_getElem?_getD]); try first | (with_reducible refine zZ ?_) | subst hK_) | ((first | (with_reducible first | refine zP fun K_ hK_ => ?_ | refine zQ fun K_ hK_ => ?_ | refine zT ?_ | refine zU ?_ | refine zV ?_ | refine zW ?_ | refine zX ?_ | refine zY ?_) | ((with_reducible first | refine zR ?_ ?_ fun K_ hK_ => ?_ | refine zS ?_ ?_ fun K_ hK_ => ?_); (focus kernel_rfl); (focus kernel_rfl))); first | (simp (maxSteps := 1000000) (disch := refine hold_ ?_; first | (simp [-List.getD_eq_getElem?_getD]; done) | omega) [-List.getD_eq_getElem?_getD]; try first | (with_reducible refine zZ ?_) | subst hK_) | subst hK_) | (with_reducible first | refine zA ?_ | refine zB ?_ | refine zC ?_ | refine zD ?_ | refine zE ?_ | refine zF ?_ | refine zG ?_ | refine zH ?_ | refine zI ?_ | refine zJ ?_ | refine zK ?_ | refine zL ?_ | refine zM ?_ | refine zN ?_ | refine zO ?_) | ((with_reducible refine yG ?_ ?_); (focus decide)) | ((with_reducible refine yA ?_); refine yB rfl ?_; (with_reducible first | refine yC ?_ | refine yD ?_)))
    refine AW.iterI (τ := ⟨(.p (.sl (bl K) false) :: .p (.int .u8 (ub x)) :: V.junk :: V.junk :: V.junk :: V.junk :: .own 14 0 0 K.length (K.length + m) :: V.junk :: V.junk :: V.junk :: V.junk :: V.junk :: V.junk :: V.junk :: V.junk :: V.junk :: V.junk :: V.junk :: V.junk :: V.junk :: V.junk :: V.junk :: V.junk :: V.junk :: V.junk :: V.junk :: V.junk :: V.junk :: V.junk :: V.junk :: V.junk :: V.junk :: V.junk :: V.junk :: V.junk :: V.junk :: V.junk :: V.junk :: V.junk :: []), ⟨[(14, 0, .row (bl (K ++ List.replicate m 0#8)))], []⟩⟩) (true :: true :: false :: false :: false :: false :: true :: false :: false :: false :: false :: false :: false :: false :: false :: false :: false :: false :: false :: false :: false :: false :: false :: false :: false :: false :: false :: false :: false :: false :: false :: false :: false :: false :: false :: false :: false :: false :: false :: []) (64 - K.length)
      (fun k σ => ∃ j e, σ = (⟨(.p (.sl (bl K) false) :: .p (.int .u8 (ub x)) :: V.junk :: V.junk :: V.junk :: V.junk :: .own 14 0 0 (K.length + j) (K.length + j + e) :: V.junk :: V.junk :: V.junk :: V.junk :: V.junk :: V.junk :: V.junk :: V.junk :: V.junk :: V.junk :: V.junk :: V.junk :: V.junk :: V.junk :: V.junk :: V.junk :: V.junk :: V.junk :: V.junk :: V.junk :: V.junk :: V.junk :: V.junk :: V.junk :: V.junk :: V.junk :: V.junk :: V.junk :: V.junk :: V.junk :: V.junk :: V.junk :: []), ⟨[(14, 0, .row (bl (zs K j ++ List.replicate e 0#8)))], []⟩⟩ : St) ∧ K.length + j + k = 64 ∧ K.length + j + e ≤ 9223372036854775807) ?_ ?_ ?_
    · simp (maxSteps := 1000000) (disch := refine hold_ ?_; first | (simp [-List.getD_eq_getElem?_getD]; done) | omega) [-List.getD_eq_getElem?_getD]
    · exact ⟨0, m, by rw [zs_zero]; rfl, by omega, by omega⟩
    rintro k σ ⟨j, e, rfl, hj, he⟩
    have hXl : (zs K j).length = K.length + j := by simp [zs]
    have hX1 : zs K j ++ [0#8] = zs K (j + 1) := by unfold zs; rw [List.replicate_succ', List.append_assoc]
    have hX64 : k = 0 → zs K j = K ++ List.replicate (64 - K.length) 0#8 := by intro h; rw [show 64 - K.length = j by omega]; rfl
    generalize hX : zs K j = X at *
    generalize hN : K.length + j = N at *
    repeat (first | ((first | (with_reducible first | refine zP fun K_ hK_ => ?_ | refine zQ fun K_ hK_ => ?_ | refine zT ?_ | refine zU ?_ | refine zV ?_ | refine zW ?_ | refine zX ?_ | refine zY ?_) | ((with_reducible first | refine zR ?_ ?_ fun K_ hK_ => ?_ | refine zS ?_ ?_ fun K_ hK_ => ?_); (focus kernel_rfl); (focus kernel_rfl))); first | (simp (maxSteps := 1000000) (disch := refine hold_ ?_; first | (simp [-List.getD_eq_getElem?_getD]; done) | omega) [-List.getD_eq_getElem?_getD]; try first | (with_reducible refine zZ ?_) | subst hK_) | subst hK_) | (with_reducible first | refine zA ?_ | refine zB ?_ | refine zC ?_ | refine zD ?_ | refine zE ?_ | refine zF ?_ | refine zG ?_ | refine zH ?_ | refine zI ?_ | refine zJ ?_ | refine zK ?_ | refine zL ?_ | refine zM ?_ | refine zN ?_ | refine zO ?_) | ((with_reducible refine yG ?_ ?_); (focus decide)) | ((with_reducible refine yA ?_); refine yB rfl ?_; (with_reducible first | refine yC ?_ | refine yD ?_)))
    first | refine AW.condD rfl (fun hc => ?_) (fun hc => ?_) | refine AW.cond rfl (fun hc => ?_) (fun hc => ?_)
    · have hk1 : N < 64 := by omega
      repeat (first | ((with_reducible first | refine Go.Av.AW.regCAt 6 [2] ?_ fun K_ hK_ => ?_ | refine Go.Av.AW.regCAt1 6 [2] ?_ fun K_ hK_ => ?_); (focus decide)) | ((with_reducible refine Go.Av.runC_cons fun K_ hK_ => ?_); (try simp (maxSteps := 1000000) (disch := refine hold_ ?_; first | (simp [-List.getD_eq_getElem?_getD]; done) | omega) [-List.getD_eq_getElem?_getD]); try first | (with_reducible refine zZ ?_) | subst hK_) | ((with_reducible refine Go.Av.runC_nil ?_); (try simp (maxSteps := 1000000) (disch := refine hold_ ?_; first | (simp [-List.getD_eq_getElem?_getD]; done) | omega) [-List.getD_eq_getElem?_getD]); try first | (with_reducible refine zZ ?_) | subst hK_) | ((with_reducible refine Go.Av.XS_at 2 ?_); refine Go.Av.XS.app rfl rfl rfl fun c_ hc_ => ?_; (try simp (maxSteps := 1000000) (disch := refine hold_ ?_; first | (simp [-List.getD_eq_getElem?_getD]; done) | omega) [-List.getD_eq_getElem?_getD]); try first | (with_reducible refine zZ ?_) | subst hK_) | ((first | (with_reducible first | refine zP fun K_ hK_ => ?_ | refine zQ fun K_ hK_ => ?_ | refine zT ?_ | refine zU ?_ | refine zV ?_ | refine zW ?_ | refine zX ?_ | refine zY ?_) | ((with_reducible first | refine zR ?_ ?_ fun K_ hK_ => ?_ | refine zS ?_ ?_ fun K_ hK_ => ?_); (focus kernel_rfl); (focus kernel_rfl))); first | (simp (maxSteps := 1000000) (disch := refine hold_ ?_; first | (simp [-List.getD_eq_getElem?_getD]; done) | omega) [-List.getD_eq_getElem?_getD]; try first | (with_reducible refine zZ ?_) | subst hK_) | subst hK_) | (with_reducible first | refine zA ?_ | refine zB ?_ | refine zC ?_ | refine zD ?_ | refine zE ?_ | refine zF ?_ | refine zG ?_ | refine zH ?_ | refine zI ?_ | refine zJ ?_ | refine zK ?_ | refine zL ?_ | refine zM ?_ | refine zN ?_ | refine zO ?_) | ((with_reducible refine yG ?_ ?_); (focus decide)) | ((with_reducible refine yA ?_); refine yB rfl ?_; (with_reducible first | refine yC ?_ | refine yD ?_)))
      obtain ⟨m2, hm2, hA2⟩ := appX_at (id := 14) (ver := 0) (n := N) (e := e) (X := X) (Y := [0#8]) (y := V.row (Row.ints IntKind.u8 [0]) 21 0 false) (h := ⟨[(14, 0, HB.row (bl (X ++ List.replicate e 0#8)))], [(21, 0)]⟩) rfl (by rfl) hXl he (by simp; omega) c_ hc_
      rw [hA2]
      simp only [List.length_cons, List.length_nil, Nat.zero_add, Go.Av.upd, if_pos] at hm2 ⊢
      repeat (first | ((with_reducible first | refine Go.Av.AW.regCAt 6 [2] ?_ fun K_ hK_ => ?_ | refine Go.Av.AW.regCAt1 6 [2] ?_ fun K_ hK_ => ?_); (focus decide)) | ((with_reducible refine Go.Av.runC_cons fun K_ hK_ => ?_); (try simp (maxSteps := 1000000) (disch := refine hold_ ?_; first | (simp [-List.getD_eq_getElem?_getD]; done) | omega) [-List.getD_eq_getElem?_getD]); try first | (with_reducible refine zZ ?_) | subst hK_) | ((with_reducible refine Go.Av.runC_nil ?_); (try simp (maxSteps := 1000000) (disch := refine hold_ ?_; first | (simp [-List.getD_eq_getElem?_getD]; done) | omega) [-List.getD_eq_getElem?_getD]); try first | (with_reducible refine zZ ?_) | subst hK_) | ((first | (with_reducible first | refine zP fun K_ hK_ => ?_ | refine zQ fun K_ hK_ => ?_ | refine zT ?_ | refine zU ?_ | refine zV ?_ | refine zW ?_ | refine zX ?_ | refine zY ?_) | ((with_reducible first | refine zR ?_ ?_ fun K_ hK_ => ?_ | refine zS ?_ ?_ fun K_ hK_ => ?_); (focus kernel_rfl); (focus kernel_rfl))); first | (simp (maxSteps := 1000000) (disch := refine hold_ ?_; first | (simp [-List.getD_eq_getElem?_getD]; done) | omega) [-List.getD_eq_getElem?_getD]; try first | (with_reducible refine zZ ?_) | subst hK_) | subst hK_) | (with_reducible first | refine zA ?_ | refine zB ?_ | refine zC ?_ | refine zD ?_ | refine zE ?_ | refine zF ?_ | refine zG ?_ | refine zH ?_ | refine zI ?_ | refine zJ ?_ | refine zK ?_ | refine zL ?_ | refine zM ?_ | refine zN ?_ | refine zO ?_) | ((with_reducible refine yG ?_ ?_); (focus decide)) | ((with_reducible refine yA ?_); refine yB rfl ?_; (with_reducible first | refine yC ?_ | refine yD ?_)))
      refine ⟨k - 1, by omega, ⟨(.p (.sl (bl K) false) :: .p (.int .u8 (ub x)) :: V.junk :: V.junk :: V.junk :: V.junk :: .own 14 0 0 (N + 1) (N + 1 + m2) :: V.junk :: V.junk :: V.junk :: V.junk :: V.junk :: V.junk :: V.junk :: V.junk :: V.junk :: V.junk :: V.junk :: V.junk :: V.junk :: V.junk :: V.junk :: V.junk :: V.junk :: V.junk :: V.junk :: V.junk :: V.junk :: V.junk :: V.junk :: V.junk :: V.junk :: V.junk :: V.junk :: V.junk :: V.junk :: V.junk :: V.junk :: V.junk :: []), ⟨[(14, 0, .row (bl (X ++ 0#8 :: List.replicate m2 0#8)))], []⟩⟩, ?_, j + 1, m2, ?_, by omega, by omega⟩
      · simp (maxSteps := 1000000) (disch := refine hold_ ?_; first | (simp [-List.getD_eq_getElem?_getD]; done) | omega) [-List.getD_eq_getElem?_getD]
      · rw [show K.length + (j + 1) = N + 1 by omega, ← hX1, List.append_assoc]; rfl
    · have hk1 : k = 0 := by omega
      have hX6 := hX64 hk1
      have hN6 : N = 64 := by omega
      subst hN6
      rw [← hX6] at hP
      have hXt := xorTo_app X (List.replicate e 0#8) x 64 hXl
      rw [hP] at hXt
      have hYl : (X ++ List.replicate e 0#8).length = 64 + e := by simp; omega
      generalize hY : X ++ List.replicate e 0#8 = Y at *
      repeat (first | ((first | (with_reducible first | refine zP fun K_ hK_ => ?_ | refine zQ fun K_ hK_ => ?_ | refine zT ?_ | refine zU ?_ | refine zV ?_ | refine zW ?_ | refine zX ?_ | refine zY ?_) | ((with_reducible first | refine zR ?_ ?_ fun K_ hK_ => ?_ | refine zS ?_ ?_ fun K_ hK_ => ?_); (focus kernel_rfl); (focus kernel_rfl))); first | (simp (maxSteps := 1000000) (disch := refine hold_ ?_; first | (simp [-List.getD_eq_getElem?_getD]; done) | omega) [-List.getD_eq_getElem?_getD]; try first | (with_reducible refine zZ ?_) | subst hK_) | subst hK_) | (with_reducible first | refine zA ?_ | refine zB ?_ | refine zC ?_ | refine zD ?_ | refine zE ?_ | refine zF ?_ | refine zG ?_ | refine zH ?_ | refine zI ?_ | refine zJ ?_ | refine zK ?_ | refine zL ?_ | refine zM ?_ | refine zN ?_ | refine zO ?_) | ((with_reducible refine yG ?_ ?_); (focus decide)) | ((with_reducible refine yA ?_); refine yB rfl ?_; (with_reducible first | refine yC ?_ | refine yD ?_)))
      refine AW.iter (false :: true :: false :: false :: false :: false :: true :: false :: false :: false :: false :: false :: false :: false :: false :: false :: false :: false :: false :: false :: false :: false :: false :: false :: true :: true :: false :: false :: false :: false :: false :: false :: false :: false :: false :: false :: false :: false :: false :: []) 64 (fun i => ⟨(V.junk :: .p (.int .u8 (ub x)) :: V.junk :: V.junk :: V.junk :: V.junk :: .own 14 0 0 64 (64 + e) :: V.junk :: V.junk :: V.junk :: V.junk :: V.junk :: V.junk :: V.junk :: V.junk :: V.junk :: V.junk :: V.junk :: V.junk :: V.junk :: V.junk :: V.junk :: V.junk :: V.junk :: .p (.int .i64 64) :: .p (.int .i64 i) :: V.junk :: V.junk :: V.junk :: V.junk :: V.junk :: V.junk :: V.junk :: V.junk :: V.junk :: V.junk :: V.junk :: V.junk :: V.junk :: []), ⟨[(14, 0, .row (bl (xorTo Y x i)))], []⟩⟩) ?_ ?_
      · simp (maxSteps := 1000000) (disch := refine hold_ ?_; first | (simp [xorTo_zero, -List.getD_eq_getElem?_getD]; done) | omega) [xorTo_zero, -List.getD_eq_getElem?_getD]
      intro i hi
      have e0 : IntKind.i64.wrap ((i : Int) + 1) = i + 1 := wrap_i64 _ (by omega) (by omega)
      have e1 := xorTo_len Y x i
      repeat (first | ((first | (with_reducible first | refine zP fun K_ hK_ => ?_ | refine zQ fun K_ hK_ => ?_ | refine zT ?_ | refine zU ?_ | refine zV ?_ | refine zW ?_ | refine zX ?_ | refine zY ?_) | ((with_reducible first | refine zR ?_ ?_ fun K_ hK_ => ?_ | refine zS ?_ ?_ fun K_ hK_ => ?_); (focus kernel_rfl); (focus kernel_rfl))); first | (simp (maxSteps := 1000000) (disch := refine hold_ ?_; first | (simp [e0, e1, hYl, -List.getD_eq_getElem?_getD]; done) | omega) [e0, e1, hYl, -List.getD_eq_getElem?_getD]; try first | (with_reducible refine zZ ?_) | subst hK_) | subst hK_) | (with_reducible first | refine zA ?_ | refine zB ?_ | refine zC ?_ | refine zD ?_ | refine zE ?_ | refine zF ?_ | refine zG ?_ | refine zH ?_ | refine zI ?_ | refine zJ ?_ | refine zK ?_ | refine zL ?_ | refine zM ?_ | refine zN ?_ | refine zO ?_) | ((with_reducible refine yG ?_ ?_); (focus decide)) | ((with_reducible refine yA ?_); refine yB rfl ?_; (with_reducible first | refine yC ?_ | refine yD ?_)))
      first | refine AW.condD rfl (fun hc => ?_) (fun hc => ?_) | refine AW.cond rfl (fun hc => ?_) (fun hc => ?_)
      · have hi2 : i < 64 := by omega
        have e2 := xorTo_get Y x i (by omega)
        have e3 := xorTo_succ Y x i (by omega)
        have hi3 : i < 64 + e := by omega
        repeat (first | ((first | (with_reducible first | refine zP fun K_ hK_ => ?_ | refine zQ fun K_ hK_ => ?_ | refine zT ?_ | refine zU ?_ | refine zV ?_ | refine zW ?_ | refine zX ?_ | refine zY ?_) | ((with_reducible first | refine zR ?_ ?_ fun K_ hK_ => ?_ | refine zS ?_ ?_ fun K_ hK_ => ?_); (focus kernel_rfl); (focus kernel_rfl))); first | (simp (maxSteps := 1000000) (disch := refine hold_ ?_; first | (simp [e0, e1, e2, hYl, hi2, hi3, -List.getD_eq_getElem?_getD]; done) | omega) [e0, e1, e2, hYl, hi2, hi3, -List.getD_eq_getElem?_getD]; try first | (with_reducible refine zZ ?_) | subst hK_) | subst hK_) | (with_reducible first | refine zA ?_ | refine zB ?_ | refine zC ?_ | refine zD ?_ | refine zE ?_ | refine zF ?_ | refine zG ?_ | refine zH ?_ | refine zI ?_ | refine zJ ?_ | refine zK ?_ | refine zL ?_ | refine zM ?_ | refine zN ?_ | refine zO ?_) | ((with_reducible refine yG ?_ ?_); (focus decide)) | ((with_reducible refine yA ?_); refine yB rfl ?_; (with_reducible first | refine yC ?_ | refine yD ?_)))
        refine ⟨hi2, ?_⟩
        simp (maxSteps := 1000000) (disch := refine hold_ ?_; first | (simp [e3, -List.getD_eq_getElem?_getD]; done) | omega) [e3, -List.getD_eq_getElem?_getD]
      · have hi2 : i = 64 := by omega
        subst hi2
        generalize hZ : xorTo Y x 64 = Z at *
        repeat (first | ((with_reducible refine Go.Av.AW.headAt1 12 ?_); (refine Go.Av.AW.rowAt 12 14 6 64 (by decide) rfl ?_ fun K_ hK_ => ?_); (focus (first | omega | (simp; done) | (simp; omega))); simp (maxSteps := 1000000) (disch := refine hold_ ?_; first | (simp [e1, hYl, hXt, -List.getD_eq_getElem?_getD]; done) | omega) [e1, hYl, hXt, -List.getD_eq_getElem?_getD]; subst hK_) | ((first | (with_reducible first | refine zP fun K_ hK_ => ?_ | refine zQ fun K_ hK_ => ?_ | refine zT ?_ | refine zU ?_ | refine zV ?_ | refine zW ?_ | refine zX ?_ | refine zY ?_) | ((with_reducible first | refine zR ?_ ?_ fun K_ hK_ => ?_ | refine zS ?_ ?_ fun K_ hK_ => ?_); (focus kernel_rfl); (focus kernel_rfl))); first | (simp (maxSteps := 1000000) (disch := refine hold_ ?_; first | (simp [e1, hYl, hXt, -List.getD_eq_getElem?_getD]; done) | omega) [e1, hYl, hXt, -List.getD_eq_getElem?_getD]; try first | (with_reducible refine zZ ?_) | subst hK_) | subst hK_) | (with_reducible first | refine zA ?_ | refine zB ?_ | refine zC ?_ | refine zD ?_ | refine zE ?_ | refine zF ?_ | refine zG ?_ | refine zH ?_ | refine zI ?_ | refine zJ ?_ | refine zK ?_ | refine zL ?_ | refine zM ?_ | refine zN ?_ | refine zO ?_) | ((with_reducible refine yG ?_ ?_); (focus decide)) | ((with_reducible refine yA ?_); refine yB rfl ?_; (with_reducible first | refine yC ?_ | refine yD ?_)))
        simp (maxSteps := 1000000) (disch := refine hold_ ?_; first | (simp [e1, hYl, hXt, -List.getD_eq_getElem?_getD]; done) | omega) [e1, hYl, hXt, -List.getD_eq_getElem?_getD]
  · have hk2 : key.length ≤ 64 := by omega
    obtain rfl := hS1 hk2
    repeat (first | ((with_reducible first | refine Go.Av.AW.regCAt 4 [0, 2] ?_ fun K_ hK_ => ?_ | refine Go.Av.AW.regCAt1 4 [0, 2] ?_ fun K_ hK_ => ?_); (focus decide)) | ((with_reducible refine Go.Av.runC_cons fun K_ hK_ => ?_); (try simp (maxSteps := 1000000) (disch := refine hold_ ?_; first | (simp [hz, -List.getD_eq_getElem?_getD]; done) | omega) [hz, -List.getD_eq_getElem?_getD]); try first | (with_reducible refine zZ ?_) | subst hK_) | ((with_reducible refine Go.Av.runC_nil ?_); (try simp (maxSteps := 1000000) (disch := refine hold_ ?_; first | (simp [hz, -List.getD_eq_getElem?_getD]; done) | omega) [hz, -List.getD_eq_getElem?_getD]); try first | (with_reducible refine zZ ?_) | subst hK_) | ((with_reducible refine Go.Av.XS_at 0 ?_); refine Go.Av.XS.own rfl rfl rfl ?_; (try simp (maxSteps := 1000000) (disch := refine hold_ ?_; first | (simp [Go.Av.ownStep, hz, -List.getD_eq_getElem?_getD]; done) | omega) [Go.Av.ownStep, hz, -List.getD_eq_getElem?_getD]); try first | (with_reducible refine zZ ?_) | subst hK_) | ((with_reducible refine Go.Av.XS_at 2 ?_); refine Go.Av.XS.retag 14 rfl ?_; simp only [Go.Av.upd, if_pos]; refine Go.Av.XS.app rfl rfl rfl fun c_ hc_ => ?_; (try simp (maxSteps := 1000000) (disch := refine hold_ ?_; first | (simp [hz, -List.getD_eq_getElem?_getD]; done) | omega) [hz, -List.getD_eq_getElem?_getD]); try first | (with_reducible refine zZ ?_) | subst hK_) | ((first | (with_reducible first | refine zP fun K_ hK_ => ?_ | refine zQ fun K_ hK_ => ?_ | refine zT ?_ | refine zU ?_ | refine zV ?_ | refine zW ?_ | refine zX ?_ | refine zY ?_) | ((with_reducible first | refine zR ?_ ?_ fun K_ hK_ => ?_ | refine zS ?_ ?_ fun K_ hK_ => ?_); (focus kernel_rfl); (focus kernel_rfl))); first | (simp (maxSteps := 1000000) (disch := refine hold_ ?_; first | (simp [hz, -List.getD_eq_getElem?_getD]; done) | omega) [hz, -List.getD_eq_getElem?_getD]; try first | (with_reducible refine zZ ?_) | subst hK_) | subst hK_) | (with_reducible first | refine zA ?_ | refine zB ?_ | refine zC ?_ | refine zD ?_ | refine zE ?_ | refine zF ?_ | refine zG ?_ | refine zH ?_ | refine zI ?_ | refine zJ ?_ | refine zK ?_ | refine zL ?_ | refine zM ?_ | refine zN ?_ | refine zO ?_) | ((with_reducible refine yG ?_ ?_); (focus decide)) | ((with_reducible refine yA ?_); refine yB rfl ?_; (with_reducible first | refine yC ?_ | refine yD ?_)))
    obtain ⟨m, hm, hA⟩ := appX_at (id := 14) (ver := 0) (n := 0) (e := 0) (X := []) (Y := K) (y := V.p (PV.sl (bl K) nl)) (h := ⟨[(14, 0, HB.row (bl []))], []⟩) rfl (by simp) rfl (by omega) (by omega) c_ hc_
    simp only [Nat.zero_add, List.nil_append, Nat.add_zero, Go.Av.upd, if_pos] at hA hm
    rw [hA]
    repeat (first | ((with_reducible first | refine Go.Av.AW.regCAt 4 [0, 2] ?_ fun K_ hK_ => ?_ | refine Go.Av.AW.regCAt1 4 [0, 2] ?_ fun K_ hK_ => ?_); (focus decide)) | ((with_reducible refine Go.Av.runC_cons fun K_ hK_ => ?_); (try simp (maxSteps := 1000000) (disch := refine hold_ ?_; first | (simp [-List.getD_eq_getElem?_getD]; done) | omega) [-List.getD_eq_getElem?_getD]); try first | (with_reducible refine zZ ?_) | subst hK_) | ((with_reducible refine Go.Av.runC_nil ?_); (try simp (maxSteps := 1000000) (disch := refine hold_ ?_; first | (simp [-List.getD_eq_getElem?_getD]; done) | omega) [-List.getD_eq_getElem?_getD]); try first | (with_reducible refine zZ ?_) | subst hK_) | ((first | (with_reducible first | refine zP fun K_ hK_ => ?_ | refine zQ fun K_ hK_ => ?_ | refine zT ?_ | refine zU ?_ | refine zV ?_ | refine zW ?_ | refine zX ?_ | refine zY ?_) | ((with_reducible first | refine zR ?_ ?_ fun K_ hK_ => ?_ | refine zS ?_ ?_ fun K_ hK_ => ?_); (focus kernel_rfl); (focus kernel_rfl))); first | (simp (maxSteps := 1000000) (disch := refine hold_ ?_; first | (simp [-List.getD_eq_getElem?_getD]; done) | omega) [-List.getD_eq_getElem?_getD]; try first | (with_reducible refine zZ ?_) | subst hK_) | subst hK_) | (with_reducible first | refine zA ?_ | refine zB ?_ | refine zC ?_ | refine zD ?_ | refine zE ?_ | refine zF ?_ | refine zG ?_ | refine zH ?_ | refine zI ?_ | refine zJ ?_ | refine zK ?_ | refine zL ?_ | refine zM ?_ | refine zN ?_ | refine zO ?_) | ((with_reducible refine yG ?_ ?_); (focus decide)) | ((with_reducible refine yA ?_); refine yB rfl ?_; (with_reducible first | refine yC ?_ | refine yD ?_)))
    refine AW.iterI (τ := ⟨(.p (.sl (bl K) nl) :: .p (.int .u8 (ub x)) :: V.junk :: V.junk :: V.junk :: V.junk :: .own 14 0 0 K.length (K.length + m) :: V.junk :: V.junk :: V.junk :: V.junk :: V.junk :: V.junk :: V.junk :: V.junk :: V.junk :: V.junk :: V.junk :: V.junk :: V.junk :: V.junk :: V.junk :: V.junk :: V.junk :: V.junk :: V.junk :: V.junk :: V.junk :: V.junk :: V.junk :: V.junk :: V.junk :: V.junk :: V.junk :: V.junk :: V.junk :: V.junk :: V.junk :: V.junk :: []), ⟨[(14, 0, .row (bl (K ++ List.replicate m 0#8)))], []⟩⟩) (true :: true :: false :: false :: false :: false :: true :: false :: false :: false :: false :: false :: false :: false :: false :: false :: false :: false :: false :: false :: false :: false :: false :: false :: false :: false :: false :: false :: false :: false :: false :: false :: false :: false :: false :: false :: false :: false :: false :: []) (64 - K.length)
      (fun k σ => ∃ j e, σ = (⟨(.p (.sl (bl K) nl) :: .p (.int .u8 (ub x)) :: V.junk :: V.junk :: V.junk :: V.junk :: .own 14 0 0 (K.length + j) (K.length + j + e) :: V.junk :: V.junk :: V.junk :: V.junk :: V.junk :: V.junk :: V.junk :: V.junk :: V.junk :: V.junk :: V.junk :: V.junk :: V.junk :: V.junk :: V.junk :: V.junk :: V.junk :: V.junk :: V.junk :: V.junk :: V.junk :: V.junk :: V.junk :: V.junk :: V.junk :: V.junk :: V.junk :: V.junk :: V.junk :: V.junk :: V.junk :: V.junk :: []), ⟨[(14, 0, .row (bl (zs K j ++ List.replicate e 0#8)))], []⟩⟩ : St) ∧ K.length + j + k = 64 ∧ K.length + j + e ≤ 9223372036854775807) ?_ ?_ ?_
    · simp (maxSteps := 1000000) (disch := refine hold_ ?_; first | (simp [-List.getD_eq_getElem?_getD]; done) | omega) [-List.getD_eq_getElem?_getD]
    · exact ⟨0, m, by rw [zs_zero]; rfl, by omega, by omega⟩
    rintro k σ ⟨j, e, rfl, hj, he⟩
    have hXl : (zs K j).length = K.length + j := by simp [zs]
    have hX1 : zs K j ++ [0#8] = zs K (j + 1) := by unfold zs; rw [List.replicate_succ', List.append_assoc]
    have hX64 : k = 0 → zs K j = K ++ List.replicate (64 - K.length) 0#8 := by intro h; rw [show 64 - K.length = j by omega]; rfl
    generalize hX : zs K j = X at *
    generalize hN : K.length + j = N at *
    repeat (first | ((first | (with_reducible first | refine zP fun K_ hK_ => ?_ | refine zQ fun K_ hK_ => ?_ | refine zT ?_ | refine zU ?_ | refine zV ?_ | refine zW ?_ | refine zX ?_ | refine zY ?_) | ((with_reducible first | refine zR ?_ ?_ fun K_ hK_ => ?_ | refine zS ?_ ?_ fun K_ hK_ => ?_); (focus kernel_rfl); (focus kernel_rfl))); first | (simp (maxSteps := 1000000) (disch := refine hold_ ?_; first | (simp [-List.getD_eq_getElem?_getD]; done) | omega) [-List.getD_eq_getElem?_getD]; try first | (with_reducible refine zZ ?_) | subst hK_) | subst hK_) | (with_reducible first | refine zA ?_ | refine zB ?_ | refine zC ?_ | refine zD ?_ | refine zE ?_ | refine zF ?_ | refine zG ?_ | refine zH ?_ | refine zI ?_ | refine zJ ?_ | refine zK ?_ | refine zL ?_ | refine zM ?_ | refine zN ?_ | refine zO ?_) | ((with_reducible refine yG ?_ ?_); (focus decide)) | ((with_reducible refine yA ?_); refine yB rfl ?_; (with_reducible first | refine yC ?_ | refine yD ?_)))
    first | refine AW.condD rfl (fun hc => ?_) (fun hc => ?_) | refine AW.cond rfl (fun hc => ?_) (fun hc => ?_)
    · have hk1 : N < 64 := by omega
      repeat (first | ((with_reducible first | refine Go.Av.AW.regCAt 6 [2] ?_ fun K_ hK_ => ?_ | refine Go.Av.AW.regCAt1 6 [2] ?_ fun K_ hK_ => ?_); (focus decide)) | ((with_reducible refine Go.Av.runC_cons fun K_ hK_ => ?_); (try simp (maxSteps := 1000000) (disch := refine hold_ ?_; first | (simp [-List.getD_eq_getElem?_getD]; done) | omega) [-List.getD_eq_getElem?_getD]); try first | (with_reducible refine zZ ?_) | subst hK_) | ((with_reducible refine Go.Av.runC_nil ?_); (try simp (maxSteps := 1000000) (disch := refine hold_ ?_; first | (simp [-List.getD_eq_getElem?_getD]; done) | omega) [-List.getD_eq_getElem?_getD]); try first | (with_reducible refine zZ ?_) | subst hK_) | ((with_reducible refine Go.Av.XS_at 2 ?_); refine Go.Av.XS.app rfl rfl rfl fun c_ hc_ => ?_; (try simp (maxSteps := 1000000) (disch := refine hold_ ?_; first | (simp [-List.getD_eq_getElem?_getD]; done) | omega) [-List.getD_eq_getElem?_getD]); try first | (with_reducible refine zZ ?_) | subst hK_) | ((first | (with_reducible first | refine zP fun K_ hK_ => ?_ | refine zQ fun K_ hK_ => ?_ | refine zT ?_ | refine zU ?_ | refine zV ?_ | refine zW ?_ | refine zX ?_ | refine zY ?_) | ((with_reducible first | refine zR ?_ ?_ fun K_ hK_ => ?_ | refine zS ?_ ?_ fun K_ hK_ => ?_); (focus kernel_rfl); (focus kernel_rfl))); first | (simp (maxSteps := 1000000) (disch := refine hold_ ?_; first | (simp [-List.getD_eq_getElem?_getD]; done) | omega) [-List.getD_eq_getElem?_getD]; try first | (with_reducible refine zZ ?_) | subst hK_) | subst hK_) | (with_reducible first | refine zA ?_ | refine zB ?_ | refine zC ?_ | refine zD ?_ | refine zE ?_ | refine zF ?_ | refine zG ?_ | refine zH ?_ | refine zI ?_ | refine zJ ?_ | refine zK ?_ | refine zL ?_ | refine zM ?_ | refine zN ?_ | refine zO ?_) | ((with_reducible refine yG ?_ ?_); (focus decide)) | ((with_reducible refine yA ?_); refine yB rfl ?_; (with_reducible first | refine yC ?_ | refine yD ?_)))
      obtain ⟨m2, hm2, hA2⟩ := appX_at (id := 14) (ver := 0) (n := N) (e := e) (X := X) (Y := [0#8]) (y := V.row (Row.ints IntKind.u8 [0]) 21 0 false) (h := ⟨[(14, 0, HB.row (bl (X ++ List.replicate e 0#8)))], [(21, 0)]⟩) rfl (by rfl) hXl he (by simp; omega) c_ hc_
      rw [hA2]
      simp only [List.length_cons, List.length_nil, Nat.zero_add, Go.Av.upd, if_pos] at hm2 ⊢
      repeat (first | ((with_reducible first | refine Go.Av.AW.regCAt 6 [2] ?_ fun K_ hK_ => ?_ | refine Go.Av.AW.regCAt1 6 [2] ?_ fun K_ hK_ => ?_); (focus decide)) | ((with_reducible refine Go.Av.runC_cons fun K_ hK_ => ?_); (try simp (maxSteps := 1000000) (disch := refine hold_ ?_; first | (simp [-List.getD_eq_getElem?_getD]; done) | omega) [-List.getD_eq_getElem?_getD]); try first | (with_reducible refine zZ ?_) | subst hK_) | ((with_reducible refine Go.Av.runC_nil ?_); (try simp (maxSteps := 1000000) (disch := refine hold_ ?_; first | (simp [-List.getD_eq_getElem?_getD]; done) | omega) [-List.getD_eq_getElem?_getD]); try first | (with_reducible refine zZ ?_) | subst hK_) | ((first | (with_reducible first | refine zP fun K_ hK_ => ?_ | refine zQ fun K_ hK_ => ?_ | refine zT ?_ | refine zU ?_ | refine zV ?_ | refine zW ?_ | refine zX ?_ | refine zY ?_) | ((with_reducible first | refine zR ?_ ?_ fun K_ hK_ => ?_ | refine zS ?_ ?_ fun K_ hK_ => ?_); (focus kernel_rfl); (focus kernel_rfl))); first | (simp (maxSteps := 1000000) (disch := refine hold_ ?_; first | (simp [-List.getD_eq_getElem?_getD]; done) | omega) [-List.getD_eq_getElem?_getD]; try first | (with_reducible refine zZ ?_) | subst hK_) | subst hK_) | (with_reducible first | refine zA ?_ | refine zB ?_ | refine zC ?_ | refine zD ?_ | refine zE ?_ | refine zF ?_ | refine zG ?_ | refine zH ?_ | refine zI ?_ | refine zJ ?_ | refine zK ?_ | refine zL ?_ | refine zM ?_ | refine zN ?_ | refine zO ?_) | ((with_reducible refine yG ?_ ?_); (focus decide)) | ((with_reducible refine yA ?_); refine yB rfl ?_; (with_reducible first | refine yC ?_ | refine yD ?_)))
      refine ⟨k - 1, by omega, ⟨(.p (.sl (bl K) nl) :: .p (.int .u8 (ub x)) :: V.junk :: V.junk :: V.junk :: V.junk :: .own 14 0 0 (N + 1) (N + 1 + m2) :: V.junk :: V.junk :: V.junk :: V.junk :: V.junk :: V.junk :: V.junk :: V.junk :: V.junk :: V.junk :: V.junk :: V.junk :: V.junk :: V.junk :: V.junk :: V.junk :: V.junk :: V.junk :: V.junk :: V.junk :: V.junk :: V.junk :: V.junk :: V.junk :: V.junk :: V.junk :: V.junk :: V.junk :: V.junk :: V.junk :: V.junk :: V.junk :: []), ⟨[(14, 0, .row (bl (X ++ 0#8 :: List.replicate m2 0#8)))], []⟩⟩, ?_, j + 1, m2, ?_, by omega, by omega⟩
      · simp (maxSteps := 1000000) (disch := refine hold_ ?_; first | (simp [-List.getD_eq_getElem?_getD]; done) | omega) [-List.getD_eq_getElem?_getD]
      · rw [show K.length + (j + 1) = N + 1 by omega, ← hX1, List.append_assoc]; rfl
    · have hk1 : k = 0 := by omega
      have hX6 := hX64 hk1
      have hN6 : N = 64 := by omega
      subst hN6
      rw [← hX6] at hP
      have hXt := xorTo_app X (List.replicate e 0#8) x 64 hXl
      rw [hP] at hXt
      have hYl : (X ++ List.replicate e 0#8).length = 64 + e := by simp; omega
      generalize hY : X ++ List.replicate e 0#8 = Y at *
      repeat (first | ((first | (with_reducible first | refine zP fun K_ hK_ => ?_ | refine zQ fun K_ hK_ => ?_ | refine zT ?_ | refine zU ?_ | refine zV ?_ | refine zW ?_ | refine zX ?_ | refine zY ?_) | ((with_reducible first | refine zR ?_ ?_ fun K_ hK_ => ?_ | refine zS ?_ ?_ fun K_ hK_ => ?_); (focus kernel_rfl); (focus kernel_rfl))); first | (simp (maxSteps := 1000000) (disch := refine hold_ ?_; first | (simp [-List.getD_eq_getElem?_getD]; done) | omega) [-List.getD_eq_getElem?_getD]; try first | (with_reducible refine zZ ?_) | subst hK_) | subst hK_) | (with_reducible first | refine zA ?_ | refine zB ?_ | refine zC ?_ | refine zD ?_ | refine zE ?_ | refine zF ?_ | refine zG ?_ | refine zH ?_ | refine zI ?_ | refine zJ ?_ | refine zK ?_ | refine zL ?_ | refine zM ?_ | refine zN ?_ | refine zO ?_) | ((with_reducible refine yG ?_ ?_); (focus decide)) | ((with_reducible refine yA ?_); refine yB rfl ?_; (with_reducible first | refine yC ?_ | refine yD ?_)))
      refine AW.iter (false :: true :: false :: false :: false :: false :: true :: false :: false :: false :: false :: false :: false :: false :: false :: false :: false :: false :: false :: false :: false :: false :: false :: false :: true :: true :: false :: false :: false :: false :: false :: false :: false :: false :: false :: false :: false :: false :: false :: []) 64 (fun i => ⟨(V.junk :: .p (.int .u8 (ub x)) :: V.junk :: V.junk :: V.junk :: V.junk :: .own 14 0 0 64 (64 + e) :: V.junk :: V.junk :: V.junk :: V.junk :: V.junk :: V.junk :: V.junk :: V.junk :: V.junk :: V.junk :: V.junk :: V.junk :: V.junk :: V.junk :: V.junk :: V.junk :: V.junk :: .p (.int .i64 64) :: .p (.int .i64 i) :: V.junk :: V.junk :: V.junk :: V.junk :: V.junk :: V.junk :: V.junk :: V.junk :: V.junk :: V.junk :: V.junk :: V.junk :: V.junk :: []), ⟨[(14, 0, .row (bl (xorTo Y x i)))], []⟩⟩) ?_ ?_
      · simp (maxSteps := 1000000) (disch := refine hold_ ?_; first | (simp [xorTo_zero, -List.getD_eq_getElem?_getD]; done) | omega) [xorTo_zero, -List.getD_eq_getElem?_getD]
      intro i hi
      have e0 : IntKind.i64.wrap ((i : Int) + 1) = i + 1 := wrap_i64 _ (by omega) (by omega)
      have e1 := xorTo_len Y x i
      repeat (first | ((first | (with_reducible first | refine zP fun K_ hK_ => ?_ | refine zQ fun K_ hK_ => ?_ | refine zT ?_ | refine zU ?_ | refine zV ?_ | refine zW ?_ | refine zX ?_ | refine zY ?_) | ((with_reducible first | refine zR ?_ ?_ fun K_ hK_ => ?_ | refine zS ?_ ?_ fun K_ hK_ => ?_); (focus kernel_rfl); (focus kernel_rfl))); first | (simp (maxSteps := 1000000) (disch := refine hold_ ?_; first | (simp [e0, e1, hYl, -List.getD_eq_getElem?_getD]; done) | omega) [e0, e1, hYl, -List.getD_eq_getElem?_getD]; try first | (with_reducible refine zZ ?_) | subst hK_) | subst hK_) | (with_reducible first | refine zA ?_ | refine zB ?_ | refine zC ?_ | refine zD ?_ | refine zE ?_ | refine zF ?_ | refine zG ?_ | refine zH ?_ | refine zI ?_ | refine zJ ?_ | refine zK ?_ | refine zL ?_ | refine zM ?_ | refine zN ?_ | refine zO ?_) | ((with_reducible refine yG ?_ ?_); (focus decide)) | ((with_reducible refine yA ?_); refine yB rfl ?_; (with_reducible first | refine yC ?_ | refine yD ?_)))
      first | refine AW.condD rfl (fun hc => ?_) (fun hc => ?_) | refine AW.cond rfl (fun hc => ?_) (fun hc => ?_)
      · have hi2 : i < 64 := by omega
        have e2 := xorTo_get Y x i (by omega)
        have e3 := xorTo_succ Y x i (by omega)
        have hi3 : i < 64 + e := by omega
        repeat (first | ((first | (with_reducible first | refine zP fun K_ hK_ => ?_ | refine zQ fun K_ hK_ => ?_ | refine zT ?_ | refine zU ?_ | refine zV ?_ | refine zW ?_ | refine zX ?_ | refine zY ?_) | ((with_reducible first | refine zR ?_ ?_ fun K_ hK_ => ?_ | refine zS ?_ ?_ fun K_ hK_ => ?_); (focus kernel_rfl); (focus kernel_rfl))); first | (simp (maxSteps := 1000000) (disch := refine hold_ ?_; first | (simp [e0, e1, e2, hYl, hi2, hi3, -List.getD_eq_getElem?_getD]; done) | omega) [e0, e1, e2, hYl, hi2, hi3, -List.getD_eq_getElem?_getD]; try first | (with_reducible refine zZ ?_) | subst hK_) | subst hK_) | (with_reducible first | refine zA ?_ | refine zB ?_ | refine zC ?_ | refine zD ?_ | refine zE ?_ | refine zF ?_ | refine zG ?_ | refine zH ?_ | refine zI ?_ | refine zJ ?_ | refine zK ?_ | refine zL ?_ | refine zM ?_ | refine zN ?_ | refine zO ?_) | ((with_reducible refine yG ?_ ?_); (focus decide)) | ((with_reducible refine yA ?_); refine yB rfl ?_; (with_reducible first | refine yC ?_ | refine yD ?_)))
        refine ⟨hi2, ?_⟩
        simp (maxSteps := 1000000) (disch := refine hold_ ?_; first | (simp [e3, -List.getD_eq_getElem?_getD]; done) | omega) [e3, -List.getD_eq_getElem?_getD]
      · have hi2 : i = 64 := by omega
        subst hi2
        generalize hZ : xorTo Y x 64 = Z at *
        repeat (first | ((with_reducible refine Go.Av.AW.headAt1 12 ?_); (refine Go.Av.AW.rowAt 12 14 6 64 (by decide) rfl ?_ fun K_ hK_ => ?_); (focus (first | omega | (simp; done) | (simp; omega))); simp (maxSteps := 1000000) (disch := refine hold_ ?_; first | (simp [e1, hYl, hXt, -List.getD_eq_getElem?_getD]; done) | omega) [e1, hYl, hXt, -List.getD_eq_getElem?_getD]; subst hK_) | ((first | (with_reducible first | refine zP fun K_ hK_ => ?_ | refine zQ fun K_ hK_ => ?_ | refine zT ?_ | refine zU ?_ | refine zV ?_ | refine zW ?_ | refine zX ?_ | refine zY ?_) | ((with_reducible first | refine zR ?_ ?_ fun K_ hK_ => ?_ | refine zS ?_ ?_ fun K_ hK_ => ?_); (focus kernel_rfl); (focus kernel_rfl))); first | (simp (maxSteps := 1000000) (disch := refine hold_ ?_; first | (simp [e1, hYl, hXt, -List.getD_eq_getElem?_getD]; done) | omega) [e1, hYl, hXt, -List.getD_eq_getElem?_getD]; try first | (with_reducible refine zZ ?_) | subst hK_) | subst hK_) | (with_reducible first | refine zA ?_ | refine zB ?_ | refine zC ?_ | refine zD ?_ | refine zE ?_ | refine zF ?_ | refine zG ?_ | refine zH ?_ | refine zI ?_ | refine zJ ?_ | refine zK ?_ | refine zL ?_ | refine zM ?_ | refine zN ?_ | refine zO ?_) | ((with_reducible refine yG ?_ ?_); (focus decide)) | ((with_reducible refine yA ?_); refine yB rfl ?_; (with_reducible first | refine yC ?_ | refine yD ?_)))
        simp (maxSteps := 1000000) (disch := refine hold_ ?_; first | (simp [e1, hYl, hXt, -List.getD_eq_getElem?_getD]; done) | omega) [e1, hYl, hXt, -List.getD_eq_getElem?_getD]
end Go.Av.Sha
end

section
set_option linter.unusedSimpArgs false
set_option linter.unusedVariables false
open Go Go.Av Go.Proofs
namespace Go.Av.Sha
set_option maxHeartbeats 10000000 in
theorem rof_ct (nl nb : Bool) (key b : List (BitVec 8)) (hk : key.length ≤ 4000000) (hb : b.length ≤ 3000000) : Fn Try.prog 17 [.sl (bl key) nl, .sl (bl b) nb] [.p (.agg (bl (macL key b)))] := by
  have hz : zero32.length = 32 := rfl
  have hAl := padM_len (keyM key) 0x36#8 (keyM_len key)
  have hBl := padM_len (keyM key) 0x5C#8 (keyM_len key)
  have cA := key_ct nl key hk 0x36#8
  have cB := key_ct nl key hk 0x5C#8
  rw [show ub 0x36#8 = 54 from rfl] at cA
  rw [show ub 0x5C#8 = 92 from rfl] at cB
  have hSl := shaL_len (padM (keyM key) 0x36#8 ++ b)
  have c1 := rsum_ct false (padM (keyM key) 0x36#8 ++ b) (by simp; omega)
  have c2 := rsum_ct false (padM (keyM key) 0x5C#8 ++ shaL (padM (keyM key) 0x36#8 ++ b)) (by simp; omega)
  have hMl : (macL key b).length = 32 := shaL_len _
  have hM : shaL (padM (keyM key) 0x5C#8 ++ shaL (padM (keyM key) 0x36#8 ++ b)) = macL key b := rfl
  rw [hM] at c2
  clear hM
  generalize macL key b = M at *
  generalize shaL (padM (keyM key) 0x36#8 ++ b) = S at *
  generalize padM (keyM key) 0x36#8 = A at *
  generalize padM (keyM key) 0x5C#8 = B at *
  have hT : S.take 32 = S := List.take_of_length_le (by omega)
  have h3 : 64 + b.length ≤ 140737488355328 := by omega
  refine Fn.of_body Try.func17 rfl ?_
  repeat (first | ((with_reducible first | refine callK_at 25 ?_ | refine callK_at 12 ?_); refine callK_p ?_; simp (maxSteps := 1000000) (disch := refine hold_ ?_; first | (simp [hz, hSl, hMl, hT, hAl, hBl, h3, -List.getD_eq_getElem?_getD]; done) | omega) [hz, hSl, hMl, hT, hAl, hBl, h3, -List.getD_eq_getElem?_getD]; (first | ((with_reducible refine k1_at 25 ?_); refine callK1_of (Fn.ct cA Try.call25) ?_) | ((with_reducible refine k1_at 25 ?_); refine callK1_of (Fn.ct cB Try.call25) ?_) | ((with_reducible refine k1_at 12 ?_); refine callK1_of (Fn.ct c1 Try.call12) ?_) | ((with_reducible refine k1_at 12 ?_); refine callK1_of (Fn.ct c2 Try.call12) ?_)); (try simp (maxSteps := 1000000) (disch := refine hold_ ?_; first | (simp [hz, hSl, hMl, hT, hAl, hBl, h3, -List.getD_eq_getElem?_getD]; done) | omega) [hz, hSl, hMl, hT, hAl, hBl, h3, -List.getD_eq_getElem?_getD]); try first | (with_reducible refine zZ ?_) | subst hK_) | ((first | (with_reducible first | refine zP fun K_ hK_ => ?_ | refine zQ fun K_ hK_ => ?_ | refine zT ?_ | refine zU ?_ | refine zV ?_ | refine zW ?_ | refine zX ?_ | refine zY ?_) | ((with_reducible first | refine zR ?_ ?_ fun K_ hK_ => ?_ | refine zS ?_ ?_ fun K_ hK_ => ?_); (focus kernel_rfl); (focus kernel_rfl))); first | (simp (maxSteps := 1000000) (disch := refine hold_ ?_; first | (simp [hz, hSl, hMl, hT, hAl, hBl, h3, -List.getD_eq_getElem?_getD]; done) | omega) [hz, hSl, hMl, hT, hAl, hBl, h3, -List.getD_eq_getElem?_getD]; try first | (with_reducible refine zZ ?_) | subst hK_) | subst hK_) | (with_reducible first | refine zA ?_ | refine zB ?_ | refine zC ?_ | refine zD ?_ | refine zE ?_ | refine zF ?_ | refine zG ?_ | refine zH ?_ | refine zI ?_ | refine zJ ?_ | refine zK ?_ | refine zL ?_ | refine zM ?_ | refine zN ?_ | refine zO ?_) | ((with_reducible refine yG ?_ ?_); (focus decide)) | ((with_reducible refine yA ?_); refine yB rfl ?_; (with_reducible first | refine yC ?_ | refine yD ?_)))
  simp (maxSteps := 1000000) (disch := refine hold_ ?_; first | (simp [hMl, -List.getD_eq_getElem?_getD]; done) | omega) [hMl, -List.getD_eq_getElem?_getD]
/-! ### MacSums -/
theorem of_one (nk nb n0 : Bool) (key b : List (BitVec 8)) (hk : key.length ≤ 4000000) (hb : b.length ≤ 3000000) : Fn Try.prog 18 [.sl (bl key) nk, .sl (.vals 1 [.sl (bl b) nb]) false] [.p (.agg (bl (macL key b)))] := by
  have h1 : catL [(b, nb)] = b := by rw [catL_cons, show catL [] = [] from rfl, List.append_nil]
  have := of_ct nk key hk [(b, nb)] (by simp) (by simp) (by rw [h1]; exact hb)
  rw [h1] at this
  exact this
theorem of_two (nk na nb : Bool) (key a b : List (BitVec 8)) (hk : key.length ≤ 4000000) (hb : a.length + b.length ≤ 3000000) : Fn Try.prog 18 [.sl (bl key) nk, .sl (.vals 1 [.sl (bl a) na, .sl (bl b) nb]) false] [.p (.agg (bl (macL key (a ++ b))))] := by
  have h1 : catL [(a, na), (b, nb)] = a ++ b := by rw [catL_cons, catL_cons, show catL [] = [] from rfl, List.append_nil]
  have := of_ct nk key hk [(a, na), (b, nb)] (by simp) (by simp) (by rw [h1]; simpa using hb)
  rw [h1] at this
  exact this
theorem macL_len (key b : List (BitVec 8)) : (macL key b).length = 32 := shaL_len _
set_option maxHeartbeats 10000000 in
theorem macsums_ct (nk nb : Bool) (key b : List (BitVec 8)) (x : Int) (hx : 0 ≤ x) (hx2 : x < 65536) : Fn Try.prog 7 [.sl (bl key) nk, .sl (bl b) nb, .int .u16 x] [.p (.bool true)] := by
  refine Fn.of_body Try.func7 rfl ?_
  by_cases h1 : 200 < (key.length : Int)
  · repeat (first | ((with_reducible first | refine callK_at 16 ?_); refine callK_p ?_; simp (maxSteps := 1000000) (disch := refine hold_ ?_; first | (simp [h1, -List.getD_eq_getElem?_getD]; done) | omega) [h1, -List.getD_eq_getElem?_getD]; (first | refine callK1_of (Fn.ct mawake_ct Try.call16) ?_); (try simp (maxSteps := 1000000) (disch := refine hold_ ?_; first | (simp [h1, -List.getD_eq_getElem?_getD]; done) | omega) [h1, -List.getD_eq_getElem?_getD]); try first | (with_reducible refine zZ ?_) | subst hK_) | ((first | (with_reducible first | refine zP fun K_ hK_ => ?_ | refine zQ fun K_ hK_ => ?_ | refine zT ?_ | refine zU ?_ | refine zV ?_ | refine zW ?_ | refine zX ?_ | refine zY ?_) | ((with_reducible first | refine zR ?_ ?_ fun K_ hK_ => ?_ | refine zS ?_ ?_ fun K_ hK_ => ?_); (focus kernel_rfl); (focus kernel_rfl))); first | (simp (maxSteps := 1000000) (disch := refine hold_ ?_; first | (simp [h1, -List.getD_eq_getElem?_getD]; done) | omega) [h1, -List.getD_eq_getElem?_getD]; try first | (with_reducible refine zZ ?_) | subst hK_) | subst hK_) | (with_reducible first | refine zA ?_ | refine zB ?_ | refine zC ?_ | refine zD ?_ | refine zE ?_ | refine zF ?_ | refine zG ?_ | refine zH ?_ | refine zI ?_ | refine zJ ?_ | refine zK ?_ | refine zL ?_ | refine zM ?_ | refine zN ?_ | refine zO ?_) | ((with_reducible refine yG ?_ ?_); (focus decide)) | ((with_reducible refine yA ?_); refine yB rfl ?_; (with_reducible first | refine yC ?_ | refine yD ?_)))
    simp (maxSteps := 1000000) (disch := refine hold_ ?_; first | (simp [-List.getD_eq_getElem?_getD]; done) | omega) [-List.getD_eq_getElem?_getD]
  by_cases h2 : 300 < (b.length : Int)
  · repeat (first | ((with_reducible first | refine callK_at 16 ?_); refine callK_p ?_; simp (maxSteps := 1000000) (disch := refine hold_ ?_; first | (simp [h1, h2, -List.getD_eq_getElem?_getD]; done) | omega) [h1, h2, -List.getD_eq_getElem?_getD]; (first | refine callK1_of (Fn.ct mawake_ct Try.call16) ?_); (try simp (maxSteps := 1000000) (disch := refine hold_ ?_; first | (simp [h1, h2, -List.getD_eq_getElem?_getD]; done) | omega) [h1, h2, -List.getD_eq_getElem?_getD]); try first | (with_reducible refine zZ ?_) | subst hK_) | ((first | (with_reducible first | refine zP fun K_ hK_ => ?_ | refine zQ fun K_ hK_ => ?_ | refine zT ?_ | refine zU ?_ | refine zV ?_ | refine zW ?_ | refine zX ?_ | refine zY ?_) | ((with_reducible first | refine zR ?_ ?_ fun K_ hK_ => ?_ | refine zS ?_ ?_ fun K_ hK_ => ?_); (focus kernel_rfl); (focus kernel_rfl))); first | (simp (maxSteps := 1000000) (disch := refine hold_ ?_; first | (simp [h1, h2, -List.getD_eq_getElem?_getD]; done) | omega) [h1, h2, -List.getD_eq_getElem?_getD]; try first | (with_reducible refine zZ ?_) | subst hK_) | subst hK_) | (with_reducible first | refine zA ?_ | refine zB ?_ | refine zC ?_ | refine zD ?_ | refine zE ?_ | refine zF ?_ | refine zG ?_ | refine zH ?_ | refine zI ?_ | refine zJ ?_ | refine zK ?_ | refine zL ?_ | refine zM ?_ | refine zN ?_ | refine zO ?_) | ((with_reducible refine yG ?_ ?_); (focus decide)) | ((with_reducible refine yA ?_); refine yB rfl ?_; (with_reducible first | refine yC ?_ | refine yD ?_)))
    simp (maxSteps := 1000000) (disch := refine hold_ ?_; first | (simp [-List.getD_eq_getElem?_getD]; done) | omega) [-List.getD_eq_getElem?_getD]
  have hz : zero32.length = 32 := rfl
  obtain ⟨m, rfl⟩ : ∃ m : Nat, x = m := ⟨x.toNat, by omega⟩
  have e0 : IntKind.i64.wrap (m : Int) = m := wrap_i64 _ (by omega) (by omega)
  have e1 : IntKind.i64.wrap ((b.length : Int) + 1) = b.length + 1 := wrap_i64 _ (by omega) (by omega)
  obtain ⟨p, hp, hpl⟩ : ∃ p : Nat, (m : Int).tmod ((b.length : Int) + 1) = p ∧ p ≤ b.length := ⟨m % (b.length + 1), tmod_nat m (b.length + 1), by have := Nat.mod_lt m (show b.length + 1 > 0 by omega); omega⟩
  have z1 : ¬ ((b.length : Int) + 1 = 0) := by omega
  have c17 := rof_ct nk nb key b (by omega) (by omega)
  have c18 := of_one nk nb false key b (by omega) (by omega)
  have c19 := of_two nk nb nb key (b.take p) (b.drop p) (by omega) (by simp; omega)
  rw [List.take_append_drop] at c19
  have hMl := macL_len key b
  generalize macL key b = M at *
  have hpl2 : (p : Int) ≤ b.length := by omega
  have hz1 : List.take b.length b = b := List.take_of_length_le (Nat.le_refl _)
  repeat (first | ((with_reducible first | refine callK_at 16 ?_ | refine callK_at 17 ?_ | refine callK_at 18 ?_); refine callK_p ?_; simp (maxSteps := 1000000) (disch := refine hold_ ?_; first | (simp [h1, h2, e0, e1, hp, z1, hpl, hpl2, hMl, hz, hz1, -List.getD_eq_getElem?_getD]; done) | omega) [h1, h2, e0, e1, hp, z1, hpl, hpl2, hMl, hz, hz1, -List.getD_eq_getElem?_getD]; (first | ((with_reducible refine k1_at 16 ?_); refine callK1_of (Fn.ct mawake_ct Try.call16) ?_) | ((with_reducible refine k1_at 17 ?_); refine callK1_of (Fn.ct c17 Try.call17) ?_) | ((with_reducible refine k1_at 18 ?_); refine callK1_of (Fn.ct c18 Try.call18) ?_) | ((with_reducible refine k1_at 18 ?_); refine callK1_of (Fn.ct c19 Try.call18) ?_)); (try simp (maxSteps := 1000000) (disch := refine hold_ ?_; first | (simp [h1, h2, e0, e1, hp, z1, hpl, hpl2, hMl, hz, hz1, -List.getD_eq_getElem?_getD]; done) | omega) [h1, h2, e0, e1, hp, z1, hpl, hpl2, hMl, hz, hz1, -List.getD_eq_getElem?_getD]); try first | (with_reducible refine zZ ?_) | subst hK_) | ((first | (with_reducible first | refine zP fun K_ hK_ => ?_ | refine zQ fun K_ hK_ => ?_ | refine zT ?_ | refine zU ?_ | refine zV ?_ | refine zW ?_ | refine zX ?_ | refine zY ?_) | ((with_reducible first | refine zR ?_ ?_ fun K_ hK_ => ?_ | refine zS ?_ ?_ fun K_ hK_ => ?_); (focus kernel_rfl); (focus kernel_rfl))); first | (simp (maxSteps := 1000000) (disch := refine hold_ ?_; first | (simp [h1, h2, e0, e1, hp, z1, hpl, hpl2, hMl, hz, hz1, -List.getD_eq_getElem?_getD]; done) | omega) [h1, h2, e0, e1, hp, z1, hpl, hpl2, hMl, hz, hz1, -List.getD_eq_getElem?_getD]; try first | (with_reducible refine zZ ?_) | subst hK_) | subst hK_) | (with_reducible first | refine zA ?_ | refine zB ?_ | refine zC ?_ | refine zD ?_ | refine zE ?_ | refine zF ?_ | refine zG ?_ | refine zH ?_ | refine zI ?_ | refine zJ ?_ | refine zK ?_ | refine zL ?_ | refine zM ?_ | refine zN ?_ | refine zO ?_) | ((with_reducible refine yG ?_ ?_); (focus decide)) | ((with_reducible refine yA ?_); refine yB rfl ?_; (with_reducible first | refine yC ?_ | refine yD ?_)))
  simp (maxSteps := 1000000) (disch := refine hold_ ?_; first | (simp [-List.getD_eq_getElem?_getD]; done) | omega) [-List.getD_eq_getElem?_getD]
/-! ### MacKeys -/
theorem padM_zeros (K : List (BitVec 8)) (j : Nat) (x : BitVec 8) (h : K.length + j ≤ 64) : padM (K ++ List.replicate j 0#8) x = padM K x := by
  have : (K ++ List.replicate j 0#8) ++ List.replicate (64 - (K ++ List.replicate j 0#8).length) 0#8 = K ++ List.replicate (64 - K.length) 0#8 := by
    rw [List.append_assoc, List.replicate_append_replicate]
    congr 2; simp; omega
  unfold padM; rw [this]
theorem keyM_le (K : List (BitVec 8)) (h : K.length ≤ 64) : keyM K = K := by unfold keyM; rw [if_pos h]
theorem macL_zeros (key b : List (BitVec 8)) (j : Nat) (h : (keyM key).length + j ≤ 64) : macL (keyM key ++ List.replicate j 0#8) b = macL key b := by
  have h1 : keyM (keyM key ++ List.replicate j 0#8) = keyM key ++ List.replicate j 0#8 := keyM_le _ (by simpa using h)
  unfold macL
  rw [h1, padM_zeros _ _ _ h, padM_zeros _ _ _ h]
set_option maxHeartbeats 10000000 in
theorem mackeys_ct (nk nb : Bool) (key b : List (BitVec 8)) (x : Int) (hx : 0 ≤ x) (hx2 : x < 256) : Fn Try.prog 8 [.sl (bl key) nk, .sl (bl b) nb, .int .u8 x] [.p (.bool true)] := by
  refine Fn.of_body Try.func8 rfl ?_
  by_cases h1 : 200 < (key.length : Int)
  · repeat (first | ((with_reducible first | refine callK_at 16 ?_); refine callK_p ?_; simp (maxSteps := 1000000) (disch := refine hold_ ?_; first | (simp [h1, -List.getD_eq_getElem?_getD]; done) | omega) [h1, -List.getD_eq_getElem?_getD]; (first | refine callK1_of (Fn.ct mawake_ct Try.call16) ?_); (try simp (maxSteps := 1000000) (disch := refine hold_ ?_; first | (simp [h1, -List.getD_eq_getElem?_getD]; done) | omega) [h1, -List.getD_eq_getElem?_getD]); try first | (with_reducible refine zZ ?_) | subst hK_) | ((first | (with_reducible first | refine zP fun K_ hK_ => ?_ | refine zQ fun K_ hK_ => ?_ | refine zT ?_ | refine zU ?_ | refine zV ?_ | refine zW ?_ | refine zX ?_ | refine zY ?_) | ((with_reducible first | refine zR ?_ ?_ fun K_ hK_ => ?_ | refine zS ?_ ?_ fun K_ hK_ => ?_); (focus kernel_rfl); (focus kernel_rfl))); first | (simp (maxSteps := 1000000) (disch := refine hold_ ?_; first | (simp [h1, -List.getD_eq_getElem?_getD]; done) | omega) [h1, -List.getD_eq_getElem?_getD]; try first | (with_reducible refine zZ ?_) | subst hK_) | subst hK_) | (with_reducible first | refine zA ?_ | refine zB ?_ | refine zC ?_ | refine zD ?_ | refine zE ?_ | refine zF ?_ | refine zG ?_ | refine zH ?_ | refine zI ?_ | refine zJ ?_ | refine zK ?_ | refine zL ?_ | refine zM ?_ | refine zN ?_ | refine zO ?_) | ((with_reducible refine yG ?_ ?_); (focus decide)) | ((with_reducible refine yA ?_); refine yB rfl ?_; (with_reducible first | refine yC ?_ | refine yD ?_)))
    simp (maxSteps := 1000000) (disch := refine hold_ ?_; first | (simp [-List.getD_eq_getElem?_getD]; done) | omega) [-List.getD_eq_getElem?_getD]
  by_cases h2 : 200 < (b.length : Int)
  · repeat (first | ((with_reducible first | refine callK_at 16 ?_); refine callK_p ?_; simp (maxSteps := 1000000) (disch := refine hold_ ?_; first | (simp [h1, h2, -List.getD_eq_getElem?_getD]; done) | omega) [h1, h2, -List.getD_eq_getElem?_getD]; (first | refine callK1_of (Fn.ct mawake_ct Try.call16) ?_); (try simp (maxSteps := 1000000) (disch := refine hold_ ?_; first | (simp [h1, h2, -List.getD_eq_getElem?_getD]; done) | omega) [h1, h2, -List.getD_eq_getElem?_getD]); try first | (with_reducible refine zZ ?_) | subst hK_) | ((first | (with_reducible first | refine zP fun K_ hK_ => ?_ | refine zQ fun K_ hK_ => ?_ | refine zT ?_ | refine zU ?_ | refine zV ?_ | refine zW ?_ | refine zX ?_ | refine zY ?_) | ((with_reducible first | refine zR ?_ ?_ fun K_ hK_ => ?_ | refine zS ?_ ?_ fun K_ hK_ => ?_); (focus kernel_rfl); (focus kernel_rfl))); first | (simp (maxSteps := 1000000) (disch := refine hold_ ?_; first | (simp [h1, h2, -List.getD_eq_getElem?_getD]; done) | omega) [h1, h2, -List.getD_eq_getElem?_getD]; try first | (with_reducible refine zZ ?_) | subst hK_) | subst hK_) | (with_reducible first | refine zA ?_ | refine zB ?_ | refine zC ?_ | refine zD ?_ | refine zE ?_ | refine zF ?_ | refine zG ?_ | refine zH ?_ | refine zI ?_ | refine zJ ?_ | refine zK ?_ | refine zL ?_ | refine zM ?_ | refine zN ?_ | refine zO ?_) | ((with_reducible refine yG ?_ ?_); (focus decide)) | ((with_reducible refine yA ?_); refine yB rfl ?_; (with_reducible first | refine yC ?_ | refine yD ?_)))
    simp (maxSteps := 1000000) (disch := refine hold_ ?_; first | (simp [-List.getD_eq_getElem?_getD]; done) | omega) [-List.getD_eq_getElem?_getD]
  have hz : zero32.length = 32 := rfl
  obtain ⟨m, rfl⟩ : ∃ m : Nat, x = m := ⟨x.toNat, by omega⟩
  have e0 : IntKind.i64.wrap (m : Int) = m := wrap_i64 _ (by omega) (by omega)
  have hMl := macL_len key b
  have hmz := macL_zeros key b
  have hKl := keyM_len key
  have c18 := of_one nk nb false key b (by omega) (by omega)
  have c12 := rsum_ct nk key (by omega)
  by_cases hk : 64 < (key.length : Int)
  · have hK : keyM key = shaL key := by unfold keyM; rw [if_neg (by omega)]
    have hSl := shaL_len key
    rw [hK] at hmz hKl
    generalize shaL key = S at *
    have hT : S.take 32 = S := List.take_of_length_le (by omega)
    obtain ⟨p, hp, hpl⟩ : ∃ p : Nat, intBin .rem .i64 (m : Int) 33 = some (.int .i64 p) ∧ S.length + p ≤ 64 := by
      refine ⟨m % (65 - S.length), ?_, by have := Nat.mod_lt m (show 65 - S.length > 0 by omega); omega⟩
      have e7 : (m : Int).tmod ((65 - S.length : Nat) : Int) = ((m % (65 - S.length) : Nat) : Int) := tmod_nat m _
      have e8 : 33 = ((65 - S.length : Nat) : Int) := by omega
      have e9 : IntKind.i64.wrap ((m % (65 - S.length) : Nat) : Int) = ((m % (65 - S.length) : Nat) : Int) := wrap_i64 _ (by omega) (by have := Nat.mod_lt m (show 65 - S.length > 0 by omega); omega)
      have z1 : ¬ (((65 - S.length : Nat) : Int) = 0) := by omega
      rw [e8]
      simp only [intBin, if_neg z1, e7]
    have ew : IntKind.i64.wrap (33 : Int) = 33 := wrap_i64 _ (by omega) (by omega)
    have hfin := hmz p (by omega)
    have c18b := of_one false nb false (zs S p) b (by simp [zs]; omega) (by omega)
    rw [show macL (zs S p) b = macL key b from hfin] at c18b
    clear hmz hfin
    generalize macL key b = M at *
    repeat (first | ((with_reducible refine Go.Av.AW.headAt1 7 ?_); (refine Go.Av.AW.rowAt 7 8 7 32 (by decide) rfl ?_ fun K_ hK_ => ?_); (focus (first | omega | (simp; done) | (simp; omega))); simp (maxSteps := 1000000) (disch := refine hold_ ?_; first | (simp [h1, h2, hk, hz, e0, hSl, hT, ew, hp, -List.getD_eq_getElem?_getD]; done) | omega) [h1, h2, hk, hz, e0, hSl, hT, ew, hp, -List.getD_eq_getElem?_getD]; subst hK_) | ((with_reducible first | refine callK_at 16 ?_ | refine callK_at 12 ?_); refine callK_p ?_; simp (maxSteps := 1000000) (disch := refine hold_ ?_; first | (simp [h1, h2, hk, hz, e0, hSl, hT, ew, hp, -List.getD_eq_getElem?_getD]; done) | omega) [h1, h2, hk, hz, e0, hSl, hT, ew, hp, -List.getD_eq_getElem?_getD]; (first | ((with_reducible refine k1_at 16 ?_); refine callK1_of (Fn.ct mawake_ct Try.call16) ?_) | ((with_reducible refine k1_at 12 ?_); refine callK1_of (Fn.ct c12 Try.call12) ?_)); (try simp (maxSteps := 1000000) (disch := refine hold_ ?_; first | (simp [h1, h2, hk, hz, e0, hSl, hT, ew, hp, -List.getD_eq_getElem?_getD]; done) | omega) [h1, h2, hk, hz, e0, hSl, hT, ew, hp, -List.getD_eq_getElem?_getD]); try first | (with_reducible refine zZ ?_) | subst hK_) | ((first | (with_reducible first | refine zP fun K_ hK_ => ?_ | refine zQ fun K_ hK_ => ?_ | refine zT ?_ | refine zU ?_ | refine zV ?_ | refine zW ?_ | refine zX ?_ | refine zY ?_) | ((with_reducible first | refine zR ?_ ?_ fun K_ hK_ => ?_ | refine zS ?_ ?_ fun K_ hK_ => ?_); (focus kernel_rfl); (focus kernel_rfl))); first | (simp (maxSteps := 1000000) (disch := refine hold_ ?_; first | (simp [h1, h2, hk, hz, e0, hSl, hT, ew, hp, -List.getD_eq_getElem?_getD]; done) | omega) [h1, h2, hk, hz, e0, hSl, hT, ew, hp, -List.getD_eq_getElem?_getD]; try first | (with_reducible refine zZ ?_) | subst hK_) | subst hK_) | (with_reducible first | refine zA ?_ | refine zB ?_ | refine zC ?_ | refine zD ?_ | refine zE ?_ | refine zF ?_ | refine zG ?_ | refine zH ?_ | refine zI ?_ | refine zJ ?_ | refine zK ?_ | refine zL ?_ | refine zM ?_ | refine zN ?_ | refine zO ?_) | ((with_reducible refine yG ?_ ?_); (focus decide)) | ((with_reducible refine yA ?_); refine yB rfl ?_; (with_reducible first | refine yC ?_ | refine yD ?_)))
    refine AW.iter (true :: true :: false :: false :: false :: false :: false :: true :: false :: false :: false :: false :: false :: false :: false :: false :: false :: false :: false :: false :: false :: false :: false :: false :: false :: false :: false :: false :: false :: false :: false :: false :: false :: false :: false :: false :: true :: true :: false :: false :: false :: false :: false :: false :: false :: false :: false :: false :: false :: false :: false :: false :: []) p (fun j => ⟨(.p (.sl (bl key) nk) :: .p (.sl (bl b) nb) :: V.junk :: V.junk :: V.junk :: V.junk :: V.junk :: .row (bl (zs S j)) 0 0 false :: V.junk :: V.junk :: V.junk :: V.junk :: V.junk :: V.junk :: V.junk :: V.junk :: V.junk :: V.junk :: V.junk :: V.junk :: V.junk :: V.junk :: V.junk :: V.junk :: V.junk :: V.junk :: V.junk :: V.junk :: V.junk :: V.junk :: V.junk :: V.junk :: V.junk :: V.junk :: V.junk :: V.junk :: .p (.int .i64 p) :: .p (.int .i64 j) :: V.junk :: V.junk :: V.junk :: V.junk :: V.junk :: V.junk :: V.junk :: V.junk :: V.junk :: V.junk :: V.junk :: V.junk :: V.junk :: V.junk :: []), ⟨[], [(0, 0)]⟩⟩) ?_ ?_
    · simp (maxSteps := 1000000) (disch := refine hold_ ?_; first | (simp [zs_zero, -List.getD_eq_getElem?_getD]; done) | omega) [zs_zero, -List.getD_eq_getElem?_getD]
    intro j hj
    have f0 : IntKind.i64.wrap ((j : Int) + 1) = j + 1 := wrap_i64 _ (by omega) (by omega)
    have f1 : zs S (j + 1) = zs S j ++ [0#8] := by unfold zs; rw [List.replicate_succ', List.append_assoc]
    have f2 : (zs S j).length = S.length + j := by simp [zs]
    have f3 : S.length + j + 1 ≤ 140737488355328 := by omega
    repeat (first | ((first | (with_reducible first | refine zP fun K_ hK_ => ?_ | refine zQ fun K_ hK_ => ?_ | refine zT ?_ | refine zU ?_ | refine zV ?_ | refine zW ?_ | refine zX ?_ | refine zY ?_) | ((with_reducible first | refine zR ?_ ?_ fun K_ hK_ => ?_ | refine zS ?_ ?_ fun K_ hK_ => ?_); (focus kernel_rfl); (focus kernel_rfl))); first | (simp (maxSteps := 1000000) (disch := refine hold_ ?_; first | (simp [f0, -List.getD_eq_getElem?_getD]; done) | omega) [f0, -List.getD_eq_getElem?_getD]; try first | (with_reducible refine zZ ?_) | subst hK_) | subst hK_) | (with_reducible first | refine zA ?_ | refine zB ?_ | refine zC ?_ | refine zD ?_ | refine zE ?_ | refine zF ?_ | refine zG ?_ | refine zH ?_ | refine zI ?_ | refine zJ ?_ | refine zK ?_ | refine zL ?_ | refine zM ?_ | refine zN ?_ | refine zO ?_) | ((with_reducible refine yG ?_ ?_); (focus decide)) | ((with_reducible refine yA ?_); refine yB rfl ?_; (with_reducible first | refine yC ?_ | refine yD ?_)))
    first | refine AW.condD rfl (fun hc => ?_) (fun hc => ?_) | refine AW.cond rfl (fun hc => ?_) (fun hc => ?_)
    · have hj2 : j < p := by omega
      generalize zs S j = Z at *
      have f4 : appRow (bl Z) (Row.ints IntKind.u8 [0]) = some (bl (Z ++ [0#8])) := by
        show appRow (bl Z) (bl [0#8]) = _
        simp
      have f5 : (Z ++ [0#8]).length ≤ 140737488355328 := by simp; omega
      repeat (first | ((first | (with_reducible first | refine zP fun K_ hK_ => ?_ | refine zQ fun K_ hK_ => ?_ | refine zT ?_ | refine zU ?_ | refine zV ?_ | refine zW ?_ | refine zX ?_ | refine zY ?_) | ((with_reducible first | refine zR ?_ ?_ fun K_ hK_ => ?_ | refine zS ?_ ?_ fun K_ hK_ => ?_); (focus kernel_rfl); (focus kernel_rfl))); first | (simp (maxSteps := 1000000) (disch := refine hold_ ?_; first | (simp [f0, f4, f2, f3, f5, app_wrap, -List.getD_eq_getElem?_getD]; done) | omega) [f0, f4, f2, f3, f5, app_wrap, -List.getD_eq_getElem?_getD]; try first | (with_reducible refine zZ ?_) | subst hK_) | subst hK_) | (with_reducible first | refine zA ?_ | refine zB ?_ | refine zC ?_ | refine zD ?_ | refine zE ?_ | refine zF ?_ | refine zG ?_ | refine zH ?_ | refine zI ?_ | refine zJ ?_ | refine zK ?_ | refine zL ?_ | refine zM ?_ | refine zN ?_ | refine zO ?_) | ((with_reducible refine yG ?_ ?_); (focus decide)) | ((with_reducible refine yA ?_); refine yB rfl ?_; (with_reducible first | refine yC ?_ | refine yD ?_)))
      refine ⟨hj2, ?_⟩
      simp (maxSteps := 1000000) (disch := refine hold_ ?_; first | (simp [f1, -List.getD_eq_getElem?_getD]; done) | omega) [f1, -List.getD_eq_getElem?_getD]
    · have hj2 : j = p := by omega
      subst hj2
      generalize zs S j = Z at *
      repeat (first | ((with_reducible first | refine callK_at 18 ?_); refine callK_p ?_; simp (maxSteps := 1000000) (disch := refine hold_ ?_; first | (simp [hMl, -List.getD_eq_getElem?_getD]; done) | omega) [hMl, -List.getD_eq_getElem?_getD]; (first | refine callK1_of (Fn.ct c18 Try.call18) ?_ | refine callK1_of (Fn.ct c18b Try.call18) ?_); (try simp (maxSteps := 1000000) (disch := refine hold_ ?_; first | (simp [hMl, -List.getD_eq_getElem?_getD]; done) | omega) [hMl, -List.getD_eq_getElem?_getD]); try first | (with_reducible refine zZ ?_) | subst hK_) | ((first | (with_reducible first | refine zP fun K_ hK_ => ?_ | refine zQ fun K_ hK_ => ?_ | refine zT ?_ | refine zU ?_ | refine zV ?_ | refine zW ?_ | refine zX ?_ | refine zY ?_) | ((with_reducible first | refine zR ?_ ?_ fun K_ hK_ => ?_ | refine zS ?_ ?_ fun K_ hK_ => ?_); (focus kernel_rfl); (focus kernel_rfl))); first | (simp (maxSteps := 1000000) (disch := refine hold_ ?_; first | (simp [hMl, -List.getD_eq_getElem?_getD]; done) | omega) [hMl, -List.getD_eq_getElem?_getD]; try first | (with_reducible refine zZ ?_) | subst hK_) | subst hK_) | (with_reducible first | refine zA ?_ | refine zB ?_ | refine zC ?_ | refine zD ?_ | refine zE ?_ | refine zF ?_ | refine zG ?_ | refine zH ?_ | refine zI ?_ | refine zJ ?_ | refine zK ?_ | refine zL ?_ | refine zM ?_ | refine zN ?_ | refine zO ?_) | ((with_reducible refine yG ?_ ?_); (focus decide)) | ((with_reducible refine yA ?_); refine yB rfl ?_; (with_reducible first | refine yC ?_ | refine yD ?_)))
      simp (maxSteps := 1000000) (disch := refine hold_ ?_; first | (simp [hMl, -List.getD_eq_getElem?_getD]; done) | omega) [hMl, -List.getD_eq_getElem?_getD]
  · have hK : keyM key = key := keyM_le key (by omega)
    rw [hK] at hmz hKl
    obtain ⟨p, hp, hpl⟩ : ∃ p : Nat, intBin .rem .i64 (m : Int) (65 - (key.length : Int)) = some (.int .i64 p) ∧ key.length + p ≤ 64 := by
      refine ⟨m % (65 - key.length), ?_, by have := Nat.mod_lt m (show 65 - key.length > 0 by omega); omega⟩
      have e7 : (m : Int).tmod ((65 - key.length : Nat) : Int) = ((m % (65 - key.length) : Nat) : Int) := tmod_nat m _
      have e8 : 65 - (key.length : Int) = ((65 - key.length : Nat) : Int) := by omega
      have e9 : IntKind.i64.wrap ((m % (65 - key.length) : Nat) : Int) = ((m % (65 - key.length) : Nat) : Int) := wrap_i64 _ (by omega) (by have := Nat.mod_lt m (show 65 - key.length > 0 by omega); omega)
      have z1 : ¬ (((65 - key.length : Nat) : Int) = 0) := by omega
      rw [e8]
      simp only [intBin, if_neg z1, e7]
    have ew : IntKind.i64.wrap (65 - (key.length : Int)) = 65 - (key.length : Int) := wrap_i64 _ (by omega) (by omega)
    have hfin := hmz p (by omega)
    have c18b := of_one false nb false (zs key p) b (by simp [zs]; omega) (by omega)
    rw [show macL (zs key p) b = macL key b from hfin] at c18b
    clear hmz hfin
    generalize macL key b = M at *
    repeat (first | ((with_reducible first | refine callK_at 16 ?_); refine callK_p ?_; simp (maxSteps := 1000000) (disch := refine hold_ ?_; first | (simp [h1, h2, hk, hz, e0, ew, hp, -List.getD_eq_getElem?_getD]; done) | omega) [h1, h2, hk, hz, e0, ew, hp, -List.getD_eq_getElem?_getD]; (first | refine callK1_of (Fn.ct mawake_ct Try.call16) ?_); (try simp (maxSteps := 1000000) (disch := refine hold_ ?_; first | (simp [h1, h2, hk, hz, e0, ew, hp, -List.getD_eq_getElem?_getD]; done) | omega) [h1, h2, hk, hz, e0, ew, hp, -List.getD_eq_getElem?_getD]); try first | (with_reducible refine zZ ?_) | subst hK_) | ((first | (with_reducible first | refine zP fun K_ hK_ => ?_ | refine zQ fun K_ hK_ => ?_ | refine zT ?_ | refine zU ?_ | refine zV ?_ | refine zW ?_ | refine zX ?_ | refine zY ?_) | ((with_reducible first | refine zR ?_ ?_ fun K_ hK_ => ?_ | refine zS ?_ ?_ fun K_ hK_ => ?_); (focus kernel_rfl); (focus kernel_rfl))); first | (simp (maxSteps := 1000000) (disch := refine hold_ ?_; first | (simp [h1, h2, hk, hz, e0, ew, hp, -List.getD_eq_getElem?_getD]; done) | omega) [h1, h2, hk, hz, e0, ew, hp, -List.getD_eq_getElem?_getD]; try first | (with_reducible refine zZ ?_) | subst hK_) | subst hK_) | (with_reducible first | refine zA ?_ | refine zB ?_ | refine zC ?_ | refine zD ?_ | refine zE ?_ | refine zF ?_ | refine zG ?_ | refine zH ?_ | refine zI ?_ | refine zJ ?_ | refine zK ?_ | refine zL ?_ | refine zM ?_ | refine zN ?_ | refine zO ?_) | ((with_reducible refine yG ?_ ?_); (focus decide)) | ((with_reducible refine yA ?_); refine yB rfl ?_; (with_reducible first | refine yC ?_ | refine yD ?_)))
    refine AW.iter (true :: true :: false :: false :: false :: false :: false :: true :: false :: false :: false :: false :: false :: false :: false :: false :: false :: false :: false :: false :: false :: false :: false :: false :: false :: false :: false :: false :: false :: false :: false :: false :: false :: false :: false :: false :: true :: true :: false :: false :: false :: false :: false :: false :: false :: false :: false :: false :: false :: false :: false :: false :: []) p (fun j => ⟨(.p (.sl (bl key) nk) :: .p (.sl (bl b) nb) :: V.junk :: V.junk :: V.junk :: V.junk :: V.junk :: .row (bl (zs key j)) 0 0 false :: V.junk :: V.junk :: V.junk :: V.junk :: V.junk :: V.junk :: V.junk :: V.junk :: V.junk :: V.junk :: V.junk :: V.junk :: V.junk :: V.junk :: V.junk :: V.junk :: V.junk :: V.junk :: V.junk :: V.junk :: V.junk :: V.junk :: V.junk :: V.junk :: V.junk :: V.junk :: V.junk :: V.junk :: .p (.int .i64 p) :: .p (.int .i64 j) :: V.junk :: V.junk :: V.junk :: V.junk :: V.junk :: V.junk :: V.junk :: V.junk :: V.junk :: V.junk :: V.junk :: V.junk :: V.junk :: V.junk :: []), ⟨[], [(0, 0)]⟩⟩) ?_ ?_
    · simp (maxSteps := 1000000) (disch := refine hold_ ?_; first | (simp [zs_zero, -List.getD_eq_getElem?_getD]; done) | omega) [zs_zero, -List.getD_eq_getElem?_getD]
    intro j hj
    have f0 : IntKind.i64.wrap ((j : Int) + 1) = j + 1 := wrap_i64 _ (by omega) (by omega)
    have f1 : zs key (j + 1) = zs key j ++ [0#8] := by unfold zs; rw [List.replicate_succ', List.append_assoc]
    have f2 : (zs key j).length = key.length + j := by simp [zs]
    have f3 : key.length + j + 1 ≤ 140737488355328 := by omega
    repeat (first | ((first | (with_reducible first | refine zP fun K_ hK_ => ?_ | refine zQ fun K_ hK_ => ?_ | refine zT ?_ | refine zU ?_ | refine zV ?_ | refine zW ?_ | refine zX ?_ | refine zY ?_) | ((with_reducible first | refine zR ?_ ?_ fun K_ hK_ => ?_ | refine zS ?_ ?_ fun K_ hK_ => ?_); (focus kernel_rfl); (focus kernel_rfl))); first | (simp (maxSteps := 1000000) (disch := refine hold_ ?_; first | (simp [f0, -List.getD_eq_getElem?_getD]; done) | omega) [f0, -List.getD_eq_getElem?_getD]; try first | (with_reducible refine zZ ?_) | subst hK_) | subst hK_) | (with_reducible first | refine zA ?_ | refine zB ?_ | refine zC ?_ | refine zD ?_ | refine zE ?_ | refine zF ?_ | refine zG ?_ | refine zH ?_ | refine zI ?_ | refine zJ ?_ | refine zK ?_ | refine zL ?_ | refine zM ?_ | refine zN ?_ | refine zO ?_) | ((with_reducible refine yG ?_ ?_); (focus decide)) | ((with_reducible refine yA ?_); refine yB rfl ?_; (with_reducible first | refine yC ?_ | refine yD ?_)))
    first | refine AW.condD rfl (fun hc => ?_) (fun hc => ?_) | refine AW.cond rfl (fun hc => ?_) (fun hc => ?_)
    · have hj2 : j < p := by omega
      generalize zs key j = Z at *
      have f4 : appRow (bl Z) (Row.ints IntKind.u8 [0]) = some (bl (Z ++ [0#8])) := by
        show appRow (bl Z) (bl [0#8]) = _
        simp
      have f5 : (Z ++ [0#8]).length ≤ 140737488355328 := by simp; omega
      repeat (first | ((first | (with_reducible first | refine zP fun K_ hK_ => ?_ | refine zQ fun K_ hK_ => ?_ | refine zT ?_ | refine zU ?_ | refine zV ?_ | refine zW ?_ | refine zX ?_ | refine zY ?_) | ((with_reducible first | refine zR ?_ ?_ fun K_ hK_ => ?_ | refine zS ?_ ?_ fun K_ hK_ => ?_); (focus kernel_rfl); (focus kernel_rfl))); first | (simp (maxSteps := 1000000) (disch := refine hold_ ?_; first | (simp [f0, f4, f2, f3, f5, app_wrap, -List.getD_eq_getElem?_getD]; done) | omega) [f0, f4, f2, f3, f5, app_wrap, -List.getD_eq_getElem?_getD]; try first | (with_reducible refine zZ ?_) | subst hK_) | subst hK_) | (with_reducible first | refine zA ?_ | refine zB ?_ | refine zC ?_ | refine zD ?_ | refine zE ?_ | refine zF ?_ | refine zG ?_ | refine zH ?_ | refine zI ?_ | refine zJ ?_ | refine zK ?_ | refine zL ?_ | refine zM ?_ | refine zN ?_ | refine zO ?_) | ((with_reducible refine yG ?_ ?_); (focus decide)) | ((with_reducible refine yA ?_); refine yB rfl ?_; (with_reducible first | refine yC ?_ | refine yD ?_)))
      refine ⟨hj2, ?_⟩
      simp (maxSteps := 1000000) (disch := refine hold_ ?_; first | (simp [f1, -List.getD_eq_getElem?_getD]; done) | omega) [f1, -List.getD_eq_getElem?_getD]
    · have hj2 : j = p := by omega
      subst hj2
      generalize zs key j = Z at *
      repeat (first | ((with_reducible first | refine callK_at 18 ?_); refine callK_p ?_; simp (maxSteps := 1000000) (disch := refine hold_ ?_; first | (simp [hMl, -List.getD_eq_getElem?_getD]; done) | omega) [hMl, -List.getD_eq_getElem?_getD]; (first | refine callK1_of (Fn.ct c18 Try.call18) ?_ | refine callK1_of (Fn.ct c18b Try.call18) ?_); (try simp (maxSteps := 1000000) (disch := refine hold_ ?_; first | (simp [hMl, -List.getD_eq_getElem?_getD]; done) | omega) [hMl, -List.getD_eq_getElem?_getD]); try first | (with_reducible refine zZ ?_) | subst hK_) | ((first | (with_reducible first | refine zP fun K_ hK_ => ?_ | refine zQ fun K_ hK_ => ?_ | refine zT ?_ | refine zU ?_ | refine zV ?_ | refine zW ?_ | refine zX ?_ | refine zY ?_) | ((with_reducible first | refine zR ?_ ?_ fun K_ hK_ => ?_ | refine zS ?_ ?_ fun K_ hK_ => ?_); (focus kernel_rfl); (focus kernel_rfl))); first | (simp (maxSteps := 1000000) (disch := refine hold_ ?_; first | (simp [hMl, -List.getD_eq_getElem?_getD]; done) | omega) [hMl, -List.getD_eq_getElem?_getD]; try first | (with_reducible refine zZ ?_) | subst hK_) | subst hK_) | (with_reducible first | refine zA ?_ | refine zB ?_ | refine zC ?_ | refine zD ?_ | refine zE ?_ | refine zF ?_ | refine zG ?_ | refine zH ?_ | refine zI ?_ | refine zJ ?_ | refine zK ?_ | refine zL ?_ | refine zM ?_ | refine zN ?_ | refine zO ?_) | ((with_reducible refine yG ?_ ?_); (focus decide)) | ((with_reducible refine yA ?_); refine yB rfl ?_; (with_reducible first | refine yC ?_ | refine yD ?_)))
      simp (maxSteps := 1000000) (disch := refine hold_ ?_; first | (simp [hMl, -List.getD_eq_getElem?_getD]; done) | omega) [hMl, -List.getD_eq_getElem?_getD]
end Go.Av.Sha
end

section
set_option linter.unusedSimpArgs false
set_option linter.unusedVariables false
open Go Go.Av Go.Proofs
namespace Go.Av.Sha
/-! ### MacEquals -/
theorem cons_ne (a : List (BitVec 8)) : (a == 0#8 :: a) = false := by
  rw [beq_eq_false_iff_ne]; intro h
  have := congrArg List.length h
  simp at this
theorem set_ne (a : List (BitVec 8)) (p : Nat) (h : p < a.length) : (a == a.set p (a.getD p 0#8 + 1#8)) = false := by
  rw [beq_eq_false_iff_ne]; intro h2
  have h3 := congrArg (fun l => l.getD p 0#8) h2
  simp only [List.getD_eq_getElem?_getD] at h3
  rw [List.getElem?_set_self h] at h3
  simp only [Option.getD_some] at h3
  have h4 : ((a[p]?).getD 0#8 + 1#8) - (a[p]?).getD 0#8 = 0#8 := by rw [← h3, BitVec.sub_self]
  rw [BitVec.add_comm, BitVec.add_sub_cancel] at h4
  exact absurd h4 (by decide)
set_option maxHeartbeats 10000000 in
theorem macequals_ct (na nb : Bool) (a b : List (BitVec 8)) (x : Int) (hx : 0 ≤ x) (hx2 : x < 65536) : Fn Try.prog 9 [.sl (bl a) na, .sl (bl b) nb, .int .u16 x] [.p (.bool true)] := by
  refine Fn.of_body Try.func9 rfl ?_
  by_cases h1 : 500 < (a.length : Int)
  · repeat (first | ((with_reducible first | refine callK_at 16 ?_); refine callK_p ?_; simp (maxSteps := 1000000) (disch := refine hold_ ?_; first | (simp [h1, -List.getD_eq_getElem?_getD]; done) | omega) [h1, -List.getD_eq_getElem?_getD]; (first | refine callK1_of (Fn.ct mawake_ct Try.call16) ?_); (try simp (maxSteps := 1000000) (disch := refine hold_ ?_; first | (simp [h1, -List.getD_eq_getElem?_getD]; done) | omega) [h1, -List.getD_eq_getElem?_getD]); try first | (with_reducible refine zZ ?_) | subst hK_) | ((first | (with_reducible first | refine zP fun K_ hK_ => ?_ | refine zQ fun K_ hK_ => ?_ | refine zT ?_ | refine zU ?_ | refine zV ?_ | refine zW ?_ | refine zX ?_ | refine zY ?_) | ((with_reducible first | refine zR ?_ ?_ fun K_ hK_ => ?_ | refine zS ?_ ?_ fun K_ hK_ => ?_); (focus kernel_rfl); (focus kernel_rfl))); first | (simp (maxSteps := 1000000) (disch := refine hold_ ?_; first | (simp [h1, -List.getD_eq_getElem?_getD]; done) | omega) [h1, -List.getD_eq_getElem?_getD]; try first | (with_reducible refine zZ ?_) | subst hK_) | subst hK_) | (with_reducible first | refine zA ?_ | refine zB ?_ | refine zC ?_ | refine zD ?_ | refine zE ?_ | refine zF ?_ | refine zG ?_ | refine zH ?_ | refine zI ?_ | refine zJ ?_ | refine zK ?_ | refine zL ?_ | refine zM ?_ | refine zN ?_ | refine zO ?_) | ((with_reducible refine yG ?_ ?_); (focus decide)) | ((with_reducible refine yA ?_); refine yB rfl ?_; (with_reducible first | refine yC ?_ | refine yD ?_)))
    simp (maxSteps := 1000000) (disch := refine hold_ ?_; first | (simp [-List.getD_eq_getElem?_getD]; done) | omega) [-List.getD_eq_getElem?_getD]
  by_cases h2 : 500 < (b.length : Int)
  · repeat (first | ((with_reducible first | refine callK_at 16 ?_); refine callK_p ?_; simp (maxSteps := 1000000) (disch := refine hold_ ?_; first | (simp [h1, h2, -List.getD_eq_getElem?_getD]; done) | omega) [h1, h2, -List.getD_eq_getElem?_getD]; (first | refine callK1_of (Fn.ct mawake_ct Try.call16) ?_); (try simp (maxSteps := 1000000) (disch := refine hold_ ?_; first | (simp [h1, h2, -List.getD_eq_getElem?_getD]; done) | omega) [h1, h2, -List.getD_eq_getElem?_getD]); try first | (with_reducible refine zZ ?_) | subst hK_) | ((first | (with_reducible first | refine zP fun K_ hK_ => ?_ | refine zQ fun K_ hK_ => ?_ | refine zT ?_ | refine zU ?_ | refine zV ?_ | refine zW ?_ | refine zX ?_ | refine zY ?_) | ((with_reducible first | refine zR ?_ ?_ fun K_ hK_ => ?_ | refine zS ?_ ?_ fun K_ hK_ => ?_); (focus kernel_rfl); (focus kernel_rfl))); first | (simp (maxSteps := 1000000) (disch := refine hold_ ?_; first | (simp [h1, h2, -List.getD_eq_getElem?_getD]; done) | omega) [h1, h2, -List.getD_eq_getElem?_getD]; try first | (with_reducible refine zZ ?_) | subst hK_) | subst hK_) | (with_reducible first | refine zA ?_ | refine zB ?_ | refine zC ?_ | refine zD ?_ | refine zE ?_ | refine zF ?_ | refine zG ?_ | refine zH ?_ | refine zI ?_ | refine zJ ?_ | refine zK ?_ | refine zL ?_ | refine zM ?_ | refine zN ?_ | refine zO ?_) | ((with_reducible refine yG ?_ ?_); (focus decide)) | ((with_reducible refine yA ?_); refine yB rfl ?_; (with_reducible first | refine yC ?_ | refine yD ?_)))
    simp (maxSteps := 1000000) (disch := refine hold_ ?_; first | (simp [-List.getD_eq_getElem?_getD]; done) | omega) [-List.getD_eq_getElem?_getD]
  have hA : a.length ≤ 1000000 := by omega
  have hB : b.length ≤ 1000000 := by omega
  obtain ⟨m, rfl⟩ : ∃ m : Nat, x = m := ⟨x.toNat, by omega⟩
  have e0 : IntKind.i64.wrap (m : Int) = m := wrap_i64 _ (by omega) (by omega)
  have k1 := equal_ct na nb a b hA hB
  have k2 := equal_ct na false a a hA hA
  have k3 := equal_ct na false a (0#8 :: a) hA (by simp; omega)
  rw [cons_ne] at k3
  rw [beq_self_eq_true] at k2
  have f5 : (0#8 :: a).length ≤ 140737488355328 := by simp; omega
  have f6 : a.length ≤ 140737488355328 := by omega
  have f7 : appRow (.ints .u8 [0]) (bl a) = some (bl (0#8 :: a)) := by
    show appRow (bl [0#8]) (bl a) = _
    simp
  have h9 : strBin .eql (strOfNums (List.map ub a)) (strOfNums (List.map ub b)) = some (.bool (a == b)) := congrArg (fun x => some (PV.bool x)) (Go.Av.txt_beq a b)
  by_cases h3 : 0 < (a.length : Int)
  · obtain ⟨p, hp, hpl⟩ : ∃ p : Nat, intBin .rem .i64 (m : Int) (a.length : Int) = some (.int .i64 p) ∧ p < a.length := by
      refine ⟨m % a.length, ?_, Nat.mod_lt m (by omega)⟩
      have e7 : (m : Int).tmod (a.length : Int) = ((m % a.length : Nat) : Int) := tmod_nat m _
      have z1 : ¬ ((a.length : Int) = 0) := by omega
      simp only [intBin, if_neg z1, e7]
    have k4 := equal_ct na false a (a.set p (a.getD p 0#8 + 1#8)) hA (by simp; omega)
    rw [set_ne a p hpl] at k4
    have h3n : 0 < a.length := by omega
    have f8 : (a.set p (a.getD p 0#8 + 1#8)).length = a.length := by simp
    repeat (first | ((with_reducible first | refine Go.Av.AW.regCAt 4 [0, 2] ?_ fun K_ hK_ => ?_ | refine Go.Av.AW.regCAt1 4 [0, 2] ?_ fun K_ hK_ => ?_); (focus decide)) | ((with_reducible refine Go.Av.runC_cons fun K_ hK_ => ?_); (try simp (maxSteps := 1000000) (disch := refine hold_ ?_; first | (simp [h1, h2, h3n, e0, hp, -List.getD_eq_getElem?_getD]; done) | omega) [h1, h2, h3n, e0, hp, -List.getD_eq_getElem?_getD]); try first | (with_reducible refine zZ ?_) | subst hK_) | ((with_reducible refine Go.Av.runC_nil ?_); (try simp (maxSteps := 1000000) (disch := refine hold_ ?_; first | (simp [h1, h2, h3n, e0, hp, -List.getD_eq_getElem?_getD]; done) | omega) [h1, h2, h3n, e0, hp, -List.getD_eq_getElem?_getD]); try first | (with_reducible refine zZ ?_) | subst hK_) | ((with_reducible refine Go.Av.XS_at 0 ?_); refine Go.Av.XS.own rfl rfl rfl ?_; (try simp (maxSteps := 1000000) (disch := refine hold_ ?_; first | (simp [Go.Av.ownStep, h1, h2, h3n, e0, hp, -List.getD_eq_getElem?_getD]; done) | omega) [Go.Av.ownStep, h1, h2, h3n, e0, hp, -List.getD_eq_getElem?_getD]); try first | (with_reducible refine zZ ?_) | subst hK_) | ((with_reducible refine Go.Av.XS_at 2 ?_); refine Go.Av.XS.retag 24 rfl ?_; simp only [Go.Av.upd, if_pos]; refine Go.Av.XS.app rfl rfl rfl fun c_ hc_ => ?_; (try simp (maxSteps := 1000000) (disch := refine hold_ ?_; first | (simp [h1, h2, h3n, e0, hp, -List.getD_eq_getElem?_getD]; done) | omega) [h1, h2, h3n, e0, hp, -List.getD_eq_getElem?_getD]); try first | (with_reducible refine zZ ?_) | subst hK_) | ((with_reducible first | refine callK_at 16 ?_); refine callK_p ?_; simp (maxSteps := 1000000) (disch := refine hold_ ?_; first | (simp [h1, h2, h3n, e0, hp, -List.getD_eq_getElem?_getD]; done) | omega) [h1, h2, h3n, e0, hp, -List.getD_eq_getElem?_getD]; (first | refine callK1_of (Fn.ct mawake_ct Try.call16) ?_); (try simp (maxSteps := 1000000) (disch := refine hold_ ?_; first | (simp [h1, h2, h3n, e0, hp, -List.getD_eq_getElem?_getD]; done) | omega) [h1, h2, h3n, e0, hp, -List.getD_eq_getElem?_getD]); try first | (with_reducible refine zZ ?_) | subst hK_) | ((first | (with_reducible first | refine zP fun K_ hK_ => ?_ | refine zQ fun K_ hK_ => ?_ | refine zT ?_ | refine zU ?_ | refine zV ?_ | refine zW ?_ | refine zX ?_ | refine zY ?_) | ((with_reducible first | refine zR ?_ ?_ fun K_ hK_ => ?_ | refine zS ?_ ?_ fun K_ hK_ => ?_); (focus kernel_rfl); (focus kernel_rfl))); first | (simp (maxSteps := 1000000) (disch := refine hold_ ?_; first | (simp [h1, h2, h3n, e0, hp, -List.getD_eq_getElem?_getD]; done) | omega) [h1, h2, h3n, e0, hp, -List.getD_eq_getElem?_getD]; try first | (with_reducible refine zZ ?_) | subst hK_) | subst hK_) | (with_reducible first | refine zA ?_ | refine zB ?_ | refine zC ?_ | refine zD ?_ | refine zE ?_ | refine zF ?_ | refine zG ?_ | refine zH ?_ | refine zI ?_ | refine zJ ?_ | refine zK ?_ | refine zL ?_ | refine zM ?_ | refine zN ?_ | refine zO ?_) | ((with_reducible refine yG ?_ ?_); (focus decide)) | ((with_reducible refine yA ?_); refine yB rfl ?_; (with_reducible first | refine yC ?_ | refine yD ?_)))
    obtain ⟨m2, hm2, hA2⟩ := appX_at (id := 24) (ver := 0) (n := 0) (e := 0) (X := []) (Y := a) (y := V.p (PV.sl (bl a) na)) (h := ⟨[(24, 0, HB.row (bl []))], []⟩) rfl (by simp) rfl (by omega) (by omega) c_ hc_
    simp only [Nat.zero_add, List.nil_append, Nat.add_zero, Go.Av.upd, if_pos] at hA2 hm2
    rw [hA2]
    have f9 : p < a.length + m2 := by omega
    have g1 : (a ++ List.replicate m2 0#8).length = a.length + m2 := by simp
    have g2 : (a ++ List.replicate m2 0#8).getD p 0#8 = a.getD p 0#8 := by simp [List.getD_eq_getElem?_getD, List.getElem?_append_left hpl]
    have g3 : (a ++ List.replicate m2 0#8).set p (a.getD p 0#8 + 1#8) = a.set p (a.getD p 0#8 + 1#8) ++ List.replicate m2 0#8 := by rw [List.set_append_left _ _ hpl]
    have g4 : IntKind.u8.wrap (ub (a.getD p 0#8) + 1) = ub (a.getD p 0#8 + 1#8) := by
      have := int_add8 (a.getD p 0#8) 1#8
      simpa [intBin, show ub 1#8 = 1 from rfl] using this
    have g5 : (a.set p (a.getD p 0#8 + 1#8) ++ List.replicate m2 0#8).take a.length = a.set p (a.getD p 0#8 + 1#8) := by rw [List.take_left' f8]
    have g6 : (a.set p (a.getD p 0#8 + 1#8) ++ List.replicate m2 0#8).length = a.length + m2 := by simp
    generalize a.getD p 0#8 + 1#8 = A1 at *
    generalize hQ : a.set p A1 = Q at *
    generalize hQR : Q ++ List.replicate m2 0#8 = R at *
    generalize hY : a ++ List.replicate m2 0#8 = Y at *
    repeat (first | ((with_reducible first | refine Go.Av.AW.regCAt 4 [0, 2] ?_ fun K_ hK_ => ?_ | refine Go.Av.AW.regCAt1 4 [0, 2] ?_ fun K_ hK_ => ?_); (focus decide)) | ((with_reducible refine Go.Av.runC_cons fun K_ hK_ => ?_); (try simp (maxSteps := 1000000) (disch := refine hold_ ?_; first | (simp [h1, h2, h3n, e0, hp, hpl, f5, f6, f7, f8, f9, g1, g2, g3, g4, g5, g6, -ownSl, ownSl_bl, h9, -List.getD_eq_getElem?_getD]; done) | omega) [h1, h2, h3n, e0, hp, hpl, f5, f6, f7, f8, f9, g1, g2, g3, g4, g5, g6, -ownSl, ownSl_bl, h9, -List.getD_eq_getElem?_getD]); try first | (with_reducible refine zZ ?_) | subst hK_) | ((with_reducible refine Go.Av.runC_nil ?_); (try simp (maxSteps := 1000000) (disch := refine hold_ ?_; first | (simp [h1, h2, h3n, e0, hp, hpl, f5, f6, f7, f8, f9, g1, g2, g3, g4, g5, g6, -ownSl, ownSl_bl, h9, -List.getD_eq_getElem?_getD]; done) | omega) [h1, h2, h3n, e0, hp, hpl, f5, f6, f7, f8, f9, g1, g2, g3, g4, g5, g6, -ownSl, ownSl_bl, h9, -List.getD_eq_getElem?_getD]); try first | (with_reducible refine zZ ?_) | subst hK_) | ((with_reducible first | refine callK_at 19 ?_); refine callK_s (by decide) ?_; simp (maxSteps := 1000000) (disch := refine hold_ ?_; first | (simp [h1, h2, h3n, e0, hp, hpl, f5, f6, f7, f8, f9, g1, g2, g3, g4, g5, g6, -ownSl, ownSl_bl, h9, -List.getD_eq_getElem?_getD]; done) | omega) [h1, h2, h3n, e0, hp, hpl, f5, f6, f7, f8, f9, g1, g2, g3, g4, g5, g6, -ownSl, ownSl_bl, h9, -List.getD_eq_getElem?_getD]; (first | refine callK2_of rfl (Fn.ct k4 Try.call19) ?_); (try simp (maxSteps := 1000000) (disch := refine hold_ ?_; first | (simp [h1, h2, h3n, e0, hp, hpl, f5, f6, f7, f8, f9, g1, g2, g3, g4, g5, g6, -ownSl, ownSl_bl, h9, -List.getD_eq_getElem?_getD]; done) | omega) [h1, h2, h3n, e0, hp, hpl, f5, f6, f7, f8, f9, g1, g2, g3, g4, g5, g6, -ownSl, ownSl_bl, h9, -List.getD_eq_getElem?_getD]); try first | (with_reducible refine zZ ?_) | subst hK_) | ((with_reducible first | refine callK_at 19 ?_); refine callK_p ?_; simp (maxSteps := 1000000) (disch := refine hold_ ?_; first | (simp [h1, h2, h3n, e0, hp, hpl, f5, f6, f7, f8, f9, g1, g2, g3, g4, g5, g6, -ownSl, ownSl_bl, h9, -List.getD_eq_getElem?_getD]; done) | omega) [h1, h2, h3n, e0, hp, hpl, f5, f6, f7, f8, f9, g1, g2, g3, g4, g5, g6, -ownSl, ownSl_bl, h9, -List.getD_eq_getElem?_getD]; (first | refine callK1_of (Fn.ct k1 Try.call19) ?_ | refine callK1_of (Fn.ct k2 Try.call19) ?_ | refine callK1_of (Fn.ct k3 Try.call19) ?_); (try simp (maxSteps := 1000000) (disch := refine hold_ ?_; first | (simp [h1, h2, h3n, e0, hp, hpl, f5, f6, f7, f8, f9, g1, g2, g3, g4, g5, g6, -ownSl, ownSl_bl, h9, -List.getD_eq_getElem?_getD]; done) | omega) [h1, h2, h3n, e0, hp, hpl, f5, f6, f7, f8, f9, g1, g2, g3, g4, g5, g6, -ownSl, ownSl_bl, h9, -List.getD_eq_getElem?_getD]); try first | (with_reducible refine zZ ?_) | subst hK_) | ((first | (with_reducible first | refine zP fun K_ hK_ => ?_ | refine zQ fun K_ hK_ => ?_ | refine zT ?_ | refine zU ?_ | refine zV ?_ | refine zW ?_ | refine zX ?_ | refine zY ?_) | ((with_reducible first | refine zR ?_ ?_ fun K_ hK_ => ?_ | refine zS ?_ ?_ fun K_ hK_ => ?_); (focus kernel_rfl); (focus kernel_rfl))); first | (simp (maxSteps := 1000000) (disch := refine hold_ ?_; first | (simp [h1, h2, h3n, e0, hp, hpl, f5, f6, f7, f8, f9, g1, g2, g3, g4, g5, g6, -ownSl, ownSl_bl, h9, -List.getD_eq_getElem?_getD]; done) | omega) [h1, h2, h3n, e0, hp, hpl, f5, f6, f7, f8, f9, g1, g2, g3, g4, g5, g6, -ownSl, ownSl_bl, h9, -List.getD_eq_getElem?_getD]; try first | (with_reducible refine zZ ?_) | subst hK_) | subst hK_) | (with_reducible first | refine zA ?_ | refine zB ?_ | refine zC ?_ | refine zD ?_ | refine zE ?_ | refine zF ?_ | refine zG ?_ | refine zH ?_ | refine zI ?_ | refine zJ ?_ | refine zK ?_ | refine zL ?_ | refine zM ?_ | refine zN ?_ | refine zO ?_) | ((with_reducible refine yG ?_ ?_); (focus decide)) | ((with_reducible refine yA ?_); refine yB rfl ?_; (with_reducible first | refine yC ?_ | refine yD ?_)))
    simp (maxSteps := 1000000) (disch := refine hold_ ?_; first | (simp [-List.getD_eq_getElem?_getD]; done) | omega) [-List.getD_eq_getElem?_getD]
  · have h3n : ¬ 0 < a.length := by omega
    repeat (first | ((with_reducible first | refine callK_at 16 ?_ | refine callK_at 19 ?_); refine callK_p ?_; simp (maxSteps := 1000000) (disch := refine hold_ ?_; first | (simp [h1, h2, h3n, e0, f5, f6, f7, h9, -List.getD_eq_getElem?_getD]; done) | omega) [h1, h2, h3n, e0, f5, f6, f7, h9, -List.getD_eq_getElem?_getD]; (first | ((with_reducible refine k1_at 16 ?_); refine callK1_of (Fn.ct mawake_ct Try.call16) ?_) | ((with_reducible refine k1_at 19 ?_); refine callK1_of (Fn.ct k1 Try.call19) ?_) | ((with_reducible refine k1_at 19 ?_); refine callK1_of (Fn.ct k2 Try.call19) ?_) | ((with_reducible refine k1_at 19 ?_); refine callK1_of (Fn.ct k3 Try.call19) ?_)); (try simp (maxSteps := 1000000) (disch := refine hold_ ?_; first | (simp [h1, h2, h3n, e0, f5, f6, f7, h9, -List.getD_eq_getElem?_getD]; done) | omega) [h1, h2, h3n, e0, f5, f6, f7, h9, -List.getD_eq_getElem?_getD]); try first | (with_reducible refine zZ ?_) | subst hK_) | ((first | (with_reducible first | refine zP fun K_ hK_ => ?_ | refine zQ fun K_ hK_ => ?_ | refine zT ?_ | refine zU ?_ | refine zV ?_ | refine zW ?_ | refine zX ?_ | refine zY ?_) | ((with_reducible first | refine zR ?_ ?_ fun K_ hK_ => ?_ | refine zS ?_ ?_ fun K_ hK_ => ?_); (focus kernel_rfl); (focus kernel_rfl))); first | (simp (maxSteps := 1000000) (disch := refine hold_ ?_; first | (simp [h1, h2, h3n, e0, f5, f6, f7, h9, -List.getD_eq_getElem?_getD]; done) | omega) [h1, h2, h3n, e0, f5, f6, f7, h9, -List.getD_eq_getElem?_getD]; try first | (with_reducible refine zZ ?_) | subst hK_) | subst hK_) | (with_reducible first | refine zA ?_ | refine zB ?_ | refine zC ?_ | refine zD ?_ | refine zE ?_ | refine zF ?_ | refine zG ?_ | refine zH ?_ | refine zI ?_ | refine zJ ?_ | refine zK ?_ | refine zL ?_ | refine zM ?_ | refine zN ?_ | refine zO ?_) | ((with_reducible refine yG ?_ ?_); (focus decide)) | ((with_reducible refine yA ?_); refine yB rfl ?_; (with_reducible first | refine yC ?_ | refine yD ?_)))
    simp (maxSteps := 1000000) (disch := refine hold_ ?_; first | (simp [-List.getD_eq_getElem?_getD]; done) | omega) [-List.getD_eq_getElem?_getD]
end Go.Av.Sha
end

section
set_option linter.unusedSimpArgs false
set_option linter.unusedVariables false
open Go Go.Av Go.Proofs
namespace Go.Av.Sha
theorem macsums_law (a : List (BitVec 8)) (na : Bool) (_ : a.length ≤ maxLen) (b : List (BitVec 8)) (nb : Bool) (_ : b.length ≤ maxLen) (x : Int) (wx : (Lit.int .u16 x).wf = true) : Fn Try.prog 7 [.sl (bl a) na, .sl (bl b) nb, .int .u16 x] [.p (.bool true)] :=
  macsums_ct na nb a b x (wf_u16 wx).1 (wf_u16 wx).2
theorem mackeys_law (a : List (BitVec 8)) (na : Bool) (_ : a.length ≤ maxLen) (b : List (BitVec 8)) (nb : Bool) (_ : b.length ≤ maxLen) (x : Int) (wx : (Lit.int .u8 x).wf = true) : Fn Try.prog 8 [.sl (bl a) na, .sl (bl b) nb, .int .u8 x] [.p (.bool true)] :=
  mackeys_ct na nb a b x (wf_u8 wx).1 (wf_u8 wx).2
theorem macequals_law (a : List (BitVec 8)) (na : Bool) (_ : a.length ≤ maxLen) (b : List (BitVec 8)) (nb : Bool) (_ : b.length ≤ maxLen) (x : Int) (wx : (Lit.int .u16 x).wf = true) : Fn Try.prog 9 [.sl (bl a) na, .sl (bl b) nb, .int .u16 x] [.p (.bool true)] :=
  macequals_ct na nb a b x (wf_u16 wx).1 (wf_u16 wx).2
end Go.Av.Sha
end

section
namespace Go.Proofs.Ytcmhbepfolibgaa
open Go Go.Av Go.Av.Sha
/-- No package variable is read. -/
theorem noVars (W : World) : ∀ g r, Tables.gl g = some r → RepP (cellsOf W) (.eptr r 0 0) (.pointer (some ⟨g, 0, none⟩)) := fun g r h => by cases h
end Go.Proofs.Ytcmhbepfolibgaa
end
