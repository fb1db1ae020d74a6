/- The walks of this seat's functions, and what is known of what they reckon (Canb). Conditions: those that each theorem names. -/
import Derived.Test.YtkejhcogjmaleaaCana

section
set_option linter.unusedSimpArgs false
set_option linter.unusedVariables false
open Go Go.Av Go.Proofs
namespace Go.Av.Can
@[simp] theorem ub_natC (x : BitVec 8) : (ub x).toNat = x.toNat := by unfold ub; simp
abbrev Pairs := List (BitVec 8 × List (BitVec 8))
def pr0 : BitVec 8 × List (BitVec 8) := (0#8, [])
def tabP : Pairs → Tab
  | [], _ => none
  | p :: ps, b => if b = p.1 then some p.2 else tabP ps b
def olds (ps : Pairs) : List ByteArray := ps.flatMap fun p => [txt [p.1], txt p.2]
def tsP (ps : Pairs) : List (BitVec 8) := (ps.map Prod.fst).reverse
theorem olds_len (ps : Pairs) : (olds ps).length = 2 * ps.length := by
  induction ps with
  | nil => rfl
  | cons p ps ih => simp only [olds, List.flatMap_cons, List.length_append] at ih ⊢; rw [ih]; simp; omega
theorem olds_get (ps : Pairs) : ∀ k, k < ps.length → (olds ps).getD (2 * k) ByteArray.empty = txt [(ps.getD k pr0).1] ∧ (olds ps).getD (2 * k + 1) ByteArray.empty = txt (ps.getD k pr0).2 := by
  induction ps with
  | nil => intro k h; simp at h
  | cons p ps ih =>
    intro k h
    have e : olds (p :: ps) = txt [p.1] :: txt p.2 :: olds ps := rfl
    cases k with
    | zero => rw [e]; exact ⟨rfl, rfl⟩
    | succ k =>
      have := ih k (by simp at h; omega)
      rw [e, show 2 * (k + 1) = 2 * k + 1 + 1 by omega]
      simpa using this
structure PairsOk (ps : Pairs) : Prop where
  two : 2 ≤ ps.length
  few : ps.length ≤ 50
  nodup : (ps.map Prod.fst).Nodup
  ne : ∀ p ∈ ps, 1 ≤ p.2.length ∧ p.2.length ≤ 16
  long : (ps.all fun p => p.2.length == 1) = false
theorem tabP_mem (ps : Pairs) : ∀ b, (tabP ps b).isSome = true ↔ b ∈ ps.map Prod.fst := by
  induction ps with
  | nil => intro b; simp [tabP]
  | cons p ps ih =>
    intro b
    simp only [tabP, List.map_cons, List.mem_cons]
    split
    · rename_i h; simp [h]
    · rename_i h; rw [ih b]; simp [h]
theorem tabP_in (ps : Pairs) : ∀ b x, tabP ps b = some x → (b, x) ∈ ps := by
  induction ps with
  | nil => intro b x h; simp [tabP] at h
  | cons p ps ih =>
    intro b x h
    simp only [tabP] at h
    split at h
    · rename_i hb; subst hb; simp only [Option.some.injEq] at h; subst h; exact List.mem_cons_self ..
    · exact List.mem_cons_of_mem _ (ih b x h)
theorem PairsOk.tab {ps : Pairs} (h : PairsOk ps) : TabOk (tabP ps) (tsP ps) := by
  refine ⟨fun b x hx => h.ne _ (tabP_in ps b x hx), fun b => ?_, ?_⟩
  · rw [tabP_mem]; simp [tsP]
  · unfold tsP; exact List.pairwise_reverse.2 (h.nodup.imp fun h => Ne.symm h)
/-- The cells of the replacer while it is filled. -/
def rV (g : Tab) (t : V) : List V := (List.range 256).map (fun n => V.p (slO (g (BitVec.ofNat 8 n)))) ++ [t]
theorem rV_len (g : Tab) (t : V) : (rV g t).length = 257 := by simp [rV]
theorem rV_get (g : Tab) (t : V) (b : BitVec 8) : (rV g t).getD b.toNat .junk = .p (slO (g b)) := by
  have h := b.isLt
  unfold rV
  rw [List.getD_eq_getElem?_getD, List.getElem?_append_left (by simp; omega)]
  simp [h]
theorem rV_end (g : Tab) (t : V) : (rV g t).getD 256 .junk = t := by
  unfold rV
  rw [List.getD_eq_getElem?_getD, List.getElem?_append_right (by simp)]
  simp
theorem rV_set (g : Tab) (t : V) (b : BitVec 8) (x : List (BitVec 8)) : (rV g t).set b.toNat (.p (.sl (bl x) false)) = rV (fun c => if c = b then some x else g c) t := by
  have h := b.isLt
  apply List.ext_getElem?
  intro i
  unfold rV
  rw [List.getElem?_set]
  simp only [List.length_append, List.length_map, List.length_range, List.length_cons, List.length_nil]
  by_cases hi : b.toNat = i
  · subst hi
    rw [if_pos rfl, if_pos (by omega), List.getElem?_append_left (by simp; omega)]
    simp [h, slO]
  · rw [if_neg hi]
    by_cases hi2 : i < 256
    · rw [List.getElem?_append_left (by simp; omega), List.getElem?_append_left (by simp; omega)]
      have : ¬ BitVec.ofNat 8 i = b := by intro e; apply hi; rw [← e]; simp; omega
      simp [hi2, this]
    · rw [List.getElem?_append_right (by simp; omega), List.getElem?_append_right (by simp; omega)]
      simp
theorem rV_setEnd (g : Tab) (t u : V) : (rV g t).set 256 u = rV g u := by
  unfold rV
  rw [List.set_append_right _ _ (by simp)]
  simp
theorem tab_step (ps : Pairs) (j : Nat) (h : j < ps.length) : tabP (ps.drop j) = fun c => if c = (ps.getD j pr0).1 then some (ps.getD j pr0).2 else tabP (ps.drop (j + 1)) c := by
  rw [List.drop_eq_getElem_cons h]
  funext c
  simp [tabP, List.getD_eq_getElem?_getD, h]
theorem ts_step (ps : Pairs) (j : Nat) (h : j < ps.length) : tsP (ps.drop j) = tsP (ps.drop (j + 1)) ++ [(ps.getD j pr0).1] := by
  have e : ps.getD j pr0 = ps[j] := by simp [List.getD_eq_getElem?_getD, h]
  rw [List.drop_eq_getElem_cons h, e]
  unfold tsP
  rw [List.map_cons, List.reverse_cons]
theorem tab_new (ps : Pairs) (hn : (ps.map Prod.fst).Nodup) (j : Nat) (h : j < ps.length) : tabP (ps.drop (j + 1)) (ps.getD j pr0).1 = none := by
  have h1 : ((ps.drop j).map Prod.fst).Nodup := by rw [List.map_drop]; exact hn.sublist (List.drop_sublist _ _)
  rw [List.drop_eq_getElem_cons h] at h1
  simp only [List.map_cons] at h1
  have h2 := (List.nodup_cons.1 h1).1
  have e : ps.getD j pr0 = ps[j] := by simp [List.getD_eq_getElem?_getD, h]
  rw [e]
  cases hg : tabP (ps.drop (j + 1)) ps[j].1 with
  | none => rfl
  | some x => exact absurd ((tabP_mem _ _).1 (by rw [hg]; rfl)) h2
def oneP (ps : Pairs) (k : Nat) : Bool := (ps.take k).all fun p => p.2.length == 1
theorem oneP_succ (ps : Pairs) (k : Nat) (h : k < ps.length) : oneP ps (k + 1) = (oneP ps k && (ps.getD k pr0).2.length == 1) := by
  unfold oneP
  rw [List.take_succ_eq_append_getElem h, List.all_append]
  simp [List.getD_eq_getElem?_getD, h]
/-- A Replacer's cells: whether it is built, the lock's two words, what does the work, the pairs. -/
def rpl (a b : Int) (x : PV) (l : V) : HB := .cells [.p (.int .u32 a), .p (.int .i32 b), .p (.int .u32 0), .p x, l]
end Go.Av.Can
end

section
set_option linter.unusedSimpArgs false
set_option linter.unusedVariables false
open Go Go.Av Go.Proofs
namespace Go.Av.Can
theorem al102 (H : List (Nat × (Nat × HB))) (d : Nat) : aalloc Try.prog H d 102 = some (.ptr d (nextVer H d) 0, upd H d (nextVer H d, .cells (rV (fun _ => none) (.p (.sl (.vals 1 []) true))))) := nr (by kernel_rfl)
theorem bu102 (H : List (Nat × (Nat × HB))) (r : Row PV) (t v : Nat) (nl : Bool) : abuild Try.prog H 102 [(1, .row r t v nl)] = some (.agg (rV (fun _ => none) (.row r t v nl))) := nr (by kernel_rfl)
theorem mk62 (H : List (Nat × (Nat × HB))) (d n : Nat) (hn : n ≤ 50) : amakeSlice Try.prog H d 62 (.p (.int .i64 0)) (.p (.int .i64 n)) = some (.own d (nextVer H d) 0 0 n, upd H d (nextVer H d, .row (.strs (List.replicate n ByteArray.empty)))) := by
  have he : elemInfo Try.prog 62 = some (9, 1, 16, .string ByteArray.empty) := by kernel_rfl
  unfold amakeSlice
  simp only [he]
  rw [if_pos ⟨trivial, by omega, by omega, by omega, by omega⟩]
  simp
def idx (i : Nat) : Int := 2 * (i : Int) - 2
theorem if103 (y : PV) : amakeIf Try.prog 103 (.p y) = some (.p (.ifc 103 y)) := by unfold amakeIf; rw [Try.underlying103]
theorem rV_app (g : Tab) (t u : V) : rV g t ++ List.drop 257 (rV g u) = rV g t := by
  rw [List.drop_eq_nil_of_le (by rw [rV_len]; omega), List.append_nil]
theorem rV_eq (g : Tab) (t : V) : rV g t = ((List.range 256).map fun n => slO (g (BitVec.ofNat 8 n))).map V.p ++ [t] := by simp [rV]
@[simp] theorem rV_reach (H : List (Nat × (Nat × HB))) (n : Nat) (acc : List Nat) (g : Tab) (t : V) (h : 256 ≤ n) : reach H n acc (rV g t) = reach H (n - 256) acc [t] := by
  have := reach_pures H ((List.range 256).map fun n => slO (g (BitVec.ofNat 8 n))) (n - 256) acc [t]
  rw [List.length_map, List.length_range, show 256 + (n - 256) = n by omega, ← rV_eq] at this
  exact this
@[simp] theorem rV_tokl (T : List (Nat × Nat)) (acc : List Nat) (g : Tab) (t : V) : V.tokl T acc (rV g t) = V.tokl T acc [t] := by rw [rV_eq, tokl_pures]
@[simp] theorem rV_tokl2 (T : List (Nat × Nat)) (acc : List Nat) (g : Tab) (t : V) (l : List V) : V.tokl T acc (rV g t ++ l) = V.tokl T acc (t :: l) := by rw [rV_eq, List.append_assoc, tokl_pures]; rfl
@[simp] theorem rV_rens (fo ft : Nm) (g : Tab) (t : V) : V.rens fo ft (rV g t) = rV g (V.ren fo ft t) := by rw [rV_eq, rens_app, rens_pures, rV_eq]; rfl
theorem slO_one (o : Option (List (BitVec 8))) : (slO o).one = true := by cases o <;> rfl
@[simp] theorem rV_deeps (K : Nat → Bool) (H : List (Nat × (Nat × HB))) (n : Nat) (hn : 258 ≤ n) (g : Tab) (r : Row PV) (t v : Nat) (nl : Bool) : deeps K H n (rV g (.row r t v nl)) = some (((List.range 256).map fun n => slO (g (BitVec.ofNat 8 n))) ++ [.sl r nl]) := by
  have hl : ((List.range 256).map fun n => slO (g (BitVec.ofNat 8 n))).length = 256 := by rw [List.length_map, List.length_range]
  have := deeps_pures K H ((List.range 256).map fun n => slO (g (BitVec.ofNat 8 n))) (n - 256) [.row r t v nl] (by omega) (by intro x hx; obtain ⟨m, _, rfl⟩ := List.mem_map.1 hx; exact slO_one _)
  rw [hl, show 256 + (n - 256) = n by omega, ← rV_eq] at this
  obtain ⟨q, hq⟩ : ∃ q, n - 256 = q + 2 := ⟨n - 258, by omega⟩
  rw [this, hq]
  simp [deeps, deep, PV.one]
theorem kind_rcells (g : Tab) (ts : List (BitVec 8)) : kindRow (rcells g ts) = .vals 1 (rcells g ts) := by
  have : ∃ o L, rcells g ts = slO o :: L := ⟨g (BitVec.ofNat 8 0), (List.map (fun n => slO (g (BitVec.ofNat 8 n))) ((List.range 255).map Nat.succ)) ++ [.sl (.strs (ts.map fun b => txt [b])) false], by
    unfold rcells
    rw [show (256 : Nat) = 255 + 1 from rfl, List.range_succ_eq_map]; rfl⟩
  obtain ⟨o, L, e⟩ := this
  rw [e]
  cases o <;> cases L <;> rfl
theorem deep_rV (K : Nat → Bool) (H : List (Nat × (Nat × HB))) (id c t v : Nat) (g : Tab) (ts : List (BitVec 8)) (hk : K id = true) (hl : look H id = some (c, .cells (rV g (.row (.strs (ts.map fun b => txt [b])) t v false)))) :
    deep K H 600 (.ptr id c 0) = some (.eptr (rRow g ts) 0 0) := by
  rw [show (600 : Nat) = 599 + 1 from rfl, deep, hl]
  simp only
  rw [if_pos ⟨trivial, hk⟩, rV_deeps K H 599 (by decide), rV_len]
  have := kind_rcells g ts
  unfold rcells at this
  simp only [Option.map_some, this]
  rfl
set_option maxRecDepth 100000 in
set_option maxHeartbeats 20000000 in
theorem build_ct (ps : Pairs) (h : PairsOk ps) :
    FnG Try.prog 51 [.ptr 10000 0 0] [rpl 0 1 .iface0 (.p (.sl (.strs (olds ps)) false))] 0 [.p (.ifc 103 (.eptr (rRow (tabP ps) (tsP ps)) 0 0))] [rpl 0 1 .iface0 (.p (.sl (.strs (olds ps)) false))] 0 := by
  have hlen := olds_len ps
  have hget := olds_get ps
  have hfew := h.few
  have htwo := h.two
  have h1 := h.long
  have hone : oneP ps ps.length = false := by unfold oneP; rw [List.take_length]; exact h1
  have hos := oneP_succ ps
  have htab := tab_step ps
  have htsp := ts_step ps
  have hnew := tab_new ps h.nodup
  have hn0 : ps.drop ps.length = [] := List.drop_eq_nil_of_le (Nat.le_refl _)
  refine FnG.of_body Try.func51 rfl ?_
  unfold rpl
  generalize hol : olds ps = ol at *
  generalize hnn : ps.length = n at *
  have e1 : (2 * (n : Int) == 2) = false := by rw [beq_eq_false_iff_ne]; omega
  repeat (first | ((first | (with_reducible first | refine zP fun K_ hK_ => ?_ | refine zQ fun K_ hK_ => ?_ | refine zT ?_ | refine zU ?_ | refine zV ?_ | refine zW ?_ | refine zX ?_ | refine zY ?_) | ((with_reducible first | refine zR ?_ ?_ fun K_ hK_ => ?_ | refine zS ?_ ?_ fun K_ hK_ => ?_); (focus kernel_rfl); (focus kernel_rfl))); first | (simp (maxSteps := 1000000) (disch := refine hold_ ?_; first | (simp [hlen, e1, -List.getD_eq_getElem?_getD]; done) | omega) [hlen, e1, -List.getD_eq_getElem?_getD]; try first | (with_reducible refine zZ ?_) | subst hK_) | subst hK_) | (with_reducible first | refine zA ?_ | refine zB ?_ | refine zC ?_ | refine zD ?_ | refine zE ?_ | refine zF ?_ | refine zG ?_ | refine zH ?_ | refine zI ?_ | refine zJ ?_ | refine zK ?_ | refine zL ?_ | refine zM ?_ | refine zN ?_ | refine zO ?_) | ((with_reducible refine yG ?_ ?_); (focus decide)) | ((with_reducible refine yA ?_); refine yB rfl ?_; (with_reducible first | refine yC ?_ | refine yD ?_)))
  refine AW.iter (false :: false :: false :: true :: true :: true :: false :: false :: false :: false :: false :: false :: false :: false :: false :: false :: false :: false :: false :: false :: false :: false :: false :: false :: false :: false :: false :: false :: false :: false :: false :: false :: false :: false :: false :: false :: false :: false :: false :: false :: false :: false :: false :: false :: false :: false :: false :: false :: false :: false :: false :: false :: false :: false :: false :: false :: false :: false :: false :: false :: false :: false :: false :: false :: false :: false :: false :: false :: false :: false :: false :: false :: false :: false :: false :: false :: false :: false :: false :: false :: false :: false :: false :: false :: false :: false :: false :: false :: false :: false :: false :: false :: false :: false :: false :: false :: false :: false :: false :: false :: false :: false :: false :: false :: false :: false :: false :: false :: false :: false :: false :: false :: false :: false :: false :: false :: false :: false :: false :: false :: false :: false :: false :: false :: false :: false :: false :: false :: false :: false :: false :: false :: []) n (fun k => ⟨(V.junk :: V.junk :: V.junk :: .p (.sl (.strs ol) false) :: .p (.bool (oneP ps k)) :: .p (.int .i64 (2 * (k : Int))) :: V.junk :: V.junk :: V.junk :: V.junk :: V.junk :: V.junk :: V.junk :: V.junk :: V.junk :: V.junk :: V.junk :: V.junk :: V.junk :: V.junk :: V.junk :: V.junk :: V.junk :: V.junk :: V.junk :: V.junk :: V.junk :: V.junk :: V.junk :: V.junk :: V.junk :: V.junk :: V.junk :: V.junk :: V.junk :: V.junk :: V.junk :: V.junk :: V.junk :: V.junk :: V.junk :: V.junk :: V.junk :: V.junk :: V.junk :: V.junk :: V.junk :: V.junk :: V.junk :: V.junk :: V.junk :: V.junk :: V.junk :: V.junk :: V.junk :: V.junk :: V.junk :: V.junk :: V.junk :: V.junk :: V.junk :: V.junk :: V.junk :: V.junk :: V.junk :: V.junk :: V.junk :: V.junk :: V.junk :: V.junk :: V.junk :: V.junk :: V.junk :: V.junk :: V.junk :: V.junk :: V.junk :: V.junk :: V.junk :: V.junk :: V.junk :: V.junk :: V.junk :: V.junk :: V.junk :: V.junk :: V.junk :: V.junk :: V.junk :: V.junk :: V.junk :: V.junk :: V.junk :: V.junk :: V.junk :: V.junk :: V.junk :: V.junk :: V.junk :: V.junk :: V.junk :: V.junk :: V.junk :: V.junk :: V.junk :: V.junk :: V.junk :: V.junk :: V.junk :: V.junk :: V.junk :: V.junk :: V.junk :: V.junk :: V.junk :: V.junk :: V.junk :: V.junk :: V.junk :: V.junk :: V.junk :: V.junk :: V.junk :: V.junk :: V.junk :: V.junk :: V.junk :: V.junk :: V.junk :: V.junk :: V.junk :: V.junk :: []), ⟨[(10000, 0, .cells [.p (.int .u32 0), .p (.int .i32 1), .p (.int .u32 0), .p .iface0, .p (.sl (.strs ol) false)])], []⟩⟩) ?_ ?_
  · simp (maxSteps := 1000000) (disch := refine hold_ ?_; first | (simp [oneP, -List.getD_eq_getElem?_getD]; done) | omega) [oneP, -List.getD_eq_getElem?_getD]
  intro k hk
  by_cases hkn : k < n
  · have c1 : 2 * (k : Int) < 2 * (n : Int) := by omega
    have t1 : (2 * (k : Int)).toNat = 2 * k := by omega
    have t2 : (2 * (k : Int) + 1).toNat = 2 * k + 1 := by omega
    have t3 : 0 ≤ 2 * (k : Int) := by omega
    have t4 : 0 ≤ 2 * (k : Int) + 1 := by omega
    have t5 : 2 * (k : Int) + 1 < 2 * (n : Int) := by omega
    have w1 : IntKind.i64.wrap (2 * (k : Int) + 1) = 2 * (k : Int) + 1 := wrap_i64 _ (by omega) (by omega)
    have w2 : IntKind.i64.wrap (2 * (k : Int) + 2) = 2 * ((k : Int) + 1) := (wrap_i64 _ (by omega) (by omega)).trans (by omega)
    obtain ⟨g1, g2⟩ := hget k hkn
    have ho := hos k hkn
    generalize List.getD ps k pr0 = p at *
    obtain ⟨o, x⟩ := p
    simp only at g1 g2 ho
    have z1 : (txt [o]).size = 1 := txt_size [o]
    have z2 := txt_size x
    by_cases hx : x.length = 1
    · have ho2 : oneP ps (k + 1) = oneP ps k := by rw [ho, hx]; simp
      repeat (first | ((first | (with_reducible first | refine zP fun K_ hK_ => ?_ | refine zQ fun K_ hK_ => ?_ | refine zT ?_ | refine zU ?_ | refine zV ?_ | refine zW ?_ | refine zX ?_ | refine zY ?_) | ((with_reducible first | refine zR ?_ ?_ fun K_ hK_ => ?_ | refine zS ?_ ?_ fun K_ hK_ => ?_); (focus kernel_rfl); (focus kernel_rfl))); first | (simp (maxSteps := 1000000) (disch := refine hold_ ?_; first | (simp [hlen, c1, t1, t2, t3, t4, t5, w1, w2, g1, g2, z1, z2, hx, hkn, -List.getD_eq_getElem?_getD]; done) | omega) [hlen, c1, t1, t2, t3, t4, t5, w1, w2, g1, g2, z1, z2, hx, hkn, -List.getD_eq_getElem?_getD]; try first | (with_reducible refine zZ ?_) | subst hK_) | subst hK_) | (with_reducible first | refine zA ?_ | refine zB ?_ | refine zC ?_ | refine zD ?_ | refine zE ?_ | refine zF ?_ | refine zG ?_ | refine zH ?_ | refine zI ?_ | refine zJ ?_ | refine zK ?_ | refine zL ?_ | refine zM ?_ | refine zN ?_ | refine zO ?_) | ((with_reducible refine yG ?_ ?_); (focus decide)) | ((with_reducible refine yA ?_); refine yB rfl ?_; (with_reducible first | refine yC ?_ | refine yD ?_)))
      refine ⟨hkn, ?_⟩
      simp (maxSteps := 1000000) (disch := refine hold_ ?_; first | (simp [ho2, -List.getD_eq_getElem?_getD]; done) | omega) [ho2, -List.getD_eq_getElem?_getD]
    · have ho2 : oneP ps (k + 1) = false := by rw [ho]; simp [hx]
      have hx2 : ((x.length : Int) != 1) = true := by simp; omega
      repeat (first | ((first | (with_reducible first | refine zP fun K_ hK_ => ?_ | refine zQ fun K_ hK_ => ?_ | refine zT ?_ | refine zU ?_ | refine zV ?_ | refine zW ?_ | refine zX ?_ | refine zY ?_) | ((with_reducible first | refine zR ?_ ?_ fun K_ hK_ => ?_ | refine zS ?_ ?_ fun K_ hK_ => ?_); (focus kernel_rfl); (focus kernel_rfl))); first | (simp (maxSteps := 1000000) (disch := refine hold_ ?_; first | (simp [hlen, c1, t1, t2, t3, t4, t5, w1, w2, g1, g2, z1, z2, hx2, hkn, -List.getD_eq_getElem?_getD]; done) | omega) [hlen, c1, t1, t2, t3, t4, t5, w1, w2, g1, g2, z1, z2, hx2, hkn, -List.getD_eq_getElem?_getD]; try first | (with_reducible refine zZ ?_) | subst hK_) | subst hK_) | (with_reducible first | refine zA ?_ | refine zB ?_ | refine zC ?_ | refine zD ?_ | refine zE ?_ | refine zF ?_ | refine zG ?_ | refine zH ?_ | refine zI ?_ | refine zJ ?_ | refine zK ?_ | refine zL ?_ | refine zM ?_ | refine zN ?_ | refine zO ?_) | ((with_reducible refine yG ?_ ?_); (focus decide)) | ((with_reducible refine yA ?_); refine yB rfl ?_; (with_reducible first | refine yC ?_ | refine yD ?_)))
      refine ⟨hkn, ?_⟩
      simp (maxSteps := 1000000) (disch := refine hold_ ?_; first | (simp [ho2, -List.getD_eq_getElem?_getD]; done) | omega) [ho2, -List.getD_eq_getElem?_getD]
  · have hkn2 : k = n := by omega
    rw [hkn2]
    clear hkn2 hkn hk k hos
    have c1 : ¬ 2 * (n : Int) < 2 * (n : Int) := by omega
    have q1 : intBin .quo .i64 (2 * (n : Int)) 2 = some (.int .i64 n) := by
      have : (2 * (n : Int)).tdiv 2 = n := Int.mul_tdiv_cancel_left _ (by decide)
      have w0 : IntKind.i64.wrap (n : Int) = n := wrap_i64 _ (by omega) (by omega)
      simp [intBin, this, w0]
    have w3 : IntKind.i64.wrap (2 * (n : Int) - 2) = idx n := wrap_i64 _ (by omega) (by omega)
    repeat (first | ((with_reducible first | refine Go.Av.AW.regCAt 26 [4] ?_ fun K_ hK_ => ?_ | refine Go.Av.AW.regCAt1 26 [4] ?_ fun K_ hK_ => ?_); (focus decide)) | ((with_reducible refine Go.Av.runC_cons fun K_ hK_ => ?_); (try simp (maxSteps := 1000000) (disch := refine hold_ ?_; first | (simp [hlen, c1, hone, q1, w3, al102, bu102, mk62 _ _ n hfew, rV_len, rV_app, -List.getD_eq_getElem?_getD]; done) | omega) [hlen, c1, hone, q1, w3, al102, bu102, mk62 _ _ n hfew, rV_len, rV_app, -List.getD_eq_getElem?_getD]); try first | (with_reducible refine zZ ?_) | subst hK_) | ((with_reducible refine Go.Av.runC_nil ?_); (try simp (maxSteps := 1000000) (disch := refine hold_ ?_; first | (simp [hlen, c1, hone, q1, w3, al102, bu102, mk62 _ _ n hfew, rV_len, rV_app, -List.getD_eq_getElem?_getD]; done) | omega) [hlen, c1, hone, q1, w3, al102, bu102, mk62 _ _ n hfew, rV_len, rV_app, -List.getD_eq_getElem?_getD]); try first | (with_reducible refine zZ ?_) | subst hK_) | ((with_reducible refine Go.Av.XS_at 4 ?_); refine Go.Av.XS.row0 94 94 (.strs []) (by decide) rfl rfl rfl rfl ?_; (try simp (maxSteps := 1000000) (disch := refine hold_ ?_; first | (simp [hlen, c1, hone, q1, w3, al102, bu102, mk62 _ _ n hfew, rV_len, rV_app, -List.getD_eq_getElem?_getD]; done) | omega) [hlen, c1, hone, q1, w3, al102, bu102, mk62 _ _ n hfew, rV_len, rV_app, -List.getD_eq_getElem?_getD]); refine Go.Av.XS.plain rfl ?_; (try simp (maxSteps := 1000000) (disch := refine hold_ ?_; first | (simp [hlen, c1, hone, q1, w3, al102, bu102, mk62 _ _ n hfew, rV_len, rV_app, -List.getD_eq_getElem?_getD]; done) | omega) [hlen, c1, hone, q1, w3, al102, bu102, mk62 _ _ n hfew, rV_len, rV_app, -List.getD_eq_getElem?_getD]); try first | (with_reducible refine zZ ?_) | subst hK_) | ((first | (with_reducible first | refine zP fun K_ hK_ => ?_ | refine zQ fun K_ hK_ => ?_ | refine zT ?_ | refine zU ?_ | refine zV ?_ | refine zW ?_ | refine zX ?_ | refine zY ?_) | ((with_reducible first | refine zR ?_ ?_ fun K_ hK_ => ?_ | refine zS ?_ ?_ fun K_ hK_ => ?_); (focus kernel_rfl); (focus kernel_rfl))); first | (simp (maxSteps := 1000000) (disch := refine hold_ ?_; first | (simp [hlen, c1, hone, q1, w3, al102, bu102, mk62 _ _ n hfew, rV_len, rV_app, -List.getD_eq_getElem?_getD]; done) | omega) [hlen, c1, hone, q1, w3, al102, bu102, mk62 _ _ n hfew, rV_len, rV_app, -List.getD_eq_getElem?_getD]; try first | (with_reducible refine zZ ?_) | subst hK_) | subst hK_) | (with_reducible first | refine zA ?_ | refine zB ?_ | refine zC ?_ | refine zD ?_ | refine zE ?_ | refine zF ?_ | refine zG ?_ | refine zH ?_ | refine zI ?_ | refine zJ ?_ | refine zK ?_ | refine zL ?_ | refine zM ?_ | refine zN ?_ | refine zO ?_) | ((with_reducible refine yG ?_ ?_); (focus decide)) | ((with_reducible refine yA ?_); refine yB rfl ?_; (with_reducible first | refine yC ?_ | refine yD ?_)))
    refine AW.iter (false :: false :: false :: true :: false :: false :: false :: false :: false :: false :: false :: true :: true :: false :: false :: false :: false :: false :: false :: false :: false :: false :: false :: false :: false :: false :: false :: false :: false :: false :: false :: false :: false :: false :: false :: false :: false :: false :: false :: false :: false :: false :: false :: false :: false :: false :: false :: false :: false :: false :: false :: false :: false :: false :: false :: false :: false :: false :: false :: false :: false :: false :: false :: false :: false :: false :: false :: false :: false :: false :: false :: false :: false :: false :: false :: false :: false :: false :: false :: false :: false :: false :: false :: false :: false :: false :: false :: false :: false :: false :: false :: false :: false :: false :: false :: false :: false :: false :: false :: false :: false :: false :: false :: false :: false :: false :: false :: false :: false :: false :: false :: false :: false :: false :: false :: false :: false :: false :: false :: false :: false :: false :: false :: false :: false :: false :: false :: false :: false :: false :: false :: false :: []) n (fun m => ⟨(V.junk :: V.junk :: V.junk :: .p (.sl (.strs ol) false) :: V.junk :: V.junk :: V.junk :: V.junk :: V.junk :: V.junk :: V.junk :: .ptr 11 0 0 :: .p (.int .i64 (idx (n - m))) :: V.junk :: V.junk :: V.junk :: V.junk :: V.junk :: V.junk :: V.junk :: V.junk :: V.junk :: V.junk :: V.junk :: V.junk :: V.junk :: V.junk :: V.junk :: V.junk :: V.junk :: V.junk :: V.junk :: V.junk :: V.junk :: V.junk :: V.junk :: V.junk :: V.junk :: V.junk :: V.junk :: V.junk :: V.junk :: V.junk :: V.junk :: V.junk :: V.junk :: V.junk :: V.junk :: V.junk :: V.junk :: V.junk :: V.junk :: V.junk :: V.junk :: V.junk :: V.junk :: V.junk :: V.junk :: V.junk :: V.junk :: V.junk :: V.junk :: V.junk :: V.junk :: V.junk :: V.junk :: V.junk :: V.junk :: V.junk :: V.junk :: V.junk :: V.junk :: V.junk :: V.junk :: V.junk :: V.junk :: V.junk :: V.junk :: V.junk :: V.junk :: V.junk :: V.junk :: V.junk :: V.junk :: V.junk :: V.junk :: V.junk :: V.junk :: V.junk :: V.junk :: V.junk :: V.junk :: V.junk :: V.junk :: V.junk :: V.junk :: V.junk :: V.junk :: V.junk :: V.junk :: V.junk :: V.junk :: V.junk :: V.junk :: V.junk :: V.junk :: V.junk :: V.junk :: V.junk :: V.junk :: V.junk :: V.junk :: V.junk :: V.junk :: V.junk :: V.junk :: V.junk :: V.junk :: V.junk :: V.junk :: V.junk :: V.junk :: V.junk :: V.junk :: V.junk :: V.junk :: V.junk :: V.junk :: V.junk :: V.junk :: V.junk :: V.junk :: []), ⟨[(10000, 0, .cells [.p (.int .u32 0), .p (.int .i32 1), .p (.int .u32 0), .p .iface0, .p (.sl (.strs ol) false)]), (11, 0, .cells (rV (tabP (ps.drop (n - m))) (.row (.strs ((tsP (ps.drop (n - m))).map fun b => txt [b])) 0 0 false)))], [(0, 0)]⟩⟩) ?_ ?_
    · simp (maxSteps := 1000000) (disch := refine hold_ ?_; first | (simp [hn0, tabP, tsP, -List.getD_eq_getElem?_getD]; done) | omega) [hn0, tabP, tsP, -List.getD_eq_getElem?_getD]
    intro m hm
    by_cases hmn : m < n
    · obtain ⟨j, hj⟩ : ∃ j, n - m = j + 1 := ⟨n - m - 1, by omega⟩
      have hj2 : n - (m + 1) = j := by omega
      rw [hj, hj2]
      have hjn : j < n := by omega
      obtain ⟨g1, g2⟩ := hget j hjn
      have t6 := htab j hjn
      have t7 := htsp j hjn
      have t8 := hnew j hjn
      rw [t6, t7]
      generalize List.getD ps j pr0 = p at *
      obtain ⟨o, x⟩ := p
      simp only at g1 g2 t8 ⊢
      have c2 : 0 ≤ idx (j + 1) := by unfold idx; omega
      have t1 : (idx (j + 1)).toNat = 2 * j := by unfold idx; omega
      have w1 : IntKind.i64.wrap (idx (j + 1) + 1) = idx (j + 1) + 1 := wrap_i64 _ (by unfold idx; omega) (by unfold idx; omega)
      have w2 : IntKind.i64.wrap (idx (j + 1) - 2) = idx j := (wrap_i64 _ (by unfold idx; omega) (by unfold idx; omega)).trans (by unfold idx; omega)
      have t2 : (idx (j + 1) + 1).toNat = 2 * j + 1 := by unfold idx; omega
      have t3 : 0 ≤ idx (j + 1) + 1 := by omega
      have t4 : idx (j + 1) < 2 * (n : Int) := by unfold idx; omega
      have t5 : idx (j + 1) + 1 < 2 * (n : Int) := by unfold idx; omega
      have z1 : (txt [o]).size = 1 := txt_size [o]
      have z2 := txt_get [o] 0
      have hu := ub_lt o
      have hu1 := hu.1
      have hu2 := hu.2
      have hbl : o.toNat < 257 := by have := o.isLt; omega
      generalize idx (j + 1) = c at *
      have v1 := rV_get (tabP (ps.drop (j + 1))) (.row (.strs ((tsP (ps.drop (j + 1))).map fun b => txt [b])) 0 0 false) o
      rw [t8] at v1
      have v2 := rV_len (tabP (ps.drop (j + 1)))
      have v3 := rV_end (tabP (ps.drop (j + 1)))
      have v4 := rV_setEnd (tabP (ps.drop (j + 1)))
      have v5 := rV_set (tabP (ps.drop (j + 1)))
      have v6 := rV_get (tabP (ps.drop (j + 1)))
      simp only [slO] at v1
      have b1 : bytesOf (Row.ints IntKind.u8 [ub o]) = some [ub o] := bytesOf_bl [o]
      have b2 : strOfNums [ub o] = txt [o] := rfl
      have hTS : (tsP (ps.drop (j + 1))).length ≤ 50 := by simp [tsP]; omega
      generalize tsP (ps.drop (j + 1)) = TS at *
      have b3 : (TS.length + 1) * 16 ≤ 140737488355328 := by omega
      generalize tabP (ps.drop (j + 1)) = TB at *
      repeat (first | ((with_reducible first | refine Go.Av.AW.regCAt 34 [5] ?_ fun K_ hK_ => ?_ | refine Go.Av.AW.regCAt1 34 [5] ?_ fun K_ hK_ => ?_); (focus decide)) | ((with_reducible refine Go.Av.runC_cons fun K_ hK_ => ?_); (try simp (maxSteps := 1000000) (disch := refine hold_ ?_; first | (simp [hlen, c2, t1, t2, t3, t4, t5, w1, w2, g1, g2, z1, z2, hu1, hu2, hbl, v1, v2, v3, v4, v5, txt_bytes, b1, b2, b3, -List.getD_eq_getElem?_getD]; done) | omega) [hlen, c2, t1, t2, t3, t4, t5, w1, w2, g1, g2, z1, z2, hu1, hu2, hbl, v1, v2, v3, v4, v5, txt_bytes, b1, b2, b3, -List.getD_eq_getElem?_getD]); try first | (with_reducible refine zZ ?_) | subst hK_) | ((with_reducible refine Go.Av.runC_nil ?_); (try simp (maxSteps := 1000000) (disch := refine hold_ ?_; first | (simp [hlen, c2, t1, t2, t3, t4, t5, w1, w2, g1, g2, z1, z2, hu1, hu2, hbl, v1, v2, v3, v4, v5, txt_bytes, b1, b2, b3, -List.getD_eq_getElem?_getD]; done) | omega) [hlen, c2, t1, t2, t3, t4, t5, w1, w2, g1, g2, z1, z2, hu1, hu2, hbl, v1, v2, v3, v4, v5, txt_bytes, b1, b2, b3, -List.getD_eq_getElem?_getD]); try first | (with_reducible refine zZ ?_) | subst hK_) | ((with_reducible refine Go.Av.XS_at 5 ?_); refine Go.Av.XS.flat 128 ?_; (try simp (maxSteps := 1000000) (disch := refine hold_ ?_; first | (simp [hlen, c2, t1, t2, t3, t4, t5, w1, w2, g1, g2, z1, z2, hu1, hu2, hbl, v1, v2, v3, v4, v5, txt_bytes, b1, b2, b3, -List.getD_eq_getElem?_getD]; done) | omega) [hlen, c2, t1, t2, t3, t4, t5, w1, w2, g1, g2, z1, z2, hu1, hu2, hbl, v1, v2, v3, v4, v5, txt_bytes, b1, b2, b3, -List.getD_eq_getElem?_getD]); refine Go.Av.XS.plain rfl ?_; (try simp (maxSteps := 1000000) (disch := refine hold_ ?_; first | (simp [hlen, c2, t1, t2, t3, t4, t5, w1, w2, g1, g2, z1, z2, hu1, hu2, hbl, v1, v2, v3, v4, v5, txt_bytes, b1, b2, b3, -List.getD_eq_getElem?_getD]; done) | omega) [hlen, c2, t1, t2, t3, t4, t5, w1, w2, g1, g2, z1, z2, hu1, hu2, hbl, v1, v2, v3, v4, v5, txt_bytes, b1, b2, b3, -List.getD_eq_getElem?_getD]); try first | (with_reducible refine zZ ?_) | subst hK_) | ((first | (with_reducible first | refine zP fun K_ hK_ => ?_ | refine zQ fun K_ hK_ => ?_ | refine zT ?_ | refine zU ?_ | refine zV ?_ | refine zW ?_ | refine zX ?_ | refine zY ?_) | ((with_reducible first | refine zR ?_ ?_ fun K_ hK_ => ?_ | refine zS ?_ ?_ fun K_ hK_ => ?_); (focus kernel_rfl); (focus kernel_rfl))); first | (simp (maxSteps := 1000000) (disch := refine hold_ ?_; first | (simp [hlen, c2, t1, t2, t3, t4, t5, w1, w2, g1, g2, z1, z2, hu1, hu2, hbl, v1, v2, v3, v4, v5, txt_bytes, b1, b2, b3, -List.getD_eq_getElem?_getD]; done) | omega) [hlen, c2, t1, t2, t3, t4, t5, w1, w2, g1, g2, z1, z2, hu1, hu2, hbl, v1, v2, v3, v4, v5, txt_bytes, b1, b2, b3, -List.getD_eq_getElem?_getD]; try first | (with_reducible refine zZ ?_) | subst hK_) | subst hK_) | (with_reducible first | refine zA ?_ | refine zB ?_ | refine zC ?_ | refine zD ?_ | refine zE ?_ | refine zF ?_ | refine zG ?_ | refine zH ?_ | refine zI ?_ | refine zJ ?_ | refine zK ?_ | refine zL ?_ | refine zM ?_ | refine zN ?_ | refine zO ?_) | ((with_reducible refine yG ?_ ?_); (focus decide)) | ((with_reducible refine yA ?_); refine yB rfl ?_; (with_reducible first | refine yC ?_ | refine yD ?_)))
      refine ⟨hmn, ?_⟩
      simp (maxSteps := 1000000) (disch := refine hold_ ?_; first | (simp [hj2, -List.getD_eq_getElem?_getD]; done) | omega) [hj2, -List.getD_eq_getElem?_getD]
    · have hm2 : n - m = 0 := by omega
      rw [hm2]
      have c2 : ¬ 0 ≤ idx 0 := by decide
      rw [List.drop_zero]
      have hdp := deep_rV (onlyK 11) [(10000, (0, .cells [.p (.int .u32 0), .p (.int .i32 1), .p (.int .u32 0), .p .iface0, .p (.sl (.strs ol) false)])), (11, (0, .cells (rV (tabP ps) (.row (.strs ((tsP ps).map fun b => txt [b])) 0 0 false))))] 11 0 0 0 (tabP ps) (tsP ps) rfl rfl
      repeat (first | ((with_reducible refine Go.Av.AW.freezeAtB 35 11 ?_ ?_ fun K_ hK_ => ?_); (focus decide); (focus (simp; done)); simp (maxSteps := 1000000) (disch := refine hold_ ?_; first | (simp [c2, if103, hdp, -List.getD_eq_getElem?_getD]; done) | omega) [c2, if103, hdp, -List.getD_eq_getElem?_getD]; subst hK_) | ((first | (with_reducible first | refine zP fun K_ hK_ => ?_ | refine zQ fun K_ hK_ => ?_ | refine zT ?_ | refine zU ?_ | refine zV ?_ | refine zW ?_ | refine zX ?_ | refine zY ?_) | ((with_reducible first | refine zR ?_ ?_ fun K_ hK_ => ?_ | refine zS ?_ ?_ fun K_ hK_ => ?_); (focus kernel_rfl); (focus kernel_rfl))); first | (simp (maxSteps := 1000000) (disch := refine hold_ ?_; first | (simp [c2, if103, hdp, -List.getD_eq_getElem?_getD]; done) | omega) [c2, if103, hdp, -List.getD_eq_getElem?_getD]; try first | (with_reducible refine zZ ?_) | subst hK_) | subst hK_) | (with_reducible first | refine zA ?_ | refine zB ?_ | refine zC ?_ | refine zD ?_ | refine zE ?_ | refine zF ?_ | refine zG ?_ | refine zH ?_ | refine zI ?_ | refine zJ ?_ | refine zK ?_ | refine zL ?_ | refine zM ?_ | refine zN ?_ | refine zO ?_) | ((with_reducible refine yG ?_ ?_); (focus decide)) | ((with_reducible refine yA ?_); refine yB rfl ?_; (with_reducible first | refine yC ?_ | refine yD ?_)))
      simp (maxSteps := 1000000) (disch := refine hold_ ?_; first | (simp [-List.getD_eq_getElem?_getD]; done) | omega) [-List.getD_eq_getElem?_getD]
end Go.Av.Can
end
