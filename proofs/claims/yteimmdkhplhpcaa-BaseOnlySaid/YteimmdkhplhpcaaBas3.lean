/- The walks of this seat's functions, and what is known of what they reckon (Bas3). Conditions: those that each theorem names. -/
import Derived.Test.YteimmdkhplhpcaaBas2

section
set_option linter.unusedSimpArgs false
set_option linter.unusedVariables false
open Go Go.Av Go.Proofs
namespace Go.Av.Base
/-! ## Decode -/
theorem uwN (v : Nat) (h : v < 4294967296) : (v : Int) = uw (BitVec.ofNat 32 v) := by simp [uw]; omega
theorem shl6 (v : Nat) (h : v * 64 < 4294967296) : shiftBin .shl .u32 (v : Int) 6 = some (.int .u32 ((v : Int) * 64)) := by
  rw [uwN v (by omega), int_shl_lit _ _ (by decide) (by decide)]
  congr 2
  simp only [uw, BitVec.toNat_shiftLeft, BitVec.toNat_ofNat, Nat.shiftLeft_eq, Int.reduceToNat, Nat.reducePow]
  omega
theorem or6 (v a : Nat) (h : v * 64 < 4294967296) (ha : a < 64) : intBin .or .u32 ((v : Int) * 64) (a : Int) = some (.int .u32 ((v : Int) * 64 + a)) := by
  rw [show (v : Int) * 64 = ((v * 64 : Nat) : Int) by omega, uwN _ h, uwN a (by omega), int_or]
  congr 2
  simp only [uw, BitVec.toNat_or, BitVec.toNat_ofNat, Nat.reducePow]
  rw [Nat.mod_eq_of_lt (by omega), Nat.mod_eq_of_lt (by omega), orN (n := 6) (a := v) (by omega)]; omega
theorem shrU (v : Nat) (k : Nat) (h : v < 4294967296) (hk : k ≤ 32) : shiftBin .shr .u32 (v : Int) (k : Int) = some (.int .u32 ((v / 2 ^ k : Nat) : Int)) := by
  rw [uwN v h, int_shr _ _ hk]
  congr 2
  simp only [uw, BitVec.toNat_ushiftRight, BitVec.toNat_ofNat, Nat.shiftRight_eq_div_pow, Nat.reducePow]
  rw [Nat.mod_eq_of_lt h]
theorem wrap8N (v : Nat) : IntKind.u8.wrap (v : Int) = ub (BitVec.ofNat 8 v) := by
  rw [wrap_u8]; simp [ub]
theorem dgF_bound (R : List (BitVec 8)) (L : Nat) : ∀ (k : Nat) (q : Nat × Nat), dgF R L k = some q → q.2 < 64 ^ k ∧ q.1 ≤ 3 ∧ (k ≤ 2 → q.1 = 3) ∧ 3 - (k - 2) ≤ q.1
  | 0, q, h => by simp only [dgF, Option.some.injEq] at h; subst h; simp
  | k + 1, q, h => by
    obtain ⟨p, hp, hc⟩ := dgF_succ_some h
    obtain ⟨h1, h2, h3, h4⟩ := dgF_bound R L k p hp
    rw [Nat.pow_succ]
    rcases hc with ⟨v, _, hv, _, hp3, rfl⟩ | ⟨_, _, hk, rfl⟩
    · refine ⟨?_, by simp, by simp, by simp⟩
      show p.2 * 64 + v < _
      omega
    · refine ⟨?_, ?_, ?_, ?_⟩
      · show p.2 * 64 < _; omega
      · show p.1 - 1 ≤ 3; omega
      · intro h; omega
      · show _ ≤ p.1 - 1; omega
/-- The first places of which nothing is known, or all. -/
theorem dgF_some_or (R : List (BitVec 8)) (L : Nat) : (∃ q, dgF R L 4 = some q) ∨ ∃ k q, k < 4 ∧ dgF R L k = some q ∧ dgF R L (k + 1) = none := by
  cases h4 : dgF R L 4 with
  | some q => exact .inl ⟨q, rfl⟩
  | none =>
  right
  cases h3 : dgF R L 3 with
  | some q => exact ⟨3, q, by omega, h3, h4⟩
  | none =>
  cases h2 : dgF R L 2 with
  | some q => exact ⟨2, q, by omega, h2, h3⟩
  | none =>
  cases h1 : dgF R L 1 with
  | some q => exact ⟨1, q, by omega, h1, h2⟩
  | none => exact ⟨0, (3, 0), by omega, rfl, h1⟩
theorem dgF_le {R : List (BitVec 8)} {L : Nat} : ∀ (n : Nat) {q : Nat × Nat}, dgF R L n = some q → ∀ k, k ≤ n → ∃ p, dgF R L k = some p
  | 0, q, h, k, hk => ⟨q, by rw [show k = 0 by omega]; exact h⟩
  | n + 1, q, h, k, hk => by
    by_cases e : k = n + 1
    · exact ⟨q, by rw [e]; exact h⟩
    · obtain ⟨p, hp, _⟩ := dgF_succ_some h
      exact dgF_le n hp k (by omega)
def decN (t : List (BitVec 8)) (j : Nat) : List (BitVec 8) := (List.range j).flatMap fun i => (dgrp (t.drop (4 * i))).getD []
theorem decN_zero (t : List (BitVec 8)) : decN t 0 = [] := rfl
theorem decN_succ (t : List (BitVec 8)) (j : Nat) : decN t (j + 1) = decN t j ++ (dgrp (t.drop (4 * j))).getD [] := by simp [decN, List.range_succ]
def nx (R : List (BitVec 8)) (k : Nat) : Nat × Nat := (dgF R R.length k).getD (3, 0)
theorem let_none {c : BitVec 8} (h : ¬ 0 ≤ idxI letL c) : idxI letL c = -1 := by
  rcases idxI_spec letL c with ⟨h1, _⟩ | ⟨k, h1, _⟩
  · exact h1
  · omega
end Go.Av.Base
end

section
set_option linter.unusedSimpArgs false
set_option linter.unusedVariables false
open Go Go.Av Go.Proofs
namespace Go.Av.Base
theorem lets_txt : txt letL = ByteArray.mk #[65, 66, 67, 68, 69, 70, 71, 72, 73, 74, 75, 76, 77, 78, 79, 80, 81, 82, 83, 84, 85, 86, 87, 88, 89, 90, 97, 98, 99, 100, 101, 102, 103, 104, 105, 106, 107, 108, 109, 110, 111, 112, 113, 114, 115, 116, 117, 118, 119, 120, 121, 122, 48, 49, 50, 51, 52, 53, 54, 55, 56, 57, 43, 47] := rfl
theorem decN_cons (t : List (BitVec 8)) (j : Nat) : decN t (j + 1) = (dgrp t).getD [] ++ decN (t.drop 4) j := by
  unfold decN
  rw [List.range_succ_eq_map, List.flatMap_cons, List.flatMap_map]
  congr 1
  simp only [List.flatMap_def]
  congr 1
  refine List.map_congr_left fun i _ => ?_
  rw [List.drop_drop, show 4 + 4 * i = 4 * (i + 1) by omega]
/-- Where reading stops, and why. -/
theorem dec_stop (n : Nat) : ∀ (t : List (BitVec 8)), t.length ≤ n → ∃ m, (∀ i, i < m → 4 * i + 4 ≤ t.length ∧ ∃ b, dgrp (t.drop (4 * i)) = some b) ∧
    ((t.length < 4 * m + 4 ∧ 4 * m ≤ t.length ∧ decL t = if t.length = 4 * m then some (decN t m) else none) ∨ (4 * m + 4 ≤ t.length ∧ dgrp (t.drop (4 * m)) = none ∧ decL t = none)) := by
  induction n with
  | zero =>
    intro t h
    obtain rfl := List.eq_nil_of_length_eq_zero (Nat.le_zero.1 h)
    exact ⟨0, fun i hi => by omega, .inl ⟨by simp, by simp, rfl⟩⟩
  | succ n ih =>
    intro t h
    by_cases h4 : t.length < 4
    · refine ⟨0, fun i hi => by omega, .inl ⟨by omega, by omega, ?_⟩⟩
      rw [decL_short t h4]
      by_cases ht : t = []
      · subst ht; rfl
      · rw [if_neg ht, if_neg (fun e => ht (List.eq_nil_of_length_eq_zero (by omega)))]
    · cases hg : dgrp t with
      | none => exact ⟨0, fun i hi => by omega, .inr ⟨by omega, hg, by rw [decL_rec t h4, hg]; rfl⟩⟩
      | some b =>
        have hdl : (t.drop 4).length = t.length - 4 := List.length_drop
        obtain ⟨m, h1, h2⟩ := ih (t.drop 4) (by omega)
        refine ⟨m + 1, ?_, ?_⟩
        · intro i hi
          cases i with
          | zero => exact ⟨by omega, b, hg⟩
          | succ i =>
            obtain ⟨h3, h5⟩ := h1 i (by omega)
            rw [List.drop_drop, show 4 + 4 * i = 4 * (i + 1) by omega] at h5
            exact ⟨by omega, h5⟩
        · rw [decL_rec t h4, hg, Option.bind_some]
          rcases h2 with ⟨h3, h5, h6⟩ | ⟨h3, h5, h6⟩
          · left
            refine ⟨by omega, by omega, ?_⟩
            rw [h6, decN_cons, hg]
            by_cases hl : (t.drop 4).length = 4 * m
            · rw [if_pos hl, if_pos (by omega)]; rfl
            · rw [if_neg hl, if_neg (by omega)]; rfl
          · right
            rw [List.drop_drop, show 4 + 4 * m = 4 * (m + 1) by omega] at h5
            exact ⟨by omega, h5, by rw [h6]; rfl⟩
theorem decN_len (t : List (BitVec 8)) : ∀ j, (decN t j).length ≤ 3 * j
  | 0 => by simp [decN]
  | j + 1 => by
    have := decN_len t j
    rw [decN_succ, List.length_append]
    have h3 : ((dgrp (t.drop (4 * j))).getD []).length ≤ 3 := by
      cases h : dgrp (t.drop (4 * j)) with
      | none => simp
      | some b =>
        unfold dgrp at h
        rw [Option.bind_eq_some_iff] at h
        obtain ⟨q, _, h⟩ := h
        split at h
        · simp only [Option.some.injEq] at h; subst h
          show ((b3 q.2).take q.1).length ≤ 3
          rw [List.length_take]; exact Nat.le_trans (Nat.min_le_right _ _) (by simp [b3])
        · simp at h
    omega
set_option maxHeartbeats 16000000 in
theorem dec_walk (l : List (BitVec 8)) (hl : l.length ≤ 4000000) (res : List V) (n1 : Nat)
    (h1 : ∀ b, decL (sq l) = some b → res = [.row (bl b) 0 0 (b.length == 0), .p (.bool true)] ∧ n1 = 1)
    (h2 : decL (sq l) = none → res = [.p (.sl (.vals 1 []) true), .p (.bool false)] ∧ n1 = 0) : Fn Try.prog 10 [.str (txt l)] res n1 := by
  have hq := sq_len l
  have k16 := squeeze_ct l hl
  generalize sq l = t at *
  obtain ⟨m, hm1, hm2⟩ := dec_stop _ t (Nat.le_refl _)
  refine Fn.of_body Try.func10 rfl ?_
  repeat (first | ((with_reducible refine AW.regSeqK fun K_ hK_ => ?_); (try simp (config := { maxSteps := 1000000 }) (disch := refine Go.Av.hold_ ?_; first | (simp [-List.getD_eq_getElem?_getD]; done) | omega | fail) [-List.getD_eq_getElem?_getD]); first | (with_reducible refine callK_id ?_) | subst hK_) | ((with_reducible refine AW.regK fun K_ hK_ => ?_); (try simp (config := { maxSteps := 1000000 }) (disch := refine Go.Av.hold_ ?_; first | (simp [-List.getD_eq_getElem?_getD]; done) | omega | fail) [-List.getD_eq_getElem?_getD]); first | (with_reducible refine callK_id ?_) | subst hK_) | ((with_reducible refine AW.drawSeqK ?_ ?_ fun K_ hK_ => ?_); (focus kernel_rfl); (focus kernel_rfl); (try simp (config := { maxSteps := 1000000 }) (disch := refine Go.Av.hold_ ?_; first | (simp [-List.getD_eq_getElem?_getD]; done) | omega | fail) [-List.getD_eq_getElem?_getD]); first | (with_reducible refine callK_id ?_) | subst hK_) | ((with_reducible refine AW.drawK ?_ ?_ fun K_ hK_ => ?_); (focus kernel_rfl); (focus kernel_rfl); (try simp (config := { maxSteps := 1000000 }) (disch := refine Go.Av.hold_ ?_; first | (simp [-List.getD_eq_getElem?_getD]; done) | omega | fail) [-List.getD_eq_getElem?_getD]); first | (with_reducible refine callK_id ?_) | subst hK_) | (with_reducible refine AW.seq ?_) | (with_reducible refine AW.block ?_) | (with_reducible refine AW.skip ?_) | (with_reducible refine AW.ret ?_) | (with_reducible refine AW.exit ?_) | (with_reducible refine AW.scope ?_) | (with_reducible refine scopeQ_normal ?_) | (with_reducible refine scopeQ_ret ?_) | (with_reducible refine scopeQ_exit ?_) | (with_reducible refine thenQ_normal ?_) | (with_reducible refine thenQ_ret ?_) | (with_reducible refine thenQ_exit ?_) | (with_reducible refine blockQ_normal ?_) | (with_reducible refine blockQ_ret ?_) | (with_reducible refine blockQ_exit ?_) | ((with_reducible refine blockQ_out ?_ ?_); (focus decide)) | ((with_reducible refine AW.cond_id ?_); refine AW.condB rfl ?_; (first | (with_reducible refine condB_true ?_) | (with_reducible refine condB_false ?_))) | ((first | (with_reducible refine contG_id ?_) | (with_reducible refine contO_id ?_) | (with_reducible refine contV_id ?_) | (with_reducible refine bindO_id ?_) | (with_reducible refine bindV_id ?_) | (with_reducible refine runE_id ?_)); simp (config := { maxSteps := 1000000 }) (disch := refine Go.Av.hold_ ?_; first | (simp [-List.getD_eq_getElem?_getD]; done) | omega | fail) [-List.getD_eq_getElem?_getD]; try (with_reducible refine callK_id ?_)))
  (refine callK_p ?_; simp (config := { maxSteps := 1000000 }) (disch := refine Go.Av.hold_ ?_; first | (simp [-List.getD_eq_getElem?_getD]; done) | omega | fail) [-List.getD_eq_getElem?_getD]; refine callK1_of (Fn.ct k16 Try.call16) ?_; (try simp (config := { maxSteps := 1000000 }) (disch := refine Go.Av.hold_ ?_; first | (simp [-List.getD_eq_getElem?_getD]; done) | omega | fail) [-List.getD_eq_getElem?_getD]); first | refine callK_id ?_ | subst hK_)
  repeat (first | ((with_reducible refine AW.regSeqK fun K_ hK_ => ?_); (try simp (config := { maxSteps := 1000000 }) (disch := refine Go.Av.hold_ ?_; first | (simp [-List.getD_eq_getElem?_getD]; done) | omega | fail) [-List.getD_eq_getElem?_getD]); first | (with_reducible refine callK_id ?_) | subst hK_) | ((with_reducible refine AW.regK fun K_ hK_ => ?_); (try simp (config := { maxSteps := 1000000 }) (disch := refine Go.Av.hold_ ?_; first | (simp [-List.getD_eq_getElem?_getD]; done) | omega | fail) [-List.getD_eq_getElem?_getD]); first | (with_reducible refine callK_id ?_) | subst hK_) | ((with_reducible refine AW.drawSeqK ?_ ?_ fun K_ hK_ => ?_); (focus kernel_rfl); (focus kernel_rfl); (try simp (config := { maxSteps := 1000000 }) (disch := refine Go.Av.hold_ ?_; first | (simp [-List.getD_eq_getElem?_getD]; done) | omega | fail) [-List.getD_eq_getElem?_getD]); first | (with_reducible refine callK_id ?_) | subst hK_) | ((with_reducible refine AW.drawK ?_ ?_ fun K_ hK_ => ?_); (focus kernel_rfl); (focus kernel_rfl); (try simp (config := { maxSteps := 1000000 }) (disch := refine Go.Av.hold_ ?_; first | (simp [-List.getD_eq_getElem?_getD]; done) | omega | fail) [-List.getD_eq_getElem?_getD]); first | (with_reducible refine callK_id ?_) | subst hK_) | (with_reducible refine AW.seq ?_) | (with_reducible refine AW.block ?_) | (with_reducible refine AW.skip ?_) | (with_reducible refine AW.ret ?_) | (with_reducible refine AW.exit ?_) | (with_reducible refine AW.scope ?_) | (with_reducible refine scopeQ_normal ?_) | (with_reducible refine scopeQ_ret ?_) | (with_reducible refine scopeQ_exit ?_) | (with_reducible refine thenQ_normal ?_) | (with_reducible refine thenQ_ret ?_) | (with_reducible refine thenQ_exit ?_) | (with_reducible refine blockQ_normal ?_) | (with_reducible refine blockQ_ret ?_) | (with_reducible refine blockQ_exit ?_) | ((with_reducible refine blockQ_out ?_ ?_); (focus decide)) | ((with_reducible refine AW.cond_id ?_); refine AW.condB rfl ?_; (first | (with_reducible refine condB_true ?_) | (with_reducible refine condB_false ?_))) | ((first | (with_reducible refine contG_id ?_) | (with_reducible refine contO_id ?_) | (with_reducible refine contV_id ?_) | (with_reducible refine bindO_id ?_) | (with_reducible refine bindV_id ?_) | (with_reducible refine runE_id ?_)); simp (config := { maxSteps := 1000000 }) (disch := refine Go.Av.hold_ ?_; first | (simp [-List.getD_eq_getElem?_getD]; done) | omega | fail) [-List.getD_eq_getElem?_getD]; try (with_reducible refine callK_id ?_)))
  refine AW.nilRow 4 (bl []) 4 _ rfl rfl ?_
  refine AW.iter (true :: false :: false :: false :: true :: false :: false :: false :: false :: false :: false :: false :: false :: false :: false :: false :: false :: false :: false :: false :: false :: false :: false :: false :: false :: false :: false :: false :: false :: false :: false :: false :: false :: false :: false :: false :: false :: false :: false :: false :: false :: false :: false :: false :: false :: false :: false :: false :: false :: false :: false :: false :: false :: false :: false :: false :: false :: false :: false :: false :: false :: false :: false :: false :: false :: false :: false :: false :: false :: false :: false :: false :: false :: false :: false :: false :: false :: false :: false :: false :: false :: false :: false :: false :: false :: []) m (fun j => ⟨(.p (.str (txt (t.drop (4 * j)))) :: V.junk :: V.junk :: V.junk :: .row (bl (decN t j)) 0 0 ((decN t j).length == 0) :: V.junk :: V.junk :: V.junk :: V.junk :: V.junk :: V.junk :: V.junk :: V.junk :: V.junk :: V.junk :: V.junk :: V.junk :: V.junk :: V.junk :: V.junk :: V.junk :: V.junk :: V.junk :: V.junk :: V.junk :: V.junk :: V.junk :: V.junk :: V.junk :: V.junk :: V.junk :: V.junk :: V.junk :: V.junk :: V.junk :: V.junk :: V.junk :: V.junk :: V.junk :: V.junk :: V.junk :: V.junk :: V.junk :: V.junk :: V.junk :: V.junk :: V.junk :: V.junk :: V.junk :: V.junk :: V.junk :: V.junk :: V.junk :: V.junk :: V.junk :: V.junk :: V.junk :: V.junk :: V.junk :: V.junk :: V.junk :: V.junk :: V.junk :: V.junk :: V.junk :: V.junk :: V.junk :: V.junk :: V.junk :: V.junk :: V.junk :: V.junk :: V.junk :: V.junk :: V.junk :: V.junk :: V.junk :: V.junk :: V.junk :: V.junk :: V.junk :: V.junk :: V.junk :: V.junk :: V.junk :: []), ⟨[], [(0, 0)]⟩⟩) ?_ ?_
  · simp (config := { maxSteps := 1000000 }) (disch := refine Go.Av.hold_ ?_; first | (simp [decN_zero, -List.getD_eq_getElem?_getD]; done) | omega | fail) [decN_zero, -List.getD_eq_getElem?_getD]
  intro j hj
  have hdl : (t.drop (4 * j)).length = t.length - 4 * j := List.length_drop
  have hds := decN_succ t j
  have hdn := decN_len t j
  have hdd : (t.drop (4 * j)).drop 4 = t.drop (4 * (j + 1)) := by rw [List.drop_drop]; congr 1
  have hgo : j < m ∨ (j = m ∧ t.length < 4 * m + 4) ∨ (j = m ∧ 4 * m + 4 ≤ t.length ∧ dgrp (t.drop (4 * j)) = none ∧ decL t = none) := by
    rcases hm2 with ⟨a, _, _⟩ | ⟨a, b, c⟩
    · by_cases h : j < m
      · exact .inl h
      · exact .inr (.inl ⟨by omega, a⟩)
    · by_cases h : j < m
      · exact .inl h
      · obtain rfl : j = m := by omega
        exact .inr (.inr ⟨rfl, a, b, c⟩)
  by_cases h4 : 4 * j + 4 ≤ t.length
  · generalize hR : t.drop (4 * j) = R at *
    generalize hR2 : t.drop (4 * (j + 1)) = R2 at *
    generalize hO : decN t j = O at *
    generalize hO2 : decN t (j + 1) = O2 at *
    have hsz := txt_size R
    have z4 : (4 : Int) ≤ R.length := by omega
    have h4R : 4 ≤ R.length := by omega
    have hOl : O.length ≤ 12000000 := by omega
    obtain ⟨s, hs4, hok, hbad⟩ : ∃ s, s ≤ 4 ∧ (∀ k, k ≤ s → ∃ p, dgF R R.length k = some p) ∧ (s < 4 → dgF R R.length (s + 1) = none) := by
      rcases dgF_some_or R R.length with ⟨q, h⟩ | ⟨k, q, hk, h, hn⟩
      · exact ⟨4, by omega, dgF_le 4 h, by omega⟩
      · exact ⟨k, by omega, dgF_le k h, fun _ => hn⟩
    repeat (first | ((with_reducible refine AW.regSeqK fun K_ hK_ => ?_); (try simp (config := { maxSteps := 1000000 }) (disch := refine Go.Av.hold_ ?_; first | (simp [hsz, z4, -List.getD_eq_getElem?_getD]; done) | omega | fail) [hsz, z4, -List.getD_eq_getElem?_getD]); first | (with_reducible refine callK_id ?_) | subst hK_) | ((with_reducible refine AW.regK fun K_ hK_ => ?_); (try simp (config := { maxSteps := 1000000 }) (disch := refine Go.Av.hold_ ?_; first | (simp [hsz, z4, -List.getD_eq_getElem?_getD]; done) | omega | fail) [hsz, z4, -List.getD_eq_getElem?_getD]); first | (with_reducible refine callK_id ?_) | subst hK_) | ((with_reducible refine AW.drawSeqK ?_ ?_ fun K_ hK_ => ?_); (focus kernel_rfl); (focus kernel_rfl); (try simp (config := { maxSteps := 1000000 }) (disch := refine Go.Av.hold_ ?_; first | (simp [hsz, z4, -List.getD_eq_getElem?_getD]; done) | omega | fail) [hsz, z4, -List.getD_eq_getElem?_getD]); first | (with_reducible refine callK_id ?_) | subst hK_) | ((with_reducible refine AW.drawK ?_ ?_ fun K_ hK_ => ?_); (focus kernel_rfl); (focus kernel_rfl); (try simp (config := { maxSteps := 1000000 }) (disch := refine Go.Av.hold_ ?_; first | (simp [hsz, z4, -List.getD_eq_getElem?_getD]; done) | omega | fail) [hsz, z4, -List.getD_eq_getElem?_getD]); first | (with_reducible refine callK_id ?_) | subst hK_) | (with_reducible refine AW.seq ?_) | (with_reducible refine AW.block ?_) | (with_reducible refine AW.skip ?_) | (with_reducible refine AW.ret ?_) | (with_reducible refine AW.exit ?_) | (with_reducible refine AW.scope ?_) | (with_reducible refine scopeQ_normal ?_) | (with_reducible refine scopeQ_ret ?_) | (with_reducible refine scopeQ_exit ?_) | (with_reducible refine thenQ_normal ?_) | (with_reducible refine thenQ_ret ?_) | (with_reducible refine thenQ_exit ?_) | (with_reducible refine blockQ_normal ?_) | (with_reducible refine blockQ_ret ?_) | (with_reducible refine blockQ_exit ?_) | ((with_reducible refine blockQ_out ?_ ?_); (focus decide)) | ((with_reducible refine AW.cond_id ?_); refine AW.condB rfl ?_; (first | (with_reducible refine condB_true ?_) | (with_reducible refine condB_false ?_))) | ((first | (with_reducible refine contG_id ?_) | (with_reducible refine contO_id ?_) | (with_reducible refine contV_id ?_) | (with_reducible refine bindO_id ?_) | (with_reducible refine bindV_id ?_) | (with_reducible refine runE_id ?_)); simp (config := { maxSteps := 1000000 }) (disch := refine Go.Av.hold_ ?_; first | (simp [hsz, z4, -List.getD_eq_getElem?_getD]; done) | omega | fail) [hsz, z4, -List.getD_eq_getElem?_getD]; try (with_reducible refine callK_id ?_)))
    refine AW.iter (true :: false :: false :: false :: true :: true :: true :: false :: false :: false :: false :: false :: false :: false :: false :: false :: false :: false :: false :: true :: false :: false :: false :: false :: false :: false :: false :: false :: false :: false :: false :: false :: false :: false :: false :: false :: false :: false :: false :: false :: false :: false :: false :: false :: false :: false :: false :: false :: false :: false :: false :: false :: false :: false :: false :: false :: false :: false :: false :: false :: false :: false :: false :: false :: false :: false :: false :: false :: false :: false :: false :: false :: false :: false :: false :: false :: false :: false :: false :: false :: false :: false :: false :: false :: false :: []) s (fun k => ⟨(.p (.str (txt R)) :: V.junk :: V.junk :: V.junk :: .row (bl O) 0 0 (O.length == 0) :: .p (.int .i64 ((nx R k).1 : Nat)) :: .p (.int .u32 ((nx R k).2 : Nat)) :: V.junk :: V.junk :: V.junk :: V.junk :: V.junk :: V.junk :: V.junk :: V.junk :: V.junk :: V.junk :: V.junk :: V.junk :: .p (.int .i64 k) :: V.junk :: V.junk :: V.junk :: V.junk :: V.junk :: V.junk :: V.junk :: V.junk :: V.junk :: V.junk :: V.junk :: V.junk :: V.junk :: V.junk :: V.junk :: V.junk :: V.junk :: V.junk :: V.junk :: V.junk :: V.junk :: V.junk :: V.junk :: V.junk :: V.junk :: V.junk :: V.junk :: V.junk :: V.junk :: V.junk :: V.junk :: V.junk :: V.junk :: V.junk :: V.junk :: V.junk :: V.junk :: V.junk :: V.junk :: V.junk :: V.junk :: V.junk :: V.junk :: V.junk :: V.junk :: V.junk :: V.junk :: V.junk :: V.junk :: V.junk :: V.junk :: V.junk :: V.junk :: V.junk :: V.junk :: V.junk :: V.junk :: V.junk :: V.junk :: V.junk :: V.junk :: V.junk :: V.junk :: V.junk :: V.junk :: []), ⟨[], [(0, 0)]⟩⟩) ?_ ?_
    · simp (config := { maxSteps := 1000000 }) (disch := refine Go.Av.hold_ ?_; first | (simp [nx, dgF, -List.getD_eq_getElem?_getD]; done) | omega | fail) [nx, dgF, -List.getD_eq_getElem?_getD]
    intro k hk
    obtain ⟨p, hp⟩ := hok k hk
    have hnx : nx R k = p := by unfold nx; rw [hp]; rfl
    obtain ⟨pb, p3, p2, p4⟩ := dgF_bound R R.length k p hp
    rw [hnx]
    obtain ⟨p1, pv⟩ := p
    simp only at pb p3 p2 p4
    have e1 : IntKind.i64.wrap ((k : Int) + 1) = k + 1 := wrap_i64 _ (by omega) (by omega)
    by_cases hk4 : k < 4
    · have hkz : (k : Int) < 4 := by omega
      have hkR : k < R.length := by omega
      have hg := txt_get R k
      have k17 := indexByte_ct letL (R.getD k 0#8)
      rw [lets_txt] at k17
      have hpb : pv < 262144 := Nat.lt_of_lt_of_le pb (Nat.le_trans (Nat.pow_le_pow_right (by decide) (show k ≤ 3 by omega)) (by decide))
      have hs6 := shl6 pv (by omega)
      by_cases hks : k < s
      · obtain ⟨q, hqq⟩ := hok (k + 1) (by omega)
        have hnx2 : nx R (k + 1) = q := by unfold nx; rw [hqq]; rfl
        rw [hnx2]
        obtain ⟨p', hp', hc⟩ := dgF_succ_some hqq
        rw [hp] at hp'
        obtain rfl := Option.some.inj hp'
        rcases hc with ⟨v, i0, l0, g0, p3e, rfl⟩ | ⟨f0, L4, hk2, rfl⟩
        · rw [i0] at k17
          simp only at p3e
          subst p3e
          have ho6 := or6 pv v (by omega) l0
          have hwv : IntKind.u32.wrap (v : Int) = v := by rw [wrap_u32]; omega
          generalize R.getD k 0#8 = c at *
          repeat (first | ((with_reducible refine callK_at 17 ?_); refine callK_p ?_; simp (config := { maxSteps := 1000000 }) (disch := refine Go.Av.hold_ ?_; first | (simp [hkz, hkR, hg, hsz, e1, hs6, ho6, hwv, -List.getD_eq_getElem?_getD]; done) | omega | fail) [hkz, hkR, hg, hsz, e1, hs6, ho6, hwv, -List.getD_eq_getElem?_getD]; refine callK1_of (Fn.ct k17 Try.call17) ?_; (try simp (config := { maxSteps := 1000000 }) (disch := refine Go.Av.hold_ ?_; first | (simp [hkz, hkR, hg, hsz, e1, hs6, ho6, hwv, -List.getD_eq_getElem?_getD]; done) | omega | fail) [hkz, hkR, hg, hsz, e1, hs6, ho6, hwv, -List.getD_eq_getElem?_getD]); first | (with_reducible refine callK_id ?_) | subst hK_) | ((with_reducible refine AW.regSeqK fun K_ hK_ => ?_); (try simp (config := { maxSteps := 1000000 }) (disch := refine Go.Av.hold_ ?_; first | (simp [hkz, hkR, hg, hsz, e1, hs6, ho6, hwv, -List.getD_eq_getElem?_getD]; done) | omega | fail) [hkz, hkR, hg, hsz, e1, hs6, ho6, hwv, -List.getD_eq_getElem?_getD]); first | (with_reducible refine callK_id ?_) | subst hK_) | ((with_reducible refine AW.regK fun K_ hK_ => ?_); (try simp (config := { maxSteps := 1000000 }) (disch := refine Go.Av.hold_ ?_; first | (simp [hkz, hkR, hg, hsz, e1, hs6, ho6, hwv, -List.getD_eq_getElem?_getD]; done) | omega | fail) [hkz, hkR, hg, hsz, e1, hs6, ho6, hwv, -List.getD_eq_getElem?_getD]); first | (with_reducible refine callK_id ?_) | subst hK_) | ((with_reducible refine AW.drawSeqK ?_ ?_ fun K_ hK_ => ?_); (focus kernel_rfl); (focus kernel_rfl); (try simp (config := { maxSteps := 1000000 }) (disch := refine Go.Av.hold_ ?_; first | (simp [hkz, hkR, hg, hsz, e1, hs6, ho6, hwv, -List.getD_eq_getElem?_getD]; done) | omega | fail) [hkz, hkR, hg, hsz, e1, hs6, ho6, hwv, -List.getD_eq_getElem?_getD]); first | (with_reducible refine callK_id ?_) | subst hK_) | ((with_reducible refine AW.drawK ?_ ?_ fun K_ hK_ => ?_); (focus kernel_rfl); (focus kernel_rfl); (try simp (config := { maxSteps := 1000000 }) (disch := refine Go.Av.hold_ ?_; first | (simp [hkz, hkR, hg, hsz, e1, hs6, ho6, hwv, -List.getD_eq_getElem?_getD]; done) | omega | fail) [hkz, hkR, hg, hsz, e1, hs6, ho6, hwv, -List.getD_eq_getElem?_getD]); first | (with_reducible refine callK_id ?_) | subst hK_) | (with_reducible refine AW.seq ?_) | (with_reducible refine AW.block ?_) | (with_reducible refine AW.skip ?_) | (with_reducible refine AW.ret ?_) | (with_reducible refine AW.exit ?_) | (with_reducible refine AW.scope ?_) | (with_reducible refine scopeQ_normal ?_) | (with_reducible refine scopeQ_ret ?_) | (with_reducible refine scopeQ_exit ?_) | (with_reducible refine thenQ_normal ?_) | (with_reducible refine thenQ_ret ?_) | (with_reducible refine thenQ_exit ?_) | (with_reducible refine blockQ_normal ?_) | (with_reducible refine blockQ_ret ?_) | (with_reducible refine blockQ_exit ?_) | ((with_reducible refine blockQ_out ?_ ?_); (focus decide)) | ((with_reducible refine AW.cond_id ?_); refine AW.condB rfl ?_; (first | (with_reducible refine condB_true ?_) | (with_reducible refine condB_false ?_))) | ((first | (with_reducible refine contG_id ?_) | (with_reducible refine contO_id ?_) | (with_reducible refine contV_id ?_) | (with_reducible refine bindO_id ?_) | (with_reducible refine bindV_id ?_) | (with_reducible refine runE_id ?_)); simp (config := { maxSteps := 1000000 }) (disch := refine Go.Av.hold_ ?_; first | (simp [hkz, hkR, hg, hsz, e1, hs6, ho6, hwv, -List.getD_eq_getElem?_getD]; done) | omega | fail) [hkz, hkR, hg, hsz, e1, hs6, ho6, hwv, -List.getD_eq_getElem?_getD]; try (with_reducible refine callK_id ?_)))
          refine ⟨hks, ?_⟩
          simp (config := { maxSteps := 1000000 }) (disch := refine Go.Av.hold_ ?_; first | (simp [-List.getD_eq_getElem?_getD]; done) | omega | fail) [-List.getD_eq_getElem?_getD]
        · rw [f0, idx_fill] at k17
          rw [show R.getD k 0 = 61#8 from f0, show ub 61#8 = 61 from rfl] at hg
          rw [show ub 61#8 = 61 from rfl] at k17
          have L4z : ((R.length : Int) == 4) = true := by rw [L4]; rfl
          have hk2z : (2 : Int) ≤ k := by omega
          have e2 : IntKind.i64.wrap ((p1 : Int) - 1) = ((p1 - 1 : Nat) : Int) := by rw [wrap_i64 _ (by omega) (by omega)]; omega
          repeat (first | ((with_reducible refine callK_at 17 ?_); refine callK_p ?_; simp (config := { maxSteps := 1000000 }) (disch := refine Go.Av.hold_ ?_; first | (simp [hkz, hkR, hg, hsz, e1, e2, hs6, L4z, hk2z, -List.getD_eq_getElem?_getD]; done) | omega | fail) [hkz, hkR, hg, hsz, e1, e2, hs6, L4z, hk2z, -List.getD_eq_getElem?_getD]; refine callK1_of (Fn.ct k17 Try.call17) ?_; (try simp (config := { maxSteps := 1000000 }) (disch := refine Go.Av.hold_ ?_; first | (simp [hkz, hkR, hg, hsz, e1, e2, hs6, L4z, hk2z, -List.getD_eq_getElem?_getD]; done) | omega | fail) [hkz, hkR, hg, hsz, e1, e2, hs6, L4z, hk2z, -List.getD_eq_getElem?_getD]); first | (with_reducible refine callK_id ?_) | subst hK_) | ((with_reducible refine AW.regSeqK fun K_ hK_ => ?_); (try simp (config := { maxSteps := 1000000 }) (disch := refine Go.Av.hold_ ?_; first | (simp [hkz, hkR, hg, hsz, e1, e2, hs6, L4z, hk2z, -List.getD_eq_getElem?_getD]; done) | omega | fail) [hkz, hkR, hg, hsz, e1, e2, hs6, L4z, hk2z, -List.getD_eq_getElem?_getD]); first | (with_reducible refine callK_id ?_) | subst hK_) | ((with_reducible refine AW.regK fun K_ hK_ => ?_); (try simp (config := { maxSteps := 1000000 }) (disch := refine Go.Av.hold_ ?_; first | (simp [hkz, hkR, hg, hsz, e1, e2, hs6, L4z, hk2z, -List.getD_eq_getElem?_getD]; done) | omega | fail) [hkz, hkR, hg, hsz, e1, e2, hs6, L4z, hk2z, -List.getD_eq_getElem?_getD]); first | (with_reducible refine callK_id ?_) | subst hK_) | ((with_reducible refine AW.drawSeqK ?_ ?_ fun K_ hK_ => ?_); (focus kernel_rfl); (focus kernel_rfl); (try simp (config := { maxSteps := 1000000 }) (disch := refine Go.Av.hold_ ?_; first | (simp [hkz, hkR, hg, hsz, e1, e2, hs6, L4z, hk2z, -List.getD_eq_getElem?_getD]; done) | omega | fail) [hkz, hkR, hg, hsz, e1, e2, hs6, L4z, hk2z, -List.getD_eq_getElem?_getD]); first | (with_reducible refine callK_id ?_) | subst hK_) | ((with_reducible refine AW.drawK ?_ ?_ fun K_ hK_ => ?_); (focus kernel_rfl); (focus kernel_rfl); (try simp (config := { maxSteps := 1000000 }) (disch := refine Go.Av.hold_ ?_; first | (simp [hkz, hkR, hg, hsz, e1, e2, hs6, L4z, hk2z, -List.getD_eq_getElem?_getD]; done) | omega | fail) [hkz, hkR, hg, hsz, e1, e2, hs6, L4z, hk2z, -List.getD_eq_getElem?_getD]); first | (with_reducible refine callK_id ?_) | subst hK_) | (with_reducible refine AW.seq ?_) | (with_reducible refine AW.block ?_) | (with_reducible refine AW.skip ?_) | (with_reducible refine AW.ret ?_) | (with_reducible refine AW.exit ?_) | (with_reducible refine AW.scope ?_) | (with_reducible refine scopeQ_normal ?_) | (with_reducible refine scopeQ_ret ?_) | (with_reducible refine scopeQ_exit ?_) | (with_reducible refine thenQ_normal ?_) | (with_reducible refine thenQ_ret ?_) | (with_reducible refine thenQ_exit ?_) | (with_reducible refine blockQ_normal ?_) | (with_reducible refine blockQ_ret ?_) | (with_reducible refine blockQ_exit ?_) | ((with_reducible refine blockQ_out ?_ ?_); (focus decide)) | ((with_reducible refine AW.cond_id ?_); refine AW.condB rfl ?_; (first | (with_reducible refine condB_true ?_) | (with_reducible refine condB_false ?_))) | ((first | (with_reducible refine contG_id ?_) | (with_reducible refine contO_id ?_) | (with_reducible refine contV_id ?_) | (with_reducible refine bindO_id ?_) | (with_reducible refine bindV_id ?_) | (with_reducible refine runE_id ?_)); simp (config := { maxSteps := 1000000 }) (disch := refine Go.Av.hold_ ?_; first | (simp [hkz, hkR, hg, hsz, e1, e2, hs6, L4z, hk2z, -List.getD_eq_getElem?_getD]; done) | omega | fail) [hkz, hkR, hg, hsz, e1, e2, hs6, L4z, hk2z, -List.getD_eq_getElem?_getD]; try (with_reducible refine callK_id ?_)))
          refine ⟨hks, ?_⟩
          simp (config := { maxSteps := 1000000 }) (disch := refine Go.Av.hold_ ?_; first | (simp [-List.getD_eq_getElem?_getD]; done) | omega | fail) [-List.getD_eq_getElem?_getD]
      · obtain rfl : k = s := by omega
        have hn := hbad hk4
        have hD : decL t = none := by
          have hG : dgrp R = none := by
            unfold dgrp
            cases h : dgF R R.length 4 with
            | none => rfl
            | some q => obtain ⟨p, hp⟩ := dgF_le 4 h (k + 1) (by omega); rw [hp] at hn; cases hn
          rcases hgo with h | h | h
          · obtain ⟨_, b, hb⟩ := hm1 j h
            rw [hR, hG] at hb; cases hb
          · omega
          · exact h.2.2.2
        obtain ⟨rfl, rfl⟩ := h2 hD
        rw [dgF, hp, Option.bind_some] at hn
        simp only at hn
        split at hn
        · cases hn
        rename_i hA
        split at hn
        · cases hn
        rename_i hB
        have hB2 : ¬ (ub (R.getD k 0#8) = 61 ∧ R.length = 4 ∧ 2 ≤ k) := fun e => hB ⟨ub_inj (b := 61#8) e.1, e.2⟩
        generalize R.getD k 0#8 = c at *
        generalize idxI letL c = I at *
        generalize ub c = C at *
        clear hB hn hok hbad hm1 hm2 hgo h1 h2 hq
        repeat' (first | ((with_reducible refine callK_at 17 ?_); refine callK_p ?_; simp (config := { maxSteps := 1000000 }) (disch := refine Go.Av.hold_ ?_; first | (simp [hkz, hkR, hg, hsz, -List.getD_eq_getElem?_getD]; done) | omega | fail) [hkz, hkR, hg, hsz, -List.getD_eq_getElem?_getD]; refine callK1_of (Fn.ct k17 Try.call17) ?_; (try simp (config := { maxSteps := 1000000 }) (disch := refine Go.Av.hold_ ?_; first | (simp [hkz, hkR, hg, hsz, -List.getD_eq_getElem?_getD]; done) | omega | fail) [hkz, hkR, hg, hsz, -List.getD_eq_getElem?_getD]); first | (with_reducible refine callK_id ?_) | subst hK_) | ((with_reducible refine AW.regSeqK fun K_ hK_ => ?_); (try simp (config := { maxSteps := 1000000 }) (disch := refine Go.Av.hold_ ?_; first | (simp [hkz, hkR, hg, hsz, -List.getD_eq_getElem?_getD]; done) | omega | fail) [hkz, hkR, hg, hsz, -List.getD_eq_getElem?_getD]); first | (with_reducible refine callK_id ?_) | subst hK_) | ((with_reducible refine AW.regK fun K_ hK_ => ?_); (try simp (config := { maxSteps := 1000000 }) (disch := refine Go.Av.hold_ ?_; first | (simp [hkz, hkR, hg, hsz, -List.getD_eq_getElem?_getD]; done) | omega | fail) [hkz, hkR, hg, hsz, -List.getD_eq_getElem?_getD]); first | (with_reducible refine callK_id ?_) | subst hK_) | ((with_reducible refine AW.drawSeqK ?_ ?_ fun K_ hK_ => ?_); (focus kernel_rfl); (focus kernel_rfl); (try simp (config := { maxSteps := 1000000 }) (disch := refine Go.Av.hold_ ?_; first | (simp [hkz, hkR, hg, hsz, -List.getD_eq_getElem?_getD]; done) | omega | fail) [hkz, hkR, hg, hsz, -List.getD_eq_getElem?_getD]); first | (with_reducible refine callK_id ?_) | subst hK_) | ((with_reducible refine AW.drawK ?_ ?_ fun K_ hK_ => ?_); (focus kernel_rfl); (focus kernel_rfl); (try simp (config := { maxSteps := 1000000 }) (disch := refine Go.Av.hold_ ?_; first | (simp [hkz, hkR, hg, hsz, -List.getD_eq_getElem?_getD]; done) | omega | fail) [hkz, hkR, hg, hsz, -List.getD_eq_getElem?_getD]); first | (with_reducible refine callK_id ?_) | subst hK_) | (with_reducible refine AW.seq ?_) | (with_reducible refine AW.block ?_) | (with_reducible refine AW.skip ?_) | (with_reducible refine AW.ret ?_) | (with_reducible refine AW.exit ?_) | (with_reducible refine AW.scope ?_) | (with_reducible refine scopeQ_normal ?_) | (with_reducible refine scopeQ_ret ?_) | (with_reducible refine scopeQ_exit ?_) | (with_reducible refine thenQ_normal ?_) | (with_reducible refine thenQ_ret ?_) | (with_reducible refine thenQ_exit ?_) | (with_reducible refine blockQ_normal ?_) | (with_reducible refine blockQ_ret ?_) | (with_reducible refine blockQ_exit ?_) | ((with_reducible refine blockQ_out ?_ ?_); (focus decide)) | ((with_reducible refine AW.cond_id ?_); refine AW.condB rfl ?_; (first | (with_reducible refine condB_true ?_) | (with_reducible refine condB_false ?_))) | ((first | (with_reducible refine contG_id ?_) | (with_reducible refine contO_id ?_) | (with_reducible refine contV_id ?_) | (with_reducible refine bindO_id ?_) | (with_reducible refine bindV_id ?_) | (with_reducible refine runE_id ?_)); simp (config := { maxSteps := 1000000 }) (disch := refine Go.Av.hold_ ?_; first | (simp [hkz, hkR, hg, hsz, -List.getD_eq_getElem?_getD]; done) | omega | fail) [hkz, hkR, hg, hsz, -List.getD_eq_getElem?_getD]; try (with_reducible refine callK_id ?_)) | ((with_reducible refine contG_split (fun hc => ?_) (fun hc => ?_)) <;> (try simp only [hc]) <;> (try simp only [decide_eq_true_eq, decide_eq_false_iff_not, beq_iff_eq, beq_eq_false_iff_ne, bne_iff_ne, bne_eq_false_iff_eq, ne_eq, Bool.not_eq_true, Bool.not_eq_false] at hc) <;> (first | (exfalso; omega; done) | skip)) | (((with_reducible refine AW.cond_id ?_); refine AW.condB rfl ?_; (with_reducible refine condB_split (fun hc => ?_) (fun hc => ?_))) <;> (try simp only [hc]) <;> (try simp only [decide_eq_true_eq, decide_eq_false_iff_not, beq_iff_eq, beq_eq_false_iff_ne, bne_iff_ne, bne_eq_false_iff_eq, ne_eq, Bool.not_eq_true, Bool.not_eq_false] at hc) <;> (first | (exfalso; omega; done) | skip)))
        all_goals simp (config := { maxSteps := 1000000 }) (disch := refine Go.Av.hold_ ?_; first | (simp [-List.getD_eq_getElem?_getD]; done) | omega | fail) [-List.getD_eq_getElem?_getD]
    · obtain rfl : k = 4 := by omega
      obtain rfl : s = 4 := by omega
      have hpv : pv < 16777216 := Nat.lt_of_lt_of_le pb (by decide)
      have r16 : shiftBin .shr .u32 (pv : Int) 16 = some (.int .u32 ((pv / 65536 : Nat) : Int)) := shrU pv 16 (by omega) (by decide)
      have r8 : shiftBin .shr .u32 (pv : Int) 8 = some (.int .u32 ((pv / 256 : Nat) : Int)) := shrU pv 8 (by omega) (by decide)
      rw [← show ((pv / 65536 : Nat) : Int) = _ from rfl] at r16
      have hb3 : b3 pv = [BitVec.ofNat 8 (pv / 65536), BitVec.ofNat 8 (pv / 256), BitVec.ofNat 8 pv] := rfl
      have w0 := wrap8N (pv / 65536)
      have w1 := wrap8N (pv / 256)
      have w2 := wrap8N pv
      generalize hX0 : BitVec.ofNat 8 (pv / 65536) = x0 at *
      generalize hX1 : BitVec.ofNat 8 (pv / 256) = x1 at *
      generalize hX2 : BitVec.ofNat 8 pv = x2 at *
      generalize (pv / 65536) = y0 at *
      generalize (pv / 256) = y1 at *
      have p13 : (p1 : Int) ≤ 3 := by omega
      have hdg : dgrp R = if ([x0, x1, x2].drop p1).all (· == 0#8) then some ([x0, x1, x2].take p1) else none := by
        unfold dgrp
        rw [hp, Option.bind_some]
        show (if ((b3 pv).drop p1).all (· == 0#8) then some ((b3 pv).take p1) else none) = _
        rw [hb3]
      have hap : appRow (bl O) (Row.ints .u8 (List.take p1 [ub x0, ub x1, ub x2])) = some (bl (O ++ [x0, x1, x2].take p1)) := by
        rw [show [ub x0, ub x1, ub x2] = [x0, x1, x2].map ub from rfl, ← List.map_take]; exact app_bl _ _
      have hel : ∀ i, (List.drop p1 [ub x0, ub x1, ub x2]).getD i 0 = ub (([x0, x1, x2].drop p1).getD i 0#8) := by
        intro i
        rw [show [ub x0, ub x1, ub x2] = [x0, x1, x2].map ub from rfl, ← List.map_drop]
        simp only [List.getD_eq_getElem?_getD, List.getElem?_map]
        cases ([x0, x1, x2].drop p1)[i]? <;> rfl
      have hEl : ([x0, x1, x2].drop p1).length = 3 - p1 := by rw [List.length_drop]; rfl
      have htl : ([x0, x1, x2].take p1).length = p1 := by rw [List.length_take]; simp; omega
      have hDl : (List.drop p1 [ub x0, ub x1, ub x2]).length = 3 - p1 := by rw [List.length_drop]; rfl
      generalize hDg : List.drop p1 [ub x0, ub x1, ub x2] = D at *
      generalize hEg : [x0, x1, x2].drop p1 = E at *
      have hz : (E.all (· == 0#8) = true ∧ ∀ i, D.getD i 0 = 0) ∨ (E.all (· == 0#8) = false ∧ ∃ z, z < 3 - p1 ∧ D.getD z 0 ≠ 0 ∧ ∀ i, i < z → D.getD i 0 = 0) := by
        cases ha : E.all (· == 0#8) with
        | true =>
          refine .inl ⟨rfl, fun i => ?_⟩
          rw [hel]
          by_cases hi : i < E.length
          · have := List.all_eq_true.1 ha (E[i]) (List.getElem_mem hi)
            rw [List.getD_eq_getElem?_getD, List.getElem?_eq_getElem hi]
            simp at this; rw [Option.getD_some, this]; rfl
          · rw [List.getD_eq_getElem?_getD, List.getElem?_eq_none (by omega)]; rfl
        | false =>
          refine .inr ⟨rfl, ?_⟩
          have h0 : ∀ i, D.getD i 0 = 0 ↔ E.getD i 0#8 = 0#8 := fun i => by
            rw [hel]
            exact ⟨fun h => ub_inj (b := 0#8) h, fun h => by rw [h]; rfl⟩
          have hlen : E.length = 0 ∨ E.length = 1 ∨ E.length = 2 := by omega
          rcases hlen with h | h | h
          · obtain rfl := List.eq_nil_of_length_eq_zero h; simp at ha
          · obtain ⟨a, rfl⟩ := List.length_eq_one_iff.1 h
            simp at ha
            exact ⟨0, by omega, fun e => ha ((h0 0).1 e), by omega⟩
          · obtain ⟨a, b, rfl⟩ : ∃ a b, E = [a, b] := by match E, h with | [a, b], _ => exact ⟨a, b, rfl⟩
            simp at ha
            by_cases hA : a = 0#8
            · exact ⟨1, by omega, fun e => ha hA ((h0 1).1 e), fun i hi => by rw [show i = 0 by omega]; exact (h0 0).2 hA⟩
            · exact ⟨0, by omega, fun e => hA ((h0 0).1 e), by omega⟩
      have h12 : (3 : Int) - p1 = ((3 - p1 : Nat) : Int) := by omega
      repeat (first | ((with_reducible refine AW.regSeqK fun K_ hK_ => ?_); (try simp (config := { maxSteps := 1000000 }) (disch := refine Go.Av.hold_ ?_; first | (simp [r16, r8, w0, w1, w2, p3, p13, hDg, -List.getD_eq_getElem?_getD]; done) | omega | fail) [r16, r8, w0, w1, w2, p3, p13, hDg, -List.getD_eq_getElem?_getD]); first | (with_reducible refine callK_id ?_) | subst hK_) | ((with_reducible refine AW.regK fun K_ hK_ => ?_); (try simp (config := { maxSteps := 1000000 }) (disch := refine Go.Av.hold_ ?_; first | (simp [r16, r8, w0, w1, w2, p3, p13, hDg, -List.getD_eq_getElem?_getD]; done) | omega | fail) [r16, r8, w0, w1, w2, p3, p13, hDg, -List.getD_eq_getElem?_getD]); first | (with_reducible refine callK_id ?_) | subst hK_) | ((with_reducible refine AW.drawSeqK ?_ ?_ fun K_ hK_ => ?_); (focus kernel_rfl); (focus kernel_rfl); (try simp (config := { maxSteps := 1000000 }) (disch := refine Go.Av.hold_ ?_; first | (simp [r16, r8, w0, w1, w2, p3, p13, hDg, -List.getD_eq_getElem?_getD]; done) | omega | fail) [r16, r8, w0, w1, w2, p3, p13, hDg, -List.getD_eq_getElem?_getD]); first | (with_reducible refine callK_id ?_) | subst hK_) | ((with_reducible refine AW.drawK ?_ ?_ fun K_ hK_ => ?_); (focus kernel_rfl); (focus kernel_rfl); (try simp (config := { maxSteps := 1000000 }) (disch := refine Go.Av.hold_ ?_; first | (simp [r16, r8, w0, w1, w2, p3, p13, hDg, -List.getD_eq_getElem?_getD]; done) | omega | fail) [r16, r8, w0, w1, w2, p3, p13, hDg, -List.getD_eq_getElem?_getD]); first | (with_reducible refine callK_id ?_) | subst hK_) | (with_reducible refine AW.seq ?_) | (with_reducible refine AW.block ?_) | (with_reducible refine AW.skip ?_) | (with_reducible refine AW.ret ?_) | (with_reducible refine AW.exit ?_) | (with_reducible refine AW.scope ?_) | (with_reducible refine scopeQ_normal ?_) | (with_reducible refine scopeQ_ret ?_) | (with_reducible refine scopeQ_exit ?_) | (with_reducible refine thenQ_normal ?_) | (with_reducible refine thenQ_ret ?_) | (with_reducible refine thenQ_exit ?_) | (with_reducible refine blockQ_normal ?_) | (with_reducible refine blockQ_ret ?_) | (with_reducible refine blockQ_exit ?_) | ((with_reducible refine blockQ_out ?_ ?_); (focus decide)) | ((with_reducible refine AW.cond_id ?_); refine AW.condB rfl ?_; (first | (with_reducible refine condB_true ?_) | (with_reducible refine condB_false ?_))) | ((first | (with_reducible refine contG_id ?_) | (with_reducible refine contO_id ?_) | (with_reducible refine contV_id ?_) | (with_reducible refine bindO_id ?_) | (with_reducible refine bindV_id ?_) | (with_reducible refine runE_id ?_)); simp (config := { maxSteps := 1000000 }) (disch := refine Go.Av.hold_ ?_; first | (simp [r16, r8, w0, w1, w2, p3, p13, hDg, -List.getD_eq_getElem?_getD]; done) | omega | fail) [r16, r8, w0, w1, w2, p3, p13, hDg, -List.getD_eq_getElem?_getD]; try (with_reducible refine callK_id ?_)))
      rcases hz with ⟨ha, hz0⟩ | ⟨ha, z, hz1, hz2, hz3⟩
      · rw [ha] at hdg
        simp only [if_true] at hdg
        have hjm : j < m := by
          rcases hgo with h | h | h
          · exact h
          · omega
          · rw [hdg] at h; cases h.2.2.1
        rw [hdg] at hds
        simp only [Option.getD_some] at hds
        subst hds
        refine AW.iter (true :: false :: false :: false :: true :: true :: false :: false :: false :: true :: false :: false :: false :: false :: false :: false :: false :: false :: false :: false :: false :: false :: false :: false :: false :: false :: false :: false :: false :: false :: false :: false :: false :: false :: false :: false :: false :: false :: false :: false :: false :: false :: false :: false :: false :: false :: false :: false :: false :: false :: false :: false :: false :: false :: false :: false :: false :: false :: false :: false :: false :: false :: false :: false :: false :: false :: false :: false :: true :: true :: true :: false :: false :: false :: false :: false :: false :: false :: false :: false :: false :: false :: false :: false :: false :: []) (3 - p1) (fun i => ⟨(.p (.str (txt R)) :: V.junk :: V.junk :: V.junk :: .row (bl O) 0 0 (O.length == 0) :: .p (.int .i64 p1) :: V.junk :: V.junk :: V.junk :: .row (.ints .u8 [ub x0, ub x1, ub x2]) 1 0 false :: V.junk :: V.junk :: V.junk :: V.junk :: V.junk :: V.junk :: V.junk :: V.junk :: V.junk :: V.junk :: V.junk :: V.junk :: V.junk :: V.junk :: V.junk :: V.junk :: V.junk :: V.junk :: V.junk :: V.junk :: V.junk :: V.junk :: V.junk :: V.junk :: V.junk :: V.junk :: V.junk :: V.junk :: V.junk :: V.junk :: V.junk :: V.junk :: V.junk :: V.junk :: V.junk :: V.junk :: V.junk :: V.junk :: V.junk :: V.junk :: V.junk :: V.junk :: V.junk :: V.junk :: V.junk :: V.junk :: V.junk :: V.junk :: V.junk :: V.junk :: V.junk :: V.junk :: V.junk :: V.junk :: V.junk :: V.junk :: V.junk :: V.junk :: .row (.ints .u8 D) 1 0 false :: .p (.int .i64 (3 - p1 : Nat)) :: .p (.int .i64 i) :: V.junk :: V.junk :: V.junk :: V.junk :: V.junk :: V.junk :: V.junk :: V.junk :: V.junk :: V.junk :: V.junk :: V.junk :: V.junk :: V.junk :: []), ⟨[], [(0, 0), (1, 0)]⟩⟩) ?_ ?_
        · simp (config := { maxSteps := 1000000 }) (disch := refine Go.Av.hold_ ?_; first | (simp [hDl, -List.getD_eq_getElem?_getD]; done) | omega | fail) [hDl, -List.getD_eq_getElem?_getD]
        intro i hi
        have e1 : IntKind.i64.wrap ((i : Int) + 1) = i + 1 := wrap_i64 _ (by omega) (by omega)
        have hzi := hz0 i
        by_cases hip : i < 3 - p1
        · have hipz : (i : Int) < ((3 - p1 : Nat) : Int) := by omega
          repeat (first | ((with_reducible refine AW.regSeqK fun K_ hK_ => ?_); (try simp (config := { maxSteps := 1000000 }) (disch := refine Go.Av.hold_ ?_; first | (simp [hip, hipz, e1, hzi, hDl, -List.getD_eq_getElem?_getD]; done) | omega | fail) [hip, hipz, e1, hzi, hDl, -List.getD_eq_getElem?_getD]); first | (with_reducible refine callK_id ?_) | subst hK_) | ((with_reducible refine AW.regK fun K_ hK_ => ?_); (try simp (config := { maxSteps := 1000000 }) (disch := refine Go.Av.hold_ ?_; first | (simp [hip, hipz, e1, hzi, hDl, -List.getD_eq_getElem?_getD]; done) | omega | fail) [hip, hipz, e1, hzi, hDl, -List.getD_eq_getElem?_getD]); first | (with_reducible refine callK_id ?_) | subst hK_) | ((with_reducible refine AW.drawSeqK ?_ ?_ fun K_ hK_ => ?_); (focus kernel_rfl); (focus kernel_rfl); (try simp (config := { maxSteps := 1000000 }) (disch := refine Go.Av.hold_ ?_; first | (simp [hip, hipz, e1, hzi, hDl, -List.getD_eq_getElem?_getD]; done) | omega | fail) [hip, hipz, e1, hzi, hDl, -List.getD_eq_getElem?_getD]); first | (with_reducible refine callK_id ?_) | subst hK_) | ((with_reducible refine AW.drawK ?_ ?_ fun K_ hK_ => ?_); (focus kernel_rfl); (focus kernel_rfl); (try simp (config := { maxSteps := 1000000 }) (disch := refine Go.Av.hold_ ?_; first | (simp [hip, hipz, e1, hzi, hDl, -List.getD_eq_getElem?_getD]; done) | omega | fail) [hip, hipz, e1, hzi, hDl, -List.getD_eq_getElem?_getD]); first | (with_reducible refine callK_id ?_) | subst hK_) | (with_reducible refine AW.seq ?_) | (with_reducible refine AW.block ?_) | (with_reducible refine AW.skip ?_) | (with_reducible refine AW.ret ?_) | (with_reducible refine AW.exit ?_) | (with_reducible refine AW.scope ?_) | (with_reducible refine scopeQ_normal ?_) | (with_reducible refine scopeQ_ret ?_) | (with_reducible refine scopeQ_exit ?_) | (with_reducible refine thenQ_normal ?_) | (with_reducible refine thenQ_ret ?_) | (with_reducible refine thenQ_exit ?_) | (with_reducible refine blockQ_normal ?_) | (with_reducible refine blockQ_ret ?_) | (with_reducible refine blockQ_exit ?_) | ((with_reducible refine blockQ_out ?_ ?_); (focus decide)) | ((with_reducible refine AW.cond_id ?_); refine AW.condB rfl ?_; (first | (with_reducible refine condB_true ?_) | (with_reducible refine condB_false ?_))) | ((first | (with_reducible refine contG_id ?_) | (with_reducible refine contO_id ?_) | (with_reducible refine contV_id ?_) | (with_reducible refine bindO_id ?_) | (with_reducible refine bindV_id ?_) | (with_reducible refine runE_id ?_)); simp (config := { maxSteps := 1000000 }) (disch := refine Go.Av.hold_ ?_; first | (simp [hip, hipz, e1, hzi, hDl, -List.getD_eq_getElem?_getD]; done) | omega | fail) [hip, hipz, e1, hzi, hDl, -List.getD_eq_getElem?_getD]; try (with_reducible refine callK_id ?_)))
          refine ⟨hip, ?_⟩
          simp (config := { maxSteps := 1000000 }) (disch := refine Go.Av.hold_ ?_; first | (simp [-List.getD_eq_getElem?_getD]; done) | omega | fail) [-List.getD_eq_getElem?_getD]
        · have hipz : ¬ (i : Int) < ((3 - p1 : Nat) : Int) := by omega
          have hle4 : (O.length + p1 : Nat) ≤ 140737488355328 := by omega
          repeat (first | ((with_reducible refine AW.regSeqK fun K_ hK_ => ?_); (try simp (config := { maxSteps := 1000000 }) (disch := refine Go.Av.hold_ ?_; first | (simp [hip, hipz, hap, p3, p13, hsz, h4R, z4, hdd, hle4, -List.getD_eq_getElem?_getD]; done) | omega | fail) [hip, hipz, hap, p3, p13, hsz, h4R, z4, hdd, hle4, -List.getD_eq_getElem?_getD]); first | (with_reducible refine callK_id ?_) | subst hK_) | ((with_reducible refine AW.regK fun K_ hK_ => ?_); (try simp (config := { maxSteps := 1000000 }) (disch := refine Go.Av.hold_ ?_; first | (simp [hip, hipz, hap, p3, p13, hsz, h4R, z4, hdd, hle4, -List.getD_eq_getElem?_getD]; done) | omega | fail) [hip, hipz, hap, p3, p13, hsz, h4R, z4, hdd, hle4, -List.getD_eq_getElem?_getD]); first | (with_reducible refine callK_id ?_) | subst hK_) | ((with_reducible refine AW.drawSeqK ?_ ?_ fun K_ hK_ => ?_); (focus kernel_rfl); (focus kernel_rfl); (try simp (config := { maxSteps := 1000000 }) (disch := refine Go.Av.hold_ ?_; first | (simp [hip, hipz, hap, p3, p13, hsz, h4R, z4, hdd, hle4, -List.getD_eq_getElem?_getD]; done) | omega | fail) [hip, hipz, hap, p3, p13, hsz, h4R, z4, hdd, hle4, -List.getD_eq_getElem?_getD]); first | (with_reducible refine callK_id ?_) | subst hK_) | ((with_reducible refine AW.drawK ?_ ?_ fun K_ hK_ => ?_); (focus kernel_rfl); (focus kernel_rfl); (try simp (config := { maxSteps := 1000000 }) (disch := refine Go.Av.hold_ ?_; first | (simp [hip, hipz, hap, p3, p13, hsz, h4R, z4, hdd, hle4, -List.getD_eq_getElem?_getD]; done) | omega | fail) [hip, hipz, hap, p3, p13, hsz, h4R, z4, hdd, hle4, -List.getD_eq_getElem?_getD]); first | (with_reducible refine callK_id ?_) | subst hK_) | (with_reducible refine AW.seq ?_) | (with_reducible refine AW.block ?_) | (with_reducible refine AW.skip ?_) | (with_reducible refine AW.ret ?_) | (with_reducible refine AW.exit ?_) | (with_reducible refine AW.scope ?_) | (with_reducible refine scopeQ_normal ?_) | (with_reducible refine scopeQ_ret ?_) | (with_reducible refine scopeQ_exit ?_) | (with_reducible refine thenQ_normal ?_) | (with_reducible refine thenQ_ret ?_) | (with_reducible refine thenQ_exit ?_) | (with_reducible refine blockQ_normal ?_) | (with_reducible refine blockQ_ret ?_) | (with_reducible refine blockQ_exit ?_) | ((with_reducible refine blockQ_out ?_ ?_); (focus decide)) | ((with_reducible refine AW.cond_id ?_); refine AW.condB rfl ?_; (first | (with_reducible refine condB_true ?_) | (with_reducible refine condB_false ?_))) | ((first | (with_reducible refine contG_id ?_) | (with_reducible refine contO_id ?_) | (with_reducible refine contV_id ?_) | (with_reducible refine bindO_id ?_) | (with_reducible refine bindV_id ?_) | (with_reducible refine runE_id ?_)); simp (config := { maxSteps := 1000000 }) (disch := refine Go.Av.hold_ ?_; first | (simp [hip, hipz, hap, p3, p13, hsz, h4R, z4, hdd, hle4, -List.getD_eq_getElem?_getD]; done) | omega | fail) [hip, hipz, hap, p3, p13, hsz, h4R, z4, hdd, hle4, -List.getD_eq_getElem?_getD]; try (with_reducible refine callK_id ?_)))
          refine ⟨hjm, ?_⟩
          have hx : (txt R).extract 4 R.length = txt R2 := by rw [txt_extract, List.take_length, hdd]
          simp (config := { maxSteps := 1000000 }) (disch := refine Go.Av.hold_ ?_; first | (simp [hx, beq_zero_and, -List.getD_eq_getElem?_getD]; done) | omega | fail) [hx, beq_zero_and, -List.getD_eq_getElem?_getD]
      · rw [ha] at hdg
        simp only [Bool.false_eq_true, if_false] at hdg
        have hD : decL t = none := by
          rcases hgo with h | h | h
          · obtain ⟨_, b, hb⟩ := hm1 j h
            rw [hR, hdg] at hb; cases hb
          · omega
          · exact h.2.2.2
        obtain ⟨rfl, rfl⟩ := h2 hD
        refine AW.iter (true :: false :: false :: false :: true :: true :: false :: false :: false :: true :: false :: false :: false :: false :: false :: false :: false :: false :: false :: false :: false :: false :: false :: false :: false :: false :: false :: false :: false :: false :: false :: false :: false :: false :: false :: false :: false :: false :: false :: false :: false :: false :: false :: false :: false :: false :: false :: false :: false :: false :: false :: false :: false :: false :: false :: false :: false :: false :: false :: false :: false :: false :: false :: false :: false :: false :: false :: false :: true :: true :: true :: false :: false :: false :: false :: false :: false :: false :: false :: false :: false :: false :: false :: false :: false :: []) z (fun i => ⟨(.p (.str (txt R)) :: V.junk :: V.junk :: V.junk :: .row (bl O) 0 0 (O.length == 0) :: .p (.int .i64 p1) :: V.junk :: V.junk :: V.junk :: .row (.ints .u8 [ub x0, ub x1, ub x2]) 1 0 false :: V.junk :: V.junk :: V.junk :: V.junk :: V.junk :: V.junk :: V.junk :: V.junk :: V.junk :: V.junk :: V.junk :: V.junk :: V.junk :: V.junk :: V.junk :: V.junk :: V.junk :: V.junk :: V.junk :: V.junk :: V.junk :: V.junk :: V.junk :: V.junk :: V.junk :: V.junk :: V.junk :: V.junk :: V.junk :: V.junk :: V.junk :: V.junk :: V.junk :: V.junk :: V.junk :: V.junk :: V.junk :: V.junk :: V.junk :: V.junk :: V.junk :: V.junk :: V.junk :: V.junk :: V.junk :: V.junk :: V.junk :: V.junk :: V.junk :: V.junk :: V.junk :: V.junk :: V.junk :: V.junk :: V.junk :: V.junk :: V.junk :: V.junk :: .row (.ints .u8 D) 1 0 false :: .p (.int .i64 (3 - p1 : Nat)) :: .p (.int .i64 i) :: V.junk :: V.junk :: V.junk :: V.junk :: V.junk :: V.junk :: V.junk :: V.junk :: V.junk :: V.junk :: V.junk :: V.junk :: V.junk :: V.junk :: []), ⟨[], [(0, 0), (1, 0)]⟩⟩) ?_ ?_
        · simp (config := { maxSteps := 1000000 }) (disch := refine Go.Av.hold_ ?_; first | (simp [hDl, -List.getD_eq_getElem?_getD]; done) | omega | fail) [hDl, -List.getD_eq_getElem?_getD]
        intro i hi
        have e1 : IntKind.i64.wrap ((i : Int) + 1) = i + 1 := wrap_i64 _ (by omega) (by omega)
        have hip : i < 3 - p1 := by omega
        have hipz : (i : Int) < ((3 - p1 : Nat) : Int) := by omega
        by_cases hiz : i < z
        · have hzi := hz3 i hiz
          repeat (first | ((with_reducible refine AW.regSeqK fun K_ hK_ => ?_); (try simp (config := { maxSteps := 1000000 }) (disch := refine Go.Av.hold_ ?_; first | (simp [hip, hipz, e1, hzi, hDl, -List.getD_eq_getElem?_getD]; done) | omega | fail) [hip, hipz, e1, hzi, hDl, -List.getD_eq_getElem?_getD]); first | (with_reducible refine callK_id ?_) | subst hK_) | ((with_reducible refine AW.regK fun K_ hK_ => ?_); (try simp (config := { maxSteps := 1000000 }) (disch := refine Go.Av.hold_ ?_; first | (simp [hip, hipz, e1, hzi, hDl, -List.getD_eq_getElem?_getD]; done) | omega | fail) [hip, hipz, e1, hzi, hDl, -List.getD_eq_getElem?_getD]); first | (with_reducible refine callK_id ?_) | subst hK_) | ((with_reducible refine AW.drawSeqK ?_ ?_ fun K_ hK_ => ?_); (focus kernel_rfl); (focus kernel_rfl); (try simp (config := { maxSteps := 1000000 }) (disch := refine Go.Av.hold_ ?_; first | (simp [hip, hipz, e1, hzi, hDl, -List.getD_eq_getElem?_getD]; done) | omega | fail) [hip, hipz, e1, hzi, hDl, -List.getD_eq_getElem?_getD]); first | (with_reducible refine callK_id ?_) | subst hK_) | ((with_reducible refine AW.drawK ?_ ?_ fun K_ hK_ => ?_); (focus kernel_rfl); (focus kernel_rfl); (try simp (config := { maxSteps := 1000000 }) (disch := refine Go.Av.hold_ ?_; first | (simp [hip, hipz, e1, hzi, hDl, -List.getD_eq_getElem?_getD]; done) | omega | fail) [hip, hipz, e1, hzi, hDl, -List.getD_eq_getElem?_getD]); first | (with_reducible refine callK_id ?_) | subst hK_) | (with_reducible refine AW.seq ?_) | (with_reducible refine AW.block ?_) | (with_reducible refine AW.skip ?_) | (with_reducible refine AW.ret ?_) | (with_reducible refine AW.exit ?_) | (with_reducible refine AW.scope ?_) | (with_reducible refine scopeQ_normal ?_) | (with_reducible refine scopeQ_ret ?_) | (with_reducible refine scopeQ_exit ?_) | (with_reducible refine thenQ_normal ?_) | (with_reducible refine thenQ_ret ?_) | (with_reducible refine thenQ_exit ?_) | (with_reducible refine blockQ_normal ?_) | (with_reducible refine blockQ_ret ?_) | (with_reducible refine blockQ_exit ?_) | ((with_reducible refine blockQ_out ?_ ?_); (focus decide)) | ((with_reducible refine AW.cond_id ?_); refine AW.condB rfl ?_; (first | (with_reducible refine condB_true ?_) | (with_reducible refine condB_false ?_))) | ((first | (with_reducible refine contG_id ?_) | (with_reducible refine contO_id ?_) | (with_reducible refine contV_id ?_) | (with_reducible refine bindO_id ?_) | (with_reducible refine bindV_id ?_) | (with_reducible refine runE_id ?_)); simp (config := { maxSteps := 1000000 }) (disch := refine Go.Av.hold_ ?_; first | (simp [hip, hipz, e1, hzi, hDl, -List.getD_eq_getElem?_getD]; done) | omega | fail) [hip, hipz, e1, hzi, hDl, -List.getD_eq_getElem?_getD]; try (with_reducible refine callK_id ?_)))
          refine ⟨hiz, ?_⟩
          simp (config := { maxSteps := 1000000 }) (disch := refine Go.Av.hold_ ?_; first | (simp [-List.getD_eq_getElem?_getD]; done) | omega | fail) [-List.getD_eq_getElem?_getD]
        · obtain rfl : i = z := by omega
          have hzi : (D.getD i 0 != 0) = true := bne_iff_ne.2 hz2
          repeat (first | ((with_reducible refine AW.regSeqK fun K_ hK_ => ?_); (try simp (config := { maxSteps := 1000000 }) (disch := refine Go.Av.hold_ ?_; first | (simp [hip, hipz, e1, hzi, hDl, -List.getD_eq_getElem?_getD]; done) | omega | fail) [hip, hipz, e1, hzi, hDl, -List.getD_eq_getElem?_getD]); first | (with_reducible refine callK_id ?_) | subst hK_) | ((with_reducible refine AW.regK fun K_ hK_ => ?_); (try simp (config := { maxSteps := 1000000 }) (disch := refine Go.Av.hold_ ?_; first | (simp [hip, hipz, e1, hzi, hDl, -List.getD_eq_getElem?_getD]; done) | omega | fail) [hip, hipz, e1, hzi, hDl, -List.getD_eq_getElem?_getD]); first | (with_reducible refine callK_id ?_) | subst hK_) | ((with_reducible refine AW.drawSeqK ?_ ?_ fun K_ hK_ => ?_); (focus kernel_rfl); (focus kernel_rfl); (try simp (config := { maxSteps := 1000000 }) (disch := refine Go.Av.hold_ ?_; first | (simp [hip, hipz, e1, hzi, hDl, -List.getD_eq_getElem?_getD]; done) | omega | fail) [hip, hipz, e1, hzi, hDl, -List.getD_eq_getElem?_getD]); first | (with_reducible refine callK_id ?_) | subst hK_) | ((with_reducible refine AW.drawK ?_ ?_ fun K_ hK_ => ?_); (focus kernel_rfl); (focus kernel_rfl); (try simp (config := { maxSteps := 1000000 }) (disch := refine Go.Av.hold_ ?_; first | (simp [hip, hipz, e1, hzi, hDl, -List.getD_eq_getElem?_getD]; done) | omega | fail) [hip, hipz, e1, hzi, hDl, -List.getD_eq_getElem?_getD]); first | (with_reducible refine callK_id ?_) | subst hK_) | (with_reducible refine AW.seq ?_) | (with_reducible refine AW.block ?_) | (with_reducible refine AW.skip ?_) | (with_reducible refine AW.ret ?_) | (with_reducible refine AW.exit ?_) | (with_reducible refine AW.scope ?_) | (with_reducible refine scopeQ_normal ?_) | (with_reducible refine scopeQ_ret ?_) | (with_reducible refine scopeQ_exit ?_) | (with_reducible refine thenQ_normal ?_) | (with_reducible refine thenQ_ret ?_) | (with_reducible refine thenQ_exit ?_) | (with_reducible refine blockQ_normal ?_) | (with_reducible refine blockQ_ret ?_) | (with_reducible refine blockQ_exit ?_) | ((with_reducible refine blockQ_out ?_ ?_); (focus decide)) | ((with_reducible refine AW.cond_id ?_); refine AW.condB rfl ?_; (first | (with_reducible refine condB_true ?_) | (with_reducible refine condB_false ?_))) | ((first | (with_reducible refine contG_id ?_) | (with_reducible refine contO_id ?_) | (with_reducible refine contV_id ?_) | (with_reducible refine bindO_id ?_) | (with_reducible refine bindV_id ?_) | (with_reducible refine runE_id ?_)); simp (config := { maxSteps := 1000000 }) (disch := refine Go.Av.hold_ ?_; first | (simp [hip, hipz, e1, hzi, hDl, -List.getD_eq_getElem?_getD]; done) | omega | fail) [hip, hipz, e1, hzi, hDl, -List.getD_eq_getElem?_getD]; try (with_reducible refine callK_id ?_)))
          simp (config := { maxSteps := 1000000 }) (disch := refine Go.Av.hold_ ?_; first | (simp [-List.getD_eq_getElem?_getD]; done) | omega | fail) [-List.getD_eq_getElem?_getD]
  · have hm' : t.length < 4 * m + 4 ∧ j = m := by
      rcases hgo with h | h | h
      · obtain ⟨a, _⟩ := hm1 j h; omega
      · exact ⟨h.2, h.1⟩
      · omega
    obtain ⟨hm3, rfl⟩ := hm'
    have hz4 : ¬ (4 : Int) ≤ ((t.drop (4 * j)).length : Int) := by omega
    have hdec : decL t = if t.length = 4 * j then some (decN t j) else none := by
      rcases hm2 with h | h
      · exact h.2.2
      · omega
    have hsz := txt_size (t.drop (4 * j))
    by_cases hl0 : t.length = 4 * j
    · rw [if_pos hl0] at hdec
      obtain ⟨rfl, rfl⟩ := h1 _ hdec
      have hRe : t.drop (4 * j) = [] := List.eq_nil_of_length_eq_zero (by omega)
      rw [hRe] at hz4 hsz ⊢
      repeat (first | ((with_reducible refine AW.regSeqK fun K_ hK_ => ?_); (try simp (config := { maxSteps := 1000000 }) (disch := refine Go.Av.hold_ ?_; first | (simp [show txt [] = ByteArray.mk #[] from rfl, show (ByteArray.mk #[]).size = 0 from rfl, -List.getD_eq_getElem?_getD]; done) | omega | fail) [show txt [] = ByteArray.mk #[] from rfl, show (ByteArray.mk #[]).size = 0 from rfl, -List.getD_eq_getElem?_getD]); first | (with_reducible refine callK_id ?_) | subst hK_) | ((with_reducible refine AW.regK fun K_ hK_ => ?_); (try simp (config := { maxSteps := 1000000 }) (disch := refine Go.Av.hold_ ?_; first | (simp [show txt [] = ByteArray.mk #[] from rfl, show (ByteArray.mk #[]).size = 0 from rfl, -List.getD_eq_getElem?_getD]; done) | omega | fail) [show txt [] = ByteArray.mk #[] from rfl, show (ByteArray.mk #[]).size = 0 from rfl, -List.getD_eq_getElem?_getD]); first | (with_reducible refine callK_id ?_) | subst hK_) | ((with_reducible refine AW.drawSeqK ?_ ?_ fun K_ hK_ => ?_); (focus kernel_rfl); (focus kernel_rfl); (try simp (config := { maxSteps := 1000000 }) (disch := refine Go.Av.hold_ ?_; first | (simp [show txt [] = ByteArray.mk #[] from rfl, show (ByteArray.mk #[]).size = 0 from rfl, -List.getD_eq_getElem?_getD]; done) | omega | fail) [show txt [] = ByteArray.mk #[] from rfl, show (ByteArray.mk #[]).size = 0 from rfl, -List.getD_eq_getElem?_getD]); first | (with_reducible refine callK_id ?_) | subst hK_) | ((with_reducible refine AW.drawK ?_ ?_ fun K_ hK_ => ?_); (focus kernel_rfl); (focus kernel_rfl); (try simp (config := { maxSteps := 1000000 }) (disch := refine Go.Av.hold_ ?_; first | (simp [show txt [] = ByteArray.mk #[] from rfl, show (ByteArray.mk #[]).size = 0 from rfl, -List.getD_eq_getElem?_getD]; done) | omega | fail) [show txt [] = ByteArray.mk #[] from rfl, show (ByteArray.mk #[]).size = 0 from rfl, -List.getD_eq_getElem?_getD]); first | (with_reducible refine callK_id ?_) | subst hK_) | (with_reducible refine AW.seq ?_) | (with_reducible refine AW.block ?_) | (with_reducible refine AW.skip ?_) | (with_reducible refine AW.ret ?_) | (with_reducible refine AW.exit ?_) | (with_reducible refine AW.scope ?_) | (with_reducible refine scopeQ_normal ?_) | (with_reducible refine scopeQ_ret ?_) | (with_reducible refine scopeQ_exit ?_) | (with_reducible refine thenQ_normal ?_) | (with_reducible refine thenQ_ret ?_) | (with_reducible refine thenQ_exit ?_) | (with_reducible refine blockQ_normal ?_) | (with_reducible refine blockQ_ret ?_) | (with_reducible refine blockQ_exit ?_) | ((with_reducible refine blockQ_out ?_ ?_); (focus decide)) | ((with_reducible refine AW.cond_id ?_); refine AW.condB rfl ?_; (first | (with_reducible refine condB_true ?_) | (with_reducible refine condB_false ?_))) | ((first | (with_reducible refine contG_id ?_) | (with_reducible refine contO_id ?_) | (with_reducible refine contV_id ?_) | (with_reducible refine bindO_id ?_) | (with_reducible refine bindV_id ?_) | (with_reducible refine runE_id ?_)); simp (config := { maxSteps := 1000000 }) (disch := refine Go.Av.hold_ ?_; first | (simp [show txt [] = ByteArray.mk #[] from rfl, show (ByteArray.mk #[]).size = 0 from rfl, -List.getD_eq_getElem?_getD]; done) | omega | fail) [show txt [] = ByteArray.mk #[] from rfl, show (ByteArray.mk #[]).size = 0 from rfl, -List.getD_eq_getElem?_getD]; try (with_reducible refine callK_id ?_)))
      all_goals simp (config := { maxSteps := 1000000 }) (disch := refine Go.Av.hold_ ?_; first | (simp [-List.getD_eq_getElem?_getD]; done) | omega | fail) [-List.getD_eq_getElem?_getD]
    · rw [if_neg hl0] at hdec
      obtain ⟨rfl, rfl⟩ := h2 hdec
      have hne : strBin .neq (txt (t.drop (4 * j))) (ByteArray.mk #[]) = some (.bool true) := by
        rw [show ByteArray.mk #[] = txt [] from rfl, str_neq_txt]
        congr 2
        cases h : t.drop (4 * j) with
        | nil => rw [h] at hdl; simp at hdl; omega
        | cons a b => rfl
      generalize t.drop (4 * j) = R at *
      repeat (first | ((with_reducible refine AW.regSeqK fun K_ hK_ => ?_); (try simp (config := { maxSteps := 1000000 }) (disch := refine Go.Av.hold_ ?_; first | (simp [hz4, hsz, hne, -List.getD_eq_getElem?_getD]; done) | omega | fail) [hz4, hsz, hne, -List.getD_eq_getElem?_getD]); first | (with_reducible refine callK_id ?_) | subst hK_) | ((with_reducible refine AW.regK fun K_ hK_ => ?_); (try simp (config := { maxSteps := 1000000 }) (disch := refine Go.Av.hold_ ?_; first | (simp [hz4, hsz, hne, -List.getD_eq_getElem?_getD]; done) | omega | fail) [hz4, hsz, hne, -List.getD_eq_getElem?_getD]); first | (with_reducible refine callK_id ?_) | subst hK_) | ((with_reducible refine AW.drawSeqK ?_ ?_ fun K_ hK_ => ?_); (focus kernel_rfl); (focus kernel_rfl); (try simp (config := { maxSteps := 1000000 }) (disch := refine Go.Av.hold_ ?_; first | (simp [hz4, hsz, hne, -List.getD_eq_getElem?_getD]; done) | omega | fail) [hz4, hsz, hne, -List.getD_eq_getElem?_getD]); first | (with_reducible refine callK_id ?_) | subst hK_) | ((with_reducible refine AW.drawK ?_ ?_ fun K_ hK_ => ?_); (focus kernel_rfl); (focus kernel_rfl); (try simp (config := { maxSteps := 1000000 }) (disch := refine Go.Av.hold_ ?_; first | (simp [hz4, hsz, hne, -List.getD_eq_getElem?_getD]; done) | omega | fail) [hz4, hsz, hne, -List.getD_eq_getElem?_getD]); first | (with_reducible refine callK_id ?_) | subst hK_) | (with_reducible refine AW.seq ?_) | (with_reducible refine AW.block ?_) | (with_reducible refine AW.skip ?_) | (with_reducible refine AW.ret ?_) | (with_reducible refine AW.exit ?_) | (with_reducible refine AW.scope ?_) | (with_reducible refine scopeQ_normal ?_) | (with_reducible refine scopeQ_ret ?_) | (with_reducible refine scopeQ_exit ?_) | (with_reducible refine thenQ_normal ?_) | (with_reducible refine thenQ_ret ?_) | (with_reducible refine thenQ_exit ?_) | (with_reducible refine blockQ_normal ?_) | (with_reducible refine blockQ_ret ?_) | (with_reducible refine blockQ_exit ?_) | ((with_reducible refine blockQ_out ?_ ?_); (focus decide)) | ((with_reducible refine AW.cond_id ?_); refine AW.condB rfl ?_; (first | (with_reducible refine condB_true ?_) | (with_reducible refine condB_false ?_))) | ((first | (with_reducible refine contG_id ?_) | (with_reducible refine contO_id ?_) | (with_reducible refine contV_id ?_) | (with_reducible refine bindO_id ?_) | (with_reducible refine bindV_id ?_) | (with_reducible refine runE_id ?_)); simp (config := { maxSteps := 1000000 }) (disch := refine Go.Av.hold_ ?_; first | (simp [hz4, hsz, hne, -List.getD_eq_getElem?_getD]; done) | omega | fail) [hz4, hsz, hne, -List.getD_eq_getElem?_getD]; try (with_reducible refine callK_id ?_)))
      all_goals simp (config := { maxSteps := 1000000 }) (disch := refine Go.Av.hold_ ?_; first | (simp [-List.getD_eq_getElem?_getD]; done) | omega | fail) [-List.getD_eq_getElem?_getD]
end Go.Av.Base
end

section
set_option linter.unusedSimpArgs false
set_option linter.unusedVariables false
open Go Go.Av Go.Proofs
namespace Go.Av.Base
/-! ## the document's Decode -/
def isL (c : BitVec 8) : Bool := decide (0 ≤ idxI letL c)
def rstep (s : Nat × Nat × List (BitVec 8)) (c : BitVec 8) : Nat × Nat × List (BitVec 8) :=
  if 8 ≤ s.2.1 + 6 then (s.1 * 64 % 1048576 + (idxI letL c).toNat, s.2.1 - 2, s.2.2 ++ [BitVec.ofNat 8 ((s.1 * 64 % 1048576 + (idxI letL c).toNat) / 2 ^ (s.2.1 - 2))])
  else (s.1 * 64 % 1048576 + (idxI letL c).toNat, s.2.1 + 6, s.2.2)
def rst (l : List (BitVec 8)) : Nat × Nat × List (BitVec 8) := l.foldl rstep (0, 0, [])
theorem rst_snoc (l : List (BitVec 8)) (c : BitVec 8) : rst (l ++ [c]) = rstep (rst l) c := by simp [rst]
theorem idx_lt (c : BitVec 8) : (idxI letL c).toNat < 64 := by
  by_cases h : 0 ≤ idxI letL c
  · obtain ⟨v, h1, h2, _⟩ := let_idx h; rw [h1]; simpa using h2
  · omega
theorem rst_bound (l : List (BitVec 8)) : ∀ (s : Nat × Nat × List (BitVec 8)), s.1 < 1048640 → s.2.1 < 8 → (l.foldl rstep s).1 < 1048640 ∧ (l.foldl rstep s).2.1 < 8 ∧ (l.foldl rstep s).2.2.length ≤ s.2.2.length + l.length := by
  induction l with
  | nil => intro s h1 h2; exact ⟨h1, h2, Nat.le_refl _⟩
  | cons c l ih =>
    intro s h1 h2
    have hc := idx_lt c
    have hm := Nat.mod_lt (s.1 * 64) (show 0 < 1048576 by decide)
    obtain ⟨a, b, d⟩ := ih (rstep s c) (by unfold rstep; split <;> dsimp only <;> omega) (by unfold rstep; split <;> dsimp only <;> omega)
    refine ⟨a, b, ?_⟩
    have : (rstep s c).2.2.length ≤ s.2.2.length + 1 := by unfold rstep; split <;> simp
    simp only [List.foldl_cons, List.length_cons]; omega
theorem isL_let (v : Nat) (h : v < 64) : isL (letL.getD v 0#8) = true := by
  have := idx_let ⟨v, h⟩
  simp only at this
  unfold isL; rw [this]; simp
theorem isL_fill : isL 61#8 = false := by unfold isL; rw [idx_fill]; rfl
theorem idx_nat (v : Nat) (h : v < 64) : (idxI letL (letL.getD v 0#8)).toNat = v := by
  have := idx_let ⟨v, h⟩
  simp only at this
  rw [this]; simp
theorem four_let (A : List (BitVec 8)) (i : Nat) (h : i ≤ min A.length 3) : four A i = letL.getD (dN (bN A) i) 0#8 := by unfold four; rw [if_neg (by omega), lt_nat]
theorem four_fill (A : List (BitVec 8)) (i : Nat) (h : min A.length 3 < i) : four A i = 61#8 := by unfold four; rw [if_pos h]
theorem ofN_eq (n : Nat) (x : BitVec 8) (h : n % 256 = x.toNat) : BitVec.ofNat 8 n = x := by
  apply BitVec.eq_of_toNat_eq; rw [BitVec.toNat_ofNat]; exact h
theorem by_zero (A : List (BitVec 8)) (i : Nat) (h : A.length ≤ i) : by_ A i = 0 := by unfold by_; rw [List.getD_eq_getElem?_getD, List.getElem?_eq_none h]; rfl
/-- Letters of a group, read. -/
theorem rd_two (A : List (BitVec 8)) (B : Nat) (O : List (BitVec 8)) (i0 : 1 ≤ A.length) : ∃ b2, b2 % 4096 = dN (bN A) 0 * 64 + dN (bN A) 1 ∧
    [four A 0, four A 1].foldl rstep (B, 0, O) = (b2, 4, O ++ [A.getD 0 0#8]) := by
  have b0 := by_lt A 0
  have b1 := by_lt A 1
  have b2 := by_lt A 2
  have hX : bN A = by_ A 0 * 65536 + by_ A 1 * 256 + by_ A 2 := rfl
  rw [four_let A 0 (by omega), four_let A 1 (by omega)]
  have l0 := dN_lt (bN A) 0
  have l1 := dN_lt (bN A) 1
  have e0 : dN (bN A) 0 = bN A / 262144 % 64 := by simp only [dN, Nat.reduceMul, Nat.reduceSub, Nat.reducePow]
  have e1 : dN (bN A) 1 = bN A / 4096 % 64 := by simp only [dN, Nat.reduceMul, Nat.reduceSub, Nat.reducePow]
  simp only [List.foldl_cons, List.foldl_nil, rstep, idx_nat _ l0, idx_nat _ l1, Nat.zero_add, show ¬ 8 ≤ 6 by decide, if_false, show 8 ≤ 6 + 6 by decide, if_true, Nat.reduceSub, Nat.reducePow]
  refine ⟨(B * 64 % 1048576 + dN (bN A) 0) * 64 % 1048576 + dN (bN A) 1, ?_, ?_⟩
  · omega
  · have : BitVec.ofNat 8 (((B * 64 % 1048576 + dN (bN A) 0) * 64 % 1048576 + dN (bN A) 1) / 16) = A.getD 0 0#8 := ?_
    · rw [this]
    refine ofN_eq _ _ ?_
    show _ = by_ A 0
    generalize bN A = X at *
    omega
theorem rd_three (A : List (BitVec 8)) (B : Nat) (O : List (BitVec 8)) (i0 : 2 ≤ A.length) : ∃ b3, b3 % 262144 = dN (bN A) 0 * 4096 + dN (bN A) 1 * 64 + dN (bN A) 2 ∧
    [four A 0, four A 1, four A 2].foldl rstep (B, 0, O) = (b3, 2, O ++ [A.getD 0 0#8, A.getD 1 0#8]) := by
  obtain ⟨b2, hb, h⟩ := rd_two A B O (by omega)
  have b0 := by_lt A 0
  have b1 := by_lt A 1
  have b2' := by_lt A 2
  have hX : bN A = by_ A 0 * 65536 + by_ A 1 * 256 + by_ A 2 := rfl
  have l2 := dN_lt (bN A) 2
  have e0 : dN (bN A) 0 = bN A / 262144 % 64 := by simp only [dN, Nat.reduceMul, Nat.reduceSub, Nat.reducePow]
  have e1 : dN (bN A) 1 = bN A / 4096 % 64 := by simp only [dN, Nat.reduceMul, Nat.reduceSub, Nat.reducePow]
  have e2 : dN (bN A) 2 = bN A / 64 % 64 := by simp only [dN, Nat.reduceMul, Nat.reduceSub, Nat.reducePow]
  have hs : [four A 0, four A 1, four A 2].foldl rstep (B, 0, O) = rstep ([four A 0, four A 1].foldl rstep (B, 0, O)) (four A 2) := rfl
  rw [hs, h, four_let A 2 (by omega)]
  simp only [rstep, idx_nat _ l2, show 8 ≤ 4 + 6 by decide, if_true, Nat.reduceSub, Nat.reducePow]
  refine ⟨b2 * 64 % 1048576 + dN (bN A) 2, ?_, ?_⟩
  · omega
  · have : BitVec.ofNat 8 ((b2 * 64 % 1048576 + dN (bN A) 2) / 4) = A.getD 1 0#8 := ?_
    · rw [this, List.append_assoc]; rfl
    refine ofN_eq _ _ ?_
    show _ = by_ A 1
    generalize bN A = X at *
    omega
theorem rd_four (A : List (BitVec 8)) (B : Nat) (O : List (BitVec 8)) (i0 : 3 ≤ A.length) : ∃ b4,
    [four A 0, four A 1, four A 2, four A 3].foldl rstep (B, 0, O) = (b4, 0, O ++ [A.getD 0 0#8, A.getD 1 0#8, A.getD 2 0#8]) := by
  obtain ⟨b3, hb, h⟩ := rd_three A B O (by omega)
  have b0 := by_lt A 0
  have b1 := by_lt A 1
  have b2' := by_lt A 2
  have hX : bN A = by_ A 0 * 65536 + by_ A 1 * 256 + by_ A 2 := rfl
  have l2 := dN_lt (bN A) 3
  have e2 : dN (bN A) 2 = bN A / 64 % 64 := by simp only [dN, Nat.reduceMul, Nat.reduceSub, Nat.reducePow]
  have e3 : dN (bN A) 3 = bN A % 64 := by simp only [dN, Nat.reduceMul, Nat.reduceSub, Nat.reducePow, Nat.div_one]
  have hs : [four A 0, four A 1, four A 2, four A 3].foldl rstep (B, 0, O) = rstep ([four A 0, four A 1, four A 2].foldl rstep (B, 0, O)) (four A 3) := rfl
  rw [hs, h, four_let A 3 (by omega)]
  simp only [rstep, idx_nat _ l2, show 8 ≤ 2 + 6 by decide, if_true, Nat.reduceSub, Nat.reducePow, Nat.div_one]
  refine ⟨b3 * 64 % 1048576 + dN (bN A) 3, ?_⟩
  · have : BitVec.ofNat 8 (b3 * 64 % 1048576 + dN (bN A) 3) = A.getD 2 0#8 := ?_
    · rw [this, List.append_assoc]; rfl
    refine ofN_eq _ _ ?_
    show _ = by_ A 2
    generalize bN A = X at *
    omega
theorem get3 (A : List (BitVec 8)) (h : 3 ≤ A.length) : [A.getD 0 0#8, A.getD 1 0#8, A.getD 2 0#8] ++ A.drop 3 = A := by
  match A, h with
  | a :: b :: c :: r, _ => rfl
theorem get2 (A : List (BitVec 8)) (h : 2 ≤ A.length) (h3 : ¬ 3 ≤ A.length) : [A.getD 0 0#8, A.getD 1 0#8] = A := by
  match A, h, h3 with
  | [a, b], _, _ => rfl
  | a :: b :: c :: r, _, h3 => exact absurd (by simp) h3
theorem get1 (A : List (BitVec 8)) (h : 0 < A.length) (h3 : ¬ 2 ≤ A.length) : [A.getD 0 0#8] = A := by
  match A, h, h3 with
  | [a], _, _ => rfl
  | a :: b :: r, _, h3 => exact absurd (by simp) h3
theorem rd_enc (n : Nat) : ∀ (A : List (BitVec 8)) (B : Nat) (O : List (BitVec 8)), A.length ≤ n →
    (((encL A).takeWhile isL).foldl rstep (B, 0, O)).2.2 = O ++ A ∧ (((encL A).dropWhile isL) = [] ∨ ∃ r, ((encL A).dropWhile isL) = 61#8 :: r) := by
  induction n with
  | zero =>
    intro A B O h
    obtain rfl := List.eq_nil_of_length_eq_zero (Nat.le_zero.1 h)
    rw [encL_nil]; simp
  | succ n ih =>
    intro A B O h
    by_cases hA : A = []
    · exact ih A B O (by subst hA; simp)
    have hp : 0 < A.length := List.length_pos_iff.2 hA
    have f0 : isL (four A 0) = true := by rw [four_let A 0 (by omega)]; exact isL_let _ (dN_lt _ _)
    have f1 : isL (four A 1) = true := by rw [four_let A 1 (by omega)]; exact isL_let _ (dN_lt _ _)
    rw [encL_rec _ hA, grp4]
    simp only [List.cons_append, List.nil_append, List.takeWhile_cons, List.dropWhile_cons, f0, f1, if_true]
    by_cases h2 : 2 ≤ A.length
    · have f2 : isL (four A 2) = true := by rw [four_let A 2 (by omega)]; exact isL_let _ (dN_lt _ _)
      simp only [f2, if_true]
      by_cases h3 : 3 ≤ A.length
      · have f3 : isL (four A 3) = true := by rw [four_let A 3 (by omega)]; exact isL_let _ (dN_lt _ _)
        simp only [f3, if_true]
        obtain ⟨b4, h4⟩ := rd_four A B O h3
        obtain ⟨g1, g2⟩ := ih (A.drop 3) b4 (O ++ [A.getD 0 0#8, A.getD 1 0#8, A.getD 2 0#8]) (by rw [List.length_drop]; omega)
        have hf : ∀ l, (four A 0 :: four A 1 :: four A 2 :: four A 3 :: l).foldl rstep (B, 0, O) = l.foldl rstep ([four A 0, four A 1, four A 2, four A 3].foldl rstep (B, 0, O)) := fun l => by rw [← List.foldl_append]; simp only [List.cons_append, List.nil_append]
        rw [hf, h4]
        refine ⟨?_, g2⟩
        rw [g1, List.append_assoc]
        congr 1
        exact get3 A h3
      · have f3 : four A 3 = 61#8 := four_fill A 3 (by omega)
        rw [f3]
        simp only [isL_fill, Bool.false_eq_true, if_false]
        obtain ⟨b3, _, h4⟩ := rd_three A B O h2
        rw [h4]
        refine ⟨?_, .inr ⟨_, rfl⟩⟩
        show O ++ _ = _
        congr 1
        exact get2 A h2 h3
    · have f2 : four A 2 = 61#8 := four_fill A 2 (by omega)
      rw [f2]
      simp only [isL_fill, Bool.false_eq_true, if_false]
      obtain ⟨b2, _, h4⟩ := rd_two A B O hp
      rw [h4]
      refine ⟨?_, .inr ⟨_, rfl⟩⟩
      show O ++ _ = _
      congr 1
      exact get1 A hp h2
/-- What the document's Decode finds. -/
def rdecL (t : List (BitVec 8)) : Option (List (BitVec 8)) :=
  if (t.dropWhile isL).head?.getD 61#8 = 61#8 ∧ encL (rst (t.takeWhile isL)).2.2 = t then some (rst (t.takeWhile isL)).2.2 else none
theorem rdec_eq (t : List (BitVec 8)) : rdecL t = decL t := by
  unfold rdecL
  cases hd : decL t with
  | some b =>
    have he := dec_sound _ t b (Nat.le_refl _) hd
    obtain ⟨h1, h2⟩ := rd_enc _ b 0 [] (Nat.le_refl _)
    rw [he] at h1 h2
    have h3 : (rst (t.takeWhile isL)).2.2 = b := by unfold rst; rw [h1]; rfl
    have h4 : (t.dropWhile isL).head?.getD 61#8 = 61#8 := by
      rcases h2 with h | ⟨r, h⟩ <;> rw [h] <;> rfl
    rw [if_pos ⟨h4, by rw [h3]; exact he⟩, h3]
  | none =>
    rw [if_neg]
    rintro ⟨_, h⟩
    rw [← h, dec_enc _ _ (Nat.le_refl _)] at hd
    cases hd
end Go.Av.Base
end

section
set_option linter.unusedSimpArgs false
set_option linter.unusedVariables false
open Go Go.Av Go.Proofs
namespace Go.Av.Base
theorem tw_get (p : BitVec 8 → Bool) : ∀ (t : List (BitVec 8)) (k : Nat), k < (t.takeWhile p).length → p (t.getD k 0#8) = true
  | [], k, h => by simp at h
  | c :: t, k, h => by
    rw [List.takeWhile_cons] at h
    split at h
    · rename_i hc
      cases k with
      | zero => exact hc
      | succ k => exact tw_get p t k (by simpa using h)
    · simp at h
theorem tw_take (p : BitVec 8 → Bool) (t : List (BitVec 8)) : t.take (t.takeWhile p).length = t.takeWhile p := by
  conv => lhs; rw [← List.takeWhile_append_dropWhile (p := p) (l := t)]
  rw [List.take_append_of_le_length (by simp)]
  simp
theorem dw_drop (p : BitVec 8 → Bool) (t : List (BitVec 8)) : t.dropWhile p = t.drop (t.takeWhile p).length := by
  conv => rhs; rw [← List.takeWhile_append_dropWhile (p := p) (l := t)]
  rw [List.drop_append_of_le_length (by simp)]
  simp
theorem dw_stop (p : BitVec 8 → Bool) : ∀ (t : List (BitVec 8)), (t.takeWhile p).length < t.length → p (t.getD (t.takeWhile p).length 0#8) = false
  | [], h => by simp at h
  | c :: t, h => by
    rw [List.takeWhile_cons] at h ⊢
    split at h
    · rename_i hc
      simp only [hc, if_true, List.length_cons]
      exact dw_stop p t (by simpa using h)
    · rename_i hc
      simp only [hc, if_false, List.length_nil]
      simpa using hc
theorem tw_le (p : BitVec 8 → Bool) (t : List (BitVec 8)) : (t.takeWhile p).length ≤ t.length := by
  have := congrArg List.length (List.takeWhile_append_dropWhile (p := p) (l := t))
  rw [List.length_append] at this; omega
theorem shr64n (X : Nat) (n : Nat) (hn : n < 64) : shiftBin .shr .i64 (X : Int) (n : Int) = some (.int .i64 ((X / 2 ^ n : Nat) : Int)) := shr64 X n (by omega)
set_option maxHeartbeats 16000000 in
theorem rdec_walk (l : List (BitVec 8)) (hl : l.length ≤ 100000) (res : List V) (n1 : Nat)
    (h1 : ∀ b, decL (sq l) = some b → res = [.row (bl b) 0 0 (b.length == 0), .p (.bool true)] ∧ n1 = 1)
    (h2 : decL (sq l) = none → res = [.p (.sl (.vals 1 []) true), .p (.bool false)] ∧ n1 = 0) : Fn Try.prog 12 [.str (txt l)] res n1 := by
  have hq := sq_len l
  have k13 := rsqueeze_ct l (by omega)
  generalize sq l = t at *
  rw [← rdec_eq] at h1 h2
  unfold rdecL at h1 h2
  have hsz := txt_size t
  have hml := tw_le isL t
  refine Fn.of_body Try.func12 rfl ?_
  repeat (first | ((with_reducible refine AW.regSeqK fun K_ hK_ => ?_); (try simp (config := { maxSteps := 1000000 }) (disch := refine Go.Av.hold_ ?_; first | (simp [-List.getD_eq_getElem?_getD]; done) | omega | fail) [-List.getD_eq_getElem?_getD]); first | (with_reducible refine callK_id ?_) | subst hK_) | ((with_reducible refine AW.regK fun K_ hK_ => ?_); (try simp (config := { maxSteps := 1000000 }) (disch := refine Go.Av.hold_ ?_; first | (simp [-List.getD_eq_getElem?_getD]; done) | omega | fail) [-List.getD_eq_getElem?_getD]); first | (with_reducible refine callK_id ?_) | subst hK_) | ((with_reducible refine AW.drawSeqK ?_ ?_ fun K_ hK_ => ?_); (focus kernel_rfl); (focus kernel_rfl); (try simp (config := { maxSteps := 1000000 }) (disch := refine Go.Av.hold_ ?_; first | (simp [-List.getD_eq_getElem?_getD]; done) | omega | fail) [-List.getD_eq_getElem?_getD]); first | (with_reducible refine callK_id ?_) | subst hK_) | ((with_reducible refine AW.drawK ?_ ?_ fun K_ hK_ => ?_); (focus kernel_rfl); (focus kernel_rfl); (try simp (config := { maxSteps := 1000000 }) (disch := refine Go.Av.hold_ ?_; first | (simp [-List.getD_eq_getElem?_getD]; done) | omega | fail) [-List.getD_eq_getElem?_getD]); first | (with_reducible refine callK_id ?_) | subst hK_) | (with_reducible refine AW.seq ?_) | (with_reducible refine AW.block ?_) | (with_reducible refine AW.skip ?_) | (with_reducible refine AW.ret ?_) | (with_reducible refine AW.exit ?_) | (with_reducible refine AW.scope ?_) | (with_reducible refine scopeQ_normal ?_) | (with_reducible refine scopeQ_ret ?_) | (with_reducible refine scopeQ_exit ?_) | (with_reducible refine thenQ_normal ?_) | (with_reducible refine thenQ_ret ?_) | (with_reducible refine thenQ_exit ?_) | (with_reducible refine blockQ_normal ?_) | (with_reducible refine blockQ_ret ?_) | (with_reducible refine blockQ_exit ?_) | ((with_reducible refine blockQ_out ?_ ?_); (focus decide)) | ((with_reducible refine AW.cond_id ?_); refine AW.condB rfl ?_; (first | (with_reducible refine condB_true ?_) | (with_reducible refine condB_false ?_))) | ((first | (with_reducible refine contG_id ?_) | (with_reducible refine contO_id ?_) | (with_reducible refine contV_id ?_) | (with_reducible refine bindO_id ?_) | (with_reducible refine bindV_id ?_) | (with_reducible refine runE_id ?_)); simp (config := { maxSteps := 1000000 }) (disch := refine Go.Av.hold_ ?_; first | (simp [-List.getD_eq_getElem?_getD]; done) | omega | fail) [-List.getD_eq_getElem?_getD]; try (with_reducible refine callK_id ?_)))
  (refine callK_p ?_; simp (config := { maxSteps := 1000000 }) (disch := refine Go.Av.hold_ ?_; first | (simp [-List.getD_eq_getElem?_getD]; done) | omega | fail) [-List.getD_eq_getElem?_getD]; refine callK1_of (Fn.ct k13 Try.call13) ?_; (try simp (config := { maxSteps := 1000000 }) (disch := refine Go.Av.hold_ ?_; first | (simp [-List.getD_eq_getElem?_getD]; done) | omega | fail) [-List.getD_eq_getElem?_getD]); first | refine callK_id ?_ | subst hK_)
  repeat (first | ((with_reducible refine AW.regSeqK fun K_ hK_ => ?_); (try simp (config := { maxSteps := 1000000 }) (disch := refine Go.Av.hold_ ?_; first | (simp [-List.getD_eq_getElem?_getD]; done) | omega | fail) [-List.getD_eq_getElem?_getD]); first | (with_reducible refine callK_id ?_) | subst hK_) | ((with_reducible refine AW.regK fun K_ hK_ => ?_); (try simp (config := { maxSteps := 1000000 }) (disch := refine Go.Av.hold_ ?_; first | (simp [-List.getD_eq_getElem?_getD]; done) | omega | fail) [-List.getD_eq_getElem?_getD]); first | (with_reducible refine callK_id ?_) | subst hK_) | ((with_reducible refine AW.drawSeqK ?_ ?_ fun K_ hK_ => ?_); (focus kernel_rfl); (focus kernel_rfl); (try simp (config := { maxSteps := 1000000 }) (disch := refine Go.Av.hold_ ?_; first | (simp [-List.getD_eq_getElem?_getD]; done) | omega | fail) [-List.getD_eq_getElem?_getD]); first | (with_reducible refine callK_id ?_) | subst hK_) | ((with_reducible refine AW.drawK ?_ ?_ fun K_ hK_ => ?_); (focus kernel_rfl); (focus kernel_rfl); (try simp (config := { maxSteps := 1000000 }) (disch := refine Go.Av.hold_ ?_; first | (simp [-List.getD_eq_getElem?_getD]; done) | omega | fail) [-List.getD_eq_getElem?_getD]); first | (with_reducible refine callK_id ?_) | subst hK_) | (with_reducible refine AW.seq ?_) | (with_reducible refine AW.block ?_) | (with_reducible refine AW.skip ?_) | (with_reducible refine AW.ret ?_) | (with_reducible refine AW.exit ?_) | (with_reducible refine AW.scope ?_) | (with_reducible refine scopeQ_normal ?_) | (with_reducible refine scopeQ_ret ?_) | (with_reducible refine scopeQ_exit ?_) | (with_reducible refine thenQ_normal ?_) | (with_reducible refine thenQ_ret ?_) | (with_reducible refine thenQ_exit ?_) | (with_reducible refine blockQ_normal ?_) | (with_reducible refine blockQ_ret ?_) | (with_reducible refine blockQ_exit ?_) | ((with_reducible refine blockQ_out ?_ ?_); (focus decide)) | ((with_reducible refine AW.cond_id ?_); refine AW.condB rfl ?_; (first | (with_reducible refine condB_true ?_) | (with_reducible refine condB_false ?_))) | ((first | (with_reducible refine contG_id ?_) | (with_reducible refine contO_id ?_) | (with_reducible refine contV_id ?_) | (with_reducible refine bindO_id ?_) | (with_reducible refine bindV_id ?_) | (with_reducible refine runE_id ?_)); simp (config := { maxSteps := 1000000 }) (disch := refine Go.Av.hold_ ?_; first | (simp [-List.getD_eq_getElem?_getD]; done) | omega | fail) [-List.getD_eq_getElem?_getD]; try (with_reducible refine callK_id ?_)))
  refine AW.nilRow 4 (bl []) 4 _ rfl rfl ?_
  repeat (first | ((with_reducible refine AW.regSeqK fun K_ hK_ => ?_); (try simp (config := { maxSteps := 1000000 }) (disch := refine Go.Av.hold_ ?_; first | (simp [hsz, -List.getD_eq_getElem?_getD]; done) | omega | fail) [hsz, -List.getD_eq_getElem?_getD]); first | (with_reducible refine callK_id ?_) | subst hK_) | ((with_reducible refine AW.regK fun K_ hK_ => ?_); (try simp (config := { maxSteps := 1000000 }) (disch := refine Go.Av.hold_ ?_; first | (simp [hsz, -List.getD_eq_getElem?_getD]; done) | omega | fail) [hsz, -List.getD_eq_getElem?_getD]); first | (with_reducible refine callK_id ?_) | subst hK_) | ((with_reducible refine AW.drawSeqK ?_ ?_ fun K_ hK_ => ?_); (focus kernel_rfl); (focus kernel_rfl); (try simp (config := { maxSteps := 1000000 }) (disch := refine Go.Av.hold_ ?_; first | (simp [hsz, -List.getD_eq_getElem?_getD]; done) | omega | fail) [hsz, -List.getD_eq_getElem?_getD]); first | (with_reducible refine callK_id ?_) | subst hK_) | ((with_reducible refine AW.drawK ?_ ?_ fun K_ hK_ => ?_); (focus kernel_rfl); (focus kernel_rfl); (try simp (config := { maxSteps := 1000000 }) (disch := refine Go.Av.hold_ ?_; first | (simp [hsz, -List.getD_eq_getElem?_getD]; done) | omega | fail) [hsz, -List.getD_eq_getElem?_getD]); first | (with_reducible refine callK_id ?_) | subst hK_) | (with_reducible refine AW.seq ?_) | (with_reducible refine AW.block ?_) | (with_reducible refine AW.skip ?_) | (with_reducible refine AW.ret ?_) | (with_reducible refine AW.exit ?_) | (with_reducible refine AW.scope ?_) | (with_reducible refine scopeQ_normal ?_) | (with_reducible refine scopeQ_ret ?_) | (with_reducible refine scopeQ_exit ?_) | (with_reducible refine thenQ_normal ?_) | (with_reducible refine thenQ_ret ?_) | (with_reducible refine thenQ_exit ?_) | (with_reducible refine blockQ_normal ?_) | (with_reducible refine blockQ_ret ?_) | (with_reducible refine blockQ_exit ?_) | ((with_reducible refine blockQ_out ?_ ?_); (focus decide)) | ((with_reducible refine AW.cond_id ?_); refine AW.condB rfl ?_; (first | (with_reducible refine condB_true ?_) | (with_reducible refine condB_false ?_))) | ((first | (with_reducible refine contG_id ?_) | (with_reducible refine contO_id ?_) | (with_reducible refine contV_id ?_) | (with_reducible refine bindO_id ?_) | (with_reducible refine bindV_id ?_) | (with_reducible refine runE_id ?_)); simp (config := { maxSteps := 1000000 }) (disch := refine Go.Av.hold_ ?_; first | (simp [hsz, -List.getD_eq_getElem?_getD]; done) | omega | fail) [hsz, -List.getD_eq_getElem?_getD]; try (with_reducible refine callK_id ?_)))
  refine AW.iter (true :: false :: false :: false :: true :: true :: true :: false :: false :: false :: false :: false :: true :: true :: false :: false :: false :: false :: false :: false :: false :: false :: false :: false :: false :: false :: false :: false :: false :: false :: false :: false :: false :: false :: false :: false :: false :: false :: false :: false :: false :: false :: false :: false :: false :: false :: false :: false :: false :: false :: false :: []) (t.takeWhile isL).length (fun k => ⟨(.p (.str (txt t)) :: V.junk :: V.junk :: V.junk :: .row (bl (rst (t.take k)).2.2) 0 0 ((rst (t.take k)).2.2.length == 0) :: .p (.int .i64 ((rst (t.take k)).1 : Nat)) :: .p (.int .i64 ((rst (t.take k)).2.1 : Nat)) :: V.junk :: V.junk :: V.junk :: V.junk :: V.junk :: .p (.int .i64 t.length) :: .p (.int .i64 k) :: V.junk :: V.junk :: V.junk :: V.junk :: V.junk :: V.junk :: V.junk :: V.junk :: V.junk :: V.junk :: V.junk :: V.junk :: V.junk :: V.junk :: V.junk :: V.junk :: V.junk :: V.junk :: V.junk :: V.junk :: V.junk :: V.junk :: V.junk :: V.junk :: V.junk :: V.junk :: V.junk :: V.junk :: V.junk :: V.junk :: V.junk :: V.junk :: V.junk :: V.junk :: V.junk :: V.junk :: V.junk :: []), ⟨[], [(0, 0)]⟩⟩) ?_ ?_
  · simp (config := { maxSteps := 1000000 }) (disch := refine Go.Av.hold_ ?_; first | (simp [rst, hsz, -List.getD_eq_getElem?_getD]; done) | omega | fail) [rst, hsz, -List.getD_eq_getElem?_getD]
  intro k hk
  have e1 : IntKind.i64.wrap ((k : Int) + 1) = k + 1 := wrap_i64 _ (by omega) (by omega)
  have hg := txt_get t k
  obtain ⟨q1, q2, q3⟩ := rst_bound (t.take k) (0, 0, []) (by decide) (by decide)
  change (rst (t.take k)).1 < _ at q1
  change (rst (t.take k)).2.1 < _ at q2
  change (rst (t.take k)).2.2.length ≤ _ at q3
  rw [List.length_take] at q3
  simp only [List.length_nil] at q3
  by_cases hkm : k < (t.takeWhile isL).length
  · have hL := tw_get isL t k hkm
    have hkt : k < t.length := by omega
    have hkz : (k : Int) < t.length := by omega
    have hs : rst (t.take (k + 1)) = rstep (rst (t.take k)) (t.getD k 0#8) := by
      rw [List.take_add_one, List.getElem?_eq_getElem hkt, List.getD_eq_getElem?_getD, List.getElem?_eq_getElem hkt]
      exact rst_snoc _ _
    obtain ⟨v, i0, l0, _⟩ := let_idx (c := t.getD k 0#8) (by simpa [isL] using hL)
    have k19 := number_ct (t.getD k 0#8)
    have hne : (ub (t.getD k 0#8) == 61) = false := by
      refine beq_eq_false_iff_ne.2 fun e => ?_
      have := ub_inj (b := 61#8) e
      rw [this, isL_fill] at hL; cases hL
    rw [i0] at k19
    rw [hs]
    unfold rstep
    rw [i0, Int.toNat_natCast]
    clear h1 h2 hs hL
    have hv0 : ¬ (v : Int) < 0 := by omega
    generalize t.getD k 0#8 = c at *
    generalize rst (t.take k) = s at *
    obtain ⟨b, n, o⟩ := s
    simp only at q1 q2 q3 ⊢
    have s6 : shiftBin .shl .i64 (b : Int) 6 = some (.int .i64 ((b : Int) * 64)) := shl64 b 6 (by decide) (by omega)
    have m1 : Int.tmod ((b : Int) * 64) 1048576 = ((b * 64 % 1048576 : Nat) : Int) := by
      have := tmod_nat (b * 64) 1048576
      simpa using this
    have hmm : b * 64 % 1048576 < 1048576 := Nat.mod_lt _ (by decide)
    generalize b * 64 % 1048576 = M at *
    have w1 : IntKind.i64.wrap ((M : Int) + v) = ((M + v : Nat) : Int) := by rw [wrap_i64 _ (by omega) (by omega)]; omega
    generalize M + v = W at *
    have w2 : IntKind.i64.wrap ((n : Int) + 6) = n + 6 := wrap_i64 _ (by omega) (by omega)
    by_cases hn : 8 ≤ n + 6
    · have hnz : (8 : Int) ≤ n + 6 := by omega
      have w3 : IntKind.i64.wrap ((n : Int) + 6 - 8) = ((n - 2 : Nat) : Int) := by rw [wrap_i64 _ (by omega) (by omega)]; omega
      have w4 : IntKind.u64.wrap ((n - 2 : Nat) : Int) = ((n - 2 : Nat) : Int) := wrap_u64 _ (by omega) (by omega)
      have w5 := shr64n W (n - 2) (by omega)
      rw [if_pos hn]
      have w6 : IntKind.u8.wrap ((W / 2 ^ (n - 2) : Nat) : Int) = ub (BitVec.ofNat 8 (W / 2 ^ (n - 2))) := wrap8N _
      generalize (n - 2) = N at *
      generalize W / 2 ^ N = Y at *
      generalize BitVec.ofNat 8 Y = y at *
      have hle : o.length + 1 ≤ 140737488355328 := by omega
      repeat (first | ((with_reducible refine callK_at 19 ?_); refine callK_p ?_; simp (config := { maxSteps := 1000000 }) (disch := refine Go.Av.hold_ ?_; first | (simp [hkt, hkz, hsz, hg, hne, e1, hv0, s6, m1, w1, w2, hnz, w3, w4, w5, w6, hle, -List.getD_eq_getElem?_getD]; done) | omega | fail) [hkt, hkz, hsz, hg, hne, e1, hv0, s6, m1, w1, w2, hnz, w3, w4, w5, w6, hle, -List.getD_eq_getElem?_getD]; refine callK1_of (Fn.ct k19 Try.call19) ?_; (try simp (config := { maxSteps := 1000000 }) (disch := refine Go.Av.hold_ ?_; first | (simp [hkt, hkz, hsz, hg, hne, e1, hv0, s6, m1, w1, w2, hnz, w3, w4, w5, w6, hle, -List.getD_eq_getElem?_getD]; done) | omega | fail) [hkt, hkz, hsz, hg, hne, e1, hv0, s6, m1, w1, w2, hnz, w3, w4, w5, w6, hle, -List.getD_eq_getElem?_getD]); first | (with_reducible refine callK_id ?_) | subst hK_) | ((with_reducible refine AW.regSeqK fun K_ hK_ => ?_); (try simp (config := { maxSteps := 1000000 }) (disch := refine Go.Av.hold_ ?_; first | (simp [hkt, hkz, hsz, hg, hne, e1, hv0, s6, m1, w1, w2, hnz, w3, w4, w5, w6, hle, -List.getD_eq_getElem?_getD]; done) | omega | fail) [hkt, hkz, hsz, hg, hne, e1, hv0, s6, m1, w1, w2, hnz, w3, w4, w5, w6, hle, -List.getD_eq_getElem?_getD]); first | (with_reducible refine callK_id ?_) | subst hK_) | ((with_reducible refine AW.regK fun K_ hK_ => ?_); (try simp (config := { maxSteps := 1000000 }) (disch := refine Go.Av.hold_ ?_; first | (simp [hkt, hkz, hsz, hg, hne, e1, hv0, s6, m1, w1, w2, hnz, w3, w4, w5, w6, hle, -List.getD_eq_getElem?_getD]; done) | omega | fail) [hkt, hkz, hsz, hg, hne, e1, hv0, s6, m1, w1, w2, hnz, w3, w4, w5, w6, hle, -List.getD_eq_getElem?_getD]); first | (with_reducible refine callK_id ?_) | subst hK_) | ((with_reducible refine AW.drawSeqK ?_ ?_ fun K_ hK_ => ?_); (focus kernel_rfl); (focus kernel_rfl); (try simp (config := { maxSteps := 1000000 }) (disch := refine Go.Av.hold_ ?_; first | (simp [hkt, hkz, hsz, hg, hne, e1, hv0, s6, m1, w1, w2, hnz, w3, w4, w5, w6, hle, -List.getD_eq_getElem?_getD]; done) | omega | fail) [hkt, hkz, hsz, hg, hne, e1, hv0, s6, m1, w1, w2, hnz, w3, w4, w5, w6, hle, -List.getD_eq_getElem?_getD]); first | (with_reducible refine callK_id ?_) | subst hK_) | ((with_reducible refine AW.drawK ?_ ?_ fun K_ hK_ => ?_); (focus kernel_rfl); (focus kernel_rfl); (try simp (config := { maxSteps := 1000000 }) (disch := refine Go.Av.hold_ ?_; first | (simp [hkt, hkz, hsz, hg, hne, e1, hv0, s6, m1, w1, w2, hnz, w3, w4, w5, w6, hle, -List.getD_eq_getElem?_getD]; done) | omega | fail) [hkt, hkz, hsz, hg, hne, e1, hv0, s6, m1, w1, w2, hnz, w3, w4, w5, w6, hle, -List.getD_eq_getElem?_getD]); first | (with_reducible refine callK_id ?_) | subst hK_) | (with_reducible refine AW.seq ?_) | (with_reducible refine AW.block ?_) | (with_reducible refine AW.skip ?_) | (with_reducible refine AW.ret ?_) | (with_reducible refine AW.exit ?_) | (with_reducible refine AW.scope ?_) | (with_reducible refine scopeQ_normal ?_) | (with_reducible refine scopeQ_ret ?_) | (with_reducible refine scopeQ_exit ?_) | (with_reducible refine thenQ_normal ?_) | (with_reducible refine thenQ_ret ?_) | (with_reducible refine thenQ_exit ?_) | (with_reducible refine blockQ_normal ?_) | (with_reducible refine blockQ_ret ?_) | (with_reducible refine blockQ_exit ?_) | ((with_reducible refine blockQ_out ?_ ?_); (focus decide)) | ((with_reducible refine AW.cond_id ?_); refine AW.condB rfl ?_; (first | (with_reducible refine condB_true ?_) | (with_reducible refine condB_false ?_))) | ((first | (with_reducible refine contG_id ?_) | (with_reducible refine contO_id ?_) | (with_reducible refine contV_id ?_) | (with_reducible refine bindO_id ?_) | (with_reducible refine bindV_id ?_) | (with_reducible refine runE_id ?_)); simp (config := { maxSteps := 1000000 }) (disch := refine Go.Av.hold_ ?_; first | (simp [hkt, hkz, hsz, hg, hne, e1, hv0, s6, m1, w1, w2, hnz, w3, w4, w5, w6, hle, -List.getD_eq_getElem?_getD]; done) | omega | fail) [hkt, hkz, hsz, hg, hne, e1, hv0, s6, m1, w1, w2, hnz, w3, w4, w5, w6, hle, -List.getD_eq_getElem?_getD]; try (with_reducible refine callK_id ?_)))
      refine ⟨hkm, ?_⟩
      simp (config := { maxSteps := 1000000 }) (disch := refine Go.Av.hold_ ?_; first | (simp [-List.getD_eq_getElem?_getD]; done) | omega | fail) [-List.getD_eq_getElem?_getD]
    · have hnz : ¬ (8 : Int) ≤ n + 6 := by omega
      rw [if_neg hn]
      repeat (first | ((with_reducible refine callK_at 19 ?_); refine callK_p ?_; simp (config := { maxSteps := 1000000 }) (disch := refine Go.Av.hold_ ?_; first | (simp [hkt, hkz, hsz, hg, hne, e1, hv0, s6, m1, w1, w2, hnz, -List.getD_eq_getElem?_getD]; done) | omega | fail) [hkt, hkz, hsz, hg, hne, e1, hv0, s6, m1, w1, w2, hnz, -List.getD_eq_getElem?_getD]; refine callK1_of (Fn.ct k19 Try.call19) ?_; (try simp (config := { maxSteps := 1000000 }) (disch := refine Go.Av.hold_ ?_; first | (simp [hkt, hkz, hsz, hg, hne, e1, hv0, s6, m1, w1, w2, hnz, -List.getD_eq_getElem?_getD]; done) | omega | fail) [hkt, hkz, hsz, hg, hne, e1, hv0, s6, m1, w1, w2, hnz, -List.getD_eq_getElem?_getD]); first | (with_reducible refine callK_id ?_) | subst hK_) | ((with_reducible refine AW.regSeqK fun K_ hK_ => ?_); (try simp (config := { maxSteps := 1000000 }) (disch := refine Go.Av.hold_ ?_; first | (simp [hkt, hkz, hsz, hg, hne, e1, hv0, s6, m1, w1, w2, hnz, -List.getD_eq_getElem?_getD]; done) | omega | fail) [hkt, hkz, hsz, hg, hne, e1, hv0, s6, m1, w1, w2, hnz, -List.getD_eq_getElem?_getD]); first | (with_reducible refine callK_id ?_) | subst hK_) | ((with_reducible refine AW.regK fun K_ hK_ => ?_); (try simp (config := { maxSteps := 1000000 }) (disch := refine Go.Av.hold_ ?_; first | (simp [hkt, hkz, hsz, hg, hne, e1, hv0, s6, m1, w1, w2, hnz, -List.getD_eq_getElem?_getD]; done) | omega | fail) [hkt, hkz, hsz, hg, hne, e1, hv0, s6, m1, w1, w2, hnz, -List.getD_eq_getElem?_getD]); first | (with_reducible refine callK_id ?_) | subst hK_) | ((with_reducible refine AW.drawSeqK ?_ ?_ fun K_ hK_ => ?_); (focus kernel_rfl); (focus kernel_rfl); (try simp (config := { maxSteps := 1000000 }) (disch := refine Go.Av.hold_ ?_; first | (simp [hkt, hkz, hsz, hg, hne, e1, hv0, s6, m1, w1, w2, hnz, -List.getD_eq_getElem?_getD]; done) | omega | fail) [hkt, hkz, hsz, hg, hne, e1, hv0, s6, m1, w1, w2, hnz, -List.getD_eq_getElem?_getD]); first | (with_reducible refine callK_id ?_) | subst hK_) | ((with_reducible refine AW.drawK ?_ ?_ fun K_ hK_ => ?_); (focus kernel_rfl); (focus kernel_rfl); (try simp (config := { maxSteps := 1000000 }) (disch := refine Go.Av.hold_ ?_; first | (simp [hkt, hkz, hsz, hg, hne, e1, hv0, s6, m1, w1, w2, hnz, -List.getD_eq_getElem?_getD]; done) | omega | fail) [hkt, hkz, hsz, hg, hne, e1, hv0, s6, m1, w1, w2, hnz, -List.getD_eq_getElem?_getD]); first | (with_reducible refine callK_id ?_) | subst hK_) | (with_reducible refine AW.seq ?_) | (with_reducible refine AW.block ?_) | (with_reducible refine AW.skip ?_) | (with_reducible refine AW.ret ?_) | (with_reducible refine AW.exit ?_) | (with_reducible refine AW.scope ?_) | (with_reducible refine scopeQ_normal ?_) | (with_reducible refine scopeQ_ret ?_) | (with_reducible refine scopeQ_exit ?_) | (with_reducible refine thenQ_normal ?_) | (with_reducible refine thenQ_ret ?_) | (with_reducible refine thenQ_exit ?_) | (with_reducible refine blockQ_normal ?_) | (with_reducible refine blockQ_ret ?_) | (with_reducible refine blockQ_exit ?_) | ((with_reducible refine blockQ_out ?_ ?_); (focus decide)) | ((with_reducible refine AW.cond_id ?_); refine AW.condB rfl ?_; (first | (with_reducible refine condB_true ?_) | (with_reducible refine condB_false ?_))) | ((first | (with_reducible refine contG_id ?_) | (with_reducible refine contO_id ?_) | (with_reducible refine contV_id ?_) | (with_reducible refine bindO_id ?_) | (with_reducible refine bindV_id ?_) | (with_reducible refine runE_id ?_)); simp (config := { maxSteps := 1000000 }) (disch := refine Go.Av.hold_ ?_; first | (simp [hkt, hkz, hsz, hg, hne, e1, hv0, s6, m1, w1, w2, hnz, -List.getD_eq_getElem?_getD]; done) | omega | fail) [hkt, hkz, hsz, hg, hne, e1, hv0, s6, m1, w1, w2, hnz, -List.getD_eq_getElem?_getD]; try (with_reducible refine callK_id ?_)))
      refine ⟨hkm, ?_⟩
      simp (config := { maxSteps := 1000000 }) (disch := refine Go.Av.hold_ ?_; first | (simp [-List.getD_eq_getElem?_getD]; done) | omega | fail) [-List.getD_eq_getElem?_getD]
  · obtain rfl : k = (t.takeWhile isL).length := by omega
    rw [tw_take] at *
    rw [dw_drop] at h1 h2
    have hst := dw_stop isL t
    generalize (t.takeWhile isL).length = k at *
    generalize rst (t.takeWhile isL) = s at *
    obtain ⟨b, n, o⟩ := s
    simp only at q1 q2 q3 h1 h2 ⊢
    have k11 := renc_ct o (o.length == 0) (by omega)
    have hcmp := str_neq_txt (encL o) t
    by_cases hkt : k < t.length
    · have hkz : (k : Int) < t.length := by omega
      have hh : (t.drop k).head?.getD 61#8 = t.getD k 0#8 := by
        rw [List.drop_eq_getElem_cons hkt, List.getD_eq_getElem?_getD, List.getElem?_eq_getElem hkt]; rfl
      rw [hh] at h1 h2
      have hlet := hst hkt
      have k19 := number_ct (t.getD k 0#8)
      by_cases h61 : t.getD k 0#8 = 61#8
      · have he : (ub (t.getD k 0#8) == 61) = true := by rw [h61]; rfl
        generalize ub (t.getD k 0#8) = C at *
        by_cases hE : encL o = t
        · rw [if_pos ⟨h61, hE⟩] at h1
          obtain ⟨rfl, rfl⟩ := h1 _ rfl
          have hb : (encL o == t) = true := beq_iff_eq.2 hE
          rw [hb] at hcmp
          generalize txt (encL o) = T at *
          repeat (first | ((with_reducible refine callK_at 11 ?_); refine callK_p ?_; simp (config := { maxSteps := 1000000 }) (disch := refine Go.Av.hold_ ?_; first | (simp [hkt, hkz, hsz, hg, he, hcmp, -List.getD_eq_getElem?_getD]; done) | omega | fail) [hkt, hkz, hsz, hg, he, hcmp, -List.getD_eq_getElem?_getD]; refine callK1_of (Fn.ct k11 Try.call11) ?_; (try simp (config := { maxSteps := 1000000 }) (disch := refine Go.Av.hold_ ?_; first | (simp [hkt, hkz, hsz, hg, he, hcmp, -List.getD_eq_getElem?_getD]; done) | omega | fail) [hkt, hkz, hsz, hg, he, hcmp, -List.getD_eq_getElem?_getD]); first | (with_reducible refine callK_id ?_) | subst hK_) | ((with_reducible refine AW.regSeqK fun K_ hK_ => ?_); (try simp (config := { maxSteps := 1000000 }) (disch := refine Go.Av.hold_ ?_; first | (simp [hkt, hkz, hsz, hg, he, hcmp, -List.getD_eq_getElem?_getD]; done) | omega | fail) [hkt, hkz, hsz, hg, he, hcmp, -List.getD_eq_getElem?_getD]); first | (with_reducible refine callK_id ?_) | subst hK_) | ((with_reducible refine AW.regK fun K_ hK_ => ?_); (try simp (config := { maxSteps := 1000000 }) (disch := refine Go.Av.hold_ ?_; first | (simp [hkt, hkz, hsz, hg, he, hcmp, -List.getD_eq_getElem?_getD]; done) | omega | fail) [hkt, hkz, hsz, hg, he, hcmp, -List.getD_eq_getElem?_getD]); first | (with_reducible refine callK_id ?_) | subst hK_) | ((with_reducible refine AW.drawSeqK ?_ ?_ fun K_ hK_ => ?_); (focus kernel_rfl); (focus kernel_rfl); (try simp (config := { maxSteps := 1000000 }) (disch := refine Go.Av.hold_ ?_; first | (simp [hkt, hkz, hsz, hg, he, hcmp, -List.getD_eq_getElem?_getD]; done) | omega | fail) [hkt, hkz, hsz, hg, he, hcmp, -List.getD_eq_getElem?_getD]); first | (with_reducible refine callK_id ?_) | subst hK_) | ((with_reducible refine AW.drawK ?_ ?_ fun K_ hK_ => ?_); (focus kernel_rfl); (focus kernel_rfl); (try simp (config := { maxSteps := 1000000 }) (disch := refine Go.Av.hold_ ?_; first | (simp [hkt, hkz, hsz, hg, he, hcmp, -List.getD_eq_getElem?_getD]; done) | omega | fail) [hkt, hkz, hsz, hg, he, hcmp, -List.getD_eq_getElem?_getD]); first | (with_reducible refine callK_id ?_) | subst hK_) | (with_reducible refine AW.seq ?_) | (with_reducible refine AW.block ?_) | (with_reducible refine AW.skip ?_) | (with_reducible refine AW.ret ?_) | (with_reducible refine AW.exit ?_) | (with_reducible refine AW.scope ?_) | (with_reducible refine scopeQ_normal ?_) | (with_reducible refine scopeQ_ret ?_) | (with_reducible refine scopeQ_exit ?_) | (with_reducible refine thenQ_normal ?_) | (with_reducible refine thenQ_ret ?_) | (with_reducible refine thenQ_exit ?_) | (with_reducible refine blockQ_normal ?_) | (with_reducible refine blockQ_ret ?_) | (with_reducible refine blockQ_exit ?_) | ((with_reducible refine blockQ_out ?_ ?_); (focus decide)) | ((with_reducible refine AW.cond_id ?_); refine AW.condB rfl ?_; (first | (with_reducible refine condB_true ?_) | (with_reducible refine condB_false ?_))) | ((first | (with_reducible refine contG_id ?_) | (with_reducible refine contO_id ?_) | (with_reducible refine contV_id ?_) | (with_reducible refine bindO_id ?_) | (with_reducible refine bindV_id ?_) | (with_reducible refine runE_id ?_)); simp (config := { maxSteps := 1000000 }) (disch := refine Go.Av.hold_ ?_; first | (simp [hkt, hkz, hsz, hg, he, hcmp, -List.getD_eq_getElem?_getD]; done) | omega | fail) [hkt, hkz, hsz, hg, he, hcmp, -List.getD_eq_getElem?_getD]; try (with_reducible refine callK_id ?_)))
          all_goals simp (config := { maxSteps := 1000000 }) (disch := refine Go.Av.hold_ ?_; first | (simp [-List.getD_eq_getElem?_getD]; done) | omega | fail) [-List.getD_eq_getElem?_getD]
        · rw [if_neg (fun e => hE e.2)] at h2
          obtain ⟨rfl, rfl⟩ := h2 rfl
          have hb : (encL o == t) = false := beq_eq_false_iff_ne.2 hE
          rw [hb] at hcmp
          generalize txt (encL o) = T at *
          repeat (first | ((with_reducible refine callK_at 11 ?_); refine callK_p ?_; simp (config := { maxSteps := 1000000 }) (disch := refine Go.Av.hold_ ?_; first | (simp [hkt, hkz, hsz, hg, he, hcmp, -List.getD_eq_getElem?_getD]; done) | omega | fail) [hkt, hkz, hsz, hg, he, hcmp, -List.getD_eq_getElem?_getD]; refine callK1_of (Fn.ct k11 Try.call11) ?_; (try simp (config := { maxSteps := 1000000 }) (disch := refine Go.Av.hold_ ?_; first | (simp [hkt, hkz, hsz, hg, he, hcmp, -List.getD_eq_getElem?_getD]; done) | omega | fail) [hkt, hkz, hsz, hg, he, hcmp, -List.getD_eq_getElem?_getD]); first | (with_reducible refine callK_id ?_) | subst hK_) | ((with_reducible refine AW.regSeqK fun K_ hK_ => ?_); (try simp (config := { maxSteps := 1000000 }) (disch := refine Go.Av.hold_ ?_; first | (simp [hkt, hkz, hsz, hg, he, hcmp, -List.getD_eq_getElem?_getD]; done) | omega | fail) [hkt, hkz, hsz, hg, he, hcmp, -List.getD_eq_getElem?_getD]); first | (with_reducible refine callK_id ?_) | subst hK_) | ((with_reducible refine AW.regK fun K_ hK_ => ?_); (try simp (config := { maxSteps := 1000000 }) (disch := refine Go.Av.hold_ ?_; first | (simp [hkt, hkz, hsz, hg, he, hcmp, -List.getD_eq_getElem?_getD]; done) | omega | fail) [hkt, hkz, hsz, hg, he, hcmp, -List.getD_eq_getElem?_getD]); first | (with_reducible refine callK_id ?_) | subst hK_) | ((with_reducible refine AW.drawSeqK ?_ ?_ fun K_ hK_ => ?_); (focus kernel_rfl); (focus kernel_rfl); (try simp (config := { maxSteps := 1000000 }) (disch := refine Go.Av.hold_ ?_; first | (simp [hkt, hkz, hsz, hg, he, hcmp, -List.getD_eq_getElem?_getD]; done) | omega | fail) [hkt, hkz, hsz, hg, he, hcmp, -List.getD_eq_getElem?_getD]); first | (with_reducible refine callK_id ?_) | subst hK_) | ((with_reducible refine AW.drawK ?_ ?_ fun K_ hK_ => ?_); (focus kernel_rfl); (focus kernel_rfl); (try simp (config := { maxSteps := 1000000 }) (disch := refine Go.Av.hold_ ?_; first | (simp [hkt, hkz, hsz, hg, he, hcmp, -List.getD_eq_getElem?_getD]; done) | omega | fail) [hkt, hkz, hsz, hg, he, hcmp, -List.getD_eq_getElem?_getD]); first | (with_reducible refine callK_id ?_) | subst hK_) | (with_reducible refine AW.seq ?_) | (with_reducible refine AW.block ?_) | (with_reducible refine AW.skip ?_) | (with_reducible refine AW.ret ?_) | (with_reducible refine AW.exit ?_) | (with_reducible refine AW.scope ?_) | (with_reducible refine scopeQ_normal ?_) | (with_reducible refine scopeQ_ret ?_) | (with_reducible refine scopeQ_exit ?_) | (with_reducible refine thenQ_normal ?_) | (with_reducible refine thenQ_ret ?_) | (with_reducible refine thenQ_exit ?_) | (with_reducible refine blockQ_normal ?_) | (with_reducible refine blockQ_ret ?_) | (with_reducible refine blockQ_exit ?_) | ((with_reducible refine blockQ_out ?_ ?_); (focus decide)) | ((with_reducible refine AW.cond_id ?_); refine AW.condB rfl ?_; (first | (with_reducible refine condB_true ?_) | (with_reducible refine condB_false ?_))) | ((first | (with_reducible refine contG_id ?_) | (with_reducible refine contO_id ?_) | (with_reducible refine contV_id ?_) | (with_reducible refine bindO_id ?_) | (with_reducible refine bindV_id ?_) | (with_reducible refine runE_id ?_)); simp (config := { maxSteps := 1000000 }) (disch := refine Go.Av.hold_ ?_; first | (simp [hkt, hkz, hsz, hg, he, hcmp, -List.getD_eq_getElem?_getD]; done) | omega | fail) [hkt, hkz, hsz, hg, he, hcmp, -List.getD_eq_getElem?_getD]; try (with_reducible refine callK_id ?_)))
          all_goals simp (config := { maxSteps := 1000000 }) (disch := refine Go.Av.hold_ ?_; first | (simp [-List.getD_eq_getElem?_getD]; done) | omega | fail) [-List.getD_eq_getElem?_getD]
      · rw [if_neg (fun e => h61 e.1)] at h2
        obtain ⟨rfl, rfl⟩ := h2 rfl
        have he : (ub (t.getD k 0#8) == 61) = false := beq_eq_false_iff_ne.2 fun e => h61 (ub_inj (b := 61#8) e)
        rw [let_none (c := t.getD k 0#8) (by simpa [isL] using hlet)] at k19
        generalize t.getD k 0#8 = c at *
        repeat (first | ((with_reducible refine callK_at 19 ?_); refine callK_p ?_; simp (config := { maxSteps := 1000000 }) (disch := refine Go.Av.hold_ ?_; first | (simp [hkt, hkz, hsz, hg, he, -List.getD_eq_getElem?_getD]; done) | omega | fail) [hkt, hkz, hsz, hg, he, -List.getD_eq_getElem?_getD]; refine callK1_of (Fn.ct k19 Try.call19) ?_; (try simp (config := { maxSteps := 1000000 }) (disch := refine Go.Av.hold_ ?_; first | (simp [hkt, hkz, hsz, hg, he, -List.getD_eq_getElem?_getD]; done) | omega | fail) [hkt, hkz, hsz, hg, he, -List.getD_eq_getElem?_getD]); first | (with_reducible refine callK_id ?_) | subst hK_) | ((with_reducible refine AW.regSeqK fun K_ hK_ => ?_); (try simp (config := { maxSteps := 1000000 }) (disch := refine Go.Av.hold_ ?_; first | (simp [hkt, hkz, hsz, hg, he, -List.getD_eq_getElem?_getD]; done) | omega | fail) [hkt, hkz, hsz, hg, he, -List.getD_eq_getElem?_getD]); first | (with_reducible refine callK_id ?_) | subst hK_) | ((with_reducible refine AW.regK fun K_ hK_ => ?_); (try simp (config := { maxSteps := 1000000 }) (disch := refine Go.Av.hold_ ?_; first | (simp [hkt, hkz, hsz, hg, he, -List.getD_eq_getElem?_getD]; done) | omega | fail) [hkt, hkz, hsz, hg, he, -List.getD_eq_getElem?_getD]); first | (with_reducible refine callK_id ?_) | subst hK_) | ((with_reducible refine AW.drawSeqK ?_ ?_ fun K_ hK_ => ?_); (focus kernel_rfl); (focus kernel_rfl); (try simp (config := { maxSteps := 1000000 }) (disch := refine Go.Av.hold_ ?_; first | (simp [hkt, hkz, hsz, hg, he, -List.getD_eq_getElem?_getD]; done) | omega | fail) [hkt, hkz, hsz, hg, he, -List.getD_eq_getElem?_getD]); first | (with_reducible refine callK_id ?_) | subst hK_) | ((with_reducible refine AW.drawK ?_ ?_ fun K_ hK_ => ?_); (focus kernel_rfl); (focus kernel_rfl); (try simp (config := { maxSteps := 1000000 }) (disch := refine Go.Av.hold_ ?_; first | (simp [hkt, hkz, hsz, hg, he, -List.getD_eq_getElem?_getD]; done) | omega | fail) [hkt, hkz, hsz, hg, he, -List.getD_eq_getElem?_getD]); first | (with_reducible refine callK_id ?_) | subst hK_) | (with_reducible refine AW.seq ?_) | (with_reducible refine AW.block ?_) | (with_reducible refine AW.skip ?_) | (with_reducible refine AW.ret ?_) | (with_reducible refine AW.exit ?_) | (with_reducible refine AW.scope ?_) | (with_reducible refine scopeQ_normal ?_) | (with_reducible refine scopeQ_ret ?_) | (with_reducible refine scopeQ_exit ?_) | (with_reducible refine thenQ_normal ?_) | (with_reducible refine thenQ_ret ?_) | (with_reducible refine thenQ_exit ?_) | (with_reducible refine blockQ_normal ?_) | (with_reducible refine blockQ_ret ?_) | (with_reducible refine blockQ_exit ?_) | ((with_reducible refine blockQ_out ?_ ?_); (focus decide)) | ((with_reducible refine AW.cond_id ?_); refine AW.condB rfl ?_; (first | (with_reducible refine condB_true ?_) | (with_reducible refine condB_false ?_))) | ((first | (with_reducible refine contG_id ?_) | (with_reducible refine contO_id ?_) | (with_reducible refine contV_id ?_) | (with_reducible refine bindO_id ?_) | (with_reducible refine bindV_id ?_) | (with_reducible refine runE_id ?_)); simp (config := { maxSteps := 1000000 }) (disch := refine Go.Av.hold_ ?_; first | (simp [hkt, hkz, hsz, hg, he, -List.getD_eq_getElem?_getD]; done) | omega | fail) [hkt, hkz, hsz, hg, he, -List.getD_eq_getElem?_getD]; try (with_reducible refine callK_id ?_)))
        all_goals simp (config := { maxSteps := 1000000 }) (disch := refine Go.Av.hold_ ?_; first | (simp [-List.getD_eq_getElem?_getD]; done) | omega | fail) [-List.getD_eq_getElem?_getD]
    · have hkz : ¬ (k : Int) < t.length := by omega
      have hh : (t.drop k).head?.getD 61#8 = 61#8 := by rw [List.drop_eq_nil_of_le (by omega)]; rfl
      rw [hh] at h1 h2
      by_cases hE : encL o = t
      · rw [if_pos ⟨rfl, hE⟩] at h1
        obtain ⟨rfl, rfl⟩ := h1 _ rfl
        have hb : (encL o == t) = true := beq_iff_eq.2 hE
        rw [hb] at hcmp
        generalize txt (encL o) = T at *
        repeat (first | ((with_reducible refine callK_at 11 ?_); refine callK_p ?_; simp (config := { maxSteps := 1000000 }) (disch := refine Go.Av.hold_ ?_; first | (simp [hkt, hkz, hsz, hcmp, -List.getD_eq_getElem?_getD]; done) | omega | fail) [hkt, hkz, hsz, hcmp, -List.getD_eq_getElem?_getD]; refine callK1_of (Fn.ct k11 Try.call11) ?_; (try simp (config := { maxSteps := 1000000 }) (disch := refine Go.Av.hold_ ?_; first | (simp [hkt, hkz, hsz, hcmp, -List.getD_eq_getElem?_getD]; done) | omega | fail) [hkt, hkz, hsz, hcmp, -List.getD_eq_getElem?_getD]); first | (with_reducible refine callK_id ?_) | subst hK_) | ((with_reducible refine AW.regSeqK fun K_ hK_ => ?_); (try simp (config := { maxSteps := 1000000 }) (disch := refine Go.Av.hold_ ?_; first | (simp [hkt, hkz, hsz, hcmp, -List.getD_eq_getElem?_getD]; done) | omega | fail) [hkt, hkz, hsz, hcmp, -List.getD_eq_getElem?_getD]); first | (with_reducible refine callK_id ?_) | subst hK_) | ((with_reducible refine AW.regK fun K_ hK_ => ?_); (try simp (config := { maxSteps := 1000000 }) (disch := refine Go.Av.hold_ ?_; first | (simp [hkt, hkz, hsz, hcmp, -List.getD_eq_getElem?_getD]; done) | omega | fail) [hkt, hkz, hsz, hcmp, -List.getD_eq_getElem?_getD]); first | (with_reducible refine callK_id ?_) | subst hK_) | ((with_reducible refine AW.drawSeqK ?_ ?_ fun K_ hK_ => ?_); (focus kernel_rfl); (focus kernel_rfl); (try simp (config := { maxSteps := 1000000 }) (disch := refine Go.Av.hold_ ?_; first | (simp [hkt, hkz, hsz, hcmp, -List.getD_eq_getElem?_getD]; done) | omega | fail) [hkt, hkz, hsz, hcmp, -List.getD_eq_getElem?_getD]); first | (with_reducible refine callK_id ?_) | subst hK_) | ((with_reducible refine AW.drawK ?_ ?_ fun K_ hK_ => ?_); (focus kernel_rfl); (focus kernel_rfl); (try simp (config := { maxSteps := 1000000 }) (disch := refine Go.Av.hold_ ?_; first | (simp [hkt, hkz, hsz, hcmp, -List.getD_eq_getElem?_getD]; done) | omega | fail) [hkt, hkz, hsz, hcmp, -List.getD_eq_getElem?_getD]); first | (with_reducible refine callK_id ?_) | subst hK_) | (with_reducible refine AW.seq ?_) | (with_reducible refine AW.block ?_) | (with_reducible refine AW.skip ?_) | (with_reducible refine AW.ret ?_) | (with_reducible refine AW.exit ?_) | (with_reducible refine AW.scope ?_) | (with_reducible refine scopeQ_normal ?_) | (with_reducible refine scopeQ_ret ?_) | (with_reducible refine scopeQ_exit ?_) | (with_reducible refine thenQ_normal ?_) | (with_reducible refine thenQ_ret ?_) | (with_reducible refine thenQ_exit ?_) | (with_reducible refine blockQ_normal ?_) | (with_reducible refine blockQ_ret ?_) | (with_reducible refine blockQ_exit ?_) | ((with_reducible refine blockQ_out ?_ ?_); (focus decide)) | ((with_reducible refine AW.cond_id ?_); refine AW.condB rfl ?_; (first | (with_reducible refine condB_true ?_) | (with_reducible refine condB_false ?_))) | ((first | (with_reducible refine contG_id ?_) | (with_reducible refine contO_id ?_) | (with_reducible refine contV_id ?_) | (with_reducible refine bindO_id ?_) | (with_reducible refine bindV_id ?_) | (with_reducible refine runE_id ?_)); simp (config := { maxSteps := 1000000 }) (disch := refine Go.Av.hold_ ?_; first | (simp [hkt, hkz, hsz, hcmp, -List.getD_eq_getElem?_getD]; done) | omega | fail) [hkt, hkz, hsz, hcmp, -List.getD_eq_getElem?_getD]; try (with_reducible refine callK_id ?_)))
        all_goals simp (config := { maxSteps := 1000000 }) (disch := refine Go.Av.hold_ ?_; first | (simp [-List.getD_eq_getElem?_getD]; done) | omega | fail) [-List.getD_eq_getElem?_getD]
      · rw [if_neg (fun e => hE e.2)] at h2
        obtain ⟨rfl, rfl⟩ := h2 rfl
        have hb : (encL o == t) = false := beq_eq_false_iff_ne.2 hE
        rw [hb] at hcmp
        generalize txt (encL o) = T at *
        repeat (first | ((with_reducible refine callK_at 11 ?_); refine callK_p ?_; simp (config := { maxSteps := 1000000 }) (disch := refine Go.Av.hold_ ?_; first | (simp [hkt, hkz, hsz, hcmp, -List.getD_eq_getElem?_getD]; done) | omega | fail) [hkt, hkz, hsz, hcmp, -List.getD_eq_getElem?_getD]; refine callK1_of (Fn.ct k11 Try.call11) ?_; (try simp (config := { maxSteps := 1000000 }) (disch := refine Go.Av.hold_ ?_; first | (simp [hkt, hkz, hsz, hcmp, -List.getD_eq_getElem?_getD]; done) | omega | fail) [hkt, hkz, hsz, hcmp, -List.getD_eq_getElem?_getD]); first | (with_reducible refine callK_id ?_) | subst hK_) | ((with_reducible refine AW.regSeqK fun K_ hK_ => ?_); (try simp (config := { maxSteps := 1000000 }) (disch := refine Go.Av.hold_ ?_; first | (simp [hkt, hkz, hsz, hcmp, -List.getD_eq_getElem?_getD]; done) | omega | fail) [hkt, hkz, hsz, hcmp, -List.getD_eq_getElem?_getD]); first | (with_reducible refine callK_id ?_) | subst hK_) | ((with_reducible refine AW.regK fun K_ hK_ => ?_); (try simp (config := { maxSteps := 1000000 }) (disch := refine Go.Av.hold_ ?_; first | (simp [hkt, hkz, hsz, hcmp, -List.getD_eq_getElem?_getD]; done) | omega | fail) [hkt, hkz, hsz, hcmp, -List.getD_eq_getElem?_getD]); first | (with_reducible refine callK_id ?_) | subst hK_) | ((with_reducible refine AW.drawSeqK ?_ ?_ fun K_ hK_ => ?_); (focus kernel_rfl); (focus kernel_rfl); (try simp (config := { maxSteps := 1000000 }) (disch := refine Go.Av.hold_ ?_; first | (simp [hkt, hkz, hsz, hcmp, -List.getD_eq_getElem?_getD]; done) | omega | fail) [hkt, hkz, hsz, hcmp, -List.getD_eq_getElem?_getD]); first | (with_reducible refine callK_id ?_) | subst hK_) | ((with_reducible refine AW.drawK ?_ ?_ fun K_ hK_ => ?_); (focus kernel_rfl); (focus kernel_rfl); (try simp (config := { maxSteps := 1000000 }) (disch := refine Go.Av.hold_ ?_; first | (simp [hkt, hkz, hsz, hcmp, -List.getD_eq_getElem?_getD]; done) | omega | fail) [hkt, hkz, hsz, hcmp, -List.getD_eq_getElem?_getD]); first | (with_reducible refine callK_id ?_) | subst hK_) | (with_reducible refine AW.seq ?_) | (with_reducible refine AW.block ?_) | (with_reducible refine AW.skip ?_) | (with_reducible refine AW.ret ?_) | (with_reducible refine AW.exit ?_) | (with_reducible refine AW.scope ?_) | (with_reducible refine scopeQ_normal ?_) | (with_reducible refine scopeQ_ret ?_) | (with_reducible refine scopeQ_exit ?_) | (with_reducible refine thenQ_normal ?_) | (with_reducible refine thenQ_ret ?_) | (with_reducible refine thenQ_exit ?_) | (with_reducible refine blockQ_normal ?_) | (with_reducible refine blockQ_ret ?_) | (with_reducible refine blockQ_exit ?_) | ((with_reducible refine blockQ_out ?_ ?_); (focus decide)) | ((with_reducible refine AW.cond_id ?_); refine AW.condB rfl ?_; (first | (with_reducible refine condB_true ?_) | (with_reducible refine condB_false ?_))) | ((first | (with_reducible refine contG_id ?_) | (with_reducible refine contO_id ?_) | (with_reducible refine contV_id ?_) | (with_reducible refine bindO_id ?_) | (with_reducible refine bindV_id ?_) | (with_reducible refine runE_id ?_)); simp (config := { maxSteps := 1000000 }) (disch := refine Go.Av.hold_ ?_; first | (simp [hkt, hkz, hsz, hcmp, -List.getD_eq_getElem?_getD]; done) | omega | fail) [hkt, hkz, hsz, hcmp, -List.getD_eq_getElem?_getD]; try (with_reducible refine callK_id ?_)))
        all_goals simp (config := { maxSteps := 1000000 }) (disch := refine Go.Av.hold_ ?_; first | (simp [-List.getD_eq_getElem?_getD]; done) | omega | fail) [-List.getD_eq_getElem?_getD]
end Go.Av.Base
end
