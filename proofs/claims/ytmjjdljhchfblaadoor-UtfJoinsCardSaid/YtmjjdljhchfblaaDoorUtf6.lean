/- The walks of this seat's functions, and what is known of what they reckon (Utf6). Conditions: those that each theorem names. -/
import Derived.Test.YtmjjdljhchfblaaDoorUtf5
import Derived.Lib.LaidU8

section
namespace Go.Proofs.YtmjjdljhchfblaaDoor
open Go Go.Av Go.Av.Utf
theorem firstL_at (c : Nat) (h : c < 256) : firstL.getD c 0 = ((Lib.firstT c : Nat) : Int) := by
  rw [first_get c h]
  unfold firstF Lib.firstT
  (repeat' split) <;> omega
theorem accL_at : ∀ i : Fin 16, accL.getD (2 * i.val) 0 = ((Lib.accLo i.val : Nat) : Int) ∧ accL.getD (2 * i.val + 1) 0 = ((Lib.accHi i.val : Nat) : Int) := by decide
/-- The two tables of utf8 as they lie. -/
theorem noVars (W : World) (h : Lib.Utf8Tabs 0 1 W) : ∀ g r, Tables.gl g = some r → RepP (cellsOf W) (.eptr r 0 0) (.pointer (some ⟨g, 0, none⟩)) := by
  intro g r hg
  have one : ∀ (l : List Int) (n : Nat), l.length = n → n ≠ 0 → (∀ j, j < n → W.cell? ⟨g, j, none⟩ = some (.int .u8 (l.getD j 0))) → RepP (cellsOf W) (.eptr (.vals n [.agg (.ints .u8 l)]) 0 0) (.pointer (some ⟨g, 0, none⟩)) := by
    intro l n hl h0 hc
    have := RepP.eptr (m := cellsOf W) (.vals n [.agg (.ints .u8 l)]) 0 0 g 0 (fun _ j => .int .u8 (l.getD j 0)) (by simp [Row.len]) ?_ ?_ ?_ ?_
    · simpa using this
    · intro i hi
      simp only [Row.len, List.length_singleton] at hi
      obtain rfl : i = 0 := by omega
      simpa [Row.elem, PV.width, Row.len, Row.sz] using hl
    · intro i j hi hj
      simp only [Row.len, List.length_singleton] at hi
      obtain rfl : i = 0 := by omega
      show W.cell? ⟨g, 0 + 0 * n + j, none⟩ = _
      rw [show 0 + 0 * n + j = j by omega]; exact hc j (by simpa [Row.sz] using hj)
    · intro i j hi hj
      simp only [Row.len, List.length_singleton] at hi
      obtain rfl : i = 0 := by omega
      rfl
    · intro i j hi hj
      simp only [Row.len, List.length_singleton] at hi
      obtain rfl : i = 0 := by omega
      exact .int .u8 _
  match g, hg with
  | 0, hg =>
    have : r = .vals 256 [.agg (.ints .u8 firstL)] := (Option.some.inj hg).symm
    subst this
    exact one firstL 256 (by simp [firstL]) (by omega) fun j hj => by rw [h.1 j hj, firstL_at j hj]
  | 1, hg =>
    have : r = .vals 32 [.agg (.ints .u8 accL)] := (Option.some.inj hg).symm
    subst this
    refine one accL 32 rfl (by omega) fun j hj => ?_
    obtain ⟨k, hk⟩ : ∃ k, j = 2 * k ∨ j = 2 * k + 1 := ⟨j / 2, by omega⟩
    have hk16 : k < 16 := by omega
    obtain ⟨q1, q2⟩ := h.2 k hk16
    obtain ⟨a1, a2⟩ := accL_at ⟨k, hk16⟩
    rcases hk with rfl | rfl
    · rw [q1, a1]
    · rw [q2, a2]
end Go.Proofs.YtmjjdljhchfblaaDoor
namespace Go.Av.Utf
open Go Go.Av Go.Proofs
section
open Go.ChangeShapes Go.WideShapes Go.RowKit Go.ChangeAt
variable {P : Program} {H : Type} {enc : TypeId × Value → H} {w : World} {base : Nat} {spare : Nat → Bool} {held : Bool}
/-- Numbers of 32 bits that came in. -/
theorem open_runes {r : Reach} {b0 t e : Nat} {v : Value} {d : DataW H} {ps : List MemPlace} (ht : P.underlying t = some (.slice e)) (he : P.underlying e = some (.int .i32)) (hc : P.cellsOf e = 1)
    (hval : Value.okWide P w r b0 t v) (hd : DataW.Trod enc P w base spare held t v d ps) :
    ∃ (l : List Int) (nl : Bool), RepP (cellsOf w) (.sl (rl l) nl) v ∧ l.length ≤ maxLen ∧ ∀ n ∈ l, (Lit.int .i32 n).wf = true := by
  obtain ⟨a0, len0, cap0, rfl⟩ := okWide_slice ht hval
  obtain ⟨fuel, hf⟩ := hd
  rcases open_ints ht he hc hf with ⟨hcs, _⟩ | ⟨a, len, cap, zs, hcs, _, hl, hm, hz, _, hcell, hwz⟩
  · simp [Value.cells] at hcs
    obtain ⟨rfl, rfl, rfl⟩ := hcs
    exact ⟨[], true, .slNil _ rfl, Nat.zero_le _, fun n hn => by simp at hn⟩
  · simp [Value.cells] at hcs
    obtain ⟨rfl, rfl, rfl⟩ := hcs
    have hzl : len0 ≤ zs.length := by rw [hz]; split <;> omega
    refine ⟨zs.take len0, false, rep_ints hl hzl hcell, by simp; omega, fun n hn => hwz n (List.mem_of_mem_take hn)⟩
end
theorem wf_u8 {n : Int} (w : (Lit.int .u8 n).wf = true) : 0 ≤ n ∧ n < 256 := by
  have e : (Lit.int .u8 n).wf = (decide (0 ≤ n) && decide (n ≤ 255)) := rfl
  rw [e] at w; simp at w; omega
theorem xml_law (r : Int) (_ : (Lit.int .i32 r).wf = true) : Fn Tryd.prog 3 [.int .i32 r] [.p (.bool true)] := xmlLaw_ct r
theorem reads_law (l : List (BitVec 8)) (nl : Bool) (_ : l.length ≤ maxLen) : Fn Tryd.prog 7 [.sl (bl l) nl] [.p (.bool true)] := reads_ct nl l
theorem joins_law (a : List (BitVec 8)) (nl : Bool) (_ : a.length ≤ maxLen) (b : List (BitVec 8)) (ml : Bool) (_ : b.length ≤ maxLen) : Fn Tryd.prog 6 [.sl (bl a) nl, .sl (bl b) ml] [.p (.bool true)] := joins_ct nl a ml b
theorem writes_law (l : List Int) (nl : Bool) (_ : l.length ≤ maxLen) (_ : ∀ n ∈ l, (Lit.int .i32 n).wf = true) : Fn Tryd.prog 5 [.sl (rl l) nl] [.p (.bool true)] := writes_ct nl l
theorem cuts_law (r : Int) (_ : (Lit.int .i32 r).wf = true) (x : Int) (wx : (Lit.int .u8 x).wf = true) (l : List Int) (nl : Bool) (_ : l.length ≤ maxLen) (_ : ∀ n ∈ l, (Lit.int .i32 n).wf = true) :
    Fn Tryd.prog 4 [.int .i32 r, .int .u8 x, .sl (rl l) nl] [.p (.bool true)] := cuts_ct r x (wf_u8 wx) nl l
end Go.Av.Utf
end
