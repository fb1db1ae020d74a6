/- The walks of this seat's functions, and what is known of what they reckon (Nam3). Conditions: those that each theorem names. -/
import Derived.Test.YtmjjdljhchfblaaDoorNam4
import Derived.Lib.LaidU8

section
namespace Go.Proofs.YtmjjdljhchfblaaDoor
open Go Go.Av Go.Av.Utf
theorem firstL_at (c : Nat) (h : c < 256) : firstL.getD c 0 = ((Lib.firstT c : Nat) : Int) := by
  rw [first_get c h]
  unfold firstF Lib.firstT
  (repeat' split) <;> omega
theorem accL_at : ∀ i : Fin 16, accL.getD (2 * i.val) 0 = ((Lib.accLo i.val : Nat) : Int) ∧ accL.getD (2 * i.val + 1) 0 = ((Lib.accHi i.val : Nat) : Int) := by decide
/-- The two tables of utf8 as they lie. -/
theorem noVars (W : World) (h : Lib.Utf8Tabs 0 1 W) : ∀ g r, Tables.gl g = some r → RepP (cellsOf W) (.eptr r 0 0) (.pointer (some ⟨g, 0, none⟩)) := by
  intro g r hg
  have one : ∀ (l : List Int) (n : Nat), l.length = n → n ≠ 0 → (∀ j, j < n → W.cell? ⟨g, j, none⟩ = some (.int .u8 (l.getD j 0))) → RepP (cellsOf W) (.eptr (.vals n [.agg (.ints .u8 l)]) 0 0) (.pointer (some ⟨g, 0, none⟩)) := by
    intro l n hl h0 hc
    have := RepP.eptr (m := cellsOf W) (.vals n [.agg (.ints .u8 l)]) 0 0 g 0 (fun _ j => .int .u8 (l.getD j 0)) (by simp [Row.len]) ?_ ?_ ?_ ?_
    · simpa using this
    · intro i hi
      simp only [Row.len, List.length_singleton] at hi
      obtain rfl : i = 0 := by omega
      simpa [Row.elem, PV.width, Row.len, Row.sz] using hl
    · intro i j hi hj
      simp only [Row.len, List.length_singleton] at hi
      obtain rfl : i = 0 := by omega
      show W.cell? ⟨g, 0 + 0 * n + j, none⟩ = _
      rw [show 0 + 0 * n + j = j by omega]; exact hc j (by simpa [Row.sz] using hj)
    · intro i j hi hj
      simp only [Row.len, List.length_singleton] at hi
      obtain rfl : i = 0 := by omega
      rfl
    · intro i j hi hj
      simp only [Row.len, List.length_singleton] at hi
      obtain rfl : i = 0 := by omega
      exact .int .u8 _
  match g, hg with
  | 0, hg =>
    have : r = .vals 256 [.agg (.ints .u8 firstL)] := (Option.some.inj hg).symm
    subst this
    exact one firstL 256 (by simp [firstL]) (by omega) fun j hj => by rw [h.1 j hj, firstL_at j hj]
  | 1, hg =>
    have : r = .vals 32 [.agg (.ints .u8 accL)] := (Option.some.inj hg).symm
    subst this
    refine one accL 32 rfl (by omega) fun j hj => ?_
    obtain ⟨k, hk⟩ : ∃ k, j = 2 * k ∨ j = 2 * k + 1 := ⟨j / 2, by omega⟩
    have hk16 : k < 16 := by omega
    obtain ⟨q1, q2⟩ := h.2 k hk16
    obtain ⟨a1, a2⟩ := accL_at ⟨k, hk16⟩
    rcases hk with rfl | rfl
    · rw [q1, a1]
    · rw [q2, a2]
end Go.Proofs.YtmjjdljhchfblaaDoor
namespace Go.Av.Utf
open Go Go.Av Go.Proofs
theorem wf_byte {n : Int} (w : (Lit.int .u8 n).wf = true) : 0 ≤ n ∧ n < 256 := by
  have e : (Lit.int .u8 n).wf = (decide (0 ≤ n) && decide (n ≤ 255)) := rfl
  rw [e] at w; simp at w; omega
theorem txt_room {s : ByteArray} (h : s.size ≤ reachBytes) : ∃ l, s = txt l ∧ l.length ≤ 200000000000000 := by
  obtain ⟨l, rfl⟩ := txt_of s
  rw [txt_size] at h
  have : reachBytes ≤ 200000000000000 := by decide
  exact ⟨l, rfl, by omega⟩
theorem nstands_law (r : Int) (_ : (Lit.int .i32 r).wf = true) : Fn Tryd.prog 8 [.int .i32 r] [.p (.bool true)] := nstands_ct r
theorem nis_law (s : ByteArray) (h : s.size ≤ reachBytes) : Fn Tryd.prog 9 [.str s] [.p (.bool true)] := by
  obtain ⟨l, rfl, _⟩ := txt_room h; exact nis_ct l
theorem njoins_law (s : ByteArray) (h : s.size ≤ reachBytes) (t : ByteArray) (ht : t.size ≤ reachBytes) (u : ByteArray) (hu : u.size ≤ reachBytes) : Fn Tryd.prog 10 [.str s, .str t, .str u] [.p (.bool true)] := by
  obtain ⟨a, rfl, ha⟩ := txt_room h
  obtain ⟨b, rfl, hb⟩ := txt_room ht
  obtain ⟨c, rfl, hc⟩ := txt_room hu
  exact njoins_ct a b c ha hb hc
theorem ntrims_law (s : ByteArray) (h : s.size ≤ reachBytes) (c : Int) (_ : (Lit.int .u8 c).wf = true) : Fn Tryd.prog 11 [.str s, .int .u8 c] [.p (.bool true)] := by
  obtain ⟨l, rfl, _⟩ := txt_room h; exact ntrims_ct l c
theorem nshorter_law (s : ByteArray) (h : s.size ≤ reachBytes) (x : Int) (w : (Lit.int .u8 x).wf = true) (r : Int) (_ : (Lit.int .i32 r).wf = true) : Fn Tryd.prog 12 [.str s, .int .u8 x, .int .i32 r] [.p (.bool true)] := by
  obtain ⟨l, rfl, _⟩ := txt_room h; exact nshorter_ct l x (wf_byte w) r
end Go.Av.Utf
end
