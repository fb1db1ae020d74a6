/- The walks of this seat's functions, and what is known of what they reckon (Cha8). Conditions: those that each theorem names. -/
import Derived.Test.YtdbojjoffmbjcaaGreatDoorCha7
import Derived.Lib.Replace
import Derived.Below
import Derived.Shelf.LaysM
import Derived.Shelf.Strings.Search3
import Derived.Shelf.Strings.Replace
import Derived.Shelf.Strings.Shaped
import Derived.Shelf.Strings.SplitShaped
import Derived.Lib.LaidU8
section
set_option linter.unusedSimpArgs false
set_option linter.unusedVariables false
open Go
namespace Go.Av.Cha
def repA (old new s : List UInt8) : List UInt8 := Lib.replaceK old new (Lib.count s old) s
theorem repA_nil {old : List UInt8} (new : List UInt8) (h : old ≠ []) : repA old new [] = [] := by
  have h1 : Lib.index [] old = -1 := by cases old with
    | nil => exact absurd rfl h
    | cons b l => rfl
  unfold repA; rw [Lib.count_miss h1]; rfl
theorem repA_hit {old : List UInt8} (new t : List UInt8) (h : old ≠ []) : repA old new (old ++ t) = new ++ repA old new t := by
  have h1 : Lib.index (old ++ t) old = ((0 : Nat) : Int) := by
    cases old with
    | nil => exact absurd rfl h
    | cons b l =>
      rw [List.cons_append, Lib.index, if_pos]; rfl
      rw [List.isPrefixOf_iff_prefix]
      exact ⟨t, by simp⟩
  unfold repA
  rw [Lib.count_hit h h1, Nat.add_comm 1, Lib.replaceK_hit _ _ _ _ _ h1]
  simp
theorem repA_cons {old : List UInt8} (new : List UInt8) (b : UInt8) (l : List UInt8) (h : old ≠ []) (hp : old.isPrefixOf (b :: l) = false) : repA old new (b :: l) = b :: repA old new l := by
  have e : Lib.index (b :: l) old = if Lib.index l old == -1 then -1 else Lib.index l old + 1 := by
    rw [Lib.index, hp]; rfl
  have hg := Lib.index_ge l old
  by_cases hm : Lib.index l old = -1
  · rw [hm] at e
    have e' : Lib.index (b :: l) old = -1 := e
    unfold repA; rw [Lib.count_miss hm, Lib.count_miss e']; rfl
  · obtain ⟨i, hi⟩ : ∃ i : Nat, Lib.index l old = i := ⟨(Lib.index l old).toNat, by omega⟩
    have e' : Lib.index (b :: l) old = ((i + 1 : Nat) : Int) := by
      rw [e, if_neg (by simpa using hm), hi]; rfl
    unfold repA
    rw [Lib.count_hit h hi, Lib.count_hit h e', Nat.add_comm 1, Nat.add_comm 1, Lib.replaceK_hit _ _ _ _ _ hi, Lib.replaceK_hit _ _ _ _ _ e']
    have ed : (b :: l).drop (i + 1 + old.length) = l.drop (i + old.length) := by
      rw [show i + 1 + old.length = (i + old.length) + 1 by omega]; rfl
    rw [ed]; simp
theorem replaceAll_eq {old new : List UInt8} (s : List UInt8) (hn : old ≠ new) : Lib.replaceAll s old new = repA old new s := by
  unfold Lib.replaceAll Lib.replace
  rw [if_neg (by simpa using hn)]
  unfold repA Lib.replaceNum
  rw [if_pos (Or.inl (by omega))]
def u8 (x : BitVec 8) : UInt8 := UInt8.ofBitVec x
theorem u8_inj {x y : BitVec 8} : u8 x = u8 y ↔ x = y := ⟨fun h => congrArg UInt8.toBitVec h, fun h => h ▸ rfl⟩
def crlf : List (BitVec 8) → List (BitVec 8)
  | [] => []
  | b :: l => if b = 13#8 ∧ l.head? = some 10#8 then crlf l else b :: crlf l
theorem repA_crlf : ∀ (n : Nat) (l : List (BitVec 8)), l.length ≤ n → repA [13, 10] [10] (l.map u8) = (crlf l).map u8
  | _, [], _ => by rw [List.map_nil, repA_nil _ (by simp)]; rfl
  | 0, _ :: _, h => by simp at h
  | n + 1, b :: l, h => by
    have hl : l.length ≤ n := by simpa using h
    by_cases hc : b = 13#8 ∧ l.head? = some 10#8
    · obtain ⟨rfl, h2⟩ := hc
      cases l with
      | nil => simp at h2
      | cons c m =>
        simp only [List.head?_cons, Option.some.injEq] at h2
        subst h2
        have e1 : crlf (13#8 :: 10#8 :: m) = 10#8 :: crlf m := by
          rw [crlf, if_pos ⟨rfl, rfl⟩, crlf, if_neg (by simp)]
        have e2 : (13#8 :: 10#8 :: m).map u8 = [13, 10] ++ m.map u8 := rfl
        rw [e1, e2, repA_hit _ _ (by simp), repA_crlf n m (by simp at hl; omega)]
        rfl
    · have e1 : crlf (b :: l) = b :: crlf l := by rw [crlf, if_neg hc]
      rw [e1, List.map_cons, List.map_cons, repA_cons _ _ _ (by simp), repA_crlf n l hl]
      cases hp : List.isPrefixOf [13, 10] (u8 b :: l.map u8) with
      | false => rfl
      | true =>
        exfalso
        rw [List.isPrefixOf_iff_prefix] at hp
        obtain ⟨t, ht⟩ := hp
        simp only [List.cons_append, List.nil_append, List.cons.injEq] at ht
        refine hc ⟨u8_inj.1 ht.1.symm, ?_⟩
        cases l with
        | nil => simp at ht
        | cons c m =>
          simp only [List.map_cons, List.cons.injEq] at ht
          rw [List.head?_cons, Option.some.injEq]
          exact u8_inj.1 ht.2.1.symm
def lf (b : BitVec 8) : BitVec 8 := if b = 13#8 then 10#8 else b
theorem repA_lf : ∀ l : List (BitVec 8), repA [13] [10] (l.map u8) = (l.map lf).map u8
  | [] => by rw [List.map_nil, repA_nil _ (by simp)]; rfl
  | b :: l => by
    by_cases hb : b = 13#8
    · subst hb
      have e2 : (13#8 :: l).map u8 = [13] ++ l.map u8 := rfl
      rw [e2, repA_hit _ _ (by simp), repA_lf l]; rfl
    · have e1 : lf b = b := by unfold lf; rw [if_neg hb]
      rw [List.map_cons, repA_cons _ _ _ (by simp), repA_lf l, List.map_cons, List.map_cons, e1]
      cases hp : List.isPrefixOf [13] (u8 b :: l.map u8) with
      | false => rfl
      | true =>
        exfalso
        rw [List.isPrefixOf_iff_prefix] at hp
        obtain ⟨t, ht⟩ := hp
        simp only [List.cons_append, List.nil_append, List.cons.injEq] at ht
        exact hb (u8_inj.1 ht.1.symm)
end Go.Av.Cha
end
section
set_option linter.unusedSimpArgs false
set_option linter.unusedVariables false
set_option linter.unusedSectionVars false
namespace Go.Proofs
open Go.Shelf
def Tryz.laysM144_ren : Go.Shelf.Ren := ⟨fun | 144 => 14 | 143 => 22 | 219 => 33 | 217 => 50 | 225 => 51 | 224 => 52 | 267 => 53 | 266 => 71 | 314 => 72 | n => n, fun | 9 => 9 | 4 => 4 | 3 => 3 | 5 => 5 | 46 => 85 | 146 => 106 | 51 => 36 | n => n, fun | 1 => 0 | n => n⟩
theorem Tryz.laysM144 : Go.Proofs.LaysM.n144 Tryz.prog Tryz.laysM144_ren := {
  mixed := by kernel_rfl
  f143 := Tryz.func22.trans (congrArg some (by kernel_rfl))
  f144 := Tryz.func14.trans (congrArg some (by kernel_rfl))
  f217 := Tryz.func50.trans (congrArg some (by kernel_rfl))
  f219 := Tryz.func33.trans (congrArg some (by kernel_rfl))
  f224 := Tryz.func52.trans (congrArg some (by kernel_rfl))
  f225 := Tryz.func51.trans (congrArg some (by kernel_rfl))
  f266 := Tryz.func71.trans (congrArg some (by kernel_rfl))
  f267 := Tryz.func53.trans (congrArg some (by kernel_rfl))
  f314 := Tryz.func72.trans (congrArg some (by kernel_rfl))
  t3 := Tryz.underlying3
  a3 := Tryz.isAgg3
  z3 := Tryz.sizeOf3
  v3 := Tryz.zeroValue3
  t4 := Tryz.underlying4
  a4 := Tryz.isAgg4
  z4 := Tryz.sizeOf4
  v4 := Tryz.zeroValue4
  t5 := Tryz.underlying5
  a5 := Tryz.isAgg5
  z5 := Tryz.sizeOf5
  v5 := Tryz.zeroValue5
  t9 := Tryz.underlying9
  a9 := Tryz.isAgg9
  z9 := Tryz.sizeOf9
  v9 := Tryz.zeroValue9
  t46 := Tryz.underlying85
  a46 := Tryz.isAgg85
  z46 := Tryz.sizeOf85
  v46 := Tryz.zeroValue85
  t51 := Tryz.underlying36
  a51 := Tryz.isAgg36
  z51 := Tryz.sizeOf36
  v51 := Tryz.zeroValue36
  t146 := Tryz.underlying106
  a146 := Tryz.isAgg106
  z146 := Tryz.sizeOf106
  v146 := Tryz.zeroValue106
  g1 := by kernel_rfl
  i3 := by kernel_rfl
  i4 := by kernel_rfl
  i5 := by kernel_rfl
  i9 := by kernel_rfl
  i46 := by kernel_rfl
  i51 := by kernel_rfl
  i146 := by kernel_rfl
  m1 := by kernel_rfl
  s1_3 := fun w h => Go.Proofs.cell_of_shapedOpen_int (zero := #[.int .i64 0]) (t := 3) h (of_decide_eq_true (by kernel_rfl)) (by kernel_rfl) rfl (by kernel_rfl) (by kernel_rfl) Tryz.underlying3 }
def Tryz.laysM155_ren : Go.Shelf.Ren := ⟨fun | 155 => 21 | 154 => 32 | 138 => 47 | 165 => 48 | 143 => 22 | 166 => 25 | 197 => 49 | 169 => 26 | 195 => 67 | 218 => 68 | 240 => 37 | 241 => 69 | 219 => 33 | 260 => 70 | 276 => 56 | 277 => 84 | 217 => 50 | 225 => 51 | 224 => 52 | 267 => 53 | 266 => 71 | 314 => 72 | n => n, fun | 9 => 9 | 3 => 3 | 4 => 4 | 72 => 42 | 0 => 0 | 76 => 47 | 105 => 81 | 21 => 21 | 5 => 5 | 70 => 40 | 20 => 20 | 37 => 27 | 75 => 46 | 127 => 71 | 164 => 87 | 46 => 85 | 119 => 98 | 139 => 126 | 138 => 125 | 146 => 106 | 51 => 36 | 80 => 49 | n => n, fun | 1 => 0 | 3 => 1 | 4 => 2 | n => n⟩
theorem Tryz.laysM155 : Go.Proofs.LaysM.n155 Tryz.prog Tryz.laysM155_ren := {
  mixed := by kernel_rfl
  f138 := Tryz.func47.trans (congrArg some (by kernel_rfl))
  f143 := Tryz.func22.trans (congrArg some (by kernel_rfl))
  f154 := Tryz.func32.trans (congrArg some (by kernel_rfl))
  f155 := Tryz.func21.trans (congrArg some (by kernel_rfl))
  f165 := Tryz.func48.trans (congrArg some (by kernel_rfl))
  f166 := Tryz.func25.trans (congrArg some (by kernel_rfl))
  f169 := Tryz.func26.trans (congrArg some (by kernel_rfl))
  f195 := Tryz.func67.trans (congrArg some (by kernel_rfl))
  f197 := Tryz.func49.trans (congrArg some (by kernel_rfl))
  f217 := Tryz.func50.trans (congrArg some (by kernel_rfl))
  f218 := Tryz.func68.trans (congrArg some (by kernel_rfl))
  f219 := Tryz.func33.trans (congrArg some (by kernel_rfl))
  f224 := Tryz.func52.trans (congrArg some (by kernel_rfl))
  f225 := Tryz.func51.trans (congrArg some (by kernel_rfl))
  f240 := Tryz.func37.trans (congrArg some (by kernel_rfl))
  f241 := Tryz.func69.trans (congrArg some (by kernel_rfl))
  f260 := Tryz.func70.trans (congrArg some (by kernel_rfl))
  f266 := Tryz.func71.trans (congrArg some (by kernel_rfl))
  f267 := Tryz.func53.trans (congrArg some (by kernel_rfl))
  f276 := Tryz.func56.trans (congrArg some (by kernel_rfl))
  f277 := Tryz.func84.trans (congrArg some (by kernel_rfl))
  f314 := Tryz.func72.trans (congrArg some (by kernel_rfl))
  t0 := Tryz.underlying0
  a0 := Tryz.isAgg0
  z0 := Tryz.sizeOf0
  v0 := Tryz.zeroValue0
  t3 := Tryz.underlying3
  a3 := Tryz.isAgg3
  z3 := Tryz.sizeOf3
  v3 := Tryz.zeroValue3
  t4 := Tryz.underlying4
  a4 := Tryz.isAgg4
  z4 := Tryz.sizeOf4
  v4 := Tryz.zeroValue4
  t5 := Tryz.underlying5
  a5 := Tryz.isAgg5
  z5 := Tryz.sizeOf5
  v5 := Tryz.zeroValue5
  t9 := Tryz.underlying9
  a9 := Tryz.isAgg9
  z9 := Tryz.sizeOf9
  v9 := Tryz.zeroValue9
  t20 := Tryz.underlying20
  a20 := Tryz.isAgg20
  z20 := Tryz.sizeOf20
  v20 := Tryz.zeroValue20
  t21 := Tryz.underlying21
  a21 := Tryz.isAgg21
  z21 := Tryz.sizeOf21
  v21 := Tryz.zeroValue21
  t37 := Tryz.underlying27
  a37 := Tryz.isAgg27
  z37 := Tryz.sizeOf27
  v37 := Tryz.zeroValue27
  t46 := Tryz.underlying85
  a46 := Tryz.isAgg85
  z46 := Tryz.sizeOf85
  v46 := Tryz.zeroValue85
  t51 := Tryz.underlying36
  a51 := Tryz.isAgg36
  z51 := Tryz.sizeOf36
  v51 := Tryz.zeroValue36
  t70 := Tryz.underlying40
  a70 := Tryz.isAgg40
  z70 := Tryz.sizeOf40
  v70 := Tryz.zeroValue40
  t72 := Tryz.underlying42
  a72 := Tryz.isAgg42
  z72 := Tryz.sizeOf42
  v72 := Tryz.zeroValue42
  t75 := Tryz.underlying46
  a75 := Tryz.isAgg46
  z75 := Tryz.sizeOf46
  v75 := Tryz.zeroValue46
  t76 := Tryz.underlying47
  a76 := Tryz.isAgg47
  z76 := Tryz.sizeOf47
  v76 := Tryz.zeroValue47
  t105 := Tryz.underlying81
  a105 := Tryz.isAgg81
  z105 := Tryz.sizeOf81
  v105 := Tryz.zeroValue81
  t119 := Tryz.underlying98
  a119 := Tryz.isAgg98
  z119 := Tryz.sizeOf98
  t127 := Tryz.underlying71
  a127 := Tryz.isAgg71
  z127 := Tryz.sizeOf71
  v127 := Tryz.zeroValue71
  t138 := Tryz.underlying125
  a138 := Tryz.isAgg125
  z138 := Tryz.sizeOf125
  v138 := Tryz.zeroValue125
  t139 := Tryz.underlying126
  a139 := Tryz.isAgg126
  z139 := Tryz.sizeOf126
  v139 := Tryz.zeroValue126
  t146 := Tryz.underlying106
  a146 := Tryz.isAgg106
  z146 := Tryz.sizeOf106
  v146 := Tryz.zeroValue106
  t164 := Tryz.underlying87
  a164 := Tryz.isAgg87
  z164 := Tryz.sizeOf87
  v164 := Tryz.zeroValue87
  g1 := by kernel_rfl
  g3 := by kernel_rfl
  g4 := by kernel_rfl
  t80 := Tryz.underlying49
  a80 := Tryz.isAgg49
  z80 := Tryz.sizeOf49
  v80 := Tryz.zeroValue49
  i0 := by kernel_rfl
  i3 := by kernel_rfl
  i4 := by kernel_rfl
  i5 := by kernel_rfl
  i9 := by kernel_rfl
  i20 := by kernel_rfl
  i21 := by kernel_rfl
  i37 := by kernel_rfl
  i46 := by kernel_rfl
  i51 := by kernel_rfl
  i70 := by kernel_rfl
  i72 := by kernel_rfl
  i75 := by kernel_rfl
  i76 := by kernel_rfl
  i80 := by kernel_rfl
  i105 := by kernel_rfl
  i127 := by kernel_rfl
  i138 := by kernel_rfl
  i139 := by kernel_rfl
  i146 := by kernel_rfl
  i164 := by kernel_rfl
  m1 := by kernel_rfl
  s1_3 := fun w h => Go.Proofs.cell_of_shapedOpen_int (zero := #[.int .i64 0]) (t := 3) h (of_decide_eq_true (by kernel_rfl)) (by kernel_rfl) rfl (by kernel_rfl) (by kernel_rfl) Tryz.underlying3
  m3 := by kernel_rfl
  m4 := by kernel_rfl }
theorem Tryz.Builder_Extra_M155 : Builder.Extra Tryz.prog Tryz.laysM155_ren := {
  sizeBuilder := by kernel_rfl
  liesBuilder := by kernel_rfl
  t5 := Tryz.underlying5
  a5 := Tryz.isAgg5
  z5 := Tryz.sizeOf5
  v5 := Tryz.zeroValue5
  infoByte := by kernel_rfl
  cellsByte := by kernel_rfl
  sizeByte := by kernel_rfl
  neB5 := by decide }
end Go.Proofs
namespace Go.Av.Cha
open Go Go.Av Go.Proofs
theorem below_keeps {G : Gh} {h : HT} {w w' : World} (wf : WF G h w) (hb : Go.RowKit.Below w.heap.size w w') : Keeps G h w G h w' ∧ Ext G w G w' ∧ WF G h w' := by
  have hpm : ∀ b o v, pm G w b o = some v → pm G w' b o = some v := by
    intro b o v hv
    have hlt := pm_lt hv
    have e : w'.cell? ⟨b, o, none⟩ = w.cell? ⟨b, o, none⟩ := by simp only [World.cell?, hb.block b hlt]
    unfold pm at hv ⊢
    rw [e]; exact hv
  have hshp : ∀ b x, w.shape? b = some x → w'.shape? b = some x := by
    intro b x hx
    rcases Nat.lt_or_ge b w.heap.size with h1 | h1
    · simp only [World.shape?, hb.block b h1] at hx ⊢; exact hx
    · simp [World.shape?, Array.getElem?_eq_none h1] at hx
  have hk : Keeps G h w G h w' := by
    refine ⟨hpm, ?_, fun id cur hb0 hl => ⟨cur, hb0, hl, Nat.le_refl _, fun _ => rfl⟩, hshp⟩
    intro t cur ht
    refine ⟨cur, ht, Nat.le_refl _, fun _ => ⟨rfl, rfl, fun ho => ⟨ho, fun vs ty fz h0 => ?_⟩⟩⟩
    rw [hb.block _ (lt_of_get h0)]; exact h0
  refine ⟨hk, ⟨hb.os, hb.tape, hb.output, hb.size, fun b hlt _ => ⟨rfl, hb.block b hlt⟩, fun b o v _ hv => hpm b o v hv, hshp⟩, ?_, wf.rows, ?_⟩
  · intro b h1; exact wf.fresh b (Nat.le_trans hb.size h1)
  · intro id ver hb0 hl
    obtain ⟨o1, o2, o3⟩ := wf.objs id ver hb0 hl
    exact ⟨o1, Nat.lt_of_lt_of_le o2 hb.size, o3.mono hk (hb.block _ o2)⟩
variable [ML]
theorem maxLen_cell {G : Gh} {w : World} (hg0 : ∀ g r, Tables.gl g = some r → RepP (pm G w) (.eptr r 0 0) (.pointer (some ⟨g, 0, none⟩))) : w.cell? ⟨0, 0, none⟩ = some (.int .i64 ML.m) := by
  have hg := hg0 0 (.vals 1 [.int .i64 ML.m]) rfl
  generalize hq : PV.eptr (.vals 1 [.int .i64 ML.m]) 0 0 = q at hg
  generalize hv : Value.pointer (some ⟨0, 0, none⟩) = v at hg
  cases hg with
  | eptr r i j b off f hi hw hf h1 hr =>
    cases hq
    simp only [Value.pointer.injEq, Option.some.injEq, Addr.mk.injEq] at hv
    obtain ⟨rfl, hv2, _⟩ := hv
    have a := hf 0 0 (by simp [Row.len]) (by simp [Row.sz])
    have c : RepP (pm G w) (.int .i64 ML.m) (f 0 0) := hr 0 0 (by simp [Row.len]) (by simp [Row.sz])
    have c' : f 0 0 = .int .i64 ML.m := by generalize f 0 0 = z at c; cases c; rfl
    rw [c'] at a
    have ho : off = 0 := by simpa using hv2.symm
    subst ho
    exact pm_cell a
  | _ => cases hq
def hasL (s t : ByteArray) : Bool := Lib.contains s.data.toList t.data.toList
theorem has_ct (s t : ByteArray) (hs : s.size ≤ 4000000) : Fn Tryz.prog 14 [.str s, .str t] [.p (.bool (hasL s t))] := by
  intro G w vs g
  have hl := g.len
  match vs, hl with
  | [a, b], _ =>
    have h0 := g.args 0 (by simp)
    have h1 := g.args 1 (by simp)
    simp only [List.map_cons, List.map_nil, List.getD_cons_zero, List.getD_cons_succ] at h0 h1
    obtain rfl := h0.str
    obtain rfl := h1.str
    refine (Any.strings_Contains { Tryz.laysM144 with } s t ML.m w (by omega) (maxLen_cell g.glob)).mono ?_
    rintro e w' ⟨rfl, rfl⟩
    refine ⟨_, rfl, rfl, G, Ext.refl G w', g.wf, fun i hi => by simp at hi, .p (.bool _)⟩
theorem repl_all_ct (s o n : ByteArray) (hs : s.size ≤ 4000000) (ho : 1 ≤ o.size) (hlen : s.size + Lib.countB s o * n.size ≤ 140737488355328) :
    Fn Tryz.prog 21 [.str s, .str o, .str n] [.p (.str ⟨(Lib.replaceAll s.data.toList o.data.toList n.data.toList).toArray⟩)] := by
  intro G w vs g
  have hl := g.len
  match vs, hl with
  | [a, b, c], _ =>
    have h0 := g.args 0 (by simp)
    have h1 := g.args 1 (by simp)
    have h2 := g.args 2 (by simp)
    simp only [List.map_cons, List.map_nil, List.getD_cons_zero, List.getD_cons_succ] at h0 h1 h2
    obtain rfl := h0.str
    obtain rfl := h1.str
    obtain rfl := h2.str
    refine (Any.strings_ReplaceAll { Tryz.laysM155 with } Tryz.Builder_Extra_M155 s o n ML.m w (by omega) (maxLen_cell g.glob) ho hlen).mono ?_
    rintro e w' ⟨rfl, hB⟩
    obtain ⟨k1, e1, wf1⟩ := below_keeps g.wf hB
    exact ⟨_, rfl, rfl, G, e1, wf1, fun i hi => by simp at hi, .p (.str _)⟩
def lineV (l : List (BitVec 8)) : List (BitVec 8) := (crlf l).map lf
theorem u8_txt (l : List (BitVec 8)) : (txt l).data.toList = l.map u8 := txt_list l
theorem txt_u8 (l : List (BitVec 8)) : (ByteArray.mk (l.map u8).toArray) = txt l := bytes_ext (by rw [u8_txt])
theorem crlf_len : ∀ l : List (BitVec 8), (crlf l).length ≤ l.length
  | [] => Nat.le_refl _
  | b :: l => by
    have := crlf_len l
    rw [crlf]
    split
    · rw [List.length_cons]; omega
    · rw [List.length_cons, List.length_cons]; omega
theorem all1_ct (l : List (BitVec 8)) (hl : l.length ≤ 1000000) : Fn Tryz.prog 21 [.str (txt l), .str (txt [13#8, 10#8]), .str (txt [10#8])] [.p (.str (txt (crlf l)))] := by
  have hc := Lib.count_le (txt l).data.toList (txt [13#8, 10#8]).data.toList
  have hd : (txt l).data.toList.length = l.length := by rw [u8_txt, List.length_map]
  have hz : (txt [10#8]).size = 1 := txt_size _
  have h := repl_all_ct (txt l) (txt [13#8, 10#8]) (txt [10#8]) (by rw [txt_size]; omega) (by simp [txt_size]) (by
    rw [hz, txt_size]
    have : Lib.countB (txt l) (txt [13#8, 10#8]) ≤ l.length + 1 := by rw [← hd]; exact hc
    omega)
  rw [u8_txt, u8_txt, u8_txt] at h
  have e : Lib.replaceAll (l.map u8) ([13#8, 10#8].map u8) ([10#8].map u8) = (crlf l).map u8 := by
    rw [replaceAll_eq _ (by decide)]
    exact repA_crlf l.length l (Nat.le_refl _)
  rw [e, txt_u8] at h
  exact h
theorem all2_ct (l : List (BitVec 8)) (hl : l.length ≤ 1000000) : Fn Tryz.prog 21 [.str (txt l), .str (txt [13#8]), .str (txt [10#8])] [.p (.str (txt (l.map lf)))] := by
  have hc := Lib.count_le (txt l).data.toList (txt [13#8]).data.toList
  have hd : (txt l).data.toList.length = l.length := by rw [u8_txt, List.length_map]
  have hz : (txt [10#8]).size = 1 := txt_size _
  have h := repl_all_ct (txt l) (txt [13#8]) (txt [10#8]) (by rw [txt_size]; omega) (by simp [txt_size]) (by
    rw [hz, txt_size]
    have : Lib.countB (txt l) (txt [13#8]) ≤ l.length + 1 := by rw [← hd]; exact hc
    omega)
  rw [u8_txt, u8_txt, u8_txt] at h
  have e : Lib.replaceAll (l.map u8) ([13#8].map u8) ([10#8].map u8) = (l.map lf).map u8 := by
    rw [replaceAll_eq _ (by decide)]
    exact repA_lf l
  rw [e, txt_u8] at h
  exact h
theorem kCRLF : (ByteArray.mk #[13, 10]) = txt [13#8, 10#8] := rfl
theorem kCR : (ByteArray.mk #[13]) = txt [13#8] := rfl
theorem kLF : (ByteArray.mk #[10]) = txt [10#8] := rfl
theorem lines_ct (l : List (BitVec 8)) (hl : l.length ≤ 1000000) : Fn Tryz.prog 13 [.str (txt l)] [.p (.str (txt (lineV l)))] := by
  have h1 := all1_ct l hl
  have h2 := all2_ct (crlf l) (by have := crlf_len l; omega)
  refine Fn.of_body Tryz.func13 rfl ?_
  unfold lineV
  generalize (crlf l).map lf = B at *
  generalize crlf l = A at *
  repeat (first | ((with_reducible first | refine callK_at 21 ?_); refine callK_p ?_; simp (maxSteps := 1000000) (disch := refine hold_ ?_; first | (simp [kNil, kCRLF, kCR, kLF, -List.getD_eq_getElem?_getD]; done) | omega) [kNil, kCRLF, kCR, kLF, -List.getD_eq_getElem?_getD]; (first | refine callK1_of ((by first | exact Fn.ct h1 Tryz.call21 | exact Fn.ct h2 Tryz.call21)) ?_); (try simp (maxSteps := 1000000) (disch := refine hold_ ?_; first | (simp [kNil, kCRLF, kCR, kLF, -List.getD_eq_getElem?_getD]; done) | omega) [kNil, kCRLF, kCR, kLF, -List.getD_eq_getElem?_getD]); try first | (with_reducible refine zZ ?_) | subst hK_) | ((first | (with_reducible first | refine zP fun K_ hK_ => ?_ | refine zQ fun K_ hK_ => ?_ | refine zT ?_ | refine zU ?_ | refine zV ?_ | refine zW ?_ | refine zX ?_ | refine zY ?_) | ((with_reducible first | refine zR ?_ ?_ fun K_ hK_ => ?_ | refine zS ?_ ?_ fun K_ hK_ => ?_); (focus kernel_rfl); (focus kernel_rfl))); first | (simp (maxSteps := 1000000) (disch := refine hold_ ?_; first | (simp [kNil, kCRLF, kCR, kLF, -List.getD_eq_getElem?_getD]; done) | omega) [kNil, kCRLF, kCR, kLF, -List.getD_eq_getElem?_getD]; try first | (with_reducible refine zZ ?_) | subst hK_) | subst hK_) | (with_reducible first | refine zA ?_ | refine zB ?_ | refine zC ?_ | refine zD ?_ | refine zE ?_ | refine zF ?_ | refine zG ?_ | refine zH ?_ | refine zI ?_ | refine zJ ?_ | refine zK ?_ | refine zL ?_ | refine zM ?_ | refine zN ?_ | refine zO ?_) | ((with_reducible refine yG ?_ ?_); (focus decide)) | ((with_reducible refine yA ?_); refine yB rfl ?_; (with_reducible first | refine yC ?_ | refine yD ?_)))
  all_goals simp (maxSteps := 1000000) (disch := refine hold_ ?_; first | (simp [-List.getD_eq_getElem?_getD]; done) | omega) [-List.getD_eq_getElem?_getD]
end Go.Av.Cha
end
section
set_option linter.unusedSimpArgs false
set_option linter.unusedVariables false
set_option linter.unusedSectionVars false
open Go Go.Av Go.Proofs
namespace Go.Av.Cha
variable [ML]
def e3 : List (BitVec 8) := [93#8, 93#8, 62#8]
theorem kE3 : (ByteArray.mk #[93, 93, 62]) = txt e3 := rfl
theorem u8_map_inj : ∀ (a b : List (BitVec 8)), a.map u8 = b.map u8 → a = b
  | [], [], _ => rfl
  | [], _ :: _, h => by simp at h
  | _ :: _, [], h => by simp at h
  | x :: a, y :: b, h => by
    simp only [List.map_cons, List.cons.injEq] at h
    rw [u8_inj.1 h.1, u8_map_inj a b h.2]
def endK (s : List (BitVec 8)) (k : Nat) : Bool := decide (1 < k) && ((s.take (k + 1)).drop (k - 2) == e3)
def occB (s : List (BitVec 8)) : Bool := (List.range s.length).any (endK s)
theorem occB_true (s : List (BitVec 8)) (k : Nat) (h : k < s.length) (hk : endK s k = true) : occB s = true :=
  List.any_eq_true.2 ⟨k, List.mem_range.2 h, hk⟩
theorem occB_false (s : List (BitVec 8)) (h : ∀ k, k < s.length → endK s k = false) : occB s = false := by
  unfold occB
  rw [List.any_eq_false]
  intro k hk
  rw [h k (List.mem_range.1 hk)]; simp
theorem occAt_end (s : List (BitVec 8)) (j : Nat) : Lib.occAt (s.map u8) (e3.map u8) j = true ↔ (j + 2 < s.length ∧ endK s (j + 2) = true) := by
  unfold Lib.occAt endK
  rw [List.isPrefixOf_iff_prefix, ← List.map_drop]
  have hd : (s.take (j + 2 + 1)).drop (j + 2 - 2) = (s.drop j).take 3 := by
    rw [Nat.add_sub_cancel, List.drop_take, show j + 2 + 1 - j = 3 by omega]
  rw [hd, Bool.and_eq_true, decide_eq_true_eq, beq_iff_eq]
  constructor
  · intro h
    have h2 : e3 <+: s.drop j := by
      obtain ⟨t, ht⟩ := h
      refine ⟨(s.drop j).drop 3, ?_⟩
      have hl : (e3.map u8).length = 3 := rfl
      have h3 : ((s.drop j).take 3).map u8 = e3.map u8 := by
        rw [List.map_take, ← ht, List.take_left' hl]
      have h4 : (s.drop j).take 3 = e3 := by
        exact u8_map_inj _ _ h3
      rw [← h4, List.take_append_drop]
    have hl := h2.length_le
    have e : e3.length = 3 := rfl
    rw [e, List.length_drop] at hl
    refine ⟨by omega, by omega, ?_⟩
    obtain ⟨t, ht⟩ := h2
    rw [← ht]; rfl
  · rintro ⟨_, _, h⟩
    refine ⟨((s.drop j).drop 3).map u8, ?_⟩
    rw [← h, ← List.map_append, List.take_append_drop]
theorem has_occ (s : List (BitVec 8)) : hasL (txt s) (txt e3) = occB s := by
  unfold hasL
  rw [u8_txt, u8_txt]
  unfold Lib.contains
  rcases Lib.index_spec (s.map u8) (e3.map u8) with ⟨h1, h2⟩ | ⟨i, h1, h2, h3, _⟩
  · rw [h1, occB_false s]
    · rfl
    · intro k hk
      cases hc : endK s k with
      | false => rfl
      | true =>
        exfalso
        have hk1 : 1 < k := by unfold endK at hc; simp at hc; exact hc.1
        obtain ⟨j, rfl⟩ : ∃ j, k = j + 2 := ⟨k - 2, by omega⟩
        have := (occAt_end s j).2 ⟨hk, hc⟩
        rw [h2 j (by simp; omega)] at this
        exact absurd this (by simp)
  · have h4 := (occAt_end s i).1 h3
    rw [h1, occB_true s (i + 2) h4.1 h4.2]
    simp
def contentV (s : List (BitVec 8)) : Option (List (BitVec 8)) := if occB s = true then none else expandV idB s
def valueV (s : List (BitVec 8)) : Option (List (BitVec 8)) := expandV blk s
set_option maxHeartbeats 10000000 in
theorem content_ct (s : List (BitVec 8)) (hs : s.length ≤ 4000000) : Fn Tryz.prog 7 [.str (txt s)] (resV (contentV s)) := by
  have k1 := has_ct (txt s) (txt e3) (by rw [txt_size]; exact hs)
  rw [has_occ] at k1
  have k2 := expandC_ct s hs
  unfold contentV
  refine Fn.of_body Tryz.func7 rfl ?_
  cases h1 : occB s with
  | true =>
    rw [h1] at k1
    rw [if_pos rfl]
    repeat (first | ((with_reducible first | refine callK_at 14 ?_); refine callK_p ?_; simp (maxSteps := 1000000) (disch := refine hold_ ?_; first | (simp [kNil, kE3, -List.getD_eq_getElem?_getD]; done) | omega) [kNil, kE3, -List.getD_eq_getElem?_getD]; (first | refine callK1_of (Fn.ct k1 Tryz.call14) ?_); (try simp (maxSteps := 1000000) (disch := refine hold_ ?_; first | (simp [kNil, kE3, -List.getD_eq_getElem?_getD]; done) | omega) [kNil, kE3, -List.getD_eq_getElem?_getD]); try first | (with_reducible refine zZ ?_) | subst hK_) | ((first | (with_reducible first | refine zP fun K_ hK_ => ?_ | refine zQ fun K_ hK_ => ?_ | refine zT ?_ | refine zU ?_ | refine zV ?_ | refine zW ?_ | refine zX ?_ | refine zY ?_) | ((with_reducible first | refine zR ?_ ?_ fun K_ hK_ => ?_ | refine zS ?_ ?_ fun K_ hK_ => ?_); (focus kernel_rfl); (focus kernel_rfl))); first | (simp (maxSteps := 1000000) (disch := refine hold_ ?_; first | (simp [kNil, kE3, -List.getD_eq_getElem?_getD]; done) | omega) [kNil, kE3, -List.getD_eq_getElem?_getD]; try first | (with_reducible refine zZ ?_) | subst hK_) | subst hK_) | (with_reducible first | refine zA ?_ | refine zB ?_ | refine zC ?_ | refine zD ?_ | refine zE ?_ | refine zF ?_ | refine zG ?_ | refine zH ?_ | refine zI ?_ | refine zJ ?_ | refine zK ?_ | refine zL ?_ | refine zM ?_ | refine zN ?_ | refine zO ?_) | ((with_reducible refine yG ?_ ?_); (focus decide)) | ((with_reducible refine yA ?_); refine yB rfl ?_; (with_reducible first | refine yC ?_ | refine yD ?_)))
    all_goals simp (maxSteps := 1000000) (disch := refine hold_ ?_; first | (simp [resV, -List.getD_eq_getElem?_getD]; done) | omega) [resV, -List.getD_eq_getElem?_getD]
  | false =>
    rw [h1] at k1
    rw [if_neg (by simp)]
    cases h2 : expandV idB s with
    | none =>
      rw [h2] at k2
      repeat (first | ((with_reducible first | refine callK_at 14 ?_ | refine callK_at 15 ?_); refine callK_p ?_; simp (maxSteps := 1000000) (disch := refine hold_ ?_; first | (simp [kNil, kE3, resV, -List.getD_eq_getElem?_getD]; done) | omega) [kNil, kE3, resV, -List.getD_eq_getElem?_getD]; (first | ((with_reducible refine k1_at 14 ?_); refine callK1_of (Fn.ct k1 Tryz.call14) ?_) | ((with_reducible refine k1_at 15 ?_); refine callK1_of (Fn.ct k2 Tryz.call15) ?_)); (try simp (maxSteps := 1000000) (disch := refine hold_ ?_; first | (simp [kNil, kE3, resV, -List.getD_eq_getElem?_getD]; done) | omega) [kNil, kE3, resV, -List.getD_eq_getElem?_getD]); try first | (with_reducible refine zZ ?_) | subst hK_) | ((first | (with_reducible first | refine zP fun K_ hK_ => ?_ | refine zQ fun K_ hK_ => ?_ | refine zT ?_ | refine zU ?_ | refine zV ?_ | refine zW ?_ | refine zX ?_ | refine zY ?_) | ((with_reducible first | refine zR ?_ ?_ fun K_ hK_ => ?_ | refine zS ?_ ?_ fun K_ hK_ => ?_); (focus kernel_rfl); (focus kernel_rfl))); first | (simp (maxSteps := 1000000) (disch := refine hold_ ?_; first | (simp [kNil, kE3, resV, -List.getD_eq_getElem?_getD]; done) | omega) [kNil, kE3, resV, -List.getD_eq_getElem?_getD]; try first | (with_reducible refine zZ ?_) | subst hK_) | subst hK_) | (with_reducible first | refine zA ?_ | refine zB ?_ | refine zC ?_ | refine zD ?_ | refine zE ?_ | refine zF ?_ | refine zG ?_ | refine zH ?_ | refine zI ?_ | refine zJ ?_ | refine zK ?_ | refine zL ?_ | refine zM ?_ | refine zN ?_ | refine zO ?_) | ((with_reducible refine yG ?_ ?_); (focus decide)) | ((with_reducible refine yA ?_); refine yB rfl ?_; (with_reducible first | refine yC ?_ | refine yD ?_)))
      all_goals simp (maxSteps := 1000000) (disch := refine hold_ ?_; first | (simp [resV, -List.getD_eq_getElem?_getD]; done) | omega) [resV, -List.getD_eq_getElem?_getD]
    | some x =>
      rw [h2] at k2
      repeat (first | ((with_reducible first | refine callK_at 14 ?_ | refine callK_at 15 ?_); refine callK_p ?_; simp (maxSteps := 1000000) (disch := refine hold_ ?_; first | (simp [kNil, kE3, resV, -List.getD_eq_getElem?_getD]; done) | omega) [kNil, kE3, resV, -List.getD_eq_getElem?_getD]; (first | ((with_reducible refine k1_at 14 ?_); refine callK1_of (Fn.ct k1 Tryz.call14) ?_) | ((with_reducible refine k1_at 15 ?_); refine callK1_of (Fn.ct k2 Tryz.call15) ?_)); (try simp (maxSteps := 1000000) (disch := refine hold_ ?_; first | (simp [kNil, kE3, resV, -List.getD_eq_getElem?_getD]; done) | omega) [kNil, kE3, resV, -List.getD_eq_getElem?_getD]); try first | (with_reducible refine zZ ?_) | subst hK_) | ((first | (with_reducible first | refine zP fun K_ hK_ => ?_ | refine zQ fun K_ hK_ => ?_ | refine zT ?_ | refine zU ?_ | refine zV ?_ | refine zW ?_ | refine zX ?_ | refine zY ?_) | ((with_reducible first | refine zR ?_ ?_ fun K_ hK_ => ?_ | refine zS ?_ ?_ fun K_ hK_ => ?_); (focus kernel_rfl); (focus kernel_rfl))); first | (simp (maxSteps := 1000000) (disch := refine hold_ ?_; first | (simp [kNil, kE3, resV, -List.getD_eq_getElem?_getD]; done) | omega) [kNil, kE3, resV, -List.getD_eq_getElem?_getD]; try first | (with_reducible refine zZ ?_) | subst hK_) | subst hK_) | (with_reducible first | refine zA ?_ | refine zB ?_ | refine zC ?_ | refine zD ?_ | refine zE ?_ | refine zF ?_ | refine zG ?_ | refine zH ?_ | refine zI ?_ | refine zJ ?_ | refine zK ?_ | refine zL ?_ | refine zM ?_ | refine zN ?_ | refine zO ?_) | ((with_reducible refine yG ?_ ?_); (focus decide)) | ((with_reducible refine yA ?_); refine yB rfl ?_; (with_reducible first | refine yC ?_ | refine yD ?_)))
      all_goals simp (maxSteps := 1000000) (disch := refine hold_ ?_; first | (simp [resV, -List.getD_eq_getElem?_getD]; done) | omega) [resV, -List.getD_eq_getElem?_getD]
set_option maxHeartbeats 10000000 in
theorem value_ct (s : List (BitVec 8)) (hs : s.length ≤ 4000000) : Fn Tryz.prog 8 [.str (txt s)] (resV (valueV s)) := by
  have k2 := expandV_ct s hs
  unfold valueV
  unfold rplU rplD rpl nilS oldB at k2
  refine Fn.of_body Tryz.func8 rfl ?_
  cases ho : okX s with
  | true =>
    rw [ho, if_pos rfl] at k2
    cases h2 : expandV blk s with
    | none =>
      rw [h2] at k2
      repeat (first | ((with_reducible refine callK_at 17 ?_); refine callK_b (by first | decide | exact Nat.le_of_ble_eq_true rfl) (new_ok) ?_; simp (maxSteps := 1000000) (disch := refine hold_ ?_; first | (simp [Go.Av.copyPrim, Go.Av.strPrim, newPrim, strsOf, rpl, resV, -List.getD_eq_getElem?_getD]; done) | omega) [Go.Av.copyPrim, Go.Av.strPrim, newPrim, strsOf, rpl, resV, -List.getD_eq_getElem?_getD]; first | refine zZ ?_ | subst hK_) | ((with_reducible first | refine callK_at 15 ?_); refine callK_o (by first | decide | exact Nat.le_of_ble_eq_true rfl) ?_; simp (maxSteps := 1000000) (disch := refine hold_ ?_; first | (simp [newPrim, strsOf, rpl, resV, -List.getD_eq_getElem?_getD]; done) | omega) [newPrim, strsOf, rpl, resV, -List.getD_eq_getElem?_getD]; (first | refine callK3_of (FnG.ct k2 Tryz.call15) ?_); (try simp (maxSteps := 1000000) (disch := refine hold_ ?_; first | (simp [newPrim, strsOf, rpl, resV, -List.getD_eq_getElem?_getD]; done) | omega) [newPrim, strsOf, rpl, resV, -List.getD_eq_getElem?_getD]); try first | (with_reducible refine zZ ?_) | subst hK_) | ((first | (with_reducible first | refine zP fun K_ hK_ => ?_ | refine zQ fun K_ hK_ => ?_ | refine zT ?_ | refine zU ?_ | refine zV ?_ | refine zW ?_ | refine zX ?_ | refine zY ?_) | ((with_reducible first | refine zR ?_ ?_ fun K_ hK_ => ?_ | refine zS ?_ ?_ fun K_ hK_ => ?_); (focus kernel_rfl); (focus kernel_rfl))); first | (simp (maxSteps := 1000000) (disch := refine hold_ ?_; first | (simp [newPrim, strsOf, rpl, resV, -List.getD_eq_getElem?_getD]; done) | omega) [newPrim, strsOf, rpl, resV, -List.getD_eq_getElem?_getD]; try first | (with_reducible refine zZ ?_) | subst hK_) | subst hK_) | (with_reducible first | refine zA ?_ | refine zB ?_ | refine zC ?_ | refine zD ?_ | refine zE ?_ | refine zF ?_ | refine zG ?_ | refine zH ?_ | refine zI ?_ | refine zJ ?_ | refine zK ?_ | refine zL ?_ | refine zM ?_ | refine zN ?_ | refine zO ?_) | ((with_reducible refine yG ?_ ?_); (focus decide)) | ((with_reducible refine yA ?_); refine yB rfl ?_; (with_reducible first | refine yC ?_ | refine yD ?_)))
      all_goals simp (maxSteps := 1000000) (disch := refine hold_ ?_; first | (simp [resV, -List.getD_eq_getElem?_getD]; done) | omega) [resV, -List.getD_eq_getElem?_getD]
    | some x =>
      rw [h2] at k2
      repeat (first | ((with_reducible refine callK_at 17 ?_); refine callK_b (by first | decide | exact Nat.le_of_ble_eq_true rfl) (new_ok) ?_; simp (maxSteps := 1000000) (disch := refine hold_ ?_; first | (simp [Go.Av.copyPrim, Go.Av.strPrim, newPrim, strsOf, rpl, resV, -List.getD_eq_getElem?_getD]; done) | omega) [Go.Av.copyPrim, Go.Av.strPrim, newPrim, strsOf, rpl, resV, -List.getD_eq_getElem?_getD]; first | refine zZ ?_ | subst hK_) | ((with_reducible first | refine callK_at 15 ?_); refine callK_o (by first | decide | exact Nat.le_of_ble_eq_true rfl) ?_; simp (maxSteps := 1000000) (disch := refine hold_ ?_; first | (simp [newPrim, strsOf, rpl, resV, -List.getD_eq_getElem?_getD]; done) | omega) [newPrim, strsOf, rpl, resV, -List.getD_eq_getElem?_getD]; (first | refine callK3_of (FnG.ct k2 Tryz.call15) ?_); (try simp (maxSteps := 1000000) (disch := refine hold_ ?_; first | (simp [newPrim, strsOf, rpl, resV, -List.getD_eq_getElem?_getD]; done) | omega) [newPrim, strsOf, rpl, resV, -List.getD_eq_getElem?_getD]); try first | (with_reducible refine zZ ?_) | subst hK_) | ((first | (with_reducible first | refine zP fun K_ hK_ => ?_ | refine zQ fun K_ hK_ => ?_ | refine zT ?_ | refine zU ?_ | refine zV ?_ | refine zW ?_ | refine zX ?_ | refine zY ?_) | ((with_reducible first | refine zR ?_ ?_ fun K_ hK_ => ?_ | refine zS ?_ ?_ fun K_ hK_ => ?_); (focus kernel_rfl); (focus kernel_rfl))); first | (simp (maxSteps := 1000000) (disch := refine hold_ ?_; first | (simp [newPrim, strsOf, rpl, resV, -List.getD_eq_getElem?_getD]; done) | omega) [newPrim, strsOf, rpl, resV, -List.getD_eq_getElem?_getD]; try first | (with_reducible refine zZ ?_) | subst hK_) | subst hK_) | (with_reducible first | refine zA ?_ | refine zB ?_ | refine zC ?_ | refine zD ?_ | refine zE ?_ | refine zF ?_ | refine zG ?_ | refine zH ?_ | refine zI ?_ | refine zJ ?_ | refine zK ?_ | refine zL ?_ | refine zM ?_ | refine zN ?_ | refine zO ?_) | ((with_reducible refine yG ?_ ?_); (focus decide)) | ((with_reducible refine yA ?_); refine yB rfl ?_; (with_reducible first | refine yC ?_ | refine yD ?_)))
      all_goals simp (maxSteps := 1000000) (disch := refine hold_ ?_; first | (simp [resV, -List.getD_eq_getElem?_getD]; done) | omega) [resV, -List.getD_eq_getElem?_getD]
  | false =>
    have h2 : expandV blk s = none := by unfold expandV; rw [ho, if_neg (by simp)]
    rw [ho, if_neg (by simp), h2] at k2
    rw [h2]
    repeat (first | ((with_reducible refine callK_at 17 ?_); refine callK_b (by first | decide | exact Nat.le_of_ble_eq_true rfl) (new_ok) ?_; simp (maxSteps := 1000000) (disch := refine hold_ ?_; first | (simp [Go.Av.copyPrim, Go.Av.strPrim, newPrim, strsOf, rpl, resV, -List.getD_eq_getElem?_getD]; done) | omega) [Go.Av.copyPrim, Go.Av.strPrim, newPrim, strsOf, rpl, resV, -List.getD_eq_getElem?_getD]; first | refine zZ ?_ | subst hK_) | ((with_reducible first | refine callK_at 15 ?_); refine callK_o (by first | decide | exact Nat.le_of_ble_eq_true rfl) ?_; simp (maxSteps := 1000000) (disch := refine hold_ ?_; first | (simp [newPrim, strsOf, rpl, resV, -List.getD_eq_getElem?_getD]; done) | omega) [newPrim, strsOf, rpl, resV, -List.getD_eq_getElem?_getD]; (first | refine callK3_of (FnG.ct k2 Tryz.call15) ?_); (try simp (maxSteps := 1000000) (disch := refine hold_ ?_; first | (simp [newPrim, strsOf, rpl, resV, -List.getD_eq_getElem?_getD]; done) | omega) [newPrim, strsOf, rpl, resV, -List.getD_eq_getElem?_getD]); try first | (with_reducible refine zZ ?_) | subst hK_) | ((first | (with_reducible first | refine zP fun K_ hK_ => ?_ | refine zQ fun K_ hK_ => ?_ | refine zT ?_ | refine zU ?_ | refine zV ?_ | refine zW ?_ | refine zX ?_ | refine zY ?_) | ((with_reducible first | refine zR ?_ ?_ fun K_ hK_ => ?_ | refine zS ?_ ?_ fun K_ hK_ => ?_); (focus kernel_rfl); (focus kernel_rfl))); first | (simp (maxSteps := 1000000) (disch := refine hold_ ?_; first | (simp [newPrim, strsOf, rpl, resV, -List.getD_eq_getElem?_getD]; done) | omega) [newPrim, strsOf, rpl, resV, -List.getD_eq_getElem?_getD]; try first | (with_reducible refine zZ ?_) | subst hK_) | subst hK_) | (with_reducible first | refine zA ?_ | refine zB ?_ | refine zC ?_ | refine zD ?_ | refine zE ?_ | refine zF ?_ | refine zG ?_ | refine zH ?_ | refine zI ?_ | refine zJ ?_ | refine zK ?_ | refine zL ?_ | refine zM ?_ | refine zN ?_ | refine zO ?_) | ((with_reducible refine yG ?_ ?_); (focus decide)) | ((with_reducible refine yA ?_); refine yB rfl ?_; (with_reducible first | refine yC ?_ | refine yD ?_)))
    all_goals simp (maxSteps := 1000000) (disch := refine hold_ ?_; first | (simp [resV, -List.getD_eq_getElem?_getD]; done) | omega) [resV, -List.getD_eq_getElem?_getD]
set_option maxHeartbeats 10000000 in
theorem rvalue_ct (s : List (BitVec 8)) (hs : s.length ≤ 4000000) : Fn Tryz.prog 10 [.str (txt s)] (resV (valueV s)) := by
  have k2 : Fn Tryz.prog 19 [.str (txt s), .bool true] (resV (valueV s)) := rexpand_ct s true hs
  refine Fn.of_body Tryz.func10 rfl ?_
  cases h2 : valueV s with
  | none =>
    rw [h2] at k2
    repeat (first | ((with_reducible first | refine callK_at 19 ?_); refine callK_p ?_; simp (maxSteps := 1000000) (disch := refine hold_ ?_; first | (simp [kNil, resV, -List.getD_eq_getElem?_getD]; done) | omega) [kNil, resV, -List.getD_eq_getElem?_getD]; (first | refine callK1_of (Fn.ct k2 Tryz.call19) ?_); (try simp (maxSteps := 1000000) (disch := refine hold_ ?_; first | (simp [kNil, resV, -List.getD_eq_getElem?_getD]; done) | omega) [kNil, resV, -List.getD_eq_getElem?_getD]); try first | (with_reducible refine zZ ?_) | subst hK_) | ((first | (with_reducible first | refine zP fun K_ hK_ => ?_ | refine zQ fun K_ hK_ => ?_ | refine zT ?_ | refine zU ?_ | refine zV ?_ | refine zW ?_ | refine zX ?_ | refine zY ?_) | ((with_reducible first | refine zR ?_ ?_ fun K_ hK_ => ?_ | refine zS ?_ ?_ fun K_ hK_ => ?_); (focus kernel_rfl); (focus kernel_rfl))); first | (simp (maxSteps := 1000000) (disch := refine hold_ ?_; first | (simp [kNil, resV, -List.getD_eq_getElem?_getD]; done) | omega) [kNil, resV, -List.getD_eq_getElem?_getD]; try first | (with_reducible refine zZ ?_) | subst hK_) | subst hK_) | (with_reducible first | refine zA ?_ | refine zB ?_ | refine zC ?_ | refine zD ?_ | refine zE ?_ | refine zF ?_ | refine zG ?_ | refine zH ?_ | refine zI ?_ | refine zJ ?_ | refine zK ?_ | refine zL ?_ | refine zM ?_ | refine zN ?_ | refine zO ?_) | ((with_reducible refine yG ?_ ?_); (focus decide)) | ((with_reducible refine yA ?_); refine yB rfl ?_; (with_reducible first | refine yC ?_ | refine yD ?_)))
    all_goals simp (maxSteps := 1000000) (disch := refine hold_ ?_; first | (simp [resV, -List.getD_eq_getElem?_getD]; done) | omega) [resV, -List.getD_eq_getElem?_getD]
  | some x =>
    rw [h2] at k2
    repeat (first | ((with_reducible first | refine callK_at 19 ?_); refine callK_p ?_; simp (maxSteps := 1000000) (disch := refine hold_ ?_; first | (simp [kNil, resV, -List.getD_eq_getElem?_getD]; done) | omega) [kNil, resV, -List.getD_eq_getElem?_getD]; (first | refine callK1_of (Fn.ct k2 Tryz.call19) ?_); (try simp (maxSteps := 1000000) (disch := refine hold_ ?_; first | (simp [kNil, resV, -List.getD_eq_getElem?_getD]; done) | omega) [kNil, resV, -List.getD_eq_getElem?_getD]); try first | (with_reducible refine zZ ?_) | subst hK_) | ((first | (with_reducible first | refine zP fun K_ hK_ => ?_ | refine zQ fun K_ hK_ => ?_ | refine zT ?_ | refine zU ?_ | refine zV ?_ | refine zW ?_ | refine zX ?_ | refine zY ?_) | ((with_reducible first | refine zR ?_ ?_ fun K_ hK_ => ?_ | refine zS ?_ ?_ fun K_ hK_ => ?_); (focus kernel_rfl); (focus kernel_rfl))); first | (simp (maxSteps := 1000000) (disch := refine hold_ ?_; first | (simp [kNil, resV, -List.getD_eq_getElem?_getD]; done) | omega) [kNil, resV, -List.getD_eq_getElem?_getD]; try first | (with_reducible refine zZ ?_) | subst hK_) | subst hK_) | (with_reducible first | refine zA ?_ | refine zB ?_ | refine zC ?_ | refine zD ?_ | refine zE ?_ | refine zF ?_ | refine zG ?_ | refine zH ?_ | refine zI ?_ | refine zJ ?_ | refine zK ?_ | refine zL ?_ | refine zM ?_ | refine zN ?_ | refine zO ?_) | ((with_reducible refine yG ?_ ?_); (focus decide)) | ((with_reducible refine yA ?_); refine yB rfl ?_; (with_reducible first | refine yC ?_ | refine yD ?_)))
    all_goals simp (maxSteps := 1000000) (disch := refine hold_ ?_; first | (simp [resV, -List.getD_eq_getElem?_getD]; done) | omega) [resV, -List.getD_eq_getElem?_getD]
def rcS (s : List (BitVec 8)) (k : Nat) : St := ⟨(.p (.str (txt s)) :: V.junk :: V.junk :: V.junk :: V.junk :: V.junk :: .p (.int .i64 s.length) :: .p (.int .i64 k) :: V.junk :: V.junk :: V.junk :: V.junk :: V.junk :: V.junk :: V.junk :: V.junk :: V.junk :: V.junk :: V.junk :: V.junk :: V.junk :: V.junk :: V.junk :: V.junk :: V.junk :: V.junk :: []), ⟨[], []⟩⟩
def rcI (s : List (BitVec 8)) (x : Nat) (σ : St) : Prop := ∃ k, x = s.length - k ∧ k ≤ s.length ∧ σ = rcS s k ∧ ∀ j, j < k → endK s j = false
set_option maxHeartbeats 10000000 in
theorem rcontent_ct (s : List (BitVec 8)) (hs : s.length ≤ 4000000) : Fn Tryz.prog 9 [.str (txt s)] (resV (contentV s)) := by
  have k2 : Fn Tryz.prog 19 [.str (txt s), .bool false] (resV (expandV idB s)) := rexpand_ct s false hs
  have hsz := txt_size s
  refine Fn.of_body Tryz.func9 rfl ?_
  repeat (first | ((first | (with_reducible first | refine zP fun K_ hK_ => ?_ | refine zQ fun K_ hK_ => ?_ | refine zT ?_ | refine zU ?_ | refine zV ?_ | refine zW ?_ | refine zX ?_ | refine zY ?_) | ((with_reducible first | refine zR ?_ ?_ fun K_ hK_ => ?_ | refine zS ?_ ?_ fun K_ hK_ => ?_); (focus kernel_rfl); (focus kernel_rfl))); first | (simp (maxSteps := 1000000) (disch := refine hold_ ?_; first | (simp [kNil, hsz, -List.getD_eq_getElem?_getD]; done) | omega) [kNil, hsz, -List.getD_eq_getElem?_getD]; try first | (with_reducible refine zZ ?_) | subst hK_) | subst hK_) | (with_reducible first | refine zA ?_ | refine zB ?_ | refine zC ?_ | refine zD ?_ | refine zE ?_ | refine zF ?_ | refine zG ?_ | refine zH ?_ | refine zI ?_ | refine zJ ?_ | refine zK ?_ | refine zL ?_ | refine zM ?_ | refine zN ?_ | refine zO ?_) | ((with_reducible refine yG ?_ ?_); (focus decide)) | ((with_reducible refine yA ?_); refine yB rfl ?_; (with_reducible first | refine yC ?_ | refine yD ?_)))
  refine AW.iterI (true :: false :: false :: false :: false :: false :: true :: true :: false :: false :: false :: false :: false :: false :: false :: false :: false :: false :: false :: false :: false :: false :: false :: false :: false :: false :: []) s.length (rcI s) (τ := rcS s 0) ?_ ⟨0, by simp, Nat.zero_le _, rfl, fun j hj => absurd hj (Nat.not_lt_zero _)⟩ ?_
  · unfold rcS
    simp (maxSteps := 1000000) (disch := refine hold_ ?_; first | (simp [-List.getD_eq_getElem?_getD]; done) | omega) [-List.getD_eq_getElem?_getD]
  rintro x σ ⟨k, rfl, hk, rfl, hI⟩
  have e1 : IntKind.i64.wrap ((k : Int) + 1) = k + 1 := wrap_i64 _ (by omega) (by omega)
  by_cases hkc : k < s.length
  · have hkz : (k : Int) < s.length := by omega
    have next : endK s k = false → ∀ j, j < k + 1 → endK s j = false := by
      intro h j hj
      by_cases hjk : j = k
      · subst hjk; exact h
      · exact hI j (by omega)
    by_cases h1 : 1 < (k : Int)
    · have e2 : IntKind.i64.wrap ((k : Int) - 2) = k - 2 := wrap_i64 _ (by omega) (by omega)
      have t1 : ((k : Int) - 2).toNat = k - 2 := by omega
      have t2 : ((k : Int) + 1).toNat = k + 1 := by omega
      have hxx := txt_extract s (k - 2) (k + 1)
      have hE : endK s k = ((s.take (k + 1)).drop (k - 2) == e3) := by
        unfold endK
        have : decide (1 < k) = true := by simp; omega
        rw [this, Bool.true_and]
      cases hz : endK s k with
      | true =>
        have hC : contentV s = none := by unfold contentV; rw [occB_true s k hkc hz, if_pos rfl]
        rw [hz] at hE
        rw [hC]
        generalize (s.take (k + 1)).drop (k - 2) = Z at *
        unfold rcS
        repeat (first | ((first | (with_reducible first | refine zP fun K_ hK_ => ?_ | refine zQ fun K_ hK_ => ?_ | refine zT ?_ | refine zU ?_ | refine zV ?_ | refine zW ?_ | refine zX ?_ | refine zY ?_) | ((with_reducible first | refine zR ?_ ?_ fun K_ hK_ => ?_ | refine zS ?_ ?_ fun K_ hK_ => ?_); (focus kernel_rfl); (focus kernel_rfl))); first | (simp (maxSteps := 1000000) (disch := refine hold_ ?_; first | (simp [kNil, kE3, hsz, hkz, h1, e1, e2, t1, t2, hxx, str_eql, hE.symm, -List.getD_eq_getElem?_getD]; done) | omega) [kNil, kE3, hsz, hkz, h1, e1, e2, t1, t2, hxx, str_eql, hE.symm, -List.getD_eq_getElem?_getD]; try first | (with_reducible refine zZ ?_) | subst hK_) | subst hK_) | (with_reducible first | refine zA ?_ | refine zB ?_ | refine zC ?_ | refine zD ?_ | refine zE ?_ | refine zF ?_ | refine zG ?_ | refine zH ?_ | refine zI ?_ | refine zJ ?_ | refine zK ?_ | refine zL ?_ | refine zM ?_ | refine zN ?_ | refine zO ?_) | ((with_reducible refine yG ?_ ?_); (focus decide)) | ((with_reducible refine yA ?_); refine yB rfl ?_; (with_reducible first | refine yC ?_ | refine yD ?_)))
        all_goals simp (maxSteps := 1000000) (disch := refine hold_ ?_; first | (simp [resV, -List.getD_eq_getElem?_getD]; done) | omega) [resV, -List.getD_eq_getElem?_getD]
      | false =>
        have hn := next hz
        rw [hz] at hE
        generalize (s.take (k + 1)).drop (k - 2) = Z at *
        unfold rcS
        repeat (first | ((first | (with_reducible first | refine zP fun K_ hK_ => ?_ | refine zQ fun K_ hK_ => ?_ | refine zT ?_ | refine zU ?_ | refine zV ?_ | refine zW ?_ | refine zX ?_ | refine zY ?_) | ((with_reducible first | refine zR ?_ ?_ fun K_ hK_ => ?_ | refine zS ?_ ?_ fun K_ hK_ => ?_); (focus kernel_rfl); (focus kernel_rfl))); first | (simp (maxSteps := 1000000) (disch := refine hold_ ?_; first | (simp [kNil, kE3, hsz, hkz, h1, e1, e2, t1, t2, hxx, str_eql, hE.symm, -List.getD_eq_getElem?_getD]; done) | omega) [kNil, kE3, hsz, hkz, h1, e1, e2, t1, t2, hxx, str_eql, hE.symm, -List.getD_eq_getElem?_getD]; try first | (with_reducible refine zZ ?_) | subst hK_) | subst hK_) | (with_reducible first | refine zA ?_ | refine zB ?_ | refine zC ?_ | refine zD ?_ | refine zE ?_ | refine zF ?_ | refine zG ?_ | refine zH ?_ | refine zI ?_ | refine zJ ?_ | refine zK ?_ | refine zL ?_ | refine zM ?_ | refine zN ?_ | refine zO ?_) | ((with_reducible refine yG ?_ ?_); (focus decide)) | ((with_reducible refine yA ?_); refine yB rfl ?_; (with_reducible first | refine yC ?_ | refine yD ?_)))
        refine ⟨s.length - (k + 1), rcS s (k + 1), by omega, ?_, k + 1, rfl, hkc, rfl, hn⟩
        unfold rcS
        simp (maxSteps := 1000000) (disch := refine hold_ ?_; first | (simp [-List.getD_eq_getElem?_getD]; done) | omega) [-List.getD_eq_getElem?_getD]
    · have hn := next (by unfold endK; have : decide (1 < k) = false := by simp; omega
                          rw [this, Bool.false_and])
      unfold rcS
      repeat (first | ((first | (with_reducible first | refine zP fun K_ hK_ => ?_ | refine zQ fun K_ hK_ => ?_ | refine zT ?_ | refine zU ?_ | refine zV ?_ | refine zW ?_ | refine zX ?_ | refine zY ?_) | ((with_reducible first | refine zR ?_ ?_ fun K_ hK_ => ?_ | refine zS ?_ ?_ fun K_ hK_ => ?_); (focus kernel_rfl); (focus kernel_rfl))); first | (simp (maxSteps := 1000000) (disch := refine hold_ ?_; first | (simp [kNil, hsz, hkz, h1, e1, -List.getD_eq_getElem?_getD]; done) | omega) [kNil, hsz, hkz, h1, e1, -List.getD_eq_getElem?_getD]; try first | (with_reducible refine zZ ?_) | subst hK_) | subst hK_) | (with_reducible first | refine zA ?_ | refine zB ?_ | refine zC ?_ | refine zD ?_ | refine zE ?_ | refine zF ?_ | refine zG ?_ | refine zH ?_ | refine zI ?_ | refine zJ ?_ | refine zK ?_ | refine zL ?_ | refine zM ?_ | refine zN ?_ | refine zO ?_) | ((with_reducible refine yG ?_ ?_); (focus decide)) | ((with_reducible refine yA ?_); refine yB rfl ?_; (with_reducible first | refine yC ?_ | refine yD ?_)))
      refine ⟨s.length - (k + 1), rcS s (k + 1), by omega, ?_, k + 1, rfl, hkc, rfl, hn⟩
      unfold rcS
      simp (maxSteps := 1000000) (disch := refine hold_ ?_; first | (simp [-List.getD_eq_getElem?_getD]; done) | omega) [-List.getD_eq_getElem?_getD]
  · have hk2 : k = s.length := by omega
    subst hk2
    have hne : ¬ (s.length : Int) < s.length := by omega
    have hC : contentV s = expandV idB s := by unfold contentV; rw [occB_false s hI, if_neg (by simp)]
    rw [hC]
    unfold rcS
    cases h2 : expandV idB s with
    | none =>
      rw [h2] at k2
      repeat (first | ((with_reducible first | refine callK_at 19 ?_); refine callK_p ?_; simp (maxSteps := 1000000) (disch := refine hold_ ?_; first | (simp [kNil, resV, hsz, hne, -List.getD_eq_getElem?_getD]; done) | omega) [kNil, resV, hsz, hne, -List.getD_eq_getElem?_getD]; (first | refine callK1_of (Fn.ct k2 Tryz.call19) ?_); (try simp (maxSteps := 1000000) (disch := refine hold_ ?_; first | (simp [kNil, resV, hsz, hne, -List.getD_eq_getElem?_getD]; done) | omega) [kNil, resV, hsz, hne, -List.getD_eq_getElem?_getD]); try first | (with_reducible refine zZ ?_) | subst hK_) | ((first | (with_reducible first | refine zP fun K_ hK_ => ?_ | refine zQ fun K_ hK_ => ?_ | refine zT ?_ | refine zU ?_ | refine zV ?_ | refine zW ?_ | refine zX ?_ | refine zY ?_) | ((with_reducible first | refine zR ?_ ?_ fun K_ hK_ => ?_ | refine zS ?_ ?_ fun K_ hK_ => ?_); (focus kernel_rfl); (focus kernel_rfl))); first | (simp (maxSteps := 1000000) (disch := refine hold_ ?_; first | (simp [kNil, resV, hsz, hne, -List.getD_eq_getElem?_getD]; done) | omega) [kNil, resV, hsz, hne, -List.getD_eq_getElem?_getD]; try first | (with_reducible refine zZ ?_) | subst hK_) | subst hK_) | (with_reducible first | refine zA ?_ | refine zB ?_ | refine zC ?_ | refine zD ?_ | refine zE ?_ | refine zF ?_ | refine zG ?_ | refine zH ?_ | refine zI ?_ | refine zJ ?_ | refine zK ?_ | refine zL ?_ | refine zM ?_ | refine zN ?_ | refine zO ?_) | ((with_reducible refine yG ?_ ?_); (focus decide)) | ((with_reducible refine yA ?_); refine yB rfl ?_; (with_reducible first | refine yC ?_ | refine yD ?_)))
      all_goals simp (maxSteps := 1000000) (disch := refine hold_ ?_; first | (simp [resV, -List.getD_eq_getElem?_getD]; done) | omega) [resV, -List.getD_eq_getElem?_getD]
    | some x =>
      rw [h2] at k2
      repeat (first | ((with_reducible first | refine callK_at 19 ?_); refine callK_p ?_; simp (maxSteps := 1000000) (disch := refine hold_ ?_; first | (simp [kNil, resV, hsz, hne, -List.getD_eq_getElem?_getD]; done) | omega) [kNil, resV, hsz, hne, -List.getD_eq_getElem?_getD]; (first | refine callK1_of (Fn.ct k2 Tryz.call19) ?_); (try simp (maxSteps := 1000000) (disch := refine hold_ ?_; first | (simp [kNil, resV, hsz, hne, -List.getD_eq_getElem?_getD]; done) | omega) [kNil, resV, hsz, hne, -List.getD_eq_getElem?_getD]); try first | (with_reducible refine zZ ?_) | subst hK_) | ((first | (with_reducible first | refine zP fun K_ hK_ => ?_ | refine zQ fun K_ hK_ => ?_ | refine zT ?_ | refine zU ?_ | refine zV ?_ | refine zW ?_ | refine zX ?_ | refine zY ?_) | ((with_reducible first | refine zR ?_ ?_ fun K_ hK_ => ?_ | refine zS ?_ ?_ fun K_ hK_ => ?_); (focus kernel_rfl); (focus kernel_rfl))); first | (simp (maxSteps := 1000000) (disch := refine hold_ ?_; first | (simp [kNil, resV, hsz, hne, -List.getD_eq_getElem?_getD]; done) | omega) [kNil, resV, hsz, hne, -List.getD_eq_getElem?_getD]; try first | (with_reducible refine zZ ?_) | subst hK_) | subst hK_) | (with_reducible first | refine zA ?_ | refine zB ?_ | refine zC ?_ | refine zD ?_ | refine zE ?_ | refine zF ?_ | refine zG ?_ | refine zH ?_ | refine zI ?_ | refine zJ ?_ | refine zK ?_ | refine zL ?_ | refine zM ?_ | refine zN ?_ | refine zO ?_) | ((with_reducible refine yG ?_ ?_); (focus decide)) | ((with_reducible refine yA ?_); refine yB rfl ?_; (with_reducible first | refine yC ?_ | refine yD ?_)))
      all_goals simp (maxSteps := 1000000) (disch := refine hold_ ?_; first | (simp [resV, -List.getD_eq_getElem?_getD]; done) | omega) [resV, -List.getD_eq_getElem?_getD]
end Go.Av.Cha
end
section
set_option linter.unusedSimpArgs false
set_option linter.unusedVariables false
set_option linter.unusedSectionVars false
open Go Go.Av Go.Proofs
namespace Go.Av.Cha
variable [ML]
theorem cutB_at (d : BitVec 8) : ∀ (i r : List (BitVec 8)), d ∉ i → cutB d (i ++ d :: r) = some (i, r)
  | [], r, _ => by simp [cutB]
  | c :: i, r, h => by
    simp only [List.mem_cons, not_or] at h
    rw [List.cons_append, cutB, if_neg (fun e => h.1 e.symm), cutB_at d i r h.2]; rfl
theorem okS_asc (b : BitVec 8) (l : List (BitVec 8)) (h2 : ub b < 128) : okS (b :: l) = 1 := by
  have e : bt (b :: l) 0 = ub b := rfl
  unfold okS; rw [e, if_neg (by simp), if_pos h2]
theorem charsL_asc (b : BitVec 8) (l : List (BitVec 8)) (h2 : ub b < 128) : charsL (b :: l) = (charsL l).map (ub b :: ·) := by
  have e := okS_asc b l h2
  rw [charsL_step _ (by simp) (by rw [e]; omega), e]
  have r : runeN (b :: l) = ub b := by
    have e : bt (b :: l) 0 = ub b := rfl
    unfold runeN; rw [e, if_pos h2]
  rw [r]; rfl
theorem charsL_ascs : ∀ (l : List (BitVec 8)), (∀ b ∈ l, ub b < 128) → charsL l = some (l.map ub)
  | [], _ => charsL_nil
  | b :: l, h => by
    rw [charsL_asc b l (h b (by simp)), charsL_ascs l fun x hx => h x (List.mem_cons_of_mem _ hx)]; rfl
def plainB (b : BitVec 8) : Bool := (decide (35 ≤ ub b) && decide (ub b ≤ 59)) || (decide (97 ≤ ub b) && decide (ub b ≤ 122))
theorem plain_lt {b : BitVec 8} (h : plainB b = true) : ub b < 128 ∧ xmlB (ub b) = true ∧ ¬ b = 60#8 ∧ ¬ b = 62#8 := by
  unfold plainB at h
  simp only [Bool.or_eq_true, Bool.and_eq_true, decide_eq_true_eq] at h
  refine ⟨by omega, ?_, ?_, ?_⟩
  · unfold xmlB; rw [decide_eq_true_eq]; omega
  · intro e; subst e; exact absurd h (by decide)
  · intro e; subst e; exact absurd h (by decide)
theorem plain_text (l : List (BitVec 8)) (h : ∀ b ∈ l, plainB b = true) : textB l = true := by
  unfold textB
  rw [charsL_ascs l fun b hb => (plain_lt (h b hb)).1]
  simp only [List.all_map, List.all_eq_true]
  intro b hb
  exact (plain_lt (h b hb)).2.1
theorem plain_60 (l : List (BitVec 8)) (h : ∀ b ∈ l, plainB b = true) : l.contains 60#8 = false := by
  have : 60#8 ∉ l := fun e => (plain_lt (h _ e)).2.2.1 rfl
  simpa using this
theorem plain_occ (l : List (BitVec 8)) (h : ∀ b ∈ l, plainB b = true) : occB l = false := by
  refine occB_false l fun k hk => ?_
  unfold endK
  have : ((l.take (k + 1)).drop (k - 2) == e3) = false := by
    refine beq_eq_false_iff_ne.2 fun e => ?_
    have hm : 62#8 ∈ (l.take (k + 1)).drop (k - 2) := by rw [e]; decide
    exact (plain_lt (h _ (List.mem_of_mem_take (List.mem_of_mem_drop hm)))).2.2.2 rfl
  rw [this, Bool.and_false]
def dgB (b : BitVec 8) : Bool := (decide (48 ≤ ub b) && decide (ub b ≤ 57)) || (decide (97 ≤ ub b) && decide (ub b ≤ 102))
theorem dg_plain {b : BitVec 8} (h : dgB b = true) : plainB b = true ∧ ¬ b = 59#8 ∧ ¬ b = 38#8 ∧ ¬ b = 120#8 := by
  unfold dgB at h; unfold plainB
  simp only [Bool.or_eq_true, Bool.and_eq_true, decide_eq_true_eq] at h ⊢
  refine ⟨by omega, ?_, ?_, ?_⟩ <;> (intro e; subst e; exact absurd h (by decide))
theorem ex_ref (g : BitVec 8 → BitVec 8) (i : List (BitVec 8)) (h : 59#8 ∉ i) : exL g (38#8 :: (i ++ [59#8])) = standsV i := by
  have c1 : cutB 38#8 (38#8 :: (i ++ [59#8])) = some ([], i ++ [59#8]) := by simp [cutB]
  have c2 : cutB 59#8 (i ++ [59#8]) = some (i, []) := cutB_at _ i [] h
  cases hs : standsV i with
  | none => exact exL_bad2 g _ _ _ _ _ c1 c2 hs
  | some x =>
    rw [exL_go g _ _ _ _ _ _ c1 c2 hs, exL_none g [] rfl]; simp
theorem expand_ref (g : BitVec 8 → BitVec 8) (i : List (BitVec 8)) (h : ∀ b ∈ i, plainB b = true) (h59 : 59#8 ∉ i) : expandV g (38#8 :: (i ++ [59#8])) = standsV i := by
  have hp : ∀ b ∈ 38#8 :: (i ++ [59#8]), plainB b = true := by
    intro b hb
    rcases List.mem_cons.1 hb with e | e
    · subst e; decide
    · rcases List.mem_append.1 e with e | e
      · exact h b e
      · rw [List.mem_singleton.1 e]; decide
  unfold expandV okX
  rw [plain_text _ hp, plain_60 _ hp, if_pos (by simp), ex_ref g i h59]
theorem content_ref (i : List (BitVec 8)) (h : ∀ b ∈ i, plainB b = true) (h59 : 59#8 ∉ i) : contentV (38#8 :: (i ++ [59#8])) = standsV i := by
  have hp : ∀ b ∈ 38#8 :: (i ++ [59#8]), plainB b = true := by
    intro b hb
    rcases List.mem_cons.1 hb with e | e
    · subst e; decide
    · rcases List.mem_append.1 e with e | e
      · exact h b e
      · rw [List.mem_singleton.1 e]; decide
  unfold contentV
  rw [plain_occ _ hp, if_neg (by simp), expand_ref idB i h h59]
def dg (n : Nat) : BitVec 8 := if n < 10 then BitVec.ofNat 8 (48 + n) else BitVec.ofNat 8 (87 + n)
theorem dg_val (n : Nat) (h : n < 16) : ub (dg n) = if n < 10 then 48 + (n : Int) else 87 + (n : Int) := by
  unfold dg ub
  split <;> simp <;> omega
theorem dg_dgB (n : Nat) (h : n < 16) : dgB (dg n) = true := by
  unfold dgB
  rw [dg_val n h]
  split <;> simp <;> omega
theorem dg_digI (n : Nat) (base : Int) (h : n < 16) (hb : (n : Int) < base) : digI (ub (dg n)) base = n := by
  have e : digV (ub (dg n)) = n := by
    rw [dg_val n h]
    unfold digV
    split
    · rw [if_pos (by omega)]; omega
    · rw [if_neg (by omega), if_pos (by omega)]; omega
  unfold digI
  rw [e, if_neg (by omega)]
def repN (b : Nat) : Nat → Nat → List (BitVec 8)
  | 0, _ => []
  | f + 1, n => if n = 0 then [] else repN b f (n / b) ++ [dg (n % b)]
def digs (b n : Nat) : List (BitVec 8) := repN b n n
theorem repN_fuel (b : Nat) (hb : 2 ≤ b) : ∀ (f f' n : Nat), n ≤ f → n ≤ f' → repN b f n = repN b f' n
  | 0, f', n, h, _ => by
    obtain rfl : n = 0 := by omega
    cases f' <;> simp [repN]
  | f + 1, 0, n, _, h => by
    obtain rfl : n = 0 := by omega
    simp [repN]
  | f + 1, f' + 1, n, h, h' => by
    simp only [repN]
    by_cases h0 : n = 0
    · rw [if_pos h0, if_pos h0]
    · rw [if_neg h0, if_neg h0]
      have : n / b < n := Nat.div_lt_self (by omega) (by omega)
      rw [repN_fuel b hb f f' (n / b) (by omega) (by omega)]
theorem digs_zero (b : Nat) : digs b 0 = [] := rfl
theorem digs_step (b n : Nat) (hb : 2 ≤ b) (h : 0 < n) : digs b n = digs b (n / b) ++ [dg (n % b)] := by
  have hlt : n / b < n := Nat.div_lt_self (by omega) (by omega)
  unfold digs
  obtain ⟨m, rfl⟩ : ∃ m, n = m + 1 := ⟨n - 1, by omega⟩
  conv => lhs; rw [repN, if_neg (by omega)]
  rw [repN_fuel b hb m ((m + 1) / b) _ (by omega) (Nat.le_refl _)]
theorem digs_dg (b : Nat) (hb : 2 ≤ b) (hb2 : b ≤ 16) : ∀ (f n : Nat), n ≤ f → ∀ x ∈ digs b n, dgB x = true
  | 0, n, h, x, hx => by
    obtain rfl : n = 0 := by omega
    simp [digs_zero] at hx
  | f + 1, n, h, x, hx => by
    by_cases h0 : n = 0
    · subst h0; simp [digs_zero] at hx
    · have hlt : n / b < n := Nat.div_lt_self (by omega) (by omega)
      rw [digs_step b n hb (by omega)] at hx
      rcases List.mem_append.1 hx with e | e
      · exact digs_dg b hb hb2 f (n / b) (by omega) x e
      · rw [List.mem_singleton.1 e]
        exact dg_dgB _ (by have := Nat.mod_lt n (show b > 0 by omega); omega)
theorem numF_app (base : Int) : ∀ (l t : List (BitVec 8)) (n : Int), numF base n (l ++ t) = (numF base n l).bind fun m => numF base m t
  | [], t, n => rfl
  | c :: l, t, n => by
    rw [List.cons_append, numF, numF]
    split
    · rfl
    · exact numF_app base l t _
theorem mn_mn (q b d n : Nat) (hb : 2 ≤ b) (e : b * q + d = n) : mn (mn (q : Int) * (b : Int) + (d : Int)) = mn (n : Int) := by
  have e2 : ((b : Int) * (q : Int) + (d : Int)) = (n : Int) := by exact_mod_cast e
  unfold mn
  by_cases h : (1114112 : Int) < q
  · rw [if_pos h]
    have h1 : (1114112 : Int) * 2 ≤ 1114112 * b := by
      have : (2 : Int) ≤ b := by omega
      omega
    have h2 : (q : Int) * 2 ≤ b * q := by
      rw [Int.mul_comm (b : Int)]
      exact Int.mul_le_mul_of_nonneg_left (by omega) (by omega)
    rw [if_pos (by omega), if_pos (by omega)]
  · rw [if_neg h]
    have : (q : Int) * b + d = n := by rw [Int.mul_comm]; exact e2
    rw [this]
theorem num_digs (b : Nat) (hb : 2 ≤ b) (hb2 : b ≤ 16) : ∀ (f n : Nat), n ≤ f → numF (b : Int) 0 (digs b n) = some (mn n)
  | 0, n, h => by
    obtain rfl : n = 0 := by omega
    rfl
  | f + 1, n, h => by
    by_cases h0 : n = 0
    · subst h0; rfl
    · have hlt : n / b < n := Nat.div_lt_self (by omega) (by omega)
      have hm := Nat.mod_lt n (show b > 0 by omega)
      rw [digs_step b n hb (by omega), numF_app, num_digs b hb hb2 f (n / b) (by omega), Option.bind_some]
      simp only [numF]
      rw [dg_digI (n % b) b (by omega) (by omega), if_neg (by omega)]
      rw [mn_mn (n / b) b (n % b) n hb (Nat.div_add_mod n b)]
def zs (k : Nat) : List (BitVec 8) := List.replicate k 48#8
theorem zs_succ (k : Nat) : zs (k + 1) = zs k ++ [48#8] := List.replicate_succ'
theorem num_zs (base : Int) (hb : 1 ≤ base) (l : List (BitVec 8)) : ∀ k, numF base 0 (zs k ++ l) = numF base 0 l
  | 0 => rfl
  | k + 1 => by
    have e : zs (k + 1) = 48#8 :: zs k := rfl
    rw [e, List.cons_append, numF]
    have hd : digV (ub 48#8) = 0 := by decide
    have hi : digI (ub 48#8) base = 0 := by unfold digI; rw [hd, if_neg (by omega)]
    have hm : mn (0 * base + 0) = 0 := by rw [Int.zero_mul]; rfl
    rw [hi, if_neg (by omega), hm]
    exact num_zs base hb l k
theorem numV_digs (b : Nat) (hb : b = 10 ∨ b = 16) (k n : Nat) (hk : 0 < k) : numV (b : Int) (zs k ++ digs b n) = chV n := by
  have h2 : 2 ≤ b := by omega
  have h16 : b ≤ 16 := by omega
  have hN : numF (b : Int) 0 (zs k ++ digs b n) = some (mn n) := by
    rw [num_zs _ (by omega)]; exact num_digs b h2 h16 n n (Nat.le_refl _)
  have hO : numO (b : Int) (zs k ++ digs b n) = true := by
    unfold numO; rw [hN]
    obtain ⟨m, rfl⟩ : ∃ m, k = m + 1 := ⟨k - 1, by omega⟩
    rfl
  unfold numV numN
  rw [if_pos hO, hN]
  refine numR_ch _ _ ?_
  show numR (mn n) n
  unfold numR mn
  by_cases h : (1114112 : Int) < n
  · rw [if_pos h]; exact .inr ⟨rfl, by omega⟩
  · rw [if_neg h]
    by_cases h3 : (n : Int) = 1114112
    · exact .inr ⟨h3, by omega⟩
    · exact .inl ⟨rfl, by omega, by omega⟩
theorem zs_head (k : Nat) (l : List (BitVec 8)) (hk : 0 < k) : (zs k ++ l).head? = some 48#8 := by
  obtain ⟨m, rfl⟩ : ∃ m, k = m + 1 := ⟨k - 1, by omega⟩
  rfl
theorem zd_dg (b : Nat) (hb : b = 10 ∨ b = 16) (k n : Nat) : ∀ x ∈ zs k ++ digs b n, dgB x = true := by
  intro x hx
  rcases List.mem_append.1 hx with e | e
  · have := List.eq_of_mem_replicate e
    subst this; decide
  · exact digs_dg b (by omega) (by omega) n n (Nat.le_refl _) x e
theorem stands_hash (D : List (BitVec 8)) : standsV (35#8 :: D) = if D.head? = some 120#8 then numV 16 (D.drop 1) else numV 10 D := by
  unfold standsV; simp
theorem content_num (k n : Nat) (hk : 0 < k) : contentV (38#8 :: ((35#8 :: (zs k ++ digs 10 n)) ++ [59#8])) = chV n := by
  have hd := zd_dg 10 (Or.inl rfl) k n
  rw [content_ref]
  · rw [stands_hash, zs_head k _ hk, if_neg (by decide)]
    exact numV_digs 10 (Or.inl rfl) k n hk
  · intro x hx
    rcases List.mem_cons.1 hx with e | e
    · subst e; decide
    · exact (dg_plain (hd x e)).1
  · intro hx
    rcases List.mem_cons.1 hx with e | e
    · exact absurd e (by decide)
    · exact (dg_plain (hd _ e)).2.1 rfl
theorem value_num (k n : Nat) (hk : 0 < k) : valueV (38#8 :: ((35#8 :: 120#8 :: (zs k ++ digs 16 n)) ++ [59#8])) = chV n := by
  have hd := zd_dg 16 (Or.inr rfl) k n
  unfold valueV
  rw [expand_ref]
  · rw [stands_hash, List.head?_cons, if_pos rfl, List.drop_succ_cons, List.drop_zero]
    exact numV_digs 16 (Or.inr rfl) k n hk
  · intro x hx
    rcases List.mem_cons.1 hx with e | e
    · subst e; decide
    · rcases List.mem_cons.1 e with e | e
      · subst e; decide
      · exact (dg_plain (hd x e)).1
  · intro hx
    rcases List.mem_cons.1 hx with e | e
    · exact absurd e (by decide)
    · rcases List.mem_cons.1 e with e | e
      · exact absurd e (by decide)
      · exact (dg_plain (hd _ e)).2.1 rfl
end Go.Av.Cha
end
section
set_option linter.unusedSimpArgs false
set_option linter.unusedVariables false
set_option linter.unusedSectionVars false
open Go Go.Av Go.Proofs
namespace Go.Av.Cha
variable [ML]
def aw1 : List (BitVec 8) := [97#8, 38#8, 35#8, 120#8, 52#8, 49#8, 59#8, 38#8, 108#8, 116#8, 59#8]
def aw2 : List (BitVec 8) := [97#8, 13#8, 10#8, 98#8, 13#8]
theorem kAw1 : (ByteArray.mk #[97, 38, 35, 120, 52, 49, 59, 38, 108, 116, 59]) = txt aw1 := rfl
theorem kAw2 : (ByteArray.mk #[97, 13, 10, 98, 13]) = txt aw2 := rfl
theorem kAw3 : (ByteArray.mk #[97, 65, 60]) = txt [97#8, 65#8, 60#8] := rfl
theorem kAw4 : (ByteArray.mk #[97, 10, 98, 10]) = txt [97#8, 10#8, 98#8, 10#8] := rfl
theorem aw1_ex : exL idB aw1 = some [97#8, 65#8, 60#8] := by rfl
theorem aw1_content : contentV aw1 = some [97#8, 65#8, 60#8] := by
  have hp : ∀ b ∈ aw1, plainB b = true := by decide
  unfold contentV expandV okX
  rw [plain_occ _ hp, if_neg (by simp), plain_text _ hp, plain_60 _ hp, if_pos (by simp), aw1_ex]
theorem aw2_lines : lineV aw2 = [97#8, 10#8, 98#8, 10#8] := rfl
theorem awake_ct : Fn Tryz.prog 6 [] [.p (.bool true)] := by
  have c1 := content_ct aw1 (by decide)
  rw [aw1_content] at c1
  have c2 := lines_ct aw2 (by decide)
  rw [aw2_lines] at c2
  refine Fn.of_body Tryz.func6 rfl ?_
  repeat (first | ((with_reducible first | refine callK_at 7 ?_ | refine callK_at 13 ?_); refine callK_p ?_; simp (maxSteps := 1000000) (disch := refine hold_ ?_; first | (simp [kAw1, kAw2, kAw3, kAw4, str_eql, resV, -List.getD_eq_getElem?_getD]; done) | omega) [kAw1, kAw2, kAw3, kAw4, str_eql, resV, -List.getD_eq_getElem?_getD]; (first | ((with_reducible refine k1_at 7 ?_); refine callK1_of (Fn.ct c1 Tryz.call7) ?_) | ((with_reducible refine k1_at 13 ?_); refine callK1_of (Fn.ct c2 Tryz.call13) ?_)); (try simp (maxSteps := 1000000) (disch := refine hold_ ?_; first | (simp [kAw1, kAw2, kAw3, kAw4, str_eql, resV, -List.getD_eq_getElem?_getD]; done) | omega) [kAw1, kAw2, kAw3, kAw4, str_eql, resV, -List.getD_eq_getElem?_getD]); try first | (with_reducible refine zZ ?_) | subst hK_) | ((first | (with_reducible first | refine zP fun K_ hK_ => ?_ | refine zQ fun K_ hK_ => ?_ | refine zT ?_ | refine zU ?_ | refine zV ?_ | refine zW ?_ | refine zX ?_ | refine zY ?_) | ((with_reducible first | refine zR ?_ ?_ fun K_ hK_ => ?_ | refine zS ?_ ?_ fun K_ hK_ => ?_); (focus kernel_rfl); (focus kernel_rfl))); first | (simp (maxSteps := 1000000) (disch := refine hold_ ?_; first | (simp [kAw1, kAw2, kAw3, kAw4, str_eql, resV, -List.getD_eq_getElem?_getD]; done) | omega) [kAw1, kAw2, kAw3, kAw4, str_eql, resV, -List.getD_eq_getElem?_getD]; try first | (with_reducible refine zZ ?_) | subst hK_) | subst hK_) | (with_reducible first | refine zA ?_ | refine zB ?_ | refine zC ?_ | refine zD ?_ | refine zE ?_ | refine zF ?_ | refine zG ?_ | refine zH ?_ | refine zI ?_ | refine zJ ?_ | refine zK ?_ | refine zL ?_ | refine zM ?_ | refine zN ?_ | refine zO ?_) | ((with_reducible refine yG ?_ ?_); (focus decide)) | ((with_reducible refine yA ?_); refine yB rfl ?_; (with_reducible first | refine yC ?_ | refine yD ?_)))
  all_goals simp (maxSteps := 1000000) (disch := refine hold_ ?_; first | (simp [-List.getD_eq_getElem?_getD]; done) | omega) [-List.getD_eq_getElem?_getD]
end Go.Av.Cha
end
section
set_option linter.unusedSimpArgs false
set_option linter.unusedVariables false
set_option linter.unusedSectionVars false
open Go Go.Av Go.Proofs
namespace Go.Proofs.YtdbojjoffmbjcaaGreatDoor
open Go Go.Av Go.Av.Cha
theorem firstL_at (c : Nat) (h : c < 256) : firstL.getD c 0 = ((Lib.firstT c : Nat) : Int) := by
  rw [show firstL.getD c 0 = firstF c by simp [firstL, List.getD_eq_getElem?_getD, h]]
  unfold firstF Lib.firstT
  (repeat' split) <;> omega
theorem accL_at : ∀ i : Fin 16, accL.getD (2 * i.val) 0 = ((Lib.accLo i.val : Nat) : Int) ∧ accL.getD (2 * i.val + 1) 0 = ((Lib.accHi i.val : Nat) : Int) := by decide
theorem noVars (W : World) (m : Int) (hm : W.cell? ⟨0, 0, none⟩ = some (.int .i64 m)) (h : Lib.Utf8Tabs 1 2 W) :
    ∀ g r, (@Tables.gl (@instTablesOfML ⟨m⟩)) g = some r → RepP (cellsOf W) (.eptr r 0 0) (.pointer (some ⟨g, 0, none⟩)) := by
  intro g r hg
  have one : ∀ (b : Nat) (l : List Int) (n : Nat), l.length = n → n ≠ 0 → (∀ j, j < n → W.cell? ⟨b, j, none⟩ = some (.int .u8 (l.getD j 0))) → RepP (cellsOf W) (.eptr (.vals n [.agg (.ints .u8 l)]) 0 0) (.pointer (some ⟨b, 0, none⟩)) := by
    intro b l n hl h0 hc
    have := RepP.eptr (m := cellsOf W) (.vals n [.agg (.ints .u8 l)]) 0 0 b 0 (fun _ j => .int .u8 (l.getD j 0)) (by simp [Row.len]) ?_ ?_ ?_ ?_
    · simpa using this
    · intro i hi
      simp only [Row.len, List.length_singleton] at hi
      obtain rfl : i = 0 := by omega
      simpa [Row.elem, PV.width, Row.len, Row.sz] using hl
    · intro i j hi hj
      simp only [Row.len, List.length_singleton] at hi
      obtain rfl : i = 0 := by omega
      show W.cell? ⟨b, 0 + 0 * n + j, none⟩ = _
      rw [show 0 + 0 * n + j = j by omega]; exact hc j (by simpa [Row.sz] using hj)
    · intro i j hi hj
      simp only [Row.len, List.length_singleton] at hi
      obtain rfl : i = 0 := by omega
      rfl
    · intro i j hi hj
      simp only [Row.len, List.length_singleton] at hi
      obtain rfl : i = 0 := by omega
      exact .int .u8 _
  match g, hg with
  | 0, hg =>
    have : r = .vals 1 [.int .i64 m] := (Option.some.inj hg).symm
    subst this
    have := RepP.eptr (m := cellsOf W) (.vals 1 [.int .i64 m]) 0 0 0 0 (fun _ _ => .int .i64 m) (by simp [Row.len]) ?_ ?_ ?_ ?_
    · simpa using this
    · intro i hi
      simp only [Row.len, List.length_singleton] at hi
      obtain rfl : i = 0 := by omega
      rfl
    · intro i j hi hj
      simp only [Row.len, List.length_singleton] at hi
      simp only [Row.sz] at hj
      obtain rfl : i = 0 := by omega
      obtain rfl : j = 0 := by omega
      exact hm
    · intro i j hi hj
      simp only [Row.len, List.length_singleton] at hi
      obtain rfl : i = 0 := by omega
      rfl
    · intro i j hi hj
      simp only [Row.len, List.length_singleton] at hi
      obtain rfl : i = 0 := by omega
      exact .int .i64 _
  | 1, hg =>
    have : r = .vals 256 [.agg (.ints .u8 firstL)] := (Option.some.inj hg).symm
    subst this
    exact one 1 firstL 256 (by simp [firstL]) (by omega) fun j hj => by rw [h.1 j hj, firstL_at j hj]
  | 2, hg =>
    have : r = .vals 32 [.agg (.ints .u8 accL)] := (Option.some.inj hg).symm
    subst this
    refine one 2 accL 32 rfl (by omega) fun j hj => ?_
    obtain ⟨k, hk⟩ : ∃ k, j = 2 * k ∨ j = 2 * k + 1 := ⟨j / 2, by omega⟩
    have hk16 : k < 16 := by omega
    obtain ⟨q1, q2⟩ := h.2 k hk16
    obtain ⟨a1, a2⟩ := accL_at ⟨k, hk16⟩
    rcases hk with rfl | rfl
    · rw [q1, a1]
    · rw [q2, a2]
end Go.Proofs.YtdbojjoffmbjcaaGreatDoor
end
