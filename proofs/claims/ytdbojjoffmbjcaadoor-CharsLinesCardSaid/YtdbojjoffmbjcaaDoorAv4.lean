/- What the walk over this seat's program leans on, part 4 of 5: values without addresses, and what each operation, region, loop and call does to them. Conditions: none. -/
import Derived.Test.YtdbojjoffmbjcaaDoorAv3
import Derived.KernelRfl
import Derived.Scope
import Derived.WalkKit
import Derived.ProofKit
import Derived.OpenShut
import Derived.ShutString
import Derived.ChangeOld
import Derived.Lib.Bytealg
section
set_option linter.unusedVariables false
set_option linter.unusedSimpArgs false
set_option linter.unusedSectionVars false
namespace Go.Av
theorem hold_ {p : Prop} (h : p) : p := h
theorem nr {α : Type _} {a b : α} (h : a = b) : a = b := h
section
variable [Tables]
section
variable (k : IntKind) (a b : Int)
@[simp] theorem ib_add : intBin .add k a b = some (.int k (k.wrap (a + b))) := rfl
@[simp] theorem ib_sub : intBin .sub k a b = some (.int k (k.wrap (a - b))) := rfl
@[simp] theorem ib_mul : intBin .mul k a b = some (.int k (k.wrap (a * b))) := rfl
@[simp] theorem ib_quo (h : b ≠ 0) : intBin .quo k a b = some (.int k (k.wrap (a.tdiv b))) := by simp [intBin, h]
@[simp] theorem ib_rem (h : b ≠ 0) : intBin .rem k a b = some (.int k (a.tmod b)) := by simp [intBin, h]
@[simp] theorem ib_eql : intBin .eql k a b = some (.bool (a == b)) := rfl
@[simp] theorem ib_neq : intBin .neq k a b = some (.bool (a != b)) := rfl
@[simp] theorem ib_lss : intBin .lss k a b = some (.bool (decide (a < b))) := rfl
@[simp] theorem ib_leq : intBin .leq k a b = some (.bool (decide (a ≤ b))) := rfl
@[simp] theorem ib_gtr : intBin .gtr k a b = some (.bool (decide (a > b))) := rfl
@[simp] theorem ib_geq : intBin .geq k a b = some (.bool (decide (a ≥ b))) := rfl
end
theorem wrap_u64 (n : Int) (h0 : 0 ≤ n) (h : n < 18446744073709551616) : IntKind.u64.wrap n = n := by
  have : IntKind.u64.wrap n = n % 18446744073709551616 := rfl
  rw [this]; omega
theorem wrap_u8' (n : Int) (h0 : 0 ≤ n) (h : n < 256) : IntKind.u8.wrap n = n := by
  have : IntKind.u8.wrap n = n % 256 := rfl
  rw [this]; omega
theorem wrap_i64 (n : Int) (h : -9223372036854775808 ≤ n) (h2 : n < 9223372036854775808) : IntKind.i64.wrap n = n := by
  unfold IntKind.wrap; simp [IntKind.bits, IntKind.signed]; omega
theorem wrap_i32 (n : Int) (h : -2147483648 ≤ n) (h2 : n < 2147483648) : IntKind.i32.wrap n = n := by
  unfold IntKind.wrap; simp [IntKind.bits, IntKind.signed]; omega
section
variable (k : IntKind) (n : Int) (l : List Int) (ls : List ByteArray) (m i j : Nat) (lv : List PV) (lc : List V)
@[simp] theorem row_len_ints : (Row.ints k l : Row PV).len = l.length := rfl
@[simp] theorem row_len_strs : (Row.strs ls : Row PV).len = ls.length := rfl
@[simp] theorem row_len_vals : (Row.vals m lv : Row PV).len = lv.length := rfl
@[simp] theorem row_sz_ints : (Row.ints k l : Row PV).sz = 1 := rfl
@[simp] theorem row_sz_strs : (Row.strs ls : Row PV).sz = 1 := rfl
@[simp] theorem row_sz_vals : (Row.vals m lv : Row PV).sz = m := rfl
@[simp] theorem row_elem_ints : (Row.ints k l : Row PV).elem i = .int k (l.getD i 0) := rfl
@[simp] theorem row_elem_strs : (Row.strs ls : Row PV).elem i = .str (ls.getD i ByteArray.empty) := rfl
@[simp] theorem row_elem_vals : (Row.vals m lv : Row PV).elem i = lv.getD i .ptr0 := rfl
@[simp] theorem row_cut_ints : (Row.ints k l : Row PV).cut i j = .ints k ((l.take j).drop i) := rfl
@[simp] theorem row_cut_strs : (Row.strs ls : Row PV).cut i j = .strs ((ls.take j).drop i) := rfl
@[simp] theorem row_cut_vals : (Row.vals m lv : Row PV).cut i j = .vals m ((lv.take j).drop i) := rfl
@[simp] theorem st_ints (h : i < l.length) : storeHB (.row (.ints k l)) i (.p (.int k n)) = some (.row (.ints k (l.set i n))) := by simp [storeHB, h]
@[simp] theorem st_vals (sz : Nat) (ps : List PV) : storeHB (.row (.ints k l)) i (.p (.agg (.vals sz ps))) = match intsK k ps with
    | some l' => if i = 0 ∧ l'.length = l.length then some (.row (.ints k l')) else none
    | none => none := rfl
@[simp] theorem st_strs (s : ByteArray) (h : i < ls.length) : storeHB (.row (.strs ls)) i (.p (.str s)) = some (.row (.strs (ls.set i s))) := by simp [storeHB, h]
@[simp] theorem st_cells_agg (r : Row PV) (h : i + r.len ≤ lc.length) : storeHB (.cells lc) i (.p (.agg r)) = some (.cells (splice lc i ((List.range r.len).map fun j => .p (r.elem j)))) := by simp [storeHB, h]
@[simp] theorem st_cells_int (h : i < lc.length) : storeHB (.cells lc) i (.p (.int k n)) = some (.cells (lc.set i (.p (.int k n)))) := by simp [storeHB, h]
@[simp] theorem st_cells_str (s : ByteArray) (h : i < lc.length) : storeHB (.cells lc) i (.p (.str s)) = some (.cells (lc.set i (.p (.str s)))) := by simp [storeHB, h]
@[simp] theorem st_cells_bool (b : Bool) (h : i < lc.length) : storeHB (.cells lc) i (.p (.bool b)) = some (.cells (lc.set i (.p (.bool b)))) := by simp [storeHB, h]
@[simp] theorem st_cells_sl (r : Row PV) (b : Bool) (h : i < lc.length) : storeHB (.cells lc) i (.p (.sl r b)) = some (.cells (lc.set i (.p (.sl r b)))) := by simp [storeHB, h]
@[simp] theorem st_cells_row (r : Row PV) (t v : Nat) (b : Bool) (h : i < lc.length) : storeHB (.cells lc) i (.row r t v b) = some (.cells (lc.set i (.row r t v b))) := by simp [storeHB, h]
@[simp] theorem st_cells_ptr (a b c : Nat) (h : i < lc.length) : storeHB (.cells lc) i (.ptr a b c) = some (.cells (lc.set i (.ptr a b c))) := by simp [storeHB, h]
@[simp] theorem st_cells_brow (e : Nat) (r : Row PV) (t v : Nat) (b : Bool) (h : i < lc.length) : storeHB (.cells lc) i (.brow e r t v b) = some (.cells (lc.set i (.brow e r t v b))) := by simp [storeHB, h]
@[simp] theorem st_cells_own (a b c d e : Nat) (h : i < lc.length) : storeHB (.cells lc) i (.own a b c d e) = some (.cells (lc.set i (.own a b c d e))) := by simp [storeHB, h]
@[simp] theorem st_cells_aggl (l' : List V) (h : i + l'.length ≤ lc.length) : storeHB (.cells lc) i (.agg l') = some (.cells (splice lc i l')) := by simp [storeHB, h]
@[simp] theorem cell_int : (PV.int k n).cell i = .int k n := rfl
@[simp] theorem cell_str (s : ByteArray) : (PV.str s).cell i = .str s := rfl
@[simp] theorem cell_bool (b : Bool) : (PV.bool b).cell i = .bool b := rfl
@[simp] theorem cell_sl (r : Row PV) (b : Bool) : (PV.sl r b).cell i = .sl r b := rfl
@[simp] theorem cell_agg (r : Row PV) : (PV.agg r).cell i = r.elem i := rfl
@[simp high] theorem ite_yes {α : Type} {c : Prop} [Decidable c] {a b : α} (h : c) : ite c a b = a := if_pos h
@[simp] theorem ite_no {α : Type} {c : Prop} [Decidable c] {a b : α} (h : ¬ c) : ite c a b = b := if_neg h
@[simp] theorem un_not (b : Bool) : aunop .not (.p (.bool b)) = some (.p (.bool !b)) := rfl
@[simp] theorem un_neg : aunop .neg (.p (.int k n)) = some (.p (.int k (k.wrap (0 - n)))) := rfl
end
def getS : List V → Nat → V
  | [], _ => .junk
  | x :: _, 0 => x
  | _ :: l, n + 1 => getS l n
theorem getD_getS : ∀ (l : List V) (n : Nat), l.getD n .junk = getS l n
  | [], _ => rfl
  | _ :: _, 0 => rfl
  | _ :: l, n + 1 => getD_getS l n
theorem eval_tmp (l : List V) (h : HT) (t : Nat) : St.eval ⟨l, h⟩ (.tmp t) = getS l t := getD_getS l t
theorem eval_const (σ : St) (v : Value) : St.eval σ (.const v) = ofConst v := rfl
@[simp] theorem eval_func (σ : St) (f : FuncId) : St.eval σ (.func f) = .p (.fn f (.vals 1 [])) := rfl
@[simp high] theorem getD_getS_cons (x : V) (l : List V) (n : Nat) : (x :: l).getD n .junk = getS (x :: l) n := getD_getS _ n
def setS (l : List V) (n : Nat) (x : V) : List V := l.set n x
theorem put_some (l : List V) (h h' : HT) (d : Nat) (v : V) : St.put ⟨l, h⟩ (some d) v h' = ⟨setS l d v, h'⟩ := rfl
theorem put_none (l : List V) (h h' : HT) (v : V) : St.put ⟨l, h⟩ none v h' = ⟨l, h'⟩ := rfl
@[simp] theorem getS_zero (x : V) (l : List V) : getS (x :: l) 0 = x := rfl
@[simp] theorem getS_succ (x : V) (l : List V) (n : Nat) : getS (x :: l) (n + 1) = getS l n := rfl
@[simp] theorem setS_zero (x y : V) (l : List V) : setS (x :: l) 0 y = y :: l := rfl
@[simp] theorem setS_succ (x y : V) (l : List V) (n : Nat) : setS (x :: l) (n + 1) y = x :: setS l n y := rfl
theorem AW.iter {P : Program} {c : Code} {Q : Exit → St → Prop} {σ : St} (m : List Bool) (n : Nat) (S : Nat → St) (h0 : σ.norm m = some (S 0))
    (round : ∀ k, k ≤ n → AW P c (thenQ (fun σ' => k < n ∧ σ'.norm m = some (S (k + 1))) Q) (S k)) : AW P (.loop c) Q σ := by
  refine AW.norm m h0 ?_
  intro G0 w0 G a w ht r
  refine wp_loop_ghost (fun i a w => ∃ G σ, i ≤ n ∧ σ = S (n - i) ∧ Rl G0 w0 σ G a w) n ⟨G, _, Nat.le_refl _, by rw [Nat.sub_self], r⟩ ?_
  rintro i a w ⟨G, σ, hi, rfl, r⟩
  refine wp_mono (round (n - i) (by omega) G0 w0 G a w trivial r) ?_
  rintro e a' w' ⟨σ', G', h1, h2⟩
  cases e with
  | normal =>
    obtain ⟨hlt, hn⟩ := h1
    obtain ⟨G2, r2⟩ := h2.norm m hn
    have : ∃ j, j < i ∧ ∃ G σ, j ≤ n ∧ σ = S (n - j) ∧ Rl G0 w0 σ G a' w' := ⟨i - 1, by omega, G2, _, by omega, by congr 1; omega, r2⟩
    obtain ⟨j, h3, h4⟩ := this
    first
    | exact ⟨j, h3, h4⟩
    | exact ⟨j, h4, h3⟩
  | exit id => exact ⟨σ', G', h1, h2⟩
  | goto l => exact ⟨σ', G', h1, h2⟩
  | ret => exact ⟨σ', G', h1, h2⟩
  | panic c => exact ⟨σ', G', h1, h2⟩
  | outgrown => exact ⟨σ', G', h1, h2⟩
theorem AW.iterI {P : Program} {c : Code} {Q : Exit → St → Prop} {σ : St} (m : List Bool) (n : Nat) (I : Nat → St → Prop) {τ : St} (h0 : σ.norm m = some τ) (hI : I n τ)
    (round : ∀ k σ, I k σ → AW P c (thenQ (fun σ' => ∃ i τ, i < k ∧ σ'.norm m = some τ ∧ I i τ) Q) σ) : AW P (.loop c) Q σ := by
  refine AW.norm m h0 ?_
  intro G0 w0 G a w ht r
  refine wp_loop_ghost (fun i a w => ∃ G σ, I i σ ∧ Rl G0 w0 σ G a w) n ⟨G, _, hI, r⟩ ?_
  rintro i a w ⟨G, σ, hi, r⟩
  refine wp_mono (round i σ hi G0 w0 G a w trivial r) ?_
  rintro e a' w' ⟨σ', G', h1, h2⟩
  cases e with
  | normal =>
    obtain ⟨j, τ', hlt, hn, hi2⟩ := h1
    obtain ⟨G2, r2⟩ := h2.norm m hn
    have : ∃ j, j < i ∧ ∃ G σ, I j σ ∧ Rl G0 w0 σ G a' w' := ⟨j, hlt, G2, _, hi2, r2⟩
    obtain ⟨j, h3, h4⟩ := this
    first
    | exact ⟨j, h3, h4⟩
    | exact ⟨j, h4, h3⟩
  | exit id => exact ⟨σ', G', h1, h2⟩
  | goto l => exact ⟨σ', G', h1, h2⟩
  | ret => exact ⟨σ', G', h1, h2⟩
  | panic c => exact ⟨σ', G', h1, h2⟩
  | outgrown => exact ⟨σ', G', h1, h2⟩
section
variable {P : Program} {ops : Array Oper} {id : Nat} {y : Code} {Q : Exit → St → Prop} {σ : St}
theorem AW.regK (h : ∀ K, K = Q .normal → runE P ops ops.toList σ K) : AW P (.region id ops false) Q σ := AW.reg (h _ rfl)
theorem AW.regSeqK (h : ∀ K, K = AW P y Q → runE P ops ops.toList σ K) : AW P (.seq (.region id ops false) y) Q σ := AW.regSeq (h _ rfl)
theorem AW.drawK (hm : P.follows .mixedOrders = true) (hok : orderOk P ops = true) (h : ∀ K, K = Q .normal → runE P ops ops.toList σ K) : AW P (.region id ops true) Q σ := AW.draw hm hok (h _ rfl)
theorem AW.drawSeqK (hm : P.follows .mixedOrders = true) (hok : orderOk P ops = true) (h : ∀ K, K = AW P y Q → runE P ops ops.toList σ K) : AW P (.seq (.region id ops true) y) Q σ := AW.drawSeq hm hok (h _ rfl)
theorem thenQ_normal {next : St → Prop} (h : next σ) : thenQ next Q .normal σ := h
theorem thenQ_ret {next : St → Prop} (h : Q .ret σ) : thenQ next Q .ret σ := h
theorem thenQ_exit {next : St → Prop} {i : Nat} (h : Q (.exit i) σ) : thenQ next Q (.exit i) σ := h
theorem blockQ_normal {i : Nat} (h : Q .normal σ) : blockQ i Q .normal σ := h
theorem blockQ_ret {i : Nat} (h : Q .ret σ) : blockQ i Q .ret σ := h
theorem blockQ_exit {i : Nat} (h : Q .normal σ) : blockQ i Q (.exit i) σ := by simpa [blockQ] using h
theorem blockQ_out {i j : Nat} (hn : j ≠ i) (h : Q (.exit j) σ) : blockQ i Q (.exit j) σ := by
  simp only [blockQ]
  first
  | rw [if_neg hn]; exact h
  | rw [if_neg (Ne.symm hn)]; exact h
theorem AW.condD {c : Operand} {x y : Code} {p : Prop} [Decidable p] (hc : σ.eval c = .p (.bool (decide p))) (ht : p → AW P x Q σ) (hf : ¬ p → AW P y Q σ) : AW P (.cond c x y) Q σ :=
  AW.cond hc (fun h => ht (of_decide_eq_true h)) (fun h => hf (of_decide_eq_false h))
theorem AW.condT {c : Operand} {x y : Code} (hc : σ.eval c = .p (.bool true)) (ht : AW P x Q σ) : AW P (.cond c x y) Q σ :=
  AW.cond hc (fun h => ht) (fun h => by simp at h)
theorem AW.condF {c : Operand} {x y : Code} (hc : σ.eval c = .p (.bool false)) (hf : AW P y Q σ) : AW P (.cond c x y) Q σ :=
  AW.cond hc (fun h => by simp at h) (fun h => hf)
end
def udesc (P : Program) (t : TypeId) : Option TypeDesc := P.underlying t
theorem aconv_eq (P : Program) (H : List (Nat × (Nat × HB))) (s d : TypeId) (x : V) : aconv P H s d x =
    (match udesc P d, x with
    | some (.int k), .p (.int _ n) => if (udesc P s).isSome then some (.p (.int k (k.wrap n))) else none
    | some .string, .p (.int _ n) => if (udesc P s).isSome then some (.p (.str (Utf8.encode n))) else none
    | some .string, .p (.str t) => if (udesc P s).isSome then some (.p (.str t)) else none
    | some .string, x =>
      if isBytes P s then
        match srcV H 1 x with
        | some r => (bytesOf r).map fun l => .p (.str (strOfNums l))
        | none => none
      else none
    | _, _ => none) := rfl
end
def eqSl (x y : V) : Option Bool := match nilS x, nilS y with
  | some a, some true => some a
  | some true, some b => some b
  | _, _ => none
@[simp] theorem eqSl_pp (r r' : Row PV) (a : Bool) : eqSl (.p (.sl r a)) (.p (.sl r' true)) = some a := rfl
@[simp] theorem eqSl_rp (r r' : Row PV) (t v : Nat) (a : Bool) : eqSl (.row r t v a) (.p (.sl r' true)) = some a := rfl
theorem eqNil_sl {P : Program} {t e : TypeId} (h : udesc P t = some (.slice e)) (x y : V) : eqNil P t x y = eqSl x y := by
  unfold udesc at h; unfold eqNil; rw [h]; rfl
def eqPt (x y : V) : Option Bool := match nilP x, nilP y with
  | some a, some true => some a
  | some true, some b => some b
  | _, _ => none
@[simp] theorem eqPt_00 : eqPt (.p .ptr0) (.p .ptr0) = some true := rfl
@[simp] theorem eqPt_e0 (r : Row PV) (i j : Nat) : eqPt (.p (.eptr r i j)) (.p .ptr0) = some false := rfl
theorem eqNil_pt {P : Program} {t e : TypeId} (h : udesc P t = some (.pointer e)) (x y : V) : eqNil P t x y = eqPt x y := by
  unfold udesc at h; unfold eqNil; rw [h]; rfl
theorem eqNil_bool {P : Program} {t : TypeId} (h : udesc P t = some .bool) (a b : Bool) : eqNil P t (.p (.bool a)) (.p (.bool b)) = some (a == b) := by
  unfold udesc at h; unfold eqNil; rw [h]
theorem eqNil_struct {P : Program} {t : TypeId} {L : List (Nat × Nat)} (h : structD P t = some L) (r s : Row PV) : eqNil P t (.p (.agg r)) (.p (.agg s)) = eqAts r s L := by
  have h0 := h
  unfold structD at h0
  unfold eqNil
  split at h0
  · rename_i fs hu
    rw [hu]
    simp only [h]
  · simp at h0
theorem eqNil_arr {P : Program} {t e : TypeId} {n : Nat} {k : IntKind} (h : udesc P t = some (.array n e)) (he : udesc P e = some (.int k)) (hs : (P.info? e).map (·.size) = some 1)
    (hg : P.eqGuardType P.depth t = false) (a b : List Int) (ha : a.length = n) (hb : b.length = n) : eqNil P t (.p (.agg (.ints k a))) (.p (.agg (.ints k b))) = some (a == b) := by
  unfold udesc at h he; unfold eqNil; simp [h, he, hs, hg, ha, hb]
section
variable [Tables]
def bindO (x : Option (V × HT)) (F : V → HT → Prop) : Prop := match x with
  | some (v, h) => F v h
  | none => False
@[simp] theorem bindO_some (v : V) (h : HT) (F : V → HT → Prop) : bindO (some (v, h)) F = F v h := rfl
def bindV (x : Option V) (F : V → Prop) : Prop := match x with
  | some v => F v
  | none => False
@[simp] theorem bindV_some (v : V) (F : V → Prop) : bindV (some v) F = F v := rfl
def bindB {β : Type} (x : Option (V × β)) (F : V → β → Prop) : Prop := match x with
  | some (v, b) => F v b
  | none => False
@[simp] theorem bindB_some {β : Type} (v : V) (b : β) (F : V → β → Prop) : bindB (some (v, b)) F = F v b := rfl
def bindH {β : Type} (x : Option β) (F : β → Prop) : Prop := match x with
  | some b => F b
  | none => False
@[simp] theorem bindH_some {β : Type} (b : β) (F : β → Prop) : bindH (some b) F = F b := rfl
def bindA (x : Option (List PV)) (F : List PV → Prop) : Prop := match x with
  | some E => F E
  | none => False
@[simp] theorem bindA_some (E : List PV) (F : List PV → Prop) : bindA (some E) F = F E := rfl
theorem callK_at {P : Program} (f : FuncId) {E : List V} {h : HT} {d : Nat} {F : V → HT → Prop} (hc : callK P f E h d F) : callK P f E h d F := hc
theorem callK_id {P : Program} {f : FuncId} {E : List V} {h : HT} {d : Nat} {F : V → HT → Prop} (hc : callK P f E h d F) : callK P f E h d F := hc
def callK1 (P : Program) (f : FuncId) (ps : List PV) (h : HT) (d : Nat) (F : V → HT → Prop) : Prop := ∃ res n, Ct P f (ps.map .p) [] 0 res [] n ∧ F (impV h.T d res n) ⟨h.H, impT h.T d n⟩
theorem callK_p {P : Program} {f : FuncId} {E : List V} {h : HT} {d : Nat} {F : V → HT → Prop} (hc : bindL (pvsOf E) fun ps => callK1 P f ps h d F) : callK P f E h d F := by
  cases hE : pvsOf E with
  | none => rw [hE] at hc; exact hc.elim
  | some ps =>
    rw [hE] at hc
    obtain ⟨res, n, h1, h2⟩ := hc
    exact ⟨_, _, .inl ⟨ps, res, n, hE, h1, rfl, rfl⟩, h2⟩
theorem callK1_of {P : Program} {f : FuncId} {ps : List PV} {h : HT} {d : Nat} {F : V → HT → Prop} {res : List V} {n : Nat} (hc : Ct P f (ps.map .p) [] 0 res [] n) (hf : F (impV h.T d res n) ⟨h.H, impT h.T d n⟩) : callK1 P f ps h d F := ⟨res, n, hc, hf⟩
def callK3 (P : Program) (f : FuncId) (args : List V) (ins : List HB) (n0 : Nat) (F : List V → List HB → Nat → Prop) : Prop := ∃ res outs n, Ct P f args ins n0 res outs n ∧ F res outs n
def contM (F : V → HT → Prop) (h : HT) (ids toks : List Nat) (d : Nat) (res : List V) (outs : List HB) (n : Nat) : Prop :=
  F (V.ren (nmO (swapL (numb 10000 ids)) (objsH 10000 outs) (curO h.H)) (nmT (impB d n) (toksT 0 n) (nextTok (bumpAll h.T toks))) (retV res))
    ⟨setObjs (nmO (swapL (numb 10000 ids)) (objsH 10000 outs) (curO h.H)) (nmT (impB d n) (toksT 0 n) (nextTok (bumpAll h.T toks))) h.H ids outs, impT (bumpAll h.T toks) d n⟩
def lendK2 (P : Program) (f : FuncId) (E : List V) (h : HT) (d : Nat) (F : V → HT → Prop) (ids toks : List Nat) : Prop :=
  callK3 P f (V.rens (nmO (numb 10000 ids) h.H fun _ => 0) (nmT (numb 10000 toks) h.T fun _ => 0) E) (insOf h.H (nmO (numb 10000 ids) h.H fun _ => 0) (nmT (numb 10000 toks) h.T fun _ => 0) ids) toks.length (contM F h ids toks d)
def lendK1 (P : Program) (f : FuncId) (E : List V) (h : HT) (d : Nat) (F : V → HT → Prop) (ids : List Nat) : Prop := lendK2 P f E h d F ids (V.tokl h.T [] (heldBy h.H ids ++ E))
def lendK (P : Program) (f : FuncId) (E : List V) (h : HT) (d : Nat) (F : V → HT → Prop) : Prop := lendK1 P f E h d F (reach h.H 400 [] E)
theorem callK_o {P : Program} {f : FuncId} {E : List V} {h : HT} {d : Nat} {F : V → HT → Prop} (hm : 2 ≤ Tables.mode f) (hc : lendK P f E h d F) : callK P f E h d F := by
  obtain ⟨res, outs, n, h1, h2⟩ := hc
  refine ⟨_, _, .inr (.inr (.inl ⟨hm, res, outs, n, ?_, rfl, rfl⟩)), h2⟩
  have e : (lendB h E).length = (V.tokl h.T [] (heldBy h.H (reach h.H 400 [] E) ++ E)).length := numb_length _ _
  rw [e]; exact h1
theorem callK_b {P : Program} {f : FuncId} {E : List V} {h : HT} {d : Nat} {F : V → HT → Prop} {pr : Prim} (hm : 2 ≤ Tables.mode f) (hp : PrimOk P f pr) (hc : bindO (pr E h d) F) : callK P f E h d F := by
  cases hv : pr E h d with
  | none => rw [hv] at hc; exact hc.elim
  | some q => rw [hv] at hc; exact ⟨q.1, q.2, .inr (.inr (.inr ⟨hm, pr, hp, hv⟩)), hc⟩
theorem callK3_of {P : Program} {f : FuncId} {args : List V} {ins : List HB} {n0 : Nat} {F : List V → List HB → Nat → Prop} {res : List V} {outs : List HB} {n : Nat} (hc : Ct P f args ins n0 res outs n) (hf : F res outs n) : callK3 P f args ins n0 F := ⟨res, outs, n, hc, hf⟩
def guardK (x : V) (want : Bool) (A B : Prop) : Prop := match x with
  | .p (.bool b) => if b = want then A else B
  | .tup [] => B
  | _ => False
@[simp] theorem guardK_yes (b : Bool) (A B : Prop) : guardK (.p (.bool b)) b A B = A := by simp [guardK]
@[simp] theorem guardK_tf (A B : Prop) : guardK (.p (.bool true)) false A B = B := by simp [guardK]
@[simp] theorem guardK_ft (A B : Prop) : guardK (.p (.bool false)) true A B = B := by simp [guardK]
@[simp] theorem guardK_tup (want : Bool) (A B : Prop) : guardK (.tup []) want A B = B := rfl
section
variable {P : Program} {ops : Array Oper} {l : List Oper} {K : St → Prop} {σ σ' : St} {d : Option Tmp} {op : Op} {ty : TypeId} {pos : String} {after : Array Edge}
@[simp] theorem runE_arr : runE P ops (List.toArray l).toList σ K = runE P ops l σ K := rfl
@[simp] theorem runE_nil : runE P ops [] σ K = K σ := rfl
def contV (P : Program) (ops : Array Oper) (l : List Oper) (σ : St) (d : Option Tmp) (K : St → Prop) (v : V) : Prop := runE P ops l (σ.put d v σ.h) K
def contH (P : Program) (ops : Array Oper) (l : List Oper) (σ : St) (d : Option Tmp) (K : St → Prop) (H : List (Nat × (Nat × HB))) : Prop := runE P ops l (σ.put d .junk ⟨H, σ.h.T⟩) K
def contB (P : Program) (ops : Array Oper) (l : List Oper) (σ : St) (d : Option Tmp) (K : St → Prop) (v : V) (H : List (Nat × (Nat × HB))) : Prop := runE P ops l (σ.put d v ⟨H, σ.h.T⟩) K
def contT (P : Program) (ops : Array Oper) (l : List Oper) (σ : St) (d : Option Tmp) (K : St → Prop) (v : V) (T : List (Nat × Nat)) : Prop := runE P ops l (σ.put d v ⟨σ.h.H, T⟩) K
def contO (P : Program) (ops : Array Oper) (l : List Oper) (σ : St) (d : Option Tmp) (K : St → Prop) (v : V) (h : HT) : Prop := runE P ops l (σ.put d v h) K
def contE (P : Program) (ops : Array Oper) (l : List Oper) (σ : St) (d : Option Tmp) (K : St → Prop) (x y : V) (b : Bool) : Prop := runE P ops l (σ.put d (if b then x else y) σ.h) K
@[simp] theorem contV_eq (v : V) : contV P ops l σ d K v = runE P ops l (σ.put d v σ.h) K := rfl
@[simp] theorem contH_eq (H : List (Nat × (Nat × HB))) : contH P ops l σ d K H = runE P ops l (σ.put d .junk ⟨H, σ.h.T⟩) K := rfl
@[simp] theorem contB_eq (v : V) (H : List (Nat × (Nat × HB))) : contB P ops l σ d K v H = runE P ops l (σ.put d v ⟨H, σ.h.T⟩) K := rfl
@[simp] theorem contT_eq (v : V) (T : List (Nat × Nat)) : contT P ops l σ d K v T = runE P ops l (σ.put d v ⟨σ.h.H, T⟩) K := rfl
@[simp] theorem contO_eq (v : V) (h : HT) : contO P ops l σ d K v h = runE P ops l (σ.put d v h) K := rfl
@[simp] theorem contE_eq (x y : V) (b : Bool) : contE P ops l σ d K x y b = runE P ops l (σ.put d (if b then x else y) σ.h) K := rfl
def isCall : Op → Bool
  | .call { callee := .value _, .. } => true
  | _ => false
theorem isCall_none {op : Op} (h : isCall op = false) (ρ : Operand → V) (H : List (Nat × (Nat × HB))) : callOf op = none ∧ dynOf op ρ H = none := by
  unfold isCall at h
  split at h
  · cases h
  · rename_i hn
    constructor
    · unfold callOf
      split
      · rename_i f args ts
        exact absurd rfl (hn _ _ _)
      · rfl
    · unfold dynOf
      split
      · rename_i x args ts
        exact absurd rfl (hn _ _ _)
      · rfl
theorem runE_val (hc : isCall op = false) : runE P ops (⟨d, op, ty, pos, after, none⟩ :: l) σ K =
    bindO (aval P op (d.getD 0) σ.eval σ.h) (fun v h' => runE P ops l (σ.put d v h') K) := by
  obtain ⟨hc, hd⟩ := isCall_none hc σ.eval σ.h.H
  simp only [runE, guardE, stepE, hc, hd, bindO]
  cases aval P op (d.getD 0) σ.eval σ.h <;> rfl
theorem bindO_v (x : Option V) (h : HT) (F : V → HT → Prop) : bindO (x.map fun v => (v, h)) F = bindV x (fun v => F v h) := by cases x <;> rfl
theorem bindO_vh {β : Type} (x : Option (V × β)) (g : β → HT) (F : V → HT → Prop) : bindO (x.map fun r => (r.1, g r.2)) F = bindB x (fun v b => F v (g b)) := by cases x <;> rfl
@[simp] theorem runE_move (x : Operand) : runE P ops (⟨d, .move x, ty, pos, after, none⟩ :: l) σ K = runE P ops l (σ.put d (σ.eval x) σ.h) K := by rw [runE_val rfl]; rfl
@[simp] theorem runE_assign (x : Operand) : runE P ops (⟨d, .assign x, ty, pos, after, none⟩ :: l) σ K = runE P ops l (σ.put d (σ.eval x) σ.h) K := by rw [runE_val rfl]; rfl
@[simp] theorem runE_bin (o : BinOp) (t u : TypeId) (x y : Operand) : runE P ops (⟨d, .binOp o t x y u, ty, pos, after, none⟩ :: l) σ K =
    bindV (abin P o t (σ.eval x) (σ.eval y)) (contV P ops l σ d K) := by rw [runE_val rfl]; exact bindO_v _ _ _
@[simp] theorem runE_un (o : UnOp) (t : TypeId) (x : Operand) : runE P ops (⟨d, .unOp o t x, ty, pos, after, none⟩ :: l) σ K =
    bindV (aunop o (σ.eval x)) (contV P ops l σ d K) := by rw [runE_val rfl]; exact bindO_v _ _ _
@[simp] theorem runE_load (t : TypeId) (x : Operand) : runE P ops (⟨d, .load t x, ty, pos, after, none⟩ :: l) σ K =
    bindV (aload P σ.h.H t (σ.eval x)) (contV P ops l σ d K) := by rw [runE_val rfl]; exact bindO_v _ _ _
@[simp] theorem runE_nilCheck (x : Operand) : runE P ops (⟨d, .nilCheck x, ty, pos, after, none⟩ :: l) σ K =
    bindV (anil (σ.eval x) σ.h.H) (contV P ops l σ d K) := by rw [runE_val rfl]; exact bindO_v _ _ _
@[simp] theorem runE_field (t : TypeId) (x : Operand) (f : Nat) : runE P ops (⟨d, .field t x f, ty, pos, after, none⟩ :: l) σ K =
    bindV (afield P t (σ.eval x) f) (contV P ops l σ d K) := by rw [runE_val rfl]; exact bindO_v _ _ _
@[simp] theorem runE_index (t : TypeId) (x i : Operand) : runE P ops (⟨d, .index t x i, ty, pos, after, none⟩ :: l) σ K =
    bindV (aindex P t (σ.eval x) (σ.eval i)) (contV P ops l σ d K) := by rw [runE_val rfl]; exact bindO_v _ _ _
@[simp] theorem runE_extract (x : Operand) (i : Nat) : runE P ops (⟨d, .extract x i, ty, pos, after, none⟩ :: l) σ K =
    bindV (aextract (σ.eval x) i) (contV P ops l σ d K) := by rw [runE_val rfl]; exact bindO_v _ _ _
@[simp] theorem runE_build (t : TypeId) (ps : Array (Nat × Operand)) : runE P ops (⟨d, .build t ps, ty, pos, after, none⟩ :: l) σ K =
    bindV (abuild P σ.h.H t (ps.toList.map fun q => (q.1, σ.eval q.2))) (contV P ops l σ d K) := by rw [runE_val rfl]; exact bindO_v _ _ _
@[simp] theorem runE_indexAddr (t : TypeId) (x i : Operand) : runE P ops (⟨d, .indexAddr t x i, ty, pos, after, none⟩ :: l) σ K =
    bindV (if okV σ.h.H (σ.eval x) then aindexAddr P t (σ.eval x) (σ.eval i) else none) (contV P ops l σ d K) := by
  rw [runE_val rfl]; simp only [aval]; split
  · exact bindO_v _ _ _
  · rfl
@[simp] theorem runE_fieldAddr (t : TypeId) (x : Operand) (f : Nat) : runE P ops (⟨d, .fieldAddr t x f, ty, pos, after, none⟩ :: l) σ K =
    bindV (if okV σ.h.H (σ.eval x) then afieldAddr P t (σ.eval x) f else none) (contV P ops l σ d K) := by
  rw [runE_val rfl]; simp only [aval]; split
  · exact bindO_v _ _ _
  · rfl
@[simp] theorem runE_slice3 (t : TypeId) (x hi mx : Operand) (lo : Option Operand) : runE P ops (⟨d, .slice t x lo (some hi) (some mx), ty, pos, after, none⟩ :: l) σ K =
    bindV (if okV σ.h.H (σ.eval x) then aslice3 P t (σ.eval x) (lo.map σ.eval) (σ.eval hi) (σ.eval mx) else none) (contV P ops l σ d K) := by
  rw [runE_val rfl]; simp only [aval]; split
  · exact bindO_v _ _ _
  · rfl
@[simp] theorem runE_slice (t : TypeId) (x : Operand) (lo hi : Option Operand) : runE P ops (⟨d, .slice t x lo hi none, ty, pos, after, none⟩ :: l) σ K =
    bindV (if okV σ.h.H (σ.eval x) then aslice P t (σ.eval x) (lo.map σ.eval) (hi.map σ.eval) else none) (contV P ops l σ d K) := by
  rw [runE_val rfl]; simp only [aval]; split
  · exact bindO_v _ _ _
  · rfl
@[simp] theorem runE_store (t : TypeId) (a x : Operand) : runE P ops (⟨d, .store t a x, ty, pos, after, none⟩ :: l) σ K =
    bindH (astore P σ.h.H t (σ.eval a) (σ.eval x)) (contH P ops l σ d K) := by
  rw [runE_val rfl]; simp only [aval]; cases astore P σ.h.H t (σ.eval a) (σ.eval x) <;> rfl
@[simp] theorem runE_alloc (t : TypeId) : runE P ops (⟨d, .alloc t, ty, pos, after, none⟩ :: l) σ K =
    bindB (aalloc P σ.h.H (d.getD 0) t) (contB P ops l σ d K) := by rw [runE_val rfl]; exact bindO_vh _ (fun b => ⟨b, σ.h.T⟩) _
@[simp] theorem runE_box (t : TypeId) (x : Operand) : runE P ops (⟨d, .box t x, ty, pos, after, none⟩ :: l) σ K =
    bindB (abox σ.h.H (d.getD 0) (σ.eval x)) (contB P ops l σ d K) := by rw [runE_val rfl]; exact bindO_vh _ (fun b => ⟨b, σ.h.T⟩) _
@[simp] theorem runE_buildSlice (t : TypeId) (n : Nat) (ps : Array (Nat × Operand)) : runE P ops (⟨d, .buildSlice t n ps, ty, pos, after, none⟩ :: l) σ K =
    bindB (arowSlice P σ.h.T (d.getD 0) t n (ps.toList.map fun q => (q.1, σ.eval q.2))) (contT P ops l σ d K) := by rw [runE_val rfl]; exact bindO_vh _ (fun b => ⟨σ.h.H, b⟩) _
@[simp] theorem runE_makeSlice (t : TypeId) (x y : Operand) : runE P ops (⟨d, .makeSlice t x y, ty, pos, after, none⟩ :: l) σ K =
    bindB (amakeSlice P σ.h.H (d.getD 0) t (σ.eval x) (σ.eval y)) (contB P ops l σ d K) := by rw [runE_val rfl]; exact bindO_vh _ (fun b => ⟨b, σ.h.T⟩) _
@[simp] theorem runE_range (t : TypeId) (x : Operand) : runE P ops (⟨d, .range t x, ty, pos, after, none⟩ :: l) σ K =
    bindB (arange P σ.h.H (d.getD 0) t (σ.eval x)) (contB P ops l σ d K) := by rw [runE_val rfl]; exact bindO_vh _ (fun b => ⟨b, σ.h.T⟩) _
@[simp] theorem runE_next (x : Operand) (s : Bool) : runE P ops (⟨d, .next x s, ty, pos, after, none⟩ :: l) σ K =
    bindB (anext σ.h.H s (σ.eval x)) (contB P ops l σ d K) := by rw [runE_val rfl]; exact bindO_vh _ (fun b => ⟨b, σ.h.T⟩) _
def withT (H : List (Nat × (Nat × HB))) (F : V → HT → Prop) (v : V) (T : List (Nat × Nat)) : Prop := F v ⟨H, T⟩
@[simp] theorem withT_eq (H : List (Nat × (Nat × HB))) (F : V → HT → Prop) (v : V) (T : List (Nat × Nat)) : withT H F v T = F v ⟨H, T⟩ := rfl
def bindC (P : Program) (T : List (Nat × Nat)) (H : List (Nat × (Nat × HB))) (d : Nat) (s t : TypeId) (x : V) (y : Option V) (F : V → HT → Prop) : Prop := match y with
  | some v => F v ⟨H, T⟩
  | none => bindB (atobytes P T d s t x) (withT H F)
@[simp] theorem bindC_some (P : Program) (T : List (Nat × Nat)) (H : List (Nat × (Nat × HB))) (d : Nat) (s t : TypeId) (x v : V) (F : V → HT → Prop) : bindC P T H d s t x (some v) F = F v ⟨H, T⟩ := rfl
@[simp] theorem bindC_none (P : Program) (T : List (Nat × Nat)) (H : List (Nat × (Nat × HB))) (d : Nat) (s t : TypeId) (x : V) (F : V → HT → Prop) : bindC P T H d s t x none F = bindB (atobytes P T d s t x) (withT H F) := rfl
@[simp] theorem runE_convert (s t : TypeId) (x : Operand) : runE P ops (⟨d, .convert s t x, ty, pos, after, none⟩ :: l) σ K =
    bindC P σ.h.T σ.h.H (d.getD 0) s t (σ.eval x) (aconv P σ.h.H s t (σ.eval x)) (contO P ops l σ d K) := by
  rw [runE_val rfl]; simp only [aval, bindC]
  cases aconv P σ.h.H s t (σ.eval x) with
  | none => exact bindO_vh _ (fun b => ⟨σ.h.H, b⟩) _
  | some v => rfl
@[simp] theorem runE_builtin (b : Builtin) (args : Array Operand) (ts : Array TypeId) : runE P ops (⟨d, .call { callee := .builtin b, args := args, argTypes := ts }, ty, pos, after, none⟩ :: l) σ K =
    bindO (abuiltin P b (d.getD 0) (args.toList.map σ.eval) ts.toList σ.h) (contO P ops l σ d K) := by rw [runE_val rfl]; rfl
def bindE (x : V) (F : Bool → Prop) : Prop := match x with
  | .p (.bool b) => F b
  | _ => False
@[simp] theorem bindE_bool (b : Bool) (F : Bool → Prop) : bindE (.p (.bool b)) F = F b := rfl
@[simp] theorem runE_pick (c x y : Operand) : runE P ops (⟨d, .pick c x y, ty, pos, after, none⟩ :: l) σ K =
    bindE (σ.eval c) (contE P ops l σ d K (σ.eval x) (σ.eval y)) := by
  rw [runE_val rfl]; simp only [aval, bindE, contE]
  split <;> rename_i h <;> first | rfl | (split at h <;> simp_all [bindO]) | (simp_all [bindO])
@[simp] theorem runE_call {f : FuncId} {args : Array Operand} {ts : Array TypeId} : runE P ops (⟨d, .call { callee := .value (.func f), args := args, argTypes := ts }, ty, pos, after, none⟩ :: l) σ K =
    callK P f (args.toList.map σ.eval) σ.h (d.getD 0) (contO P ops l σ d K) := rfl
def callD (P : Program) (x : V) (A : List V) (h : HT) (d : Nat) (F : V → HT → Prop) : Prop := match x with
  | .p (.fn f r) => callK P f (A ++ (List.range r.len).map fun i => .p (r.elem i)) h d F
  | .bnd f id ver off => if okV h.H (.ptr id ver off) = true then callK P f (.ptr id ver off :: A) h d F else False
  | _ => False
@[simp] theorem callD_fn (P : Program) (f : FuncId) (ps : List PV) (A : List V) (h : HT) (d : Nat) (F : V → HT → Prop) : callD P (.p (.fn f (.vals 1 ps))) A h d F = callK P f (A ++ ps.map V.p) h d F := by
  unfold callD
  have e : (List.range (Row.vals 1 ps : Row PV).len).map (fun i => V.p ((Row.vals 1 ps).elem i)) = ps.map V.p := by
    apply List.ext_getElem
    · simp [Row.len]
    · intro i h1 h2
      simp at h2
      simp [Row.elem, List.getD_eq_getElem?_getD, h2]
  simp only [e]
@[simp] theorem callD_bnd (P : Program) (f : FuncId) (id ver off : Nat) (A : List V) (h : HT) (d : Nat) (F : V → HT → Prop) : callD P (.bnd f id ver off) A h d F = if okV h.H (.ptr id ver off) = true then callK P f (.ptr id ver off :: A) h d F else False := rfl
@[simp] theorem runE_calld {k : Tmp} {args : Array Operand} {ts : Array TypeId} : runE P ops (⟨d, .call { callee := .value (.tmp k), args := args, argTypes := ts }, ty, pos, after, none⟩ :: l) σ K =
    callD P (σ.eval (.tmp k)) (args.toList.map σ.eval) σ.h (d.getD 0) (contO P ops l σ d K) := by
  have key : ∀ v : V, (match (match v with | .p (.fn f r) => some (f, args.toList.map σ.eval ++ (List.range r.len).map fun i => V.p (r.elem i)) | .bnd f id ver off => if okV σ.h.H (.ptr id ver off) = true then some (f, .ptr id ver off :: args.toList.map σ.eval) else none | _ => none : Option (FuncId × List V)) with
      | some (f, E) => callK P f E σ.h (d.getD 0) fun v h' => runE P ops l (σ.put d v h') K
      | none => False) = callD P v (args.toList.map σ.eval) σ.h (d.getD 0) (contO P ops l σ d K) := by
    intro v
    cases v with
    | p x => cases x <;> rfl
    | bnd f id ver off =>
      by_cases hk : okV σ.h.H (.ptr id ver off) = true
      · simp only [callD, if_pos hk]; rfl
      · simp only [callD, if_neg hk]
    | _ => rfl
  rw [← key]
  simp only [runE, guardE, stepE, callOf, dynOf, aval]
  rfl
@[simp] theorem runE_makeFunc (fn : Go.Fn) (first caps : Array Operand) : runE P ops (⟨d, .makeFunc fn first caps, ty, pos, after, none⟩ :: l) σ K =
    bindV (amakeFunc fn (first.toList.map σ.eval) (caps.toList.map σ.eval)) (contV P ops l σ d K) := by rw [runE_val rfl]; exact bindO_v _ _ _
@[simp] theorem runE_makeInterface (t : TypeId) (x : Operand) : runE P ops (⟨d, .makeInterface t x, ty, pos, after, none⟩ :: l) σ K =
    bindV (amakeIf P t (σ.eval x)) (contV P ops l σ d K) := by rw [runE_val rfl]; exact bindO_v _ _ _
@[simp] theorem amakeFunc_bnd (f : FuncId) (id ver off : Nat) : amakeFunc (.func f) [.ptr id ver off] [] = some (.bnd f id ver off) := rfl
@[simp] theorem amakeFunc_eq (f : FuncId) (caps : List V) : amakeFunc (.func f) [] caps = (pvsOf caps).map fun ps => .p (.fn f (.vals 1 ps)) := rfl
def dstAt : List Oper → Nat → Option Nat
  | [], _ => none
  | x :: _, 0 => x.dst
  | _ :: l, n + 1 => dstAt l n
theorem dstAt_eq : ∀ (L : List Oper) (j : Nat), (L[j]?).bind (·.dst) = dstAt L j
  | [], j => rfl
  | x :: l, 0 => rfl
  | x :: l, n + 1 => by simpa [dstAt] using dstAt_eq l n
@[simp] theorem dstAt_zero (x : Oper) (l : List Oper) : dstAt (x :: l) 0 = x.dst := rfl
@[simp] theorem dstAt_succ (x : Oper) (l : List Oper) (n : Nat) : dstAt (x :: l) (n + 1) = dstAt l n := rfl
def guardF (x : V) (want : Bool) (F : Bool → Prop) : Prop := match x with
  | .p (.bool b) => F (b == want)
  | .tup [] => F false
  | _ => False
@[simp] theorem guardF_bool (b want : Bool) (F : Bool → Prop) : guardF (.p (.bool b)) want F = F (b == want) := rfl
@[simp] theorem guardF_tup (want : Bool) (F : Bool → Prop) : guardF (.tup []) want F = F false := rfl
def guardO (o : Option Nat) (s : List V) (want : Bool) (F : Bool → Prop) : Prop := match o with
  | some t => guardF (s.getD t .junk) want F
  | none => False
@[simp] theorem guardO_some (t : Nat) (s : List V) (want : Bool) (F : Bool → Prop) : guardO (some t) s want F = guardF (s.getD t .junk) want F := rfl
def contG (P : Program) (ops : Array Oper) (d : Option Tmp) (op : Op) (ty : TypeId) (pos : String) (after : Array Edge) (l : List Oper) (σ : St) (K : St → Prop) : Bool → Prop
  | true => runE P ops (⟨d, op, ty, pos, after, none⟩ :: l) σ K
  | false => runE P ops l (σ.put d (.tup []) σ.h) K
@[simp] theorem contG_true : contG P ops d op ty pos after l σ K true = runE P ops (⟨d, op, ty, pos, after, none⟩ :: l) σ K := rfl
@[simp] theorem contG_false : contG P ops d op ty pos after l σ K false = runE P ops l (σ.put d (.tup []) σ.h) K := rfl
theorem contG_id {b : Bool} (h : contG P ops d op ty pos after l σ K b) : contG P ops d op ty pos after l σ K b := h
@[simp] theorem runE_guard {L : List Oper} {j : Nat} {want : Bool} : runE P (List.toArray L) (⟨d, op, ty, pos, after, some (j, want)⟩ :: l) σ K =
    guardO (dstAt L j) σ.s want (contG P (List.toArray L) d op ty pos after l σ K) := by
  simp only [runE, guardE, guardO, List.getElem?_toArray, dstAt_eq]
  cases dstAt L j with
  | none => rfl
  | some t =>
    simp only [guardF]
    cases σ.s.getD t .junk with
    | p x =>
      cases x with
      | bool b => cases b <;> cases want <;> rfl
      | _ => rfl
    | tup l => cases l <;> rfl
    | _ => rfl
end
def fieldV (ag : Bool) (off n : Nat) (x : V) : Option V :=
  match x with
  | .agg l => if off + n ≤ l.length ∧ 0 < n then some (if ag then .agg ((l.drop off).take n) else l.getD off .junk) else none
  | .p (.agg r) => if off + n ≤ r.len ∧ 0 < n then some (if ag then .p (.agg (r.cut off (off + n))) else .p (r.elem off)) else none
  | _ => none
def lookN (l : List (Nat × Nat)) (k : Nat) : Option (Nat × Nat) := l[k]?
@[simp] theorem lookN_zero (x : Nat × Nat) (l : List (Nat × Nat)) : lookN (x :: l) 0 = some x := rfl
@[simp] theorem lookN_succ (x : Nat × Nat) (l : List (Nat × Nat)) (k : Nat) : lookN (x :: l) (k + 1) = lookN l k := rfl
theorem toksT_zero (k : Nat) : toksT k 0 = [] := rfl
theorem toksT_succ (k n : Nat) : toksT k (n + 1) = (k, 0) :: toksT (k + 1) n := by
  simp only [toksT, List.range_succ_eq_map, List.map_cons, List.map_map, Nat.add_zero]
  congr 1
  apply List.map_congr_left
  intro i hi
  simp only [Function.comp]; congr 1; omega
end
attribute [simp] bnd oneCells Value.cells Value.oneCell'
attribute [simp] intsK
attribute [simp] abuiltin aconv_eq aload astore aindexAddr aindex alen acap okV look upd loadHB HB.get HB.size xcells loadE abin anil aextract aslice aslice3 fieldV fillV xlist splice mkAgg allP kindRow intsP strsP cellsRow aappend srcV St.start eval_tmp eval_const put_some put_none ofConst retQ ends endsV resultVs
attribute [simp] pvsOf pvOf pv1 pv1s PV.one retV V.ren V.rens HB.ren nmO nmT noNm numb swapL impB impT impV impFt bumpAll nextTok nextVer toksT_zero toksT_succ hIn hOut objsH curO setObjs insOf heldBy HB.list reach V.toks V.tokl
attribute [simp] endToks endFo endFt finRes finOuts V.fin fin1 HB.fin trimFo lentK listsOf outList own1 anyK show1 shows ownSl flats flatV PV.flat PV.atom
attribute [simp] St.norm normS normI normSt normIds normVer normFo normToks normFt normH normAll lentRoots
attribute [simp] lendK lendK1 lendK2 contM
end Go.Av
end
section
set_option linter.unusedVariables false
set_option linter.unusedSimpArgs false
set_option linter.unusedSectionVars false
namespace Go.Av
def uw (x : BitVec 32) : Int := (x.toNat : Int)
def ub (x : BitVec 8) : Int := (x.toNat : Int)
theorem wrap_u32 (n : Int) : IntKind.u32.wrap n = n % 4294967296 := by rfl
theorem wrap_u8 (n : Int) : IntKind.u8.wrap n = n % 256 := by rfl
theorem uw_lt (x : BitVec 32) : 0 ≤ uw x ∧ uw x < 4294967296 := by have := x.isLt; unfold uw; omega
theorem ub_lt (x : BitVec 8) : 0 ≤ ub x ∧ ub x < 256 := by have := x.isLt; unfold ub; omega
theorem ofInt_uw (x : BitVec 32) : BitVec.ofInt 32 (uw x) = x := by
  apply BitVec.eq_of_toNat_eq
  have := x.isLt
  simp [uw, BitVec.toNat_ofInt]
theorem ofInt_ub (x : BitVec 8) : BitVec.ofInt 8 (ub x) = x := by
  apply BitVec.eq_of_toNat_eq
  have := x.isLt
  simp [ub, BitVec.toNat_ofInt]
theorem wrap_uw (x : BitVec 32) : IntKind.u32.wrap (uw x) = uw x := by
  have := uw_lt x; rw [wrap_u32]; omega
theorem wrap_ub (x : BitVec 8) : IntKind.u8.wrap (ub x) = ub x := by
  have := ub_lt x; rw [wrap_u8]; omega
@[simp high] theorem int_add (x y : BitVec 32) : intBin .add .u32 (uw x) (uw y) = some (.int .u32 (uw (x + y))) := by
  simp only [intBin, wrap_u32, uw, BitVec.toNat_add]; congr 2
@[simp high] theorem int_and (x y : BitVec 32) : intBin .and .u32 (uw x) (uw y) = some (.int .u32 (uw (x &&& y))) := by
  show some (PV.int .u32 (IntKind.u32.wrap ((BitVec.ofInt 32 (uw x) &&& BitVec.ofInt 32 (uw y)).toNat : Int))) = _
  rw [ofInt_uw, ofInt_uw]; exact congrArg (fun n => some (PV.int .u32 n)) (wrap_uw _)
@[simp high] theorem int_or (x y : BitVec 32) : intBin .or .u32 (uw x) (uw y) = some (.int .u32 (uw (x ||| y))) := by
  show some (PV.int .u32 (IntKind.u32.wrap ((BitVec.ofInt 32 (uw x) ||| BitVec.ofInt 32 (uw y)).toNat : Int))) = _
  rw [ofInt_uw, ofInt_uw]; exact congrArg (fun n => some (PV.int .u32 n)) (wrap_uw _)
@[simp high] theorem int_xor (x y : BitVec 32) : intBin .xor .u32 (uw x) (uw y) = some (.int .u32 (uw (x ^^^ y))) := by
  show some (PV.int .u32 (IntKind.u32.wrap ((BitVec.ofInt 32 (uw x) ^^^ BitVec.ofInt 32 (uw y)).toNat : Int))) = _
  rw [ofInt_uw, ofInt_uw]; exact congrArg (fun n => some (PV.int .u32 n)) (wrap_uw _)
@[simp high] theorem int_not (x : BitVec 32) : aunop .xor (.p (.int .u32 (uw x))) = some (.p (.int .u32 (uw (~~~ x)))) := by
  show some (V.p (PV.int .u32 (IntKind.u32.wrap ((BitVec.ofInt 32 (IntKind.u32.max) ^^^ BitVec.ofInt 32 (uw x)).toNat : Int)))) = _
  rw [ofInt_uw]
  have : BitVec.ofInt 32 IntKind.u32.max = BitVec.allOnes 32 := by decide
  rw [this, BitVec.allOnes_xor]; exact congrArg (fun n => some (V.p (PV.int .u32 n))) (wrap_uw _)
theorem uw_shr (x : BitVec 32) (n : Nat) : uw (x >>> n) = (uw x).fdiv (2 ^ n) := by
  simp only [uw, BitVec.toNat_ushiftRight, Nat.shiftRight_eq_div_pow]
  rw [Int.fdiv_eq_ediv_of_nonneg _ (Int.le_of_lt (Int.pow_pos (by decide)))]
  simp
theorem uw_shl (x : BitVec 32) (n : Nat) : uw (x <<< n) = IntKind.u32.wrap (uw x * 2 ^ n) := by
  simp only [uw, BitVec.toNat_shiftLeft, Nat.shiftLeft_eq, wrap_u32]
  simp
theorem int_shr (x : BitVec 32) (n : Nat) (h : n ≤ 32) : shiftBin .shr .u32 (uw x) (n : Int) = some (.int .u32 (uw (x >>> n))) := by
  have h0 : ¬ ((n : Int) < 0) := by omega
  have hb : min (n : Int).toNat IntKind.u32.bits = n := by show min (n : Int).toNat 32 = n; omega
  simp only [shiftBin, h0, if_false, hb, uw_shr]
theorem int_shl (x : BitVec 32) (n : Nat) (h : n ≤ 32) : shiftBin .shl .u32 (uw x) (n : Int) = some (.int .u32 (uw (x <<< n))) := by
  have h0 : ¬ ((n : Int) < 0) := by omega
  have hb : min (n : Int).toNat IntKind.u32.bits = n := by show min (n : Int).toNat 32 = n; omega
  simp only [shiftBin, h0, if_false, hb, uw_shl]
@[simp high] theorem int_shr_lit (x : BitVec 32) (n : Int) (h0 : 0 ≤ n) (h : n ≤ 32) : shiftBin .shr .u32 (uw x) n = some (.int .u32 (uw (x >>> n.toNat))) := by
  obtain ⟨m, rfl⟩ := Int.eq_ofNat_of_zero_le h0
  exact int_shr x m (by omega)
@[simp high] theorem int_shl_lit (x : BitVec 32) (n : Int) (h0 : 0 ≤ n) (h : n ≤ 32) : shiftBin .shl .u32 (uw x) n = some (.int .u32 (uw (x <<< n.toNat))) := by
  obtain ⟨m, rfl⟩ := Int.eq_ofNat_of_zero_le h0
  exact int_shl x m (by omega)
@[simp high] theorem wrap32_ub (x : BitVec 8) : IntKind.u32.wrap (ub x) = uw (x.setWidth 32) := by
  have := ub_lt x
  have h2 := x.isLt
  rw [wrap_u32]
  simp only [uw, BitVec.toNat_setWidth]
  unfold ub; omega
@[simp high] theorem int_add8 (x y : BitVec 8) : intBin .add .u8 (ub x) (ub y) = some (.int .u8 (ub (x + y))) := by
  simp only [intBin, wrap_u8, ub, BitVec.toNat_add]; congr 2
@[simp high] theorem int_and8 (x y : BitVec 8) : intBin .and .u8 (ub x) (ub y) = some (.int .u8 (ub (x &&& y))) := by
  show some (PV.int .u8 (IntKind.u8.wrap ((BitVec.ofInt 8 (ub x) &&& BitVec.ofInt 8 (ub y)).toNat : Int))) = _
  rw [ofInt_ub, ofInt_ub]; exact congrArg (fun n => some (PV.int .u8 n)) (wrap_ub _)
@[simp high] theorem int_or8 (x y : BitVec 8) : intBin .or .u8 (ub x) (ub y) = some (.int .u8 (ub (x ||| y))) := by
  show some (PV.int .u8 (IntKind.u8.wrap ((BitVec.ofInt 8 (ub x) ||| BitVec.ofInt 8 (ub y)).toNat : Int))) = _
  rw [ofInt_ub, ofInt_ub]; exact congrArg (fun n => some (PV.int .u8 n)) (wrap_ub _)
@[simp high] theorem int_xor8 (x y : BitVec 8) : intBin .xor .u8 (ub x) (ub y) = some (.int .u8 (ub (x ^^^ y))) := by
  show some (PV.int .u8 (IntKind.u8.wrap ((BitVec.ofInt 8 (ub x) ^^^ BitVec.ofInt 8 (ub y)).toNat : Int))) = _
  rw [ofInt_ub, ofInt_ub]; exact congrArg (fun n => some (PV.int .u8 n)) (wrap_ub _)
theorem ub_shr (x : BitVec 8) (n : Nat) : ub (x >>> n) = (ub x).fdiv (2 ^ n) := by
  simp only [ub, BitVec.toNat_ushiftRight, Nat.shiftRight_eq_div_pow]
  rw [Int.fdiv_eq_ediv_of_nonneg _ (Int.le_of_lt (Int.pow_pos (by decide)))]
  simp
@[simp high] theorem int_shr8 (x : BitVec 8) (n : Int) (h0 : 0 ≤ n) (h : n ≤ 8) : shiftBin .shr .u8 (ub x) n = some (.int .u8 (ub (x >>> n.toNat))) := by
  obtain ⟨m, rfl⟩ := Int.eq_ofNat_of_zero_le h0
  have h0 : ¬ ((m : Int) < 0) := by omega
  have hb : min m IntKind.u8.bits = m := by show min m 8 = m; omega
  simp only [shiftBin, h0, if_false, Int.toNat_natCast, hb, ub_shr]
@[simp high] theorem int_and8_lit (x : BitVec 8) (n : Int) (h0 : 0 ≤ n) (h : n < 256) : intBin .and .u8 (ub x) n = some (.int .u8 (ub (x &&& BitVec.ofInt 8 n))) := by
  have : n = ub (BitVec.ofInt 8 n) := by simp [ub, BitVec.toNat_ofInt]; omega
  conv => lhs; rw [this]
  exact int_and8 _ _
def wl (l : List (BitVec 32)) : Row PV := .ints .u32 (l.map uw)
def bl (l : List (BitVec 8)) : Row PV := .ints .u8 (l.map ub)
@[simp] theorem wl_len (l : List (BitVec 32)) : (wl l).len = l.length := by simp [wl, Row.len]
@[simp] theorem bl_len (l : List (BitVec 8)) : (bl l).len = l.length := by simp [bl, Row.len]
@[simp] theorem wl_sz (l : List (BitVec 32)) : (wl l).sz = 1 := rfl
@[simp] theorem bl_sz (l : List (BitVec 8)) : (bl l).sz = 1 := rfl
@[simp] theorem wl_elem (l : List (BitVec 32)) (i : Nat) : (wl l).elem i = .int .u32 (uw (l.getD i 0)) := by
  simp only [wl, Row.elem, List.getD_eq_getElem?_getD, List.getElem?_map]
  cases l[i]? <;> simp [uw]
@[simp] theorem bl_elem (l : List (BitVec 8)) (i : Nat) : (bl l).elem i = .int .u8 (ub (l.getD i 0)) := by
  simp only [bl, Row.elem, List.getD_eq_getElem?_getD, List.getElem?_map]
  cases l[i]? <;> simp [ub]
@[simp] theorem wl_cut (l : List (BitVec 32)) (i j : Nat) : (wl l).cut i j = wl ((l.take j).drop i) := by
  simp [wl, Row.cut]
@[simp] theorem bl_cut (l : List (BitVec 8)) (i j : Nat) : (bl l).cut i j = bl ((l.take j).drop i) := by
  simp [bl, Row.cut]
@[simp] theorem wl_store (l : List (BitVec 32)) (i : Nat) (x : BitVec 32) (h : i < l.length) : storeHB (.row (wl l)) i (.p (.int .u32 (uw x))) = some (.row (wl (l.set i x))) := by
  simp [wl, storeHB, h, List.map_set]
@[simp] theorem wl_storeAll (l l' : List (BitVec 32)) (h : l'.length = l.length) : storeHB (.row (wl l)) 0 (.p (.agg (wl l'))) = some (.row (wl l')) := by
  simp [wl, storeHB, h]
@[simp] theorem bl_store (l : List (BitVec 8)) (i : Nat) (x : BitVec 8) (h : i < l.length) : storeHB (.row (bl l)) i (.p (.int .u8 (ub x))) = some (.row (bl (l.set i x))) := by
  simp [bl, storeHB, h, List.map_set]
@[simp] theorem bl_storeAll (l l' : List (BitVec 8)) (h : l'.length = l.length) : storeHB (.row (bl l)) 0 (.p (.agg (bl l'))) = some (.row (bl l')) := by
  simp [bl, storeHB, h]
@[simp] theorem ints_storeAll_wl (l : List Int) (l' : List (BitVec 32)) (h : l'.length = l.length) : storeHB (.row (.ints .u32 l)) 0 (.p (.agg (wl l'))) = some (.row (wl l')) := by
  simp [wl, storeHB, h]
@[simp] theorem ints_storeAll_bl (l : List Int) (l' : List (BitVec 8)) (h : l'.length = l.length) : storeHB (.row (.ints .u8 l)) 0 (.p (.agg (bl l'))) = some (.row (bl l')) := by
  simp [bl, storeHB, h]
@[simp] theorem ints_storeAll (k : IntKind) (l l' : List Int) (h : l'.length = l.length) : storeHB (.row (.ints k l)) 0 (.p (.agg (.ints k l'))) = some (.row (.ints k l')) := by
  simp [storeHB, h]
@[simp] theorem wl_storeAll_ints (l : List (BitVec 32)) (l' : List Int) (h : l'.length = l.length) : storeHB (.row (wl l)) 0 (.p (.agg (.ints .u32 l'))) = some (.row (.ints .u32 l')) := by
  simp [wl, storeHB, h]
@[simp] theorem bl_storeAll_ints (l : List (BitVec 8)) (l' : List Int) (h : l'.length = l.length) : storeHB (.row (bl l)) 0 (.p (.agg (.ints .u8 l'))) = some (.row (.ints .u8 l')) := by
  simp [bl, storeHB, h]
def zrep {α : Type} : Nat → List α → List α
  | 0, _ => []
  | n + 1, l => l ++ zrep n l
@[simp] theorem zrep_zero {α : Type} (l : List α) : zrep 0 l = [] := rfl
@[simp] theorem zrep_succ {α : Type} (n : Nat) (l : List α) : zrep (n + 1) l = l ++ zrep n l := rfl
theorem zrep_eq {α : Type} (l : List α) (d : α) : ∀ (n : Nat), (List.range (n * l.length)).map (fun k => l.getD (k % l.length) d) = zrep n l
  | 0 => by simp
  | n + 1 => by
    rw [zrep_succ, ← zrep_eq l d n, Nat.add_mul, Nat.one_mul, Nat.add_comm, List.range_add, List.map_append, List.map_map]
    congr 1
    · apply List.ext_getElem
      · simp
      · intro i h1 h2
        simp [Nat.mod_eq_of_lt h2, List.getD_eq_getElem?_getD, h2]
    · apply List.map_congr_left
      intro i hi
      simp
def rowFill (e0 : Row PV) (s len d : Nat) (T : List (Nat × Nat)) (o : Option (List V)) : Option (V × List (Nat × Nat)) :=
  match o with
  | some l => (pv1s l).map fun c => (.row (if len = 0 then e0 else cellsRow s len c) d (nextTok T d) false, upd T d (nextTok T d))
  | none => none
@[simp] theorem rowFill_some (e0 : Row PV) (s len d : Nat) (T : List (Nat × Nat)) (l : List V) : rowFill e0 s len d T (some l) = (pv1s l).map fun c => (.row (if len = 0 then e0 else cellsRow s len c) d (nextTok T d) false, upd T d (nextTok T d)) := rfl
@[simp] theorem rowFill_none (e0 : Row PV) (s len d : Nat) (T : List (Nat × Nat)) : rowFill e0 s len d T none = none := rfl
theorem arowSlice_eq {P : Program} {t e s b : Nat} {z : Value} {zl : List V} (he : elemInfo P t = some (e, s, b, z)) (ho : oneCells z.cells.toList = true) (hz : z.cells.toList.map ofConst = zl) (hs : zl.length = s)
    (T : List (Nat × Nat)) (d len : Nat) (ps : List (Nat × V)) : arowSlice P T d t len ps = if len * s ≤ 16777216 then rowFill (emptyRow s z) s len d T (fillV (fun k => some (k * s, s)) [] (zrep len zl) ps) else none := by
  subst hs hz
  unfold arowSlice
  simp only [he, ho, true_and]
  have e1 : (List.range (len * (z.cells.toList.map ofConst).length)).map (fun k => ofConst (z.cells.toList.getD (k % (z.cells.toList.map ofConst).length) undef)) = zrep len (z.cells.toList.map ofConst) := by
    rw [← zrep_eq (z.cells.toList.map ofConst) (ofConst undef) len]
    apply List.map_congr_left
    intro k hk
    simp only [List.getD_eq_getElem?_getD, List.getElem?_map]
    cases z.cells.toList[k % (z.cells.toList.map ofConst).length]? <;> rfl
  rw [e1]
  rfl
theorem map_ub_beq (a b : List (BitVec 8)) : (a.map ub == b.map ub) = (a == b) := by
  have inj : Function.Injective ub := by
    intro x y h
    unfold ub at h
    exact BitVec.eq_of_toNat_eq (by omega)
  by_cases h : a = b
  · subst h; simp
  · have : ¬ a.map ub = b.map ub := fun e => h ((List.map_inj_right (fun x y h => inj h)).1 e)
    rw [beq_eq_false_iff_ne.2 h, beq_eq_false_iff_ne.2 this]
theorem eqNil_bytes {P : Program} {t e : TypeId} {n : Nat} (h : udesc P t = some (.array n e)) (he : udesc P e = some (.int .u8)) (hs : (P.info? e).map (·.size) = some 1)
    (hg : P.eqGuardType P.depth t = false) (a b : List (BitVec 8)) (ha : a.length = n) (hb : b.length = n) : eqNil P t (.p (.agg (bl a))) (.p (.agg (bl b))) = some (a == b) := by
  unfold bl
  rw [eqNil_arr h he hs hg _ _ (by simpa using ha) (by simpa using hb), map_ub_beq]
end Go.Av
end
section
set_option linter.unusedVariables false
set_option linter.unusedSimpArgs false
set_option linter.unusedSectionVars false
namespace Go.Av
section
variable [Tables] {P : Program} {c : Code} {Q : Exit → St → Prop}
theorem AW.nilRow {s : List V} {h : HT} (i : Nat) (r : Row PV) (t : Nat) (r0 : Row PV) (hi : s.getD i .junk = .p (.sl r0 true)) (hr : r.len = 0)
    (hc : AW P c Q ⟨s.set i (.row r t (nextTok h.T t) true), ⟨h.H, upd h.T t (nextTok h.T t)⟩⟩) : AW P c Q ⟨s, h⟩ := by
  intro G0 w0 G a w ht rl
  obtain ⟨hk, he, hwf⟩ := bump_keeps rl.wf t (nextTok h.T t) (fun c hc => nextTok_lt hc)
  refine hc G0 w0 G a w ht ⟨rl.defers, by simpa using rl.size, ?_, hwf, rl.ext, ?_, rl.glob⟩
  · intro j hj
    simp only [List.length_set] at hj
    by_cases hij : i = j
    · subst hij
      have e1 : (s.set i (V.row r t (nextTok h.T t) true)).getD i .junk = .row r t (nextTok h.T t) true := by simp [List.getD_eq_getElem?_getD, hj]
      rw [e1]
      have h0 := rl.slots i hj
      rw [hi] at h0
      generalize a.tmps.getD i undef = v at h0 ⊢
      cases h0 with
      | p rp =>
        cases rp with
        | slNil _ hz =>
          have := Rep.row (G := G) (h := ⟨h.H, upd h.T t (nextTok h.T t)⟩) (w := w) r t (nextTok h.T t) (nextTok h.T t) true none 0 (look_upd_same _ _ _) (Nat.le_refl _) (by rw [hr]; exact .slNil _ hr) (fun _ => .inl rfl)
          rw [hr] at this; exact this
    · have e1 : (s.set i (V.row r t (nextTok h.T t) true)).getD j .junk = s.getD j .junk := by simp [List.getD_eq_getElem?_getD, List.getElem?_set_ne hij]
      rw [e1]; exact (rl.slots j hj).mono hk
  · exact rl.ids_keep hk
end
@[simp] theorem app_ints (k : IntKind) (a b : List Int) : appRow (.ints k a) (.ints k b) = some (.ints k (a ++ b)) := by simp [appRow]
@[simp] theorem app_strs (a b : List ByteArray) : appRow (.strs a) (.strs b) = some (.strs (a ++ b)) := by simp [appRow]
@[simp] theorem app_vals (k : Nat) (a b : List PV) : appRow (.vals k a) (.vals k b) = some (.vals k (a ++ b)) := by simp [appRow]
@[simp] theorem app_bl (a b : List (BitVec 8)) : appRow (bl a) (bl b) = some (bl (a ++ b)) := by simp [bl, appRow]
theorem app_lit (a : List (BitVec 8)) (n : Int) (h0 : 0 ≤ n) (h1 : n < 256) : appRow (bl a) (.ints .u8 [n]) = some (bl (a ++ [BitVec.ofInt 8 n])) := by
  have : ub (BitVec.ofInt 8 n) = n := by simp [ub, BitVec.toNat_ofInt]; omega
  simp [bl, appRow, this]
@[simp] theorem app_ub (a : List (BitVec 8)) (x : BitVec 8) : appRow (bl a) (.ints .u8 [ub x]) = some (bl (a ++ [x])) := by simp [bl, appRow]
@[simp] theorem app_ub2 (a : List (BitVec 8)) (x y : BitVec 8) : appRow (bl a) (.ints .u8 [ub x, ub y]) = some (bl (a ++ [x, y])) := by simp [bl, appRow]
@[simp] theorem app_ub3 (a : List (BitVec 8)) (x y z : BitVec 8) : appRow (bl a) (.ints .u8 [ub x, ub y, ub z]) = some (bl (a ++ [x, y, z])) := by simp [bl, appRow]
@[simp] theorem app_ub4 (a : List (BitVec 8)) (x y z u : BitVec 8) : appRow (bl a) (.ints .u8 [ub x, ub y, ub z, ub u]) = some (bl (a ++ [x, y, z, u])) := by simp [bl, appRow]
@[simp] theorem bytesOf_bl (a : List (BitVec 8)) : bytesOf (bl a) = some (a.map ub) := rfl
end Go.Av
end
section
set_option linter.unusedVariables false
set_option linter.unusedSimpArgs false
set_option linter.unusedSectionVars false
namespace Go.Av
def PEq (x y : PV) : Prop := ∀ m v, RepP m x v → RepP m y v
theorem PEq.refl (x : PV) : PEq x x := fun _ _ h => h
theorem PEq.nil (r r' : Row PV) (h : r.len = 0) (h' : r'.len = 0) : PEq (.sl r true) (.sl r' true) := by
  intro m v hr
  cases hr with
  | slNil _ _ => exact .slNil r' h'
def slP : PV → Bool
  | .sl _ _ => true
  | _ => false
theorem slP_one {x : PV} (h : slP x = true) : x.one = true ∧ x.width = 1 ∧ ∀ j, x.cell j = x := by
  cases x <;> simp [slP] at h
  exact ⟨rfl, rfl, fun _ => rfl⟩
theorem PEq.vals {l l' : List PV} (nl : Bool) (hlen : l.length = l'.length)
    (h : ∀ i, i < l.length → slP (l.getD i .ptr0) = true ∧ slP (l'.getD i .ptr0) = true ∧ PEq (l.getD i .ptr0) (l'.getD i .ptr0)) : PEq (.sl (.vals 1 l) nl) (.sl (.vals 1 l') nl) := by
  intro m v hr
  cases hr with
  | slNil _ h0 => exact .slNil _ (by simp only [Row.len] at h0 ⊢; omega)
  | sl _ a cap f hc ha hw hf h1 hr =>
    simp only [Row.len, Row.sz, Row.elem] at hc ha hw hf h1 hr ⊢
    rw [hlen]
    refine .sl (.vals 1 l') a cap f (by simp only [Row.len]; omega) (by simp only [Row.len]; rw [← hlen]; exact ha) ?_ ?_ ?_ ?_
    · intro i hi
      simp only [Row.len, Row.sz, Row.elem] at hi ⊢
      exact (slP_one (h i (by omega)).2.1).2.1
    · intro i j hi hj
      simp only [Row.len, Row.sz] at hi hj ⊢
      exact hf i j (by omega) hj
    · intro i j hi hj
      simp only [Row.len, Row.elem] at hi ⊢
      rw [(slP_one (h i (by omega)).2.1).2.2]; exact (slP_one (h i (by omega)).2.1).1
    · intro i j hi hj
      simp only [Row.len, Row.sz, Row.elem] at hi hj ⊢
      have hh := hr i j (by omega) hj
      obtain ⟨s1, s2, s3⟩ := h i (by omega)
      rw [(slP_one s2).2.2]; rw [(slP_one s1).2.2] at hh
      exact s3 _ _ hh
inductive PEqs : List PV → List PV → Prop
  | nil : PEqs [] []
  | cons {x y : PV} {l m : List PV} (h : PEq x y) (t : PEqs l m) : PEqs (x :: l) (y :: m)
theorem PEqs.refl : ∀ l, PEqs l l
  | [] => .nil
  | x :: l => .cons (.refl x) (.refl l)
theorem PEqs.len {l m : List PV} (h : PEqs l m) : l.length = m.length := by induction h <;> simp_all
theorem PEqs.get {l m : List PV} (h : PEqs l m) : ∀ i, PEq (l.getD i .ptr0) (m.getD i .ptr0) := by
  induction h with
  | nil => intro i; exact .refl _
  | cons h t ih => intro i; cases i with
    | zero => exact h
    | succ i => simpa using ih i
section
variable [Tables]
theorem Ct.args {P : Program} {f : FuncId} {l m : List PV} {res : List V} {n : Nat} (hc : Ct P f (m.map .p) [] 0 res [] n) (he : PEqs l m) : Ct P f (l.map .p) [] 0 res [] n := by
  intro G w vs g
  refine hc G w vs ⟨g.wf, g.objs, g.glob, by rw [← g.len]; simp [he.len], fun i hi => ?_⟩
  simp only [List.length_map] at hi
  have h1 := g.args i (by simp [he.len, hi])
  have hl := he.len
  have e1 : (l.map V.p).getD i .junk = .p (l.getD i .ptr0) := by simp [List.getD_eq_getElem?_getD, hl, hi]
  have e2 : (m.map V.p).getD i .junk = .p (m.getD i .ptr0) := by simp [List.getD_eq_getElem?_getD, hi]
  rw [e1] at h1; rw [e2]
  cases h1 with
  | p r => exact .p (he.get i _ _ r)
end
section
variable (K : Nat → Bool) (H : List (Nat × (Nat × HB))) (id ver off len cap : Nat)
@[simp] theorem deep9_own : deep K H 9 (.own id ver off len cap) = match look H id with
    | some (c, .row r) => if c = ver ∧ K id = true ∧ len ≤ cap then ownSl r off len else none
    | _ => none := by rw [show (9 : Nat) = 8 + 1 from rfl, deep]; cases look H id <;> rfl
@[simp] theorem deep9_agg (l : List V) : deep K H 9 (.agg l) = (deeps K H 8 l).map fun c => .agg (kindRow c) := by rw [show (9 : Nat) = 8 + 1 from rfl, deep]
@[simp] theorem deep9_ptr : deep K H 9 (.ptr id ver off) = match look H id with
    | some (c, .cells l) => if c = ver ∧ K id = true then (deeps K H 8 l).map fun cs => .eptr (.vals l.length [.agg (kindRow cs)]) 0 off else none
    | some (c, .row r) => if c = ver ∧ K id = true then some (.eptr (.vals r.len [.agg r]) 0 off) else none
    | _ => none := by rw [show (9 : Nat) = 8 + 1 from rfl, deep]; cases look H id <;> rfl
end
end Go.Av
end
section
set_option linter.unusedVariables false
set_option linter.unusedSimpArgs false
set_option linter.unusedSectionVars false
namespace Go.Av
mutual
def V.leads (K : Nat → Bool) : V → Bool
  | .own id _ _ _ _ => K id
  | .ptr id _ _ => K id
  | .agg l => V.leadsL K l
  | .tup l => V.leadsL K l
  | .junk => false
  | .p _ => false
  | .row _ _ _ _ => false
  | .adr id _ _ _ _ => K id
  | .bnd _ id _ _ => K id
  | .brow _ _ _ _ _ => false
def V.leadsL (K : Nat → Bool) : List V → Bool
  | [] => false
  | x :: l => V.leads K x || V.leadsL K l
end
theorem leadsL_get {K : Nat → Bool} : ∀ {l : List V}, V.leadsL K l = false → ∀ i, (l.getD i .junk).leads K = false
  | [], _, i => by simp [V.leads]
  | x :: l, h, i => by
    simp only [V.leadsL, Bool.or_eq_false_iff] at h
    cases i with
    | zero => simpa using h.1
    | succ i => simpa using leadsL_get h.2 i
def optV : Option PV → V
  | some y => .p y
  | none => .junk
@[simp] theorem optV_some (y : PV) : optV (some y) = .p y := rfl
@[simp] theorem optV_none : optV none = .junk := rfl
def frzV (K : Nat → Bool) (H : List (Nat × (Nat × HB))) (x : V) : V :=
  if x.leads K = true then optV (deep K H 9 x) else x
def frzHB (K : Nat → Bool) (H : List (Nat × (Nat × HB))) : HB → HB
  | .cells l => .cells (l.map (frzV K H))
  | .row r => .row r
  | .iter s n => .iter s n
def frzL (K : Nat → Bool) (H : List (Nat × (Nat × HB))) : List (Nat × (Nat × HB)) → List (Nat × (Nat × HB))
  | [] => []
  | (id, (c, hb)) :: l => if K id = true then frzL K H l else (id, (c, frzHB K H hb)) :: frzL K H l
def Gh.frz (G : Gh) (K : Nat → Bool) : Gh :=
  { G with own := fun b => match G.own b with
      | .obj id => if K id = true then .free else .obj id
      | o => o }
section
variable {G : Gh} {h : HT} {w : World} {K : Nat → Bool}
theorem look_frzL (H : List (Nat × (Nat × HB))) : ∀ (l : List (Nat × (Nat × HB))) (id : Nat), look (frzL K H l) id = if K id = true then none else (look l id).map fun r => (r.1, frzHB K H r.2)
  | [], id => by simp [frzL, look]
  | (k, (c, hb)) :: l, id => by
    have ih := look_frzL H l id
    simp only [frzL]
    by_cases hk : K k = true
    · rw [if_pos hk, ih]
      by_cases hid : k = id
      · subst hid; simp [hk]
      · simp only [look, if_neg hid]
    · rw [if_neg hk]
      by_cases hid : k = id
      · subst hid; simp [look, hk]
      · simp only [look, if_neg hid]; exact ih
theorem frz_other {b : Nat} (ho : ∀ id, G.own b ≠ .obj id) : (G.frz K).own b = G.own b := by
  cases he : G.own b with
  | obj id => exact absurd he (ho id)
  | _ => simp only [Gh.frz, he]
theorem frz_kept {b id : Nat} (ho : G.own b = .obj id) (hk : K id = false) : (G.frz K).own b = .obj id := by
  simp only [Gh.frz, ho, hk]; rfl
theorem frz_free {b id : Nat} (ho : G.own b = .obj id) (hk : K id = true) : (G.frz K).own b = .free := by
  simp only [Gh.frz, ho, hk]; rfl
theorem pm_frz {b o : Nat} {v : Value} (hv : pm G w b o = some v) : pm (G.frz K) w b o = some v := by
  have hne : ∀ id, G.own b ≠ .obj id := by
    intro id he; unfold pm at hv; rw [he] at hv; simp at hv
  unfold pm at hv ⊢
  rw [frz_other hne]; exact hv
theorem keep_rep {x : V} {v : Value} (r : Rep G h w x v) : x.leads K = false → Rep (G.frz K) ⟨frzL K h.H h.H, h.T⟩ w x v := by
  induction r with
  | junk v => exact fun _ => .junk v
  | p r => exact fun _ => .p (r.mono fun b o v hv => pm_frz hv)
  | row r t ver cur nl a cap hc hle hr ht =>
    intro _
    refine .row r t ver cur nl a cap hc hle (hr.mono fun b o v hv => pm_frz hv) fun hv => ?_
    rcases ht hv with h3 | ⟨off, vs, ty, fz, ha, hown, hend, hs0, hblk, hsz, hfz⟩
    · exact .inl h3
    · exact .inr ⟨off, vs, ty, fz, ha, (frz_other (by rw [show (G.frz K).τ t = G.τ t from rfl, hown]; simp)).trans hown, hend, hs0, hblk, hsz, hfz⟩
  | own id ver off len cap cur hb v hc hle hv =>
    intro hl
    simp only [V.leads] at hl
    exact .own id ver off len cap cur (frzHB K h.H hb) v (by simp only [look_frzL, hl, hc]; rfl) hle hv
  | ptr id ver off cur hb v hc hle hv =>
    intro hl
    simp only [V.leads] at hl
    exact .ptr id ver off cur (frzHB K h.H hb) v (by simp only [look_frzL, hl, hc]; rfl) hle hv
  | adr id ver off e n cur hb v hc hle hv =>
    intro hl
    simp only [V.leads] at hl
    exact .adr id ver off e n cur (frzHB K h.H hb) v (by simp only [look_frzL, hl, hc]; rfl) hle hv
  | bnd f id ver off cur hb v hc hle hv =>
    intro hl
    simp only [V.leads] at hl
    exact .bnd f id ver off cur (frzHB K h.H hb) v (by simp only [look_frzL, hl, hc]; rfl) hle hv
  | brow e r t ver nl v hr hty ih =>
    intro _
    exact .brow e r t ver nl v (ih rfl) hty
  | agg l vs f hs hf h1 _ ih =>
    intro hl
    simp only [V.leads] at hl
    exact .agg l vs f hs hf h1 fun i hi => ih i hi (leadsL_get hl i)
  | tup l vs f hs hf _ ih =>
    intro hl
    simp only [V.leads] at hl
    exact .tup l vs f hs hf fun i hi => ih i hi (leadsL_get hl i)
theorem frz_rep (wf : WF G h w) {x : V} {v : Value} (r : Rep G h w x v) : Rep (G.frz K) ⟨frzL K h.H h.H, h.T⟩ w (frzV K h.H x) v := by
  unfold frzV
  split
  · cases hy : deep K h.H 9 x with
    | some y => exact .p (deep_rep wf (fun b o v hv => pm_frz hv) (fun id ver hb hk hl => frz_free (wf.objs id ver hb hl).1 hk) 9 x y v hy r)
    | none => exact .junk v
  · rename_i hl
    exact keep_rep r (by simpa using hl)
theorem frz_wf (wf : WF G h w) : WF (G.frz K) ⟨frzL K h.H h.H, h.T⟩ w := by
  refine ⟨?_, ?_, ?_⟩
  · intro b hb
    rw [frz_other (by rw [wf.fresh b hb]; simp)]; exact wf.fresh b hb
  · intro b t hb
    simp only [Gh.frz] at hb
    split at hb
    · split at hb <;> simp at hb
    · exact wf.rows b t hb
  · intro id ver hb hl
    simp only [look_frzL] at hl
    split at hl
    · simp at hl
    · rename_i hk
      simp only [Option.map_eq_some_iff] at hl
      obtain ⟨⟨c, hb0⟩, hl, he⟩ := hl
      simp only [Prod.mk.injEq] at he
      obtain ⟨rfl, rfl⟩ := he
      obtain ⟨o1, o2, o3⟩ := wf.objs id c hb0 hl
      refine ⟨frz_kept o1 (by simpa using hk), o2, ?_⟩
      cases hb0 with
      | iter s pos => exact o3
      | cells l =>
        obtain ⟨vs, ty, fz, h1, h2, h3, h4⟩ := o3
        refine ⟨vs, ty, fz, h1, by simpa [frzHB, HB.size] using h2, ?_, fun i hi => h4 i (by simpa [frzHB, HB.size] using hi)⟩
        intro i hi
        simp only [frzHB, HB.size, List.length_map] at hi
        obtain ⟨v, a, b, c⟩ := h3 i (by simpa [HB.size] using hi)
        refine ⟨v, a, b, ?_⟩
        have := frz_rep (K := K) wf c
        simp only [frzHB, HB.get, List.getD_eq_getElem?_getD, List.getElem?_map, List.getElem?_eq_getElem hi, Option.map_some, Option.getD_some] at this ⊢
        exact this
      | row r =>
        obtain ⟨vs, ty, fz, h1, h2, h3, h4⟩ := o3
        refine ⟨vs, ty, fz, h1, h2, ?_, h4⟩
        intro i hi
        obtain ⟨v, a, b, c⟩ := h3 i hi
        exact ⟨v, a, b, keep_rep c rfl⟩
end
section
variable [Tables] {P : Program} {c : Code} {Q : Exit → St → Prop}
theorem AW.freezeK {σ : St} (K : Nat → Bool) (hK : ∀ id, 10000 ≤ id → K id = false)
    (hc : AW P c Q ⟨σ.s.map (frzV K σ.h.H), ⟨frzL K σ.h.H σ.h.H, σ.h.T⟩⟩) : AW P c Q σ := by
  intro G0 w0 G a w ht rl
  refine hc G0 w0 (G.frz K) a w ht ⟨rl.defers, by simpa using rl.size, ?_, frz_wf rl.wf, ?_, ?_, rl.glob⟩
  · intro i hi
    simp only [List.length_map] at hi
    have := frz_rep (K := K) rl.wf (rl.slots i hi)
    simp only [List.getD_eq_getElem?_getD, List.getElem?_map, List.getElem?_eq_getElem hi, Option.map_some, Option.getD_some] at this ⊢
    exact this
  · have he := rl.ext
    refine ⟨he.os, he.tape, he.output, he.size, ?_, fun b o v hb hv => pm_frz (he.row b o v hb hv), he.shp⟩
    intro b hb hs
    obtain ⟨h1, h2⟩ := he.free b hb hs
    exact ⟨(frz_other (by rw [h1]; intro id e; rw [e] at hs; simp [Owner.still] at hs)).trans h1, h2⟩
  · intro b id hb
    obtain ⟨h0, ver, hb1, h1, h2⟩ := rl.ids b id hb
    exact ⟨h0, ver, frzHB K σ.h.H hb1, by simp only [look_frzL, hK id h0, h1]; rfl, h2⟩
def onlyK (d i : Nat) : Bool := i == d
theorem AW.freeze {s : List V} {h : HT} (d : Nat) (hd : d < 10000)
    (hc : AW P c Q ⟨s.map (frzV (onlyK d) h.H), ⟨frzL (onlyK d) h.H h.H, h.T⟩⟩) : AW P c Q ⟨s, h⟩ :=
  AW.freezeK (onlyK d) (fun id hid => by unfold onlyK; rw [beq_eq_false_iff_ne]; omega) hc
end
section
variable (K : Nat → Bool) (H : List (Nat × (Nat × HB)))
@[simp] theorem frzV_p (x : PV) : frzV K H (.p x) = .p x := rfl
@[simp] theorem frzV_row (r : Row PV) (t v : Nat) (nl : Bool) : frzV K H (.row r t v nl) = .row r t v nl := rfl
@[simp] theorem frzV_junk : frzV K H .junk = .junk := rfl
@[simp] theorem frzV_own (id ver off len cap : Nat) : frzV K H (.own id ver off len cap) = if K id = true then optV (deep K H 9 (.own id ver off len cap)) else .own id ver off len cap := by unfold frzV; simp only [V.leads]; congr
@[simp] theorem frzV_ptr (id ver off : Nat) : frzV K H (.ptr id ver off) = if K id = true then optV (deep K H 9 (.ptr id ver off)) else .ptr id ver off := by unfold frzV; simp only [V.leads]; congr
@[simp] theorem frzV_bnd (f id ver off : Nat) : frzV K H (.bnd f id ver off) = if K id = true then .junk else .bnd f id ver off := by
  simp only [frzV, V.leads]; rw [show (9 : Nat) = 8 + 1 from rfl, deep]; rfl
@[simp] theorem frzV_agg (l : List V) : frzV K H (.agg l) = if V.leadsL K l = true then optV (deep K H 9 (.agg l)) else .agg l := by unfold frzV; simp only [V.leads]; congr
@[simp] theorem frzV_tup (l : List V) : frzV K H (.tup l) = if V.leadsL K l = true then .junk else .tup l := by
  simp only [frzV, V.leads]; rw [show (9 : Nat) = 8 + 1 from rfl, deep]; rfl
@[simp] theorem onlyK_eq (d i : Nat) : onlyK d i = (i == d) := rfl
end
attribute [simp] frzL frzHB V.leads V.leadsL
theorem amake_bytes {P : Program} {t e : TypeId} (he : elemInfo P t = some (e, 1, 1, .int .u8 0)) (H : List (Nat × (Nat × HB))) (d : Nat) (k k' : IntKind) (n m : Int) (h0 : 0 ≤ n) (h1 : n ≤ m) (h2 : m ≤ 281474976710656) :
    amakeSlice P H d t (.p (.int k n)) (.p (.int k' m)) = some (.own d (nextVer H d) 0 n.toNat m.toNat, upd H d (nextVer H d, .row (bl (List.replicate m.toNat 0#8)))) := by
  unfold amakeSlice
  simp only [he]
  rw [if_pos ⟨trivial, h0, h1, by omega, by omega⟩]
  simp [bl, ub]
def copyR (ver off len s : Nat) (H : List (Nat × (Nat × HB))) (id : Nat) (a : Option (Nat × HB)) (b : Option (Row PV)) : Option (V × List (Nat × (Nat × HB))) :=
  match a, b with
  | some (c, .row (.ints k l)), some (.ints k' l') =>
    if c = ver ∧ s = 1 ∧ k = k' ∧ off + len ≤ l.length then
      some (.p (.int .i64 (min l'.length len : Nat)), upd H id (c, .row (.ints k (splice l off (l'.take len)))))
    else none
  | _, _ => none
theorem acopy_eq {P : Program} {t e s b : Nat} {z : Value} (he : elemInfo P t = some (e, s, b, z)) (H : List (Nat × (Nat × HB))) (id ver off len cap : Nat) (y : V) :
    acopy P H t (.own id ver off len cap) y = copyR ver off len s H id (look H id) (srcV H s y) := by
  unfold acopy
  simp only [he]
  rfl
theorem splice_map {α β : Type} (f : α → β) (l l' : List α) (off : Nat) : splice (l.map f) off (l'.map f) = (splice l off l').map f := by
  simp [splice, List.map_take, List.map_drop]
@[simp] theorem copyR_bl (ver off len id : Nat) (H : List (Nat × (Nat × HB))) (l l' : List (BitVec 8)) (h : off + len ≤ l.length) :
    copyR ver off len 1 H id (some (ver, .row (bl l))) (some (bl l')) = some (.p (.int .i64 (min l'.length len : Nat)), upd H id (ver, .row (bl (splice l off (l'.take len))))) := by
  unfold copyR bl
  simp only [List.length_map]
  rw [if_pos ⟨trivial, trivial, trivial, h⟩, ← List.map_take, splice_map]
end Go.Av
end
section
set_option linter.unusedVariables false
set_option linter.unusedSimpArgs false
set_option linter.unusedSectionVars false
namespace Go.Av
section
variable {P : Program} {G : Gh} {h : HT} {w : World}
theorem upd_self {α : Type} : ∀ (l : List (Nat × α)) (n : Nat) (x : α), look l n = some x → upd l n x = l
  | [], n, x, h => by simp [look] at h
  | (k, v) :: l, n, x, h => by
    by_cases hk : k = n
    · simp only [look, if_pos hk, Option.some.injEq] at h
      simp only [upd, if_pos hk, h]
    · simp only [look, if_neg hk] at h
      simp only [upd, if_neg hk, upd_self l n x h]
theorem retold (wf : WF G h w) {id c : Nat} {l l' : List V} (hl : look h.H id = some (c, .cells l)) (hs : l'.length = l.length)
    (hc : ∀ i v, i < l.length → v.oneCell' = true → Rep G h w (l.getD i .junk) v → Rep G h w (l'.getD i .junk) v) :
    Keeps G h w G ⟨upd h.H id (c, .cells l'), h.T⟩ w ∧ WF G ⟨upd h.H id (c, .cells l'), h.T⟩ w := by
  have hk : Keeps G h w G ⟨upd h.H id (c, .cells l'), h.T⟩ w := by
    refine ⟨fun _ _ _ hv => hv, fun t cur ht => ⟨cur, ht, Nat.le_refl _, fun _ => ⟨rfl, rfl, fun ho => ⟨ho, fun _ _ _ h => h⟩⟩⟩, ?_, fun _ _ h => h⟩
    intro i cur hb hi
    by_cases hid : i = id
    · subst hid
      rw [hl] at hi; simp only [Option.some.injEq, Prod.mk.injEq] at hi
      exact ⟨c, _, look_upd_same _ _ _, by omega, fun _ => rfl⟩
    · exact ⟨cur, hb, (look_upd_other _ _ _ _ hid).trans hi, Nat.le_refl _, fun _ => rfl⟩
  refine ⟨hk, wf.fresh, wf.rows, ?_⟩
  intro i ver hb hi
  by_cases hid : i = id
  · subst hid
    rw [look_upd_same] at hi; simp only [Option.some.injEq, Prod.mk.injEq] at hi
    obtain ⟨rfl, rfl⟩ := hi
    obtain ⟨o1, o2, vs, ty, fz, a1, a2, a3, a4⟩ := wf.objs i c _ hl
    refine ⟨o1, o2, vs, ty, fz, a1, a2.trans hs.symm, ?_, ?_⟩
    · intro k hk0
      simp only [HB.size] at hk0
      obtain ⟨v, b1, b2, b3⟩ := a3 k (by simp only [HB.size]; omega)
      exact ⟨v, b1, b2, (hc k v (by omega) b2 b3).mono hk⟩
    · intro k hk0; exact a4 k (by simp only [HB.size] at hk0 ⊢; omega)
  · rw [look_upd_other _ _ _ _ hid] at hi
    obtain ⟨o1, o2, o3⟩ := wf.objs i ver hb hi
    exact ⟨o1, o2, o3.mono hk rfl⟩
end
section
variable [Tables] {P : Program} {c : Code} {Q : Exit → St → Prop}
def scopeQ (Q : Exit → St → Prop) : Exit → St → Prop
  | .goto _, _ => False
  | e, σ => Q e σ
theorem AW.scope {c : Code} {Q : Exit → St → Prop} {σ : St} (h : AW P c (scopeQ Q) σ) : AW P (.scope c) Q σ := by
  intro G0 w0 G a w hst r
  refine wp_scope_straight (wp_mono (h G0 w0 G a w hst r) ?_)
  rintro e a' w' ⟨σ', G', h1, h2⟩
  cases e with
  | goto l => exact h1.elim
  | _ => exact ⟨σ', G', h1, h2⟩
theorem scopeQ_normal {Q : Exit → St → Prop} {σ : St} (h : Q .normal σ) : scopeQ Q .normal σ := h
theorem scopeQ_ret {Q : Exit → St → Prop} {σ : St} (h : Q .ret σ) : scopeQ Q .ret σ := h
theorem scopeQ_exit {Q : Exit → St → Prop} {σ : St} {i : Nat} (h : Q (.exit i) σ) : scopeQ Q (.exit i) σ := h
theorem AW.nilBuf {s : List V} {h : HT} (id i : Nat) (e : TypeId) (r : Row PV) (t ver : Nat) (l : List V) (r0 : Row PV) (hl : look h.H id = some (ver, .cells l)) (hi : l.getD i .junk = .p (.sl r0 true)) (hr : r.len = 0)
    (hc : AW P c Q ⟨s, ⟨upd h.H id (ver, .cells (l.set i (.brow e r t (nextTok h.T t) true))), upd h.T t (nextTok h.T t)⟩⟩) : AW P c Q ⟨s, h⟩ := by
  intro G0 w0 G a w ht rl
  have hlt : i < l.length := by
    rcases Nat.lt_or_ge i l.length with h1 | h1
    · exact h1
    · rw [List.getD_eq_getElem?_getD, List.getElem?_eq_none h1] at hi; simp at hi
  obtain ⟨hk, he, hwf⟩ := bump_keeps rl.wf t (nextTok h.T t) (fun c hc => nextTok_lt hc)
  obtain ⟨hk2, hwf2⟩ := retold (l' := l.set i (.brow e r t (nextTok h.T t) true)) hwf hl (by simp) (by
    intro j v hj h1 hrep
    by_cases hij : i = j
    · subst hij
      have e1 : (l.set i (V.brow e r t (nextTok h.T t) true)).getD i .junk = .brow e r t (nextTok h.T t) true := by simp [List.getD_eq_getElem?_getD, hlt]
      rw [e1]
      rw [hi] at hrep
      cases hrep with
      | p rp =>
        cases rp with
        | slNil _ hz =>
          have := Rep.row (G := G) (h := ⟨h.H, upd h.T t (nextTok h.T t)⟩) (w := w) r t (nextTok h.T t) (nextTok h.T t) true none 0 (look_upd_same _ _ _) (Nat.le_refl _) (by rw [hr]; exact .slNil _ hr) (fun _ => .inl rfl)
          rw [hr] at this
          exact .brow _ _ _ _ _ _ this (fun _ a l c hv => by simp at hv)
    · have e1 : (l.set i (V.brow e r t (nextTok h.T t) true)).getD j .junk = l.getD j .junk := by simp [List.getD_eq_getElem?_getD, List.getElem?_set_ne hij]
      rw [e1]; exact hrep)
  have hk3 := hk.trans hk2
  exact hc G0 w0 G a w ht ⟨rl.defers, rl.size, fun j hj => (rl.slots j hj).mono hk3, hwf2, rl.ext, rl.ids_keep hk3, rl.glob⟩
def copyPrim (e : TypeId) (n o : Nat) : Prim := fun E h _ => match E with
  | [.ptr id ver off] => match look h.H id with
    | some (c, .cells l) => match l.getD o .junk with
      | .adr i v o' e' n' => if c = ver ∧ off = o ∧ i = id ∧ v = ver ∧ o' = o ∧ e' = e ∧ n' = n then some (.tup [], h) else none
      | _ => none
    | _ => none
  | _ => none
theorem copyPrim_ok {f : FuncId} {e : TypeId} {n o : Nat} (enter : ∀ args w, (callFunc f args).run P w = .ok (.enter f args) w)
    (fresh : ∀ (w : World) (b : Nat), w.cell? ⟨b, o, none⟩ = some (.pointer none) → w.shape? b = some (e, n) → w.frozen? ⟨b, o, none⟩ = false →
      Calls P f #[.pointer (some ⟨b, o, none⟩)] w fun x w' => x = .returned (.tuple #[]) ∧ w' = w.setCell ⟨b, o, none⟩ (.pointer (some ⟨b, o, none⟩)))
    (used : ∀ (w : World) (b : Nat), w.cell? ⟨b, o, none⟩ = some (.pointer (some ⟨b, o, none⟩)) → Calls P f #[.pointer (some ⟨b, o, none⟩)] w fun x w' => x = .returned (.tuple #[]) ∧ w' = w) :
    PrimOk P f (copyPrim e n o) := by
  intro G h w E vs d v h' wf hg hlen hE hp
  refine .inl ⟨enter _ _, ?_⟩
  unfold copyPrim at hp
  split at hp
  · rename_i id ver off
    split at hp
    · rename_i c l hl
      split at hp
      · rename_i i v0 o' e' n' ha
        split at hp
        · rename_i hc
          obtain ⟨rfl, rfl, rfl, rfl, rfl, rfl, rfl⟩ := hc
          simp only [Option.some.injEq, Prod.mk.injEq] at hp
          obtain ⟨rfl, rfl⟩ := hp
          match vs, hlen with
          | [v0], _ =>
          have r0 := hE 0 (by simp)
          simp only [List.getD_cons_zero] at r0
          obtain rfl := r0.at_ptr hl rfl
          obtain ⟨o1, o2, o3⟩ := wf.objs _ _ _ hl
          obtain ⟨vs, ty, fz, a1, a2, a3, a4⟩ := o3
          have hlt : o' < l.length := by
            rcases Nat.lt_or_ge o' l.length with h1 | h1
            · exact h1
            · rw [List.getD_eq_getElem?_getD, List.getElem?_eq_none h1] at ha; simp at ha
          obtain ⟨u, b1, b2, b3⟩ := a3 o' hlt
          have hcell : w.cell? ⟨G.ι i, o', none⟩ = some u := by rw [cell_of_block a1]; exact b1
          simp only [HB.get] at b3
          rw [ha] at b3
          cases b3 with
          | adr _ _ _ _ _ cur hb _ hc hle hv =>
          rw [hl] at hc
          simp only [Option.some.injEq, Prod.mk.injEq] at hc
          obtain ⟨hv1, hv2⟩ := hv hc.1
          rcases hv1 with rfl | rfl
          · refine (fresh w (G.ι i) hcell hv2 (a4 o' (by simp only [HB.size]; omega))).mono ?_
            rintro x w' ⟨rfl, rfl⟩
            refine ⟨_, rfl, ?_⟩
            rw [setCell_row a1]
            obtain ⟨k1, k2, k3⟩ := turned (vs' := vs.setIfInBounds o' (.pointer (some ⟨G.ι i, o', none⟩))) (hb' := .cells l) wf hl rfl (by simpa using a2) ⟨vs, a1, by simp⟩ a4 (by
              intro k hk
              by_cases hko : o' = k
              · subst hko
                refine ⟨.pointer (some ⟨G.ι i, o', none⟩), ?_, rfl, ?_⟩
                · rw [Array.getElem?_setIfInBounds_self_of_lt]; simp only [HB.size] at a2; omega
                · simp only [HB.get]; rw [ha]
                  exact .adr _ _ _ _ _ _ _ _ hl (Nat.le_refl _) (fun _ => ⟨.inr rfl, hv2⟩)
              · obtain ⟨u, c1, c2, c3⟩ := a3 k hk
                exact ⟨u, by rw [Array.getElem?_setIfInBounds_ne hko]; exact c1, c2, c3⟩)
            have e0 := upd_self _ _ _ hl
            simp only [e0] at k1 k3
            exact ⟨G, Rep.tup_of (l := []) (vs := []) rfl (fun i hi => by simp at hi), k1, k2, k3⟩
          · refine (used w (G.ι i) hcell).mono ?_
            rintro x w' ⟨rfl, rfl⟩
            exact ⟨_, rfl, G, Rep.tup_of (l := []) (vs := []) rfl (fun i hi => by simp at hi), Keeps.refl _ _ _, Ext.refl _ _, wf⟩
        · simp at hp
      · simp at hp
    · simp at hp
  · simp at hp
def inByte (n : Int) : Bool := decide (0 ≤ n) && decide (n < 256)
def strPrim (eb : TypeId) (o : Nat) : Prim := fun E h _ => match E with
  | [.ptr id ver off] => match look h.H id with
    | some (c, .cells l) => match l.getD (o + 1) .junk with
      | .brow e (.ints .u8 ns) t v nl =>
        if c = ver ∧ off = o ∧ e = eb ∧ look h.T t = some v ∧ ns.length ≤ 140737488355328 ∧ ns.all inByte = true then
          (if nl = true then some (.p (.str ByteArray.empty), h) else if ns.length ≠ 0 then some (.p (.str (strOfNums ns)), ⟨h.H, upd h.T t (v + 1)⟩) else none)
        else none
      | .p (.sl _ true) => if c = ver ∧ off = o then some (.p (.str ByteArray.empty), h) else none
      | _ => none
    | _ => none
  | _ => none
theorem freeze_n {w : World} {b n : Nat} {vs : Array Value} {ty : TypeId} {fz : Nat × Nat} (hn : n ≠ 0) (hblk : w.heap[b]? = some (.cells vs ty fz)) :
    ∃ fz', w.freeze ⟨b, 0, none⟩ n = World.withRow w b vs ty fz' := by
  refine ⟨if fz.1 == fz.2 then (0, 0 + n) else (min fz.1 0, max fz.2 (0 + n)), ?_⟩
  have hlt := lt_of_get hblk
  have he : w.heap[b] = .cells vs ty fz := by rw [Array.getElem?_eq_getElem hlt] at hblk; exact Option.some.inj hblk
  unfold World.freeze World.withRow
  simp only [hn, if_false]
  congr 1
  apply Array.ext
  · simp
  · intro i h1 h2
    simp only [Array.getElem_modify, Array.getElem_setIfInBounds]
    by_cases hb : b = i
    · subst hb; simp [he]
    · rw [if_neg hb, Array.getElem_setIfInBounds_ne (hj := by simpa using h1) (h := hb)]
theorem drew_keeps {G : Gh} {h : HT} {w : World} (wf : WF G h w) : Keeps G h w G h w.drew ∧ Ext G w G w.drew ∧ WF G h w.drew :=
  ⟨keeps_heap (w1 := w) (w2 := w.drew) rfl (Keeps.refl G h w), ⟨rfl, rfl, rfl, Nat.le_refl _, fun b hb hs => ⟨rfl, rfl⟩, fun b o v hb hv => hv, fun _ _ h => h⟩, wf_heap (w1 := w) (w2 := w.drew) rfl wf⟩
theorem strPrim_ok {f : FuncId} {eb : TypeId} {o : Nat} (enter : ∀ args w, (callFunc f args).run P w = .ok (.enter f args) w)
    (full : ∀ (w : World) (b g cap : Nat) (l : List UInt8) (cur : Array Value) (fz : Nat × Nat), l ≠ [] → w.cell? ⟨b, o + 1, none⟩ = some (.slice (some ⟨g, 0, none⟩) l.length cap) → cap ≠ 0 →
      w.heap[g]? = some (.cells cur eb fz) → l.length ≤ cur.size → l.length ≤ 140737488355328 → (∀ j x, l[j]? = some x → w.cell? ⟨g, j, none⟩ = some (.int .u8 x.toNat)) →
      Calls P f #[.pointer (some ⟨b, o, none⟩)] w fun x w' => x = .returned (.string ⟨l.toArray⟩) ∧ w' = w.drew.freeze ⟨g, 0, none⟩ l.length)
    (none_ : ∀ (w : World) (b : Nat), w.cell? ⟨b, o + 1, none⟩ = some (.slice none 0 0) → Calls P f #[.pointer (some ⟨b, o, none⟩)] w fun x w' => x = .returned (.string ByteArray.empty) ∧ w' = w.drew) :
    PrimOk P f (strPrim eb o) := by
  intro G h w E vs d v h' wf hg hlen hE hp
  refine .inl ⟨enter _ _, ?_⟩
  unfold strPrim at hp
  split at hp
  · rename_i id ver off
    split at hp
    · rename_i c l hl
      match vs, hlen with
      | [v0], _ =>
      have r0 := hE 0 (by simp)
      simp only [List.getD_cons_zero] at r0
      obtain ⟨o1, o2, vs, ty, fz, a1, a2, a3, a4⟩ := wf.objs id c _ hl
      have cellAt : l.getD (o + 1) .junk ≠ .junk → ∃ u, w.cell? ⟨G.ι id, o + 1, none⟩ = some u ∧ Rep G h w (l.getD (o + 1) .junk) u := by
        intro hne
        have hlt : o + 1 < l.length := by
          rcases Nat.lt_or_ge (o + 1) l.length with h1 | h1
          · exact h1
          · exact absurd (by rw [List.getD_eq_getElem?_getD, List.getElem?_eq_none h1]; rfl) hne
        obtain ⟨u, b1, b2, b3⟩ := a3 (o + 1) hlt
        exact ⟨u, by rw [cell_of_block a1]; exact b1, b3⟩
      have fin0 : ∀ {u : Value}, w.cell? ⟨G.ι id, o + 1, none⟩ = some u → u = .slice none 0 0 → c = ver → off = o → (Calls P f [v0].toArray w fun e w' => ∃ u, e = .returned u ∧ TurnedTo G h w (.p (.str ByteArray.empty)) h u w') := by
        rintro u hc rfl rfl rfl
        obtain rfl := r0.at_ptr hl rfl
        refine (none_ w _ hc).mono ?_
        rintro x w' ⟨rfl, rfl⟩
        obtain ⟨k1, k2, k3⟩ := drew_keeps wf
        exact ⟨_, rfl, G, .p (.str _), k1, k2, k3⟩
      split at hp
      · rename_i e ns t v1 nl ha
        split at hp
        · rename_i hc
          obtain ⟨hc1, hc2, hc3, hlt, hbig, hall⟩ := hc
          obtain ⟨u, hcell, hrep⟩ := cellAt (by rw [ha]; simp)
          rw [ha] at hrep
          cases hrep with
          | brow _ _ _ _ _ _ hrow hbuf =>
          have hB := hbuf hlt
          split at hp
          · rename_i hnl
            simp only [Option.some.injEq, Prod.mk.injEq] at hp
            obtain ⟨rfl, rfl⟩ := hp
            subst hnl
            cases hrow with
            | row _ _ _ cur _ a cap hcc hle hr ht =>
            generalize hvv : Value.slice a (Row.ints IntKind.u8 ns : Row PV).len cap = vv at hr hcell hB
            cases hr with
            | slNil _ h0 => exact fin0 hcell rfl hc1 hc2
          · rename_i hnl
            split at hp
            · rename_i hns
              simp only [Option.some.injEq, Prod.mk.injEq] at hp
              obtain ⟨rfl, rfl⟩ := hp
              have hnl : nl = false := by simpa using hnl
              subst hnl
              cases hrow with
              | row _ _ _ cur _ a cap hcc hle hr ht =>
              have hcv : v1 = cur := by rw [hlt] at hcc; exact Option.some.inj hcc
              have hcapok : ns.length ≤ cap := hr.capOk
              rcases ht hcv with h3 | ⟨off0, vs1, ty1, fz1, rfl, hown, hend, hs0, hblk, hfit, hfz⟩
              · omega
              · obtain ⟨hoff, vs2, fz2, hblk2⟩ := hB _ _ _ rfl (by omega)
                simp only at hoff hblk2
                subst hoff
                rw [hblk] at hblk2
                simp only [Option.some.injEq, Obj.cells.injEq] at hblk2
                obtain ⟨rfl, rfl, rfl⟩ := hblk2
                subst hc1 hc2 hc3
                obtain rfl := r0.at_ptr hl rfl
                obtain ⟨f0, hrr, hcase⟩ := hr.rowRep
                have hf1 : ∀ i, i < ns.length → w.cell? ⟨G.τ t, i, none⟩ = some (.int .u8 (ns.getD i 0)) := by
                  intro i hi
                  rcases hcase with ⟨hbad, _⟩ | ⟨a1', cap1, hv1, ha1, hf1⟩
                  · simp at hbad
                  · simp only [Value.slice.injEq, Option.some.injEq, true_and] at hv1
                    obtain ⟨rfl, rfl⟩ := hv1
                    have h1 := pm_cell (hf1 i 0 (by simpa [Row.len] using hi) (by simp [Row.sz]))
                    have h2 := hrr.rep i 0 (by simpa [Row.len] using hi) (by simp [Row.sz])
                    simp only [Row.sz, Nat.mul_one, Nat.add_zero, Nat.zero_add] at h1
                    have h3 : f0 i 0 = .int .u8 (ns.getD i 0) := by
                      simp only [Row.elem, PV.cell] at h2
                      generalize f0 i 0 = u at h2
                      cases h2; rfl
                    rw [h1, h3]
                have hnum : ∀ n ∈ ns, ((UInt8.ofNat n.toNat).toNat : Int) = n := by
                  intro n hn
                  have := List.all_eq_true.1 hall n hn
                  simp only [inByte, Bool.and_eq_true, decide_eq_true_eq] at this
                  simp only [UInt8.toNat_ofNat']
                  omega
                have hc0 : cap ≠ 0 := fun e => hns (Nat.le_zero.1 (e ▸ hcapok))
                have hcs : ns.length ≤ vs1.size := by
                  have e1 : 0 + cap * (Row.ints IntKind.u8 ns : Row PV).sz = cap := by simp [Row.sz]
                  rw [e1] at hfit
                  exact Nat.le_trans hcapok hfit
                have hll : (ns.map fun n => UInt8.ofNat n.toNat).length = ns.length := by simp
                have hcl := full w (G.ι id) (G.τ t) cap (ns.map fun n => UInt8.ofNat n.toNat) vs1 fz1 (by intro e; apply hns; rw [← hll, e]; rfl) (by rw [hll]; exact hcell) hc0 hblk
                  (by rw [hll]; exact hcs) (by rw [hll]; exact hbig) (by
                    intro j x hx
                    simp only [List.getElem?_map, Option.map_eq_some_iff] at hx
                    obtain ⟨n, hn, rfl⟩ := hx
                    have hj := (List.getElem?_eq_some_iff.1 hn).1
                    rw [hf1 j hj, hnum n (List.mem_of_getElem? hn), List.getD_eq_getElem?_getD, hn]; rfl)
                refine hcl.mono ?_
                rintro x w' ⟨rfl, rfl⟩
                rw [hll]
                obtain ⟨fz', hfr⟩ := freeze_n (w := w) (n := ns.length) hns hblk
                have hv : ∀ c, look h.T t = some c → c < v1 + 1 := by intro c hc'; rw [hlt] at hc'; simp only [Option.some.injEq] at hc'; omega
                obtain ⟨k1, k2, k3⟩ := filled_keeps (fz' := fz') wf t (G.tend t) (v1 + 1) hv hown (Nat.le_refl _) (vs' := vs1) hblk (fun o ho => rfl) rfl
                have hh : (w.drew.freeze ⟨G.τ t, 0, none⟩ ns.length).heap = (World.withRow w (G.τ t) vs1 ty1 fz').heap := by
                  rw [← hfr]; unfold World.freeze; simp only [hns, if_false]; rfl
                refine ⟨_, rfl, G.filled t (G.tend t), ?_, keeps_heap hh k1, ⟨?_, ?_, ?_, ?_, ?_, ?_, ?_⟩, wf_heap hh k3⟩
                · exact .p (.str _)
                · unfold World.freeze; split <;> rfl
                · unfold World.freeze; split <;> rfl
                · unfold World.freeze; split <;> rfl
                · rw [hh]; exact k2.size
                · intro b hb hs; rw [hh]; exact k2.free b hb hs
                · intro b o v hb hv; rw [pm_heap hh]; exact k2.row b o v hb hv
                · intro b x hx; simp only [World.shape?, hh]; exact k2.shp b x hx
            · simp at hp
        · simp at hp
      · rename_i r ha
        split at hp
        · rename_i hc
          simp only [Option.some.injEq, Prod.mk.injEq] at hp
          obtain ⟨rfl, rfl⟩ := hp
          obtain ⟨u, hcell, hrep⟩ := cellAt (by rw [ha]; simp)
          rw [ha] at hrep
          cases hrep with
          | p rp => cases rp with
            | slNil _ h0 => exact fin0 hcell rfl hc.1 hc.2
        · simp at hp
      · simp at hp
    · simp at hp
  · simp at hp
end
end Go.Av
end
section
set_option linter.unusedVariables false
set_option linter.unusedSimpArgs false
set_option linter.unusedSectionVars false
namespace Go.Av
open Go.ChangeShapes Go.WideShapes Go.ChangeAt
section
variable {H : Type} {enc : TypeId × Value → H} {P : Program} {w : World} {base : Nat} {spare : Nat → Bool} {held : Bool}
def cellsOf (w : World) (b o : Nat) : Option Value := w.cell? ⟨b, o, none⟩
end
end Go.Av
end
section
set_option linter.unusedVariables false
set_option linter.unusedSimpArgs false
set_option linter.unusedSectionVars false
namespace Go.Av
def txt (l : List (BitVec 8)) : ByteArray := strOfNums (l.map ub)
theorem txt_list (l : List (BitVec 8)) : (txt l).data.toList = l.map fun x => UInt8.ofBitVec x := by
  unfold txt strOfNums
  simp [ub]
theorem bytes_toList (b : ByteArray) : b.toList = b.data.toList := by
  have loop : ∀ (n i : Nat) (acc : List UInt8), b.size - i = n → ByteArray.toList.loop b i acc = acc.reverse ++ b.data.toList.drop i := by
    intro n
    induction n with
    | zero =>
      intro i acc h
      rw [ByteArray.toList.loop]
      have hs : b.size = b.data.toList.length := by rw [Array.length_toList]; rfl
      rw [if_neg (by omega), List.drop_eq_nil_of_le (by omega)]; simp
    | succ n ih =>
      intro i acc h
      rw [ByteArray.toList.loop]
      have hs : b.size = b.data.toList.length := by rw [Array.length_toList]; rfl
      have hi : i < b.data.toList.length := by omega
      rw [if_pos (by omega), ih (i + 1) _ (by omega), List.drop_eq_getElem_cons hi]
      have e : b.get! i = b.data.toList[i] := by
        show b.data[i]! = _
        rw [getElem!_pos b.data i (by simpa using hi)]; simp
      rw [e]; simp
  unfold ByteArray.toList
  rw [loop _ 0 [] rfl]; simp
theorem txt_inj {a b : List (BitVec 8)} : (txt a).toList = (txt b).toList ↔ a = b := by
  rw [bytes_toList, bytes_toList, txt_list, txt_list]
  constructor
  · intro h
    refine (List.map_inj_right ?_).1 h
    intro x y hxy
    exact congrArg UInt8.toBitVec hxy
  · rintro rfl; rfl
theorem txt_beq (a b : List (BitVec 8)) : ((txt a).toList == (txt b).toList) = (a == b) := by
  by_cases h : a = b
  · subst h; simp
  · rw [beq_eq_false_iff_ne.2 h, beq_eq_false_iff_ne.2 (fun e => h (txt_inj.1 e))]
theorem str_neq_txt (a b : List (BitVec 8)) : strBin .neq (txt a) (txt b) = some (.bool (!(a == b))) := by
  show some (PV.bool (!((txt a).toList == (txt b).toList))) = _
  rw [txt_beq]
theorem str_eq_txt (a b : List (BitVec 8)) : strBin .eql (txt a) (txt b) = some (.bool (a == b)) := by
  show some (PV.bool ((txt a).toList == (txt b).toList)) = _
  rw [txt_beq]
theorem str_of (l : List (BitVec 8)) : strOfNums (l.map ub) = txt l := rfl
theorem bytes_ext {a b : ByteArray} (h : a.data.toList = b.data.toList) : a = b := by
  cases a; cases b; congr; exact Array.toList_inj.1 h
theorem txt_size (l : List (BitVec 8)) : (txt l).size = l.length := by
  show (txt l).data.size = _
  rw [← Array.length_toList, txt_list]; simp
theorem txt_get (l : List (BitVec 8)) (i : Nat) : (((txt l).data.toList.getD i 0).toNat : Int) = ub (l.getD i 0) := by
  rw [txt_list]
  simp only [List.getD_eq_getElem?_getD, List.getElem?_map]
  cases l[i]? <;> simp [ub]
theorem txt_extract (l : List (BitVec 8)) (i j : Nat) : (txt l).extract i j = txt ((l.take j).drop i) := by
  apply bytes_ext
  rw [txt_list, List.map_drop, List.map_take, ← txt_list]
  rw [ByteArray.data_extract, Array.toList_extract, List.extract_eq_take_drop]
  rw [List.drop_take]
theorem txt_bytes (l : List (BitVec 8)) : bytesRow (txt l) = bl l := by
  unfold bytesRow bl
  rw [txt_list]; simp [ub]
theorem txt_of (s : ByteArray) : ∃ l, s = txt l := ⟨s.data.toList.map (·.toBitVec), by
  apply bytes_ext; rw [txt_list, List.map_map]
  have : ((fun x => UInt8.ofBitVec x) ∘ fun (x : UInt8) => x.toBitVec) = id := by funext x; rfl
  rw [this]; simp⟩
def idxI : List (BitVec 8) → BitVec 8 → Int
  | [], _ => -1
  | b :: l, c => if b = c then 0 else if idxI l c = -1 then -1 else idxI l c + 1
theorem idxI_lib (l : List (BitVec 8)) (c : BitVec 8) : Lib.indexByte ((txt l).data.toList) (ub c).toNat.toUInt8 = idxI l c := by
  rw [txt_list]
  have hc : (ub c).toNat.toUInt8 = UInt8.ofBitVec c := by
    apply UInt8.toBitVec_inj.1
    simp [ub]
  rw [hc]
  induction l with
  | nil => rfl
  | cons b l ih =>
    rw [List.map_cons, Lib.indexByte, idxI, ih]
    by_cases h : b = c
    · subst h; simp
    · have h2 : ¬ UInt8.ofBitVec b = UInt8.ofBitVec c := fun e => h (congrArg UInt8.toBitVec e)
      simp [h, h2]
theorem idxI_spec (l : List (BitVec 8)) (c : BitVec 8) : (idxI l c = -1 ∧ c ∉ l) ∨ ∃ k : Nat, idxI l c = k ∧ k < l.length ∧ l.getD k 0 = c ∧ c ∉ l.take k := by
  induction l with
  | nil => left; exact ⟨rfl, by simp⟩
  | cons b l ih =>
    rw [idxI]
    by_cases h : b = c
    · right; exact ⟨0, by simp [h], by simp, by simpa using h, by simp⟩
    · rw [if_neg h]
      rcases ih with ⟨h1, h2⟩ | ⟨k, h1, h2, h3, h4⟩
      · left; rw [if_pos h1]; exact ⟨rfl, by simp [Ne.symm h, h2]⟩
      · right
        rw [if_neg (by omega)]
        exact ⟨k + 1, by omega, by simpa using h2, by simpa using h3, by simp [Ne.symm h, h4]⟩
theorem all_inByte (l : List (BitVec 8)) : (l.map ub).all inByte = true := by
  rw [List.all_map, List.all_eq_true]
  intro x _
  have h := x.isLt
  have e : ub x = (x.toNat : Int) := rfl
  simp only [Function.comp, inByte, Bool.and_eq_true, decide_eq_true_eq]
  omega
theorem callK_str [Tables] {P : Program} {f : FuncId} {eb : TypeId} {o : Nat} (hm : 2 ≤ Tables.mode f) (ok : PrimOk P f (strPrim eb o)) {id ver : Nat} {h : HT} {d : Nat} {F : V → HT → Prop} {l : List V} {F0 : List (BitVec 8)} {t v : Nat} {nl : Bool}
    (hl : look h.H id = some (ver, .cells l)) (hb : l.getD (o + 1) .junk = .brow eb (bl F0) t v nl) (ht : look h.T t = some v) (hlen : F0.length ≤ 140737488355328) (hnl : nl = (F0.length == 0))
    (hc : F (.p (.str (txt F0))) ⟨h.H, if F0.length = 0 then h.T else upd h.T t (v + 1)⟩) : callK P f [.ptr id ver o] h d F := by
  refine callK_b hm ok ?_
  have e : strPrim eb o [.ptr id ver o] h d = some (.p (.str (txt F0)), ⟨h.H, if F0.length = 0 then h.T else upd h.T t (v + 1)⟩) := by
    unfold strPrim
    simp only [hl, hb, bl]
    rw [if_pos ⟨trivial, trivial, trivial, ht, by simpa using hlen, all_inByte F0⟩]
    by_cases h0 : F0.length = 0
    · obtain rfl := List.eq_nil_of_length_eq_zero h0
      subst hnl
      simp; rfl
    · have : nl = false := by rw [hnl]; exact beq_eq_false_iff_ne.2 h0
      subst this
      simp only [Bool.false_eq_true, if_false, List.length_map, h0, ne_eq, not_false_eq_true, if_true]; rfl
  rw [e]; exact hc
abbrev Part := List (BitVec 8) × Bool
def pB (ps : List Part) (k : Nat) : List (BitVec 8) := (ps.getD k ([], true)).1
def pN (ps : List Part) (k : Nat) : Bool := (ps.getD k ([], true)).2
def pR (ps : List Part) : Row PV := .vals 1 (ps.map fun p => .sl (bl p.1) p.2)
@[simp] theorem pR_len (ps : List Part) : (pR ps).len = ps.length := by simp [pR]
@[simp] theorem pR_sz (ps : List Part) : (pR ps).sz = 1 := rfl
@[simp] theorem pR_elem (ps : List Part) (k : Nat) (h : k < ps.length) : (pR ps).elem k = .sl (bl (pB ps k)) (pN ps k) := by
  simp [pR, pB, pN, List.getD_eq_getElem?_getD, h]
end Go.Av
end
section
set_option linter.unusedVariables false
set_option linter.unusedSimpArgs false
set_option linter.unusedSectionVars false
namespace Go.Av
section
variable [Tables] {P : Program} {σ : St}
theorem AW.cond_id {c : Operand} {x y : Code} {Q : Exit → St → Prop} (h : AW P (.cond c x y) Q σ) : AW P (.cond c x y) Q σ := h
theorem contO_id {ops : Array Oper} {l : List Oper} {d : Option Tmp} {K : St → Prop} {v : V} {h : HT} (hc : contO P ops l σ d K v h) : contO P ops l σ d K v h := hc
theorem contV_id {ops : Array Oper} {l : List Oper} {d : Option Tmp} {K : St → Prop} {v : V} (hc : contV P ops l σ d K v) : contV P ops l σ d K v := hc
theorem runE_id {ops : Array Oper} {l : List Oper} {K : St → Prop} (hc : runE P ops l σ K) : runE P ops l σ K := hc
attribute [simp] arange anext List.getD_cons_zero List.getD_cons_succ List.getD_nil
@[simp] theorem range_1 : List.range 1 = [0] := rfl
@[simp] theorem range_2 : List.range 2 = [0, 1] := rfl
@[simp] theorem range_3 : List.range 3 = [0, 1, 2] := rfl
@[simp] theorem range_4 : List.range 4 = [0, 1, 2, 3] := rfl
@[simp] theorem range_5 : List.range 5 = [0, 1, 2, 3, 4] := rfl
@[simp] theorem range_6 : List.range 6 = [0, 1, 2, 3, 4, 5] := rfl
@[simp] theorem range_7 : List.range 7 = [0, 1, 2, 3, 4, 5, 6] := rfl
@[simp] theorem range_8 : List.range 8 = [0, 1, 2, 3, 4, 5, 6, 7] := rfl
@[simp] theorem range_9 : List.range 9 = [0, 1, 2, 3, 4, 5, 6, 7, 8] := rfl
@[simp] theorem range_10 : List.range 10 = [0, 1, 2, 3, 4, 5, 6, 7, 8, 9] := rfl
@[simp] theorem range_11 : List.range 11 = [0, 1, 2, 3, 4, 5, 6, 7, 8, 9, 10] := rfl
@[simp] theorem range_12 : List.range 12 = [0, 1, 2, 3, 4, 5, 6, 7, 8, 9, 10, 11] := rfl
@[simp] theorem range_13 : List.range 13 = [0, 1, 2, 3, 4, 5, 6, 7, 8, 9, 10, 11, 12] := rfl
@[simp] theorem range_14 : List.range 14 = [0, 1, 2, 3, 4, 5, 6, 7, 8, 9, 10, 11, 12, 13] := rfl
@[simp] theorem range_15 : List.range 15 = [0, 1, 2, 3, 4, 5, 6, 7, 8, 9, 10, 11, 12, 13, 14] := rfl
@[simp] theorem range_16 : List.range 16 = [0, 1, 2, 3, 4, 5, 6, 7, 8, 9, 10, 11, 12, 13, 14, 15] := rfl
@[simp] theorem aminmax_min (k : IntKind) (a b : Int) : aminmax false [.p (.int k a), .p (.int k b)] = some (.p (.int k (if b < a then b else a))) := by
  simp [aminmax, aminl, amin2]
@[simp] theorem aminmax_max (k : IntKind) (a b : Int) : aminmax true [.p (.int k a), .p (.int k b)] = some (.p (.int k (if a < b then b else a))) := by
  simp [aminmax, aminl, amin2]
@[simp] theorem str_eq_self (x : ByteArray) : strBin .eql x x = some (.bool true) := by simp [strBin]
@[simp] theorem str_neq_self (x : ByteArray) : strBin .neq x x = some (.bool false) := by simp [strBin]
theorem bindO_id {x : Option (V × HT)} {F : V → HT → Prop} (hc : bindO x F) : bindO x F := hc
theorem bindV_id {x : Option V} {F : V → Prop} (hc : bindV x F) : bindV x F := hc
def condB (b : Bool) (X Y : Prop) : Prop := (b = true → X) ∧ (b = false → Y)
theorem AW.condB {c : Operand} {x y : Code} {Q : Exit → St → Prop} {b : Bool} (hc : σ.eval c = .p (.bool b)) (h : condB b (AW P x Q σ) (AW P y Q σ)) : AW P (.cond c x y) Q σ := AW.cond hc h.1 h.2
theorem condB_true {X Y : Prop} (h : X) : condB true X Y := ⟨fun _ => h, fun h => nomatch h⟩
theorem condB_false {X Y : Prop} (h : Y) : condB false X Y := ⟨fun h => (nomatch h), fun _ => h⟩
end
section
variable [Tables] {P : Program} {c : Code} {Q : Exit → St → Prop}
end
theorem abuildSlice_eq {P : Program} {t e s b : Nat} {z : Value} {zl : List V} (he : elemInfo P t = some (e, s, b, z)) (ho : oneCells z.cells.toList = true) (hz : z.cells.toList.map ofConst = zl) (hs : zl.length = s)
    (H : List (Nat × (Nat × HB))) (d len : Nat) (ps : List (Nat × V)) : abuildSlice P H d t len ps = if len * s ≤ 16777216 then (fillV (fun k => some (k * s, s)) H (zrep len zl) ps).map fun l => (.own d (nextVer H d) 0 len len, upd H d (nextVer H d, mkHB l)) else none := by
  subst hs hz
  unfold abuildSlice
  simp only [he, ho, true_and]
  have e1 : (List.range (len * (z.cells.toList.map ofConst).length)).map (fun k => ofConst (z.cells.toList.getD (k % (z.cells.toList.map ofConst).length) undef)) = zrep len (z.cells.toList.map ofConst) := by
    rw [← zrep_eq (z.cells.toList.map ofConst) (ofConst undef) len]
    apply List.map_congr_left
    intro k hk
    simp only [List.getD_eq_getElem?_getD, List.getElem?_map]
    cases z.cells.toList[k % (z.cells.toList.map ofConst).length]? <;> rfl
  rw [e1]
@[simp] theorem ownRow_bl (l : List (BitVec 8)) (off len : Nat) (h : off + len ≤ l.length) : ownRow 1 (.row (bl l)) off len = some (bl ((l.take (off + len)).drop off)) := by
  have h2 : off + len ≤ (bl l).len := by simpa [bl, Row.len] using h
  show (if 1 = 1 ∧ (bl l).sz = 1 ∧ off + len ≤ (bl l).len then some (if off = 0 ∧ len = (bl l).len then bl l else (bl l).cut off (off + len)) else none) = _
  rw [if_pos ⟨rfl, rfl, h2⟩]
  congr 1
  split
  · rename_i hc
    obtain ⟨rfl, hc⟩ := hc
    have : len = l.length := by simpa [bl, Row.len] using hc
    simp [this]
  · simp [bl, Row.cut, List.map_take, List.map_drop]
@[simp low] theorem bl_store_lit (l : List (BitVec 8)) (i : Nat) (n : Int) (h0 : 0 ≤ n) (h1 : n < 256) (h : i < l.length) : storeHB (.row (bl l)) i (.p (.int .u8 n)) = some (.row (bl (l.set i (BitVec.ofInt 8 n)))) := by
  have e : n = ub (BitVec.ofInt 8 n) := by simp [ub, BitVec.toNat_ofInt]; omega
  conv => lhs; rw [e]
  exact bl_store l i _ h
@[simp] theorem strN1 (a : BitVec 8) : strOfNums [ub a] = txt [a] := rfl
@[simp] theorem strN2 (a b : BitVec 8) : strOfNums [ub a, ub b] = txt [a, b] := rfl
@[simp] theorem strN3 (a b c : BitVec 8) : strOfNums [ub a, ub b, ub c] = txt [a, b, c] := rfl
@[simp] theorem strN4 (a b c d : BitVec 8) : strOfNums [ub a, ub b, ub c, ub d] = txt [a, b, c, d] := rfl
@[simp] theorem mkHB_ub1 (a : BitVec 8) : mkHB [.p (.int .u8 (ub a))] = .row (bl [a]) := rfl
@[simp] theorem mkHB_ub2 (a b : BitVec 8) : mkHB [.p (.int .u8 (ub a)), .p (.int .u8 (ub b))] = .row (bl [a, b]) := rfl
@[simp] theorem mkHB_ub3 (a b c : BitVec 8) : mkHB [.p (.int .u8 (ub a)), .p (.int .u8 (ub b)), .p (.int .u8 (ub c))] = .row (bl [a, b, c]) := rfl
@[simp] theorem mkHB_ub4 (a b c d : BitVec 8) : mkHB [.p (.int .u8 (ub a)), .p (.int .u8 (ub b)), .p (.int .u8 (ub c)), .p (.int .u8 (ub d))] = .row (bl [a, b, c, d]) := rfl
section
variable [Tables] {P : Program} {ops : Array Oper} {G0 G : Gh} {w0 w : World} {σ : St} {a : Act}
def ownStep (P : Program) (o : Oper) (t len : Nat) (ps : Array (Nat × Operand)) (σ : St) (K : St → Prop) : Prop :=
  bindB (abuildSlice P σ.h.H (o.dst.getD 0) t len (ps.toList.map fun q => (q.1, σ.eval q.2))) fun v H' => K (σ.put o.dst v ⟨H', σ.h.T⟩)
theorem ownStep_wp {i t len : Nat} {o : Oper} {ps : Array (Nat × Operand)} {K : St → Prop} {Q : Exit → Act → World → Prop} {next : Act → World → Prop} (hi : ops[i]? = some o) (hg : o.guard = none) (hop : o.op = .buildSlice t len ps)
    (r : Rl G0 w0 σ G a w) (hs : ownStep P o t len ps σ K) (hn : ∀ σ' G' a' w', K σ' → Rl G0 w0 σ' G' a' w' → next a' w') : wpOp P ops Q i next a w := by
  unfold ownStep at hs
  cases hx : abuildSlice P σ.h.H (o.dst.getD 0) t len (ps.toList.map fun q => (q.1, σ.eval q.2)) with
  | none => rw [hx] at hs; exact hs.elim
  | some q =>
    rw [hx] at hs
    obtain ⟨v, H'⟩ := q
    obtain ⟨p1, p2⟩ := reps_parts σ.eval a.eval (fun y => r.eval y) ps
    have hrun := abuildSlice_run (P := P) r.wf hx p1 p2
    have hd : Done P a o w G σ.h v ⟨H', σ.h.T⟩ := by
      refine Done.turn (s := Instr.buildSlice t len (ps.toList.map fun q => (q.1, a.eval q.2)).toArray) ?_ hrun
      have e : (ps.map fun x => (x.1, a.eval x.2)) = (ps.toList.map fun q => (q.1, a.eval q.2)).toArray := by apply Array.ext'; simp
      unfold execOp; rw [hop]; simp only [e]
    obtain ⟨v', w', G', hr, x1, x2, x3, x4⟩ := hd
    unfold wpOp
    rw [hi]
    simp only
    have hw : Region.wanted o (yielded ops a.tmps) = true := by simp [Region.wanted, hg]
    rw [if_pos hw]
    refine .inl ?_
    unfold Oper.wp
    rcases hr with hr | ⟨hr, rfl⟩
    · rw [hr, Oper.upon_value]
      exact hn _ _ _ _ hs (r.put o.dst x2 x1 x4 x3)
    · rw [hr, Oper.upon_skip]
      exact hn _ _ _ _ hs (r.put o.dst x2 x1 x4 x3)
end
section
variable [Tables] {P : Program}
theorem k1_at (f : FuncId) {ps : List PV} {h : HT} {d : Nat} {F : V → HT → Prop} (hc : callK1 P f ps h d F) : callK1 P f ps h d F := hc
end
section
variable [Tables]
abbrev zA := @AW.seq
abbrev zB := @AW.block
abbrev zC := @AW.skip
abbrev zD := @AW.ret
abbrev zE := @AW.exit
abbrev zF := @AW.scope
abbrev zG := @scopeQ_normal
abbrev zH := @scopeQ_ret
abbrev zI := @scopeQ_exit
abbrev zJ := @thenQ_normal
abbrev zK := @thenQ_ret
abbrev zL := @thenQ_exit
abbrev zM := @blockQ_normal
abbrev zN := @blockQ_ret
abbrev zO := @blockQ_exit
abbrev zP := @AW.regSeqK
abbrev zQ := @AW.regK
abbrev zR := @AW.drawSeqK
abbrev zS := @AW.drawK
abbrev zT := @contG_id
abbrev zU := @contO_id
abbrev zV := @contV_id
abbrev zW := @bindO_id
abbrev zX := @bindV_id
abbrev zY := @runE_id
abbrev zZ := @callK_id
abbrev yA := @AW.cond_id
abbrev yB := @AW.condB
abbrev yC := @condB_true
abbrev yD := @condB_false
abbrev yG := @blockQ_out
end
end Go.Av
end
section
set_option linter.unusedVariables false
set_option linter.unusedSimpArgs false
set_option linter.unusedSectionVars false
namespace Go.Av
attribute [simp] atobytes txt_bytes abox
section
variable (l : List V) (k : IntKind) (n : Int) (ns : List Int) (ss : List ByteArray) (ps : List PV) (z : Nat)
@[simp] theorem box_vals : boxHB (.p (.agg (.vals z ps))) = some (.cells (ps.map .p)) := rfl
@[simp] theorem box_ints : boxHB (.p (.agg (.ints k ns))) = some (.row (.ints k ns)) := rfl
@[simp] theorem box_strs : boxHB (.p (.agg (.strs ss))) = some (.row (.strs ss)) := rfl
@[simp] theorem box_bl (b : List (BitVec 8)) : boxHB (.p (.agg (bl b))) = some (.row (bl b)) := rfl
@[simp] theorem box_wl (b : List (BitVec 32)) : boxHB (.p (.agg (wl b))) = some (.row (wl b)) := rfl
@[simp] theorem box_agg : boxHB (.agg l) = some (.cells l) := rfl
@[simp] theorem box_int : boxHB (.p (.int k n)) = some (.cells [.p (.int k n)]) := rfl
@[simp] theorem box_bool (b : Bool) : boxHB (.p (.bool b)) = some (.cells [.p (.bool b)]) := rfl
@[simp] theorem box_str (s : ByteArray) : boxHB (.p (.str s)) = some (.cells [.p (.str s)]) := rfl
@[simp] theorem box_sl (r : Row PV) (b : Bool) : boxHB (.p (.sl r b)) = some (.cells [.p (.sl r b)]) := rfl
@[simp] theorem box_ptr0 : boxHB (.p .ptr0) = some (.cells [.p .ptr0]) := rfl
@[simp] theorem box_eptr (r : Row PV) (i j : Nat) : boxHB (.p (.eptr r i j)) = some (.cells [.p (.eptr r i j)]) := rfl
@[simp] theorem box_iface0 : boxHB (.p .iface0) = some (.cells [.p .iface0]) := rfl
@[simp] theorem box_fn (f : FuncId) (r : Row PV) : boxHB (.p (.fn f r)) = some (.cells [.p (.fn f r)]) := rfl
@[simp] theorem box_ifc (t : Nat) (x : PV) : boxHB (.p (.ifc t x)) = some (.cells [.p (.ifc t x)]) := rfl
@[simp] theorem box_row (r : Row PV) (t v : Nat) (b : Bool) : boxHB (.row r t v b) = some (.cells [.row r t v b]) := rfl
@[simp] theorem box_own (i v o n c : Nat) : boxHB (.own i v o n c) = some (.cells [.own i v o n c]) := rfl
@[simp] theorem box_ptr (i v o : Nat) : boxHB (.ptr i v o) = some (.cells [.ptr i v o]) := rfl
@[simp] theorem box_adr (i v o e n : Nat) : boxHB (.adr i v o e n) = some (.cells [.adr i v o e n]) := rfl
@[simp] theorem box_brow (e : Nat) (r : Row PV) (t v : Nat) (b : Bool) : boxHB (.brow e r t v b) = some (.cells [.brow e r t v b]) := rfl
end
def looks : Op → Bool
  | .move _ | .assign _ | .pick _ _ _ | .binOp _ _ _ _ _ | .unOp _ _ _ | .index _ _ _ | .field _ _ _ | .extract _ _ => true
  | .load _ _ | .nilCheck _ | .fieldAddr _ _ _ | .indexAddr _ _ _ => true
  | .slice _ _ _ _ none => true
  | .call { callee := .builtin .len, .. } => true
  | _ => false
section
variable [Tables] {P : Program}
variable {ops : Array Oper}
variable {K : St → Prop}
structure OrdOkA (P : Program) (ops : Array Oper) (n d : Nat) : Prop where
  edges : ∀ i o e, ops[i]? = some o → e ∈ o.after → Region.binds .any e = true → e.on < i
  free : ∀ i j oi oj, ops[i]? = some oi → ops[j]? = some oj → j < i → Anc ops i j ∨ indep P ops oj oi = true ∨ (i = n ∧ looks oj.op = true ∧ oj.apart ops oi = true)
  new : ∃ on t, ops[n]? = some on ∧ on.op = .alloc t ∧ on.guard = none ∧ on.dst = some d
  still : ∀ j oj, j < n → ops[j]? = some oj → (flags P oj.op).wH = false
end
attribute [simp] eqAts eqAt
theorem bytes_beq (a b : ByteArray) : (a == b) = (a.toList == b.toList) := by
  have e1 : (a == b) = (a.data == b.data) := by cases a; cases b; rfl
  rw [e1, bytes_toList, bytes_toList]
  cases h : (a.data.toList == b.data.toList) with
  | true => rw [beq_iff_eq]; exact Array.toList_inj.1 (eq_of_beq h)
  | false =>
    refine beq_eq_false_iff_ne.2 fun e => ?_
    rw [e] at h; simp at h
@[simp] theorem txt_beq' (a b : List (BitVec 8)) : (txt a == txt b) = (a == b) := by rw [bytes_beq, txt_beq]
end Go.Av
end
section
set_option linter.unusedVariables false
set_option linter.unusedSimpArgs false
set_option linter.unusedSectionVars false
namespace Go.Av
theorem two (a b : Bool) {p : Prop} (h : p) : (a = false ∧ b = false) ∨ ((a = true ∨ (a = false ∧ b = true)) ∧ p) := by
  cases a
  · cases b
    · exact .inl ⟨rfl, rfl⟩
    · exact .inr ⟨.inr ⟨rfl, rfl⟩, h⟩
  · exact .inr ⟨.inl rfl, h⟩
section
variable [Tables] {P : Program}
theorem PEq.agg {l l' : List PV} (h : PEqs l l') (h1 : ∀ x ∈ l', x.one = true) : PEq (.agg (.vals 1 l)) (.agg (.vals 1 l')) := by
  intro m v q
  cases q with
  | agg _ vs f hs hf ho hr =>
    have hlen := h.len
    refine .agg _ vs f (by simpa [Row.len, ← hlen] using hs) (fun i hi => hf i (by simpa [Row.len, hlen] using hi)) ?_ ?_
    · intro i hi
      have hi' : i < l'.length := by simpa [Row.len] using hi
      refine h1 _ ?_
      simp only [Row.elem, List.getD_eq_getElem?_getD, List.getElem?_eq_getElem hi', Option.getD_some]
      exact List.getElem_mem hi'
    · intro i hi
      exact h.get i _ _ (hr i (by simpa [Row.len, hlen] using hi))
end
section
def agP (c : List PV) : PV := .agg (.vals 1 c)
theorem agP_cell (c : List PV) (j : Nat) : (agP c).cell j = c.getD j .ptr0 := rfl
theorem PEq.rows {s : Nat} {L L' : List (List PV)} (nl : Bool) (hlen : L.length = L'.length)
    (h : ∀ i, i < L.length → (L.getD i []).length = s ∧ (L'.getD i []).length = s ∧ PEqs (L.getD i []) (L'.getD i []) ∧ ∀ x ∈ L'.getD i [], x.one = true) :
    PEq (.sl (.vals s (L.map agP)) nl) (.sl (.vals s (L'.map agP)) nl) := by
  have el : ∀ (M : List (List PV)) i, i < M.length → (Row.vals s (M.map agP) : Row PV).elem i = agP (M.getD i []) := by
    intro M i hi
    simp [Row.elem, List.getD_eq_getElem?_getD, hi]
  have ln : ∀ (M : List (List PV)), (Row.vals s (M.map agP) : Row PV).len = M.length := fun M => by simp [Row.len]
  intro m v q
  cases q with
  | slNil _ hz => exact .slNil _ (by rw [ln, ← hlen, ← ln]; exact hz)
  | sl _ a cap f hc ha hw hf h1 hr =>
    rw [ln] at hc ha hw hf h1 hr ⊢
    have hz : (Row.vals s (L.map agP) : Row PV).sz = s := rfl
    have hz' : (Row.vals s (L'.map agP) : Row PV).sz = s := rfl
    rw [hlen] at hc ha ⊢
    rw [← ln L'] at hc ha ⊢
    refine .sl _ a cap f hc ha ?_ ?_ ?_ ?_
    · intro i hi
      rw [ln] at hi
      rw [el _ _ hi, hz']
      exact (h i (by omega)).2.1
    · intro i j hi hj
      rw [ln] at hi
      exact hf i j (by omega) hj
    · intro i j hi hj
      rw [ln] at hi
      obtain ⟨a1, a2, a3, a4⟩ := h i (by omega)
      rw [el _ _ hi, agP_cell]
      have hj' : j < (L'.getD i []).length := by rw [a2]; exact hj
      refine a4 _ ?_
      simp only [List.getD_eq_getElem?_getD (l := L'.getD i []), List.getElem?_eq_getElem hj', Option.getD_some]
      exact List.getElem_mem hj'
    · intro i j hi hj
      rw [ln] at hi
      obtain ⟨a1, a2, a3, a4⟩ := h i (by omega)
      have := hr i j (by omega) hj
      rw [el _ _ (by omega), agP_cell] at this
      rw [el _ _ hi, agP_cell]
      exact a3.get j _ _ this
end
section
variable [Tables] {P : Program} {Q : Exit → St → Prop} {σ : St}
end
section
variable (K : Nat → Bool) (H : List (Nat × (Nat × HB)))
@[simp] theorem deeps_nil (n : Nat) : deeps K H n [] = some [] := by unfold deeps; cases n <;> rfl
theorem deeps_cons {n : Nat} {x : V} {y : PV} (l : List V) (hn : 1 ≤ n) (hx : deep K H (n - 1) x = some y) (h1 : y.one = true) :
    deeps K H n (x :: l) = (deeps K H (n - 1) l).map fun m => y :: m := by
  obtain ⟨k, rfl⟩ : ∃ k, n = k + 1 := ⟨n - 1, by omega⟩
  simp only [Nat.add_sub_cancel] at hx ⊢
  rw [deeps, hx]
  cases deeps K H k l with
  | none => rfl
  | some m => show (if y.one = true then _ else _) = _; rw [if_pos h1]; rfl
attribute [simp] PV.one optV
@[simp] theorem deeps_p {n : Nat} (x : PV) (l : List V) (hn : 2 ≤ n) (h1 : x.one = true) : deeps K H n (.p x :: l) = (deeps K H (n - 1) l).map fun m => x :: m :=
  deeps_cons K H l (by omega) (by obtain ⟨k, hk⟩ : ∃ k, n - 1 = k + 1 := ⟨n - 2, by omega⟩; rw [hk]; rfl) h1
@[simp] theorem deeps_row {n : Nat} (r : Row PV) (t v : Nat) (nl : Bool) (l : List V) (hn : 2 ≤ n) : deeps K H n (.row r t v nl :: l) = (deeps K H (n - 1) l).map fun m => .sl r nl :: m :=
  deeps_cons K H l (by omega) (by obtain ⟨k, hk⟩ : ∃ k, n - 1 = k + 1 := ⟨n - 2, by omega⟩; rw [hk]; rfl) rfl
end
end Go.Av
end
