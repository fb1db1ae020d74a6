/- The walks of this seat's functions, and what is known of what they reckon (Cha5). Conditions: those that each theorem names. -/
import Derived.Test.YtdbojjoffmbjcaaGreatDoorCha1
import Derived.Lib.Builder
import Derived.Lib.UnsafeStr
import Derived.WalkKit
import Derived.LaidEql
import Derived.Shelf.RegionOpenPlain
section
set_option linter.unusedSimpArgs false
set_option linter.unusedVariables false
set_option linter.unusedSectionVars false
open Go Go.Av Go.Proofs
namespace Go.Av.Cha
variable [ML]
theorem eqIn_same {P : Program} {t e n : TypeId} (hu : P.underlying t = some (.pointer e)) (hs : ∀ w, (Go.sizeOf e).run P w = .ok (n + 1) w) (d : Nat) (a : Addr) (w : World) :
    (Op.equalIn (d + 1) t (.pointer (some a)) (.pointer (some a))).run P w = .ok true w := by
  simp [Op.equalIn, run_underlying hu, hs, run_sameAddr_same]
theorem cc_used (w : World) (b : Nat) (h : w.cell? ⟨b, 0, none⟩ = some (.pointer (some ⟨b, 0, none⟩))) :
    Calls Tryz.prog 37 #[.pointer (some ⟨b, 0, none⟩)] w fun x w' => x = .returned (.tuple #[]) ∧ w' = w := by
  have t36 := Tryz.underlying40; have a36 := fun w => run_isAgg (P := Tryz.prog) (t := 40) (b := false) (by kernel_rfl) w; have z36 := fun w => tsize_run (P := Tryz.prog) (t := 40) (n := 1) (by kernel_rfl) w; have u36 := run_underlying t36
  have t38 := Tryz.underlying42; have a38 := fun w => run_isAgg (P := Tryz.prog) (t := 42) (b := true) (by kernel_rfl) w; have z38 := fun w => tsize_run (P := Tryz.prog) (t := 42) (n := 2) (by kernel_rfl) w; have u38 := run_underlying t38
  have t50 := Tryz.underlying87; have a50 := fun w => run_isAgg (P := Tryz.prog) (t := 87) (b := false) (by kernel_rfl) w; have z50 := fun w => tsize_run (P := Tryz.prog) (t := 87) (n := 1) (by kernel_rfl) w; have u50 := run_underlying t50
  have t4 := Tryz.underlying4; have a4 := fun w => run_isAgg (P := Tryz.prog) (t := 4) (b := false) (by kernel_rfl) w; have z4 := fun w => tsize_run (P := Tryz.prog) (t := 4) (n := 1) (by kernel_rfl) w; have u4 := run_underlying t4
  have hq : (binOp .neq 40 (.pointer (some ⟨b, 0, none⟩)) (.pointer (some ⟨b, 0, none⟩))).run Tryz.prog w = .ok (.bool false) w := by
    have : (Op.equal 40 (.pointer (some ⟨b, 0, none⟩)) (.pointer (some ⟨b, 0, none⟩))).run Tryz.prog w = .ok true w := eqIn_same (n := 1) t36 z38 9999 _ w
    simp [binOp, this]
  go_enter Tryz.func37, Tryz.ntmps37
  go_wp2
  go_end0
  exact ⟨rfl, rfl⟩
set_option maxRecDepth 4000 in
theorem cc_fresh (w : World) (b : Nat) (h0 : w.cell? ⟨b, 0, none⟩ = some (.pointer none)) (hsh : w.shape? b = some (42, 2)) (hfz : w.frozen? ⟨b, 0, none⟩ = false) :
    Calls Tryz.prog 37 #[.pointer (some ⟨b, 0, none⟩)] w fun x w' => x = .returned (.tuple #[]) ∧ w' = w.setCell ⟨b, 0, none⟩ (.pointer (some ⟨b, 0, none⟩)) := by
  obtain ⟨j, hj, hjs⟩ := Option.map_eq_some_iff.1 (show (Tryz.prog.info? 42).map (·.size) = some 2 by kernel_rfl)
  have t36 := Tryz.underlying40; have a36 := fun w => run_isAgg (P := Tryz.prog) (t := 40) (b := false) (by kernel_rfl) w; have z36 := fun w => tsize_run (P := Tryz.prog) (t := 40) (n := 1) (by kernel_rfl) w; have u36 := run_underlying t36
  have t38 := Tryz.underlying42; have a38 := fun w => run_isAgg (P := Tryz.prog) (t := 42) (b := true) (by kernel_rfl) w; have z38 := fun w => tsize_run (P := Tryz.prog) (t := 42) (n := 2) (by kernel_rfl) w; have u38 := run_underlying t38
  have t50 := Tryz.underlying87; have a50 := fun w => run_isAgg (P := Tryz.prog) (t := 87) (b := false) (by kernel_rfl) w; have z50 := fun w => tsize_run (P := Tryz.prog) (t := 87) (n := 1) (by kernel_rfl) w; have u50 := run_underlying t50
  have t4 := Tryz.underlying4; have a4 := fun w => run_isAgg (P := Tryz.prog) (t := 4) (b := false) (by kernel_rfl) w; have z4 := fun w => tsize_run (P := Tryz.prog) (t := 4) (n := 1) (by kernel_rfl) w; have u4 := run_underlying t4
  go_enter Tryz.func37, Tryz.ntmps37
  go_wp2
  rw [Lib.run_to_unsafe w ⟨b, 0, none⟩ t36 t50 hj (by rw [hjs]; decide) hsh (Nat.zero_lt_succ 1)]
  simp only [Result.andThen]
  rw [Oper.upon_value]
  go_wp2
  rw [run_callFunc_extern Tryz.func56 (by kernel_rfl) (by kernel_rfl) (by kernel_rfl) (e := Extern.AbiNoEscape.same) (by kernel_rfl)]
  rw [Lib.run_noEscape]
  simp only [Result.andThen]
  rw [Oper.upon_value]
  go_wp2
  rw [Lib.run_from_unsafe w ⟨b, 0, none⟩ t50 t36 hj hsh (by kernel_rfl)]
  simp only [Result.andThen]
  rw [Oper.upon_value]
  go_wp2
  go_end0
  exact ⟨rfl, rfl⟩
theorem copy_ok : PrimOk Tryz.prog 37 (copyPrim 42 2 0) := copyPrim_ok (fun args w => Tryz.call37 args w) cc_fresh cc_used
theorem st_full (w : World) (b g cap : Nat) (l : List UInt8) (cur : Array Value) (fz : Nat × Nat) (h0 : l ≠ []) (c1 : w.cell? ⟨b, 0 + 1, none⟩ = some (.slice (some ⟨g, 0, none⟩) l.length cap)) (hcap : cap ≠ 0)
    (hg : w.heap[g]? = some (.cells cur 5 fz)) (hcs : l.length ≤ cur.size) (hbig : l.length ≤ 140737488355328) (hcell : ∀ j x, l[j]? = some x → w.cell? ⟨g, j, none⟩ = some (.int .u8 x.toNat)) :
    Calls Tryz.prog 26 #[.pointer (some ⟨b, 0, none⟩)] w fun x w' => x = .returned (.string ⟨l.toArray⟩) ∧ w' = w.drew.freeze ⟨g, 0, none⟩ l.length := by
  have hSD : (Builtin.unsafeSliceData_ #[27] 71 #[.slice (some ⟨g, 0, none⟩) l.length cap]).run Tryz.prog w.drew = .ok (.pointer (some ⟨g, 0, none⟩)) w.drew :=
    Lib.run_unsafeSliceData_row _ _ _ _ _ _ hcap
  have c1' : w.drew.cell? ⟨b, 1, none⟩ = some (.slice (some ⟨g, 0, none⟩) l.length cap) := c1
  have t36 := Tryz.underlying40; have a36 := fun w => run_isAgg (P := Tryz.prog) (t := 40) (b := false) (by kernel_rfl) w; have z36 := fun w => tsize_run (P := Tryz.prog) (t := 40) (n := 1) (by kernel_rfl) w; have u36 := run_underlying t36
  have t38 := Tryz.underlying42; have a38 := fun w => run_isAgg (P := Tryz.prog) (t := 42) (b := true) (by kernel_rfl) w; have z38 := fun w => tsize_run (P := Tryz.prog) (t := 42) (n := 2) (by kernel_rfl) w; have u38 := run_underlying t38
  have t22 := Tryz.underlying27; have a22 := fun w => run_isAgg (P := Tryz.prog) (t := 27) (b := false) (by kernel_rfl) w; have z22 := fun w => tsize_run (P := Tryz.prog) (t := 27) (n := 1) (by kernel_rfl) w; have u22 := run_underlying t22
  have t48 := Tryz.underlying71; have a48 := fun w => run_isAgg (P := Tryz.prog) (t := 71) (b := false) (by kernel_rfl) w; have z48 := fun w => tsize_run (P := Tryz.prog) (t := 71) (n := 1) (by kernel_rfl) w; have u48 := run_underlying t48
  have t3 := Tryz.underlying3; have a3 := fun w => run_isAgg (P := Tryz.prog) (t := 3) (b := false) (by kernel_rfl) w; have z3 := fun w => tsize_run (P := Tryz.prog) (t := 3) (n := 1) (by kernel_rfl) w; have u3 := run_underlying t3
  have t9 := Tryz.underlying9; have a9 := fun w => run_isAgg (P := Tryz.prog) (t := 9) (b := false) (by kernel_rfl) w; have z9 := fun w => tsize_run (P := Tryz.prog) (t := 9) (n := 1) (by kernel_rfl) w; have u9 := run_underlying t9
  have t5 := Tryz.underlying5; have a5 := fun w => run_isAgg (P := Tryz.prog) (t := 5) (b := false) (by kernel_rfl) w; have z5 := fun w => tsize_run (P := Tryz.prog) (t := 5) (n := 1) (by kernel_rfl) w; have u5 := run_underlying t5
  have hUS : (Builtin.unsafeString_ #[71, 3] 9 #[.pointer (some ⟨g, 0, none⟩), .int .i64 l.length]).run Tryz.prog w.drew = .ok (.string ⟨l.toArray⟩) (w.drew.freeze ⟨g, 0, none⟩ l.length) := by
    refine Lib.run_unsafeString_row w.drew 71 3 9 5 t48 (by kernel_rfl) g cur.size (by have hg' : w.drew.heap[g]? = some (.cells cur 5 fz) := hg; simp [World.shape?, hg']) l h0 (by omega) (by omega) ?_
    intro j x hx
    have := hcell j x hx
    rw [addr_add, Nat.zero_add]; exact this
  have mixed : Tryz.prog.follows .mixedOrders = true := by kernel_rfl
  go_enter Tryz.func26, Tryz.ntmps26
  go_wp2
  go_region_o
  all_goals (go_wp2; go_ret; exact ⟨rfl, rfl⟩)
theorem st_none (w : World) (b : Nat) (c1 : w.cell? ⟨b, 0 + 1, none⟩ = some (.slice none 0 0)) :
    Calls Tryz.prog 26 #[.pointer (some ⟨b, 0, none⟩)] w fun x w' => x = .returned (.string ByteArray.empty) ∧ w' = w.drew := by
  have c1' : w.drew.cell? ⟨b, 1, none⟩ = some (.slice none 0 0) := c1
  have t36 := Tryz.underlying40; have a36 := fun w => run_isAgg (P := Tryz.prog) (t := 40) (b := false) (by kernel_rfl) w; have z36 := fun w => tsize_run (P := Tryz.prog) (t := 40) (n := 1) (by kernel_rfl) w; have u36 := run_underlying t36
  have t38 := Tryz.underlying42; have a38 := fun w => run_isAgg (P := Tryz.prog) (t := 42) (b := true) (by kernel_rfl) w; have z38 := fun w => tsize_run (P := Tryz.prog) (t := 42) (n := 2) (by kernel_rfl) w; have u38 := run_underlying t38
  have t22 := Tryz.underlying27; have a22 := fun w => run_isAgg (P := Tryz.prog) (t := 27) (b := false) (by kernel_rfl) w; have z22 := fun w => tsize_run (P := Tryz.prog) (t := 27) (n := 1) (by kernel_rfl) w; have u22 := run_underlying t22
  have t48 := Tryz.underlying71; have a48 := fun w => run_isAgg (P := Tryz.prog) (t := 71) (b := false) (by kernel_rfl) w; have z48 := fun w => tsize_run (P := Tryz.prog) (t := 71) (n := 1) (by kernel_rfl) w; have u48 := run_underlying t48
  have t3 := Tryz.underlying3; have a3 := fun w => run_isAgg (P := Tryz.prog) (t := 3) (b := false) (by kernel_rfl) w; have z3 := fun w => tsize_run (P := Tryz.prog) (t := 3) (n := 1) (by kernel_rfl) w; have u3 := run_underlying t3
  have t9 := Tryz.underlying9; have a9 := fun w => run_isAgg (P := Tryz.prog) (t := 9) (b := false) (by kernel_rfl) w; have z9 := fun w => tsize_run (P := Tryz.prog) (t := 9) (n := 1) (by kernel_rfl) w; have u9 := run_underlying t9
  have t5 := Tryz.underlying5; have a5 := fun w => run_isAgg (P := Tryz.prog) (t := 5) (b := false) (by kernel_rfl) w; have z5 := fun w => tsize_run (P := Tryz.prog) (t := 5) (n := 1) (by kernel_rfl) w; have u5 := run_underlying t5
  have hUS := fun (pt it ty : TypeId) => Lib.run_unsafeString_none (P := Tryz.prog) (w := w.drew) pt it ty none
  have hSD := fun (ts : Array TypeId) (ty : TypeId) => Lib.run_unsafeSliceData_nil (P := Tryz.prog) (w := w.drew) ts ty 0 0
  have mixed : Tryz.prog.follows .mixedOrders = true := by kernel_rfl
  go_enter Tryz.func26, Tryz.ntmps26
  go_wp2
  go_region_o
  all_goals (go_wp2; go_ret; exact ⟨rfl, rfl⟩)
theorem str_ok : PrimOk Tryz.prog 26 (strPrim 5 0) := strPrim_ok (fun args w => Tryz.call26 args w) st_full st_none
theorem ws_ct (l : List (BitVec 8)) (nl : Bool) (c : List (BitVec 8)) (hl : l.length ≤ 100000000) (hc : c.length ≤ 100000000) :
    FnG Tryz.prog 25 [.ptr 10000 0 0, .p (.str (txt c))] [.cells [.adr 10000 0 0 42 2, .brow 5 (bl l) 10000 0 nl]] 1 [.p (.int .i64 c.length), .p .iface0] [.cells [.adr 10000 0 0 42 2, .brow 5 (bl (l ++ c)) 0 0 (nl && c.length == 0)]] 1 := by
  have hz := txt_size c
  have hb := txt_bytes c
  have hs : l.length + c.length ≤ 140737488355328 := by omega
  refine FnG.of_body Tryz.func25 rfl ?_
  repeat (first | ((with_reducible refine callK_at 37 ?_); refine callK_b (by first | decide | exact Nat.le_of_ble_eq_true rfl) (copy_ok) ?_; simp (maxSteps := 1000000) (disch := refine hold_ ?_; first | (simp [Go.Av.copyPrim, Go.Av.strPrim, hl, hz, hb, hs, -List.getD_eq_getElem?_getD]; done) | omega) [Go.Av.copyPrim, Go.Av.strPrim, hl, hz, hb, hs, -List.getD_eq_getElem?_getD]; first | refine zZ ?_ | subst hK_) | ((first | (with_reducible first | refine zP fun K_ hK_ => ?_ | refine zQ fun K_ hK_ => ?_ | refine zT ?_ | refine zU ?_ | refine zV ?_ | refine zW ?_ | refine zX ?_ | refine zY ?_) | ((with_reducible first | refine zR ?_ ?_ fun K_ hK_ => ?_ | refine zS ?_ ?_ fun K_ hK_ => ?_); (focus kernel_rfl); (focus kernel_rfl))); first | (simp (maxSteps := 1000000) (disch := refine hold_ ?_; first | (simp [hl, hz, hb, hs, -List.getD_eq_getElem?_getD]; done) | omega) [hl, hz, hb, hs, -List.getD_eq_getElem?_getD]; try first | (with_reducible refine zZ ?_) | subst hK_) | subst hK_) | (with_reducible first | refine zA ?_ | refine zB ?_ | refine zC ?_ | refine zD ?_ | refine zE ?_ | refine zF ?_ | refine zG ?_ | refine zH ?_ | refine zI ?_ | refine zJ ?_ | refine zK ?_ | refine zL ?_ | refine zM ?_ | refine zN ?_ | refine zO ?_) | ((with_reducible refine yG ?_ ?_); (focus decide)) | ((with_reducible refine yA ?_); refine yB rfl ?_; (with_reducible first | refine yC ?_ | refine yD ?_)))
  simp (maxSteps := 1000000) (disch := refine hold_ ?_; first | (simp [hl, -List.getD_eq_getElem?_getD]; done) | omega) [hl, -List.getD_eq_getElem?_getD]
end Go.Av.Cha
end
section
set_option linter.unusedSimpArgs false
set_option linter.unusedVariables false
set_option linter.unusedSectionVars false
open Go Go.Av Go.Proofs
namespace Go.Av.Cha
variable [ML]
@[simp] theorem ub_natC (x : BitVec 8) : (ub x).toNat = x.toNat := by unfold ub; simp
theorem ub_ne {b c : BitVec 8} (h : ¬ b = c) : ¬ ub b = ub c := fun e => h (BitVec.eq_of_toNat_eq (by unfold ub at e; omega))
def blk (b : BitVec 8) : BitVec 8 := if b = 9#8 ∨ b = 10#8 ∨ b = 13#8 then 32#8 else b
def tabT : List Int := ((((List.range 256).map fun n : Nat => (n : Int)).set 13 32).set 10 32).set 9 32
theorem tabT_len : tabT.length = 256 := by simp [tabT]
theorem tabT_get (b : BitVec 8) : tabT.getD b.toNat 0 = ub (blk b) := by
  have : ∀ n, n < 256 → tabT.getD n 0 = ub (blk (BitVec.ofNat 8 n)) := by
    have h : (List.range 256).all (fun n => tabT.getD n 0 == ub (blk (BitVec.ofNat 8 n))) = true := by kernel_rfl
    intro n hn
    exact beq_iff_eq.1 (List.all_eq_true.1 h n (List.mem_range.2 hn))
  have h := this b.toNat b.isLt
  rw [h]; congr 2; simp
def tabP : PV := .eptr (.vals 256 [.agg (.ints .u8 tabT)]) 0 0
def chg (l : List (BitVec 8)) (k : Nat) : List (BitVec 8) := (l.take k).map blk ++ l.drop k
theorem chg_zero (l : List (BitVec 8)) : chg l 0 = l := by simp [chg]
theorem chg_end (l : List (BitVec 8)) : chg l l.length = l.map blk := by simp [chg]
theorem chg_len (l : List (BitVec 8)) (k : Nat) : (chg l k).length = l.length := by simp [chg]; omega
theorem chg_succ (l : List (BitVec 8)) (k : Nat) (h : k < l.length) : chg l (k + 1) = (chg l k).set k (blk (l.getD k 0#8)) := by
  unfold chg
  have e : ((l.take k).map blk).length = k := by simp; omega
  have g : l.getD k 0#8 = l[k] := by simp [List.getD_eq_getElem?_getD, h]
  rw [List.set_append_right _ _ (by omega), e, Nat.sub_self, List.drop_eq_getElem_cons h, List.set_cons_zero, List.take_succ_eq_append_getElem h, g, List.map_append, List.append_assoc]
  rfl
theorem chg_same (l : List (BitVec 8)) (k : Nat) (h : k < l.length) (hb : blk (l.getD k 0#8) = l.getD k 0#8) : chg l (k + 1) = chg l k := by
  rw [chg_succ l k h, hb]
  unfold chg
  have e : ((l.take k).map blk).length = k := by simp; omega
  rw [List.set_append_right _ _ (by omega), e, Nat.sub_self, List.drop_eq_getElem_cons h, List.set_cons_zero]
  simp [List.getD_eq_getElem?_getD, h]
def room (l : List (BitVec 8)) (c : Nat) : List (BitVec 8) := l ++ List.replicate c 0#8
theorem room_len (l : List (BitVec 8)) (c : Nat) : (room l c).length = l.length + c := by simp [room]
theorem room_set (l : List (BitVec 8)) (c k : Nat) (b : BitVec 8) (h : k < l.length) : (room l c).set k b = room (l.set k b) c := by
  unfold room; rw [List.set_append_left _ _ h]
theorem room_take (l : List (BitVec 8)) (c : Nat) : (room l c).take l.length = l := by simp [room]
theorem conv_room (l : List (BitVec 8)) (c : Nat) : Row.ints IntKind.u8 (((txt l).data.toList.map fun x => (x.toNat : Int)) ++ List.replicate c 0) = bl (room l c) := by
  rw [conv_txt]; rfl
end Go.Av.Cha
end
section
set_option linter.unusedSimpArgs false
set_option linter.unusedVariables false
set_option linter.unusedSectionVars false
open Go Go.Av Go.Proofs
namespace Go.Av.Cha
variable [ML]
def brS (T : List Int) (l : List (BitVec 8)) (k : Nat) : Option Nat → St
  | none => ⟨(.p (.eptr (.vals 256 [.agg (.ints .u8 T)]) 0 0) :: .p (.str (txt l)) :: V.junk :: V.junk :: V.junk :: .p (.sl (.vals 1 []) true) :: .p (.int .i64 k) :: V.junk :: V.junk :: V.junk :: V.junk :: V.junk :: V.junk :: V.junk :: V.junk :: V.junk :: V.junk :: V.junk :: V.junk :: V.junk :: V.junk :: V.junk :: V.junk :: V.junk :: V.junk :: V.junk :: V.junk :: V.junk :: V.junk :: V.junk :: V.junk :: V.junk :: V.junk :: V.junk :: V.junk :: V.junk :: V.junk :: V.junk :: V.junk :: V.junk :: V.junk :: []), ⟨[], []⟩⟩
  | some c => ⟨(.p (.eptr (.vals 256 [.agg (.ints .u8 T)]) 0 0) :: .p (.str (txt l)) :: V.junk :: V.junk :: V.junk :: .own 27 0 0 l.length (l.length + c) :: .p (.int .i64 k) :: V.junk :: V.junk :: V.junk :: V.junk :: V.junk :: V.junk :: V.junk :: V.junk :: V.junk :: V.junk :: V.junk :: V.junk :: V.junk :: V.junk :: V.junk :: V.junk :: V.junk :: V.junk :: V.junk :: V.junk :: V.junk :: V.junk :: V.junk :: V.junk :: V.junk :: V.junk :: V.junk :: V.junk :: V.junk :: V.junk :: V.junk :: V.junk :: V.junk :: V.junk :: []), ⟨[(27, (0, .row (bl (room (chg l k) c))))], []⟩⟩
def brI (T : List Int) (l : List (BitVec 8)) (m : Nat) (σ : St) : Prop := ∃ k, m = l.length - k ∧ k ≤ l.length ∧ ∃ o, σ = brS T l k o ∧ (o = none → chg l k = l)
set_option maxRecDepth 10000 in
set_option maxHeartbeats 10000000 in
theorem br_ct (l : List (BitVec 8)) (hl : l.length ≤ 4000000) : Fn Tryz.prog 126 [tabP, .str (txt l)] [.p (.str (txt (l.map blk)))] := by
  have hsz := txt_size l
  have hTl := tabT_len
  have hTg := tabT_get
  unfold tabP
  generalize tabT = T at *
  refine Fn.of_body Tryz.func126 rfl ?_
  repeat (first | ((first | (with_reducible first | refine zP fun K_ hK_ => ?_ | refine zQ fun K_ hK_ => ?_ | refine zT ?_ | refine zU ?_ | refine zV ?_ | refine zW ?_ | refine zX ?_ | refine zY ?_) | ((with_reducible first | refine zR ?_ ?_ fun K_ hK_ => ?_ | refine zS ?_ ?_ fun K_ hK_ => ?_); (focus kernel_rfl); (focus kernel_rfl))); first | (simp (maxSteps := 1000000) (disch := refine hold_ ?_; first | (simp [hsz, -List.getD_eq_getElem?_getD]; done) | omega) [hsz, -List.getD_eq_getElem?_getD]; try first | (with_reducible refine zZ ?_) | subst hK_) | subst hK_) | (with_reducible first | refine zA ?_ | refine zB ?_ | refine zC ?_ | refine zD ?_ | refine zE ?_ | refine zF ?_ | refine zG ?_ | refine zH ?_ | refine zI ?_ | refine zJ ?_ | refine zK ?_ | refine zL ?_ | refine zM ?_ | refine zN ?_ | refine zO ?_) | ((with_reducible refine yG ?_ ?_); (focus decide)) | ((with_reducible refine yA ?_); refine yB rfl ?_; (with_reducible first | refine yC ?_ | refine yD ?_)))
  refine AW.iterI (true :: true :: false :: false :: false :: true :: true :: false :: false :: false :: false :: false :: false :: false :: false :: false :: false :: false :: false :: false :: false :: false :: false :: false :: false :: false :: false :: false :: false :: false :: false :: false :: false :: false :: false :: false :: false :: false :: false :: false :: false :: []) l.length (brI T l) (τ := brS T l 0 none) ?_ ⟨0, by simp, Nat.zero_le _, none, rfl, fun _ => chg_zero l⟩ ?_
  · unfold brS
    simp (maxSteps := 1000000) (disch := refine hold_ ?_; first | (simp [-List.getD_eq_getElem?_getD]; done) | omega) [-List.getD_eq_getElem?_getD]
  rintro m σ ⟨k, rfl, hk, o, rfl, ho⟩
  have e1 : IntKind.i64.wrap ((k : Int) + 1) = k + 1 := wrap_i64 _ (by omega) (by omega)
  have hg : (((txt l).data.toList.getD k 0).toNat : Int) = ub (l.getD k 0#8) := txt_get l k
  have hcl := chg_len l k
  by_cases hkc : k < l.length
  · have hkz : (k : Int) < l.length := by omega
    have hs := chg_succ l k hkc
    have hsame := chg_same l k hkc
    have hTb := hTg (l.getD k 0#8)
    have hlt := (l.getD k 0#8).isLt
    have hu0 := (ub_lt (l.getD k 0#8)).1
    have hu1 := (ub_lt (l.getD k 0#8)).2
    have hlen0 := chg_len l (k + 1)
    generalize hB : chg l (k + 1) = B at *
    generalize hA : chg l k = A at *
    generalize l.getD k 0#8 = b at *
    have hbT : b.toNat < T.length := by omega
    by_cases hb : blk b = b
    · rw [hb] at hTb
      have hBA := hsame hb
      cases o with
      | none =>
        unfold brS
        repeat (first | ((first | (with_reducible first | refine zP fun K_ hK_ => ?_ | refine zQ fun K_ hK_ => ?_ | refine zT ?_ | refine zU ?_ | refine zV ?_ | refine zW ?_ | refine zX ?_ | refine zY ?_) | ((with_reducible first | refine zR ?_ ?_ fun K_ hK_ => ?_ | refine zS ?_ ?_ fun K_ hK_ => ?_); (focus kernel_rfl); (focus kernel_rfl))); first | (simp (maxSteps := 1000000) (disch := refine hold_ ?_; first | (simp [hsz, hg, hkz, hkc, e1, hTl, hTb, hlt, hbT, hu0, hu1, -List.getD_eq_getElem?_getD]; done) | omega) [hsz, hg, hkz, hkc, e1, hTl, hTb, hlt, hbT, hu0, hu1, -List.getD_eq_getElem?_getD]; try first | (with_reducible refine zZ ?_) | subst hK_) | subst hK_) | (with_reducible first | refine zA ?_ | refine zB ?_ | refine zC ?_ | refine zD ?_ | refine zE ?_ | refine zF ?_ | refine zG ?_ | refine zH ?_ | refine zI ?_ | refine zJ ?_ | refine zK ?_ | refine zL ?_ | refine zM ?_ | refine zN ?_ | refine zO ?_) | ((with_reducible refine yG ?_ ?_); (focus decide)) | ((with_reducible refine yA ?_); refine yB rfl ?_; (with_reducible first | refine yC ?_ | refine yD ?_)))
        refine ⟨l.length - (k + 1), brS T l (k + 1) none, by omega, ?_, k + 1, rfl, hkc, none, rfl, fun _ => by rw [hB, hBA]; exact ho rfl⟩
        unfold brS
        simp (maxSteps := 1000000) (disch := refine hold_ ?_; first | (simp [-List.getD_eq_getElem?_getD]; done) | omega) [-List.getD_eq_getElem?_getD]
      | some c =>
        unfold brS
        rw [hA]
        repeat (first | ((first | (with_reducible first | refine zP fun K_ hK_ => ?_ | refine zQ fun K_ hK_ => ?_ | refine zT ?_ | refine zU ?_ | refine zV ?_ | refine zW ?_ | refine zX ?_ | refine zY ?_) | ((with_reducible first | refine zR ?_ ?_ fun K_ hK_ => ?_ | refine zS ?_ ?_ fun K_ hK_ => ?_); (focus kernel_rfl); (focus kernel_rfl))); first | (simp (maxSteps := 1000000) (disch := refine hold_ ?_; first | (simp [hsz, hg, hkz, hkc, e1, hTl, hTb, hlt, hbT, hu0, hu1, -List.getD_eq_getElem?_getD]; done) | omega) [hsz, hg, hkz, hkc, e1, hTl, hTb, hlt, hbT, hu0, hu1, -List.getD_eq_getElem?_getD]; try first | (with_reducible refine zZ ?_) | subst hK_) | subst hK_) | (with_reducible first | refine zA ?_ | refine zB ?_ | refine zC ?_ | refine zD ?_ | refine zE ?_ | refine zF ?_ | refine zG ?_ | refine zH ?_ | refine zI ?_ | refine zJ ?_ | refine zK ?_ | refine zL ?_ | refine zM ?_ | refine zN ?_ | refine zO ?_) | ((with_reducible refine yG ?_ ?_); (focus decide)) | ((with_reducible refine yA ?_); refine yB rfl ?_; (with_reducible first | refine yC ?_ | refine yD ?_)))
        refine ⟨l.length - (k + 1), brS T l (k + 1) (some c), by omega, ?_, k + 1, rfl, hkc, some c, rfl, fun h => nomatch h⟩
        unfold brS
        rw [hB, hBA]
        simp (maxSteps := 1000000) (disch := refine hold_ ?_; first | (simp [-List.getD_eq_getElem?_getD]; done) | omega) [-List.getD_eq_getElem?_getD]
    · have hne : (ub (blk b) != ub b) = true := bne_iff_ne.2 (ub_ne hb)
      have hr : ∀ c, (room A c).set k (blk b) = room B c := by
        intro c
        rw [room_set _ _ _ _ (by omega), hs]
      have hrl : ∀ c, (room A c).length = l.length + c := by intro c; rw [room_len, hcl]
      have hkk : ∀ c, k < l.length + c := by intro c; omega
      cases o with
      | none =>
        have hAl : A = l := ho rfl
        subst hAl
        have hcv := conv_room A
        unfold brS
        repeat (first | ((with_reducible first | refine Go.Av.AW.regCAt 8 [1] ?_ fun K_ hK_ => ?_ | refine Go.Av.AW.regCAt1 8 [1] ?_ fun K_ hK_ => ?_); (focus decide)) | ((with_reducible refine Go.Av.runC_cons fun K_ hK_ => ?_); (try simp (maxSteps := 1000000) (disch := refine hold_ ?_; first | (simp [hsz, hg, hkz, hkc, e1, hTl, hTb, hlt, hbT, hu0, hu1, hne, hcv, hr, hrl, hkk, -List.getD_eq_getElem?_getD]; done) | omega) [hsz, hg, hkz, hkc, e1, hTl, hTb, hlt, hbT, hu0, hu1, hne, hcv, hr, hrl, hkk, -List.getD_eq_getElem?_getD]); try first | (with_reducible refine zZ ?_) | subst hK_) | ((with_reducible refine Go.Av.runC_nil ?_); (try simp (maxSteps := 1000000) (disch := refine hold_ ?_; first | (simp [hsz, hg, hkz, hkc, e1, hTl, hTb, hlt, hbT, hu0, hu1, hne, hcv, hr, hrl, hkk, -List.getD_eq_getElem?_getD]; done) | omega) [hsz, hg, hkz, hkc, e1, hTl, hTb, hlt, hbT, hu0, hu1, hne, hcv, hr, hrl, hkk, -List.getD_eq_getElem?_getD]); try first | (with_reducible refine zZ ?_) | subst hK_) | ((with_reducible refine Go.Av.XS_at 1 ?_); refine Go.Av.XS.conv rfl rfl rfl fun c_ => ?_; (try simp (maxSteps := 1000000) (disch := refine hold_ ?_; first | (simp [hsz, hg, hkz, hkc, e1, hTl, hTb, hlt, hbT, hu0, hu1, hne, hcv, hr, hrl, hkk, -List.getD_eq_getElem?_getD]; done) | omega) [hsz, hg, hkz, hkc, e1, hTl, hTb, hlt, hbT, hu0, hu1, hne, hcv, hr, hrl, hkk, -List.getD_eq_getElem?_getD]); try first | (with_reducible refine zZ ?_) | subst hK_) | ((first | (with_reducible first | refine zP fun K_ hK_ => ?_ | refine zQ fun K_ hK_ => ?_ | refine zT ?_ | refine zU ?_ | refine zV ?_ | refine zW ?_ | refine zX ?_ | refine zY ?_) | ((with_reducible first | refine zR ?_ ?_ fun K_ hK_ => ?_ | refine zS ?_ ?_ fun K_ hK_ => ?_); (focus kernel_rfl); (focus kernel_rfl))); first | (simp (maxSteps := 1000000) (disch := refine hold_ ?_; first | (simp [hsz, hg, hkz, hkc, e1, hTl, hTb, hlt, hbT, hu0, hu1, hne, hcv, hr, hrl, hkk, -List.getD_eq_getElem?_getD]; done) | omega) [hsz, hg, hkz, hkc, e1, hTl, hTb, hlt, hbT, hu0, hu1, hne, hcv, hr, hrl, hkk, -List.getD_eq_getElem?_getD]; try first | (with_reducible refine zZ ?_) | subst hK_) | subst hK_) | (with_reducible first | refine zA ?_ | refine zB ?_ | refine zC ?_ | refine zD ?_ | refine zE ?_ | refine zF ?_ | refine zG ?_ | refine zH ?_ | refine zI ?_ | refine zJ ?_ | refine zK ?_ | refine zL ?_ | refine zM ?_ | refine zN ?_ | refine zO ?_) | ((with_reducible refine yG ?_ ?_); (focus decide)) | ((with_reducible refine yA ?_); refine yB rfl ?_; (with_reducible first | refine yC ?_ | refine yD ?_)))
        refine ⟨A.length - (k + 1), by omega, brS T A (k + 1) (some c_), ?_, k + 1, rfl, hkc, some c_, rfl, fun h => nomatch h⟩
        unfold brS
        rw [hB]
        simp (maxSteps := 1000000) (disch := refine hold_ ?_; first | (simp [-List.getD_eq_getElem?_getD]; done) | omega) [-List.getD_eq_getElem?_getD]
      | some c =>
        unfold brS
        rw [hA]
        repeat (first | ((with_reducible first | refine Go.Av.AW.regCAt 7 [1] ?_ fun K_ hK_ => ?_ | refine Go.Av.AW.regCAt1 7 [1] ?_ fun K_ hK_ => ?_); (focus decide)) | ((with_reducible refine Go.Av.runC_cons fun K_ hK_ => ?_); (try simp (maxSteps := 1000000) (disch := refine hold_ ?_; first | (simp [hsz, hg, hkz, hkc, e1, hTl, hTb, hlt, hbT, hu0, hu1, hne, hr, hrl, hkk, -List.getD_eq_getElem?_getD]; done) | omega) [hsz, hg, hkz, hkc, e1, hTl, hTb, hlt, hbT, hu0, hu1, hne, hr, hrl, hkk, -List.getD_eq_getElem?_getD]); try first | (with_reducible refine zZ ?_) | subst hK_) | ((with_reducible refine Go.Av.runC_nil ?_); (try simp (maxSteps := 1000000) (disch := refine hold_ ?_; first | (simp [hsz, hg, hkz, hkc, e1, hTl, hTb, hlt, hbT, hu0, hu1, hne, hr, hrl, hkk, -List.getD_eq_getElem?_getD]; done) | omega) [hsz, hg, hkz, hkc, e1, hTl, hTb, hlt, hbT, hu0, hu1, hne, hr, hrl, hkk, -List.getD_eq_getElem?_getD]); try first | (with_reducible refine zZ ?_) | subst hK_) | ((with_reducible refine Go.Av.XS_at 1 ?_); refine Go.Av.XS.ownNil rfl rfl rfl rfl rfl Tryz.underlying27 rfl ?_; (try simp (maxSteps := 1000000) (disch := refine hold_ ?_; first | (simp [hsz, hg, hkz, hkc, e1, hTl, hTb, hlt, hbT, hu0, hu1, hne, hr, hrl, hkk, -List.getD_eq_getElem?_getD]; done) | omega) [hsz, hg, hkz, hkc, e1, hTl, hTb, hlt, hbT, hu0, hu1, hne, hr, hrl, hkk, -List.getD_eq_getElem?_getD]); try first | (with_reducible refine zZ ?_) | subst hK_) | ((first | (with_reducible first | refine zP fun K_ hK_ => ?_ | refine zQ fun K_ hK_ => ?_ | refine zT ?_ | refine zU ?_ | refine zV ?_ | refine zW ?_ | refine zX ?_ | refine zY ?_) | ((with_reducible first | refine zR ?_ ?_ fun K_ hK_ => ?_ | refine zS ?_ ?_ fun K_ hK_ => ?_); (focus kernel_rfl); (focus kernel_rfl))); first | (simp (maxSteps := 1000000) (disch := refine hold_ ?_; first | (simp [hsz, hg, hkz, hkc, e1, hTl, hTb, hlt, hbT, hu0, hu1, hne, hr, hrl, hkk, -List.getD_eq_getElem?_getD]; done) | omega) [hsz, hg, hkz, hkc, e1, hTl, hTb, hlt, hbT, hu0, hu1, hne, hr, hrl, hkk, -List.getD_eq_getElem?_getD]; try first | (with_reducible refine zZ ?_) | subst hK_) | subst hK_) | (with_reducible first | refine zA ?_ | refine zB ?_ | refine zC ?_ | refine zD ?_ | refine zE ?_ | refine zF ?_ | refine zG ?_ | refine zH ?_ | refine zI ?_ | refine zJ ?_ | refine zK ?_ | refine zL ?_ | refine zM ?_ | refine zN ?_ | refine zO ?_) | ((with_reducible refine yG ?_ ?_); (focus decide)) | ((with_reducible refine yA ?_); refine yB rfl ?_; (with_reducible first | refine yC ?_ | refine yD ?_)))
        refine ⟨l.length - (k + 1), by omega, brS T l (k + 1) (some c), ?_, k + 1, rfl, hkc, some c, rfl, fun h => nomatch h⟩
        unfold brS
        rw [hB]
        simp (maxSteps := 1000000) (disch := refine hold_ ?_; first | (simp [-List.getD_eq_getElem?_getD]; done) | omega) [-List.getD_eq_getElem?_getD]
  · have hk2 : k = l.length := by omega
    subst hk2
    have hend := chg_end l
    have hne : ¬ (l.length : Int) < l.length := by omega
    cases o with
    | none =>
      have hAl : chg l l.length = l := ho rfl
      rw [hend] at hAl
      rw [hAl]
      unfold brS
      repeat (first | ((first | (with_reducible first | refine zP fun K_ hK_ => ?_ | refine zQ fun K_ hK_ => ?_ | refine zT ?_ | refine zU ?_ | refine zV ?_ | refine zW ?_ | refine zX ?_ | refine zY ?_) | ((with_reducible first | refine zR ?_ ?_ fun K_ hK_ => ?_ | refine zS ?_ ?_ fun K_ hK_ => ?_); (focus kernel_rfl); (focus kernel_rfl))); first | (simp (maxSteps := 1000000) (disch := refine hold_ ?_; first | (simp [hsz, hne, -List.getD_eq_getElem?_getD]; done) | omega) [hsz, hne, -List.getD_eq_getElem?_getD]; try first | (with_reducible refine zZ ?_) | subst hK_) | subst hK_) | (with_reducible first | refine zA ?_ | refine zB ?_ | refine zC ?_ | refine zD ?_ | refine zE ?_ | refine zF ?_ | refine zG ?_ | refine zH ?_ | refine zI ?_ | refine zJ ?_ | refine zK ?_ | refine zL ?_ | refine zM ?_ | refine zN ?_ | refine zO ?_) | ((with_reducible refine yG ?_ ?_); (focus decide)) | ((with_reducible refine yA ?_); refine yB rfl ?_; (with_reducible first | refine yC ?_ | refine yD ?_)))
      all_goals simp (maxSteps := 1000000) (disch := refine hold_ ?_; first | (simp [-List.getD_eq_getElem?_getD]; done) | omega) [-List.getD_eq_getElem?_getD]
    | some c =>
      have hcut := room_take (l.map blk) c
      have hrl := room_len (l.map blk) c
      rw [List.length_map] at hcut hrl
      rw [hend] at hcl
      unfold brS
      rw [hend]
      generalize l.map blk = m at *
      repeat (first | ((with_reducible first | refine Go.Av.AW.regCAt 10 [1] ?_ fun K_ hK_ => ?_ | refine Go.Av.AW.regCAt1 10 [1] ?_ fun K_ hK_ => ?_); (focus decide)) | ((with_reducible refine Go.Av.runC_cons fun K_ hK_ => ?_); (try simp (maxSteps := 1000000) (disch := refine hold_ ?_; first | (simp [hsz, hne, hcut, hrl, -List.getD_eq_getElem?_getD]; done) | omega) [hsz, hne, hcut, hrl, -List.getD_eq_getElem?_getD]); try first | (with_reducible refine zZ ?_) | subst hK_) | ((with_reducible refine Go.Av.runC_nil ?_); (try simp (maxSteps := 1000000) (disch := refine hold_ ?_; first | (simp [hsz, hne, hcut, hrl, -List.getD_eq_getElem?_getD]; done) | omega) [hsz, hne, hcut, hrl, -List.getD_eq_getElem?_getD]); try first | (with_reducible refine zZ ?_) | subst hK_) | ((with_reducible refine Go.Av.XS_at 1 ?_); refine Go.Av.XS.ownNil rfl rfl rfl rfl rfl Tryz.underlying27 rfl ?_; (try simp (maxSteps := 1000000) (disch := refine hold_ ?_; first | (simp [hsz, hne, hcut, hrl, -List.getD_eq_getElem?_getD]; done) | omega) [hsz, hne, hcut, hrl, -List.getD_eq_getElem?_getD]); try first | (with_reducible refine zZ ?_) | subst hK_) | ((first | (with_reducible first | refine zP fun K_ hK_ => ?_ | refine zQ fun K_ hK_ => ?_ | refine zT ?_ | refine zU ?_ | refine zV ?_ | refine zW ?_ | refine zX ?_ | refine zY ?_) | ((with_reducible first | refine zR ?_ ?_ fun K_ hK_ => ?_ | refine zS ?_ ?_ fun K_ hK_ => ?_); (focus kernel_rfl); (focus kernel_rfl))); first | (simp (maxSteps := 1000000) (disch := refine hold_ ?_; first | (simp [hsz, hne, hcut, hrl, -List.getD_eq_getElem?_getD]; done) | omega) [hsz, hne, hcut, hrl, -List.getD_eq_getElem?_getD]; try first | (with_reducible refine zZ ?_) | subst hK_) | subst hK_) | (with_reducible first | refine zA ?_ | refine zB ?_ | refine zC ?_ | refine zD ?_ | refine zE ?_ | refine zF ?_ | refine zG ?_ | refine zH ?_ | refine zI ?_ | refine zJ ?_ | refine zK ?_ | refine zL ?_ | refine zM ?_ | refine zN ?_ | refine zO ?_) | ((with_reducible refine yG ?_ ?_); (focus decide)) | ((with_reducible refine yA ?_); refine yB rfl ?_; (with_reducible first | refine yC ?_ | refine yD ?_)))
      all_goals simp (maxSteps := 1000000) (disch := refine hold_ ?_; first | (simp [-List.getD_eq_getElem?_getD]; done) | omega) [-List.getD_eq_getElem?_getD]
      all_goals exact (str_of m).symm
end Go.Av.Cha
end
section
set_option linter.unusedSimpArgs false
set_option linter.unusedVariables false
set_option linter.unusedSectionVars false
open Go Go.Av Go.Proofs
namespace Go.Av.Cha
variable [ML]
def oldB : List ByteArray := [⟨#[9]⟩, ⟨#[32]⟩, ⟨#[10]⟩, ⟨#[32]⟩, ⟨#[13]⟩, ⟨#[32]⟩]
def rpl (a b : Int) (x : PV) (l : V) : HB := .cells [.p (.int .u32 a), .p (.int .i32 b), .p (.int .u32 0), .p x, l]
def idL (k : Nat) : List Int := ((List.range k).map fun n : Nat => (n : Int)) ++ List.replicate (256 - k) 0
theorem idL_len (k : Nat) (h : k ≤ 256) : (idL k).length = 256 := by simp [idL]; omega
theorem idL_set (k : Nat) (h : k < 256) : (idL k).set k (k : Int) = idL (k + 1) := by
  unfold idL
  have e : ((List.range k).map fun n : Nat => (n : Int)).length = k := by simp
  obtain ⟨m, hm⟩ : ∃ m, 256 - k = m + 1 := ⟨255 - k, by omega⟩
  rw [List.set_append_right _ _ (by omega), e, Nat.sub_self, hm, List.replicate_succ, List.set_cons_zero, List.range_succ, List.map_append, List.append_assoc]
  congr 1
  rw [show 256 - (k + 1) = m by omega]; rfl
def oB (j : Nat) : BitVec 8 := if j = 0 then 9#8 else if j = 1 then 10#8 else 13#8
def idT (m : Nat) : List Int := if m = 0 then idL 256 else if m = 1 then (idL 256).set 13 32 else if m = 2 then ((idL 256).set 13 32).set 10 32 else (((idL 256).set 13 32).set 10 32).set 9 32
theorem idT_len (k : Nat) : (idT k).length = 256 := by
  unfold idT
  repeat' split
  all_goals simp [idL_len]
theorem idT_end : idT 3 = tabT := by
  have e : idL 256 = (List.range 256).map fun n : Nat => (n : Int) := by unfold idL; simp
  unfold idT tabT
  rw [if_neg (by omega), if_neg (by omega), if_neg (by omega), e]
theorem idT_set (m j : Nat) (h : m + j + 1 = 3) : (idT m).set (oB j).toNat 32 = idT (m + 1) := by
  have : (m = 0 ∧ j = 2) ∨ (m = 1 ∧ j = 1) ∨ (m = 2 ∧ j = 0) := by omega
  rcases this with ⟨rfl, rfl⟩ | ⟨rfl, rfl⟩ | ⟨rfl, rfl⟩ <;> rfl
theorem oldB_get (k : Nat) (h : k < 3) : oldB.getD (2 * k) ByteArray.empty = txt [oB k] ∧ oldB.getD (2 * k + 1) ByteArray.empty = txt [32#8] := by
  have : k = 0 ∨ k = 1 ∨ k = 2 := by omega
  rcases this with rfl | rfl | rfl <;> exact ⟨rfl, rfl⟩
def idx (i : Nat) : Int := 2 * (i : Int) - 2
theorem al99 (H : List (Nat × (Nat × HB))) (d : Nat) : aalloc Tryz.prog H d 99 = some (.ptr d (nextVer H d) 0, upd H d (nextVer H d, .row (.ints .u8 (idL 0)))) := nr (by kernel_rfl)
theorem bu99 (H : List (Nat × (Nat × HB))) : abuild Tryz.prog H 99 [] = some (.p (.agg (.ints .u8 (idL 0)))) := nr (by kernel_rfl)
theorem if100 (y : PV) : amakeIf Tryz.prog 100 (.p y) = some (.p (.ifc 100 y)) := by unfold amakeIf; rw [Tryz.underlying100]
def z9 : ByteArray := ⟨#[9]⟩
set_option maxRecDepth 10000 in
set_option maxHeartbeats 10000000 in
theorem build_ct : FnG Tryz.prog 44 [.ptr 10000 0 0] [rpl 0 1 .iface0 (.p (.sl (.strs oldB) false))] 0 [.p (.ifc 100 tabP)] [rpl 0 1 .iface0 (.p (.sl (.strs oldB) false))] 0 := by
  have hlen : oldB.length = 6 := rfl
  have hget := oldB_get
  unfold tabP rpl
  have hI := idL_len
  have hS := idL_set
  have hT := idT_len
  have hE := idT_end
  have hX := idT_set
  have h0 : idT 0 = idL 256 := rfl
  generalize oldB = ol at *
  obtain ⟨n, hn⟩ : ∃ n : Nat, n = 3 := ⟨3, rfl⟩
  rw [← hn] at hget hX hE
  refine FnG.of_body Tryz.func44 rfl ?_
  repeat (first | ((first | (with_reducible first | refine zP fun K_ hK_ => ?_ | refine zQ fun K_ hK_ => ?_ | refine zT ?_ | refine zU ?_ | refine zV ?_ | refine zW ?_ | refine zX ?_ | refine zY ?_) | ((with_reducible first | refine zR ?_ ?_ fun K_ hK_ => ?_ | refine zS ?_ ?_ fun K_ hK_ => ?_); (focus kernel_rfl); (focus kernel_rfl))); first | (simp (maxSteps := 1000000) (disch := refine hold_ ?_; first | (simp [hlen, -List.getD_eq_getElem?_getD]; done) | omega) [hlen, -List.getD_eq_getElem?_getD]; try first | (with_reducible refine zZ ?_) | subst hK_) | subst hK_) | (with_reducible first | refine zA ?_ | refine zB ?_ | refine zC ?_ | refine zD ?_ | refine zE ?_ | refine zF ?_ | refine zG ?_ | refine zH ?_ | refine zI ?_ | refine zJ ?_ | refine zK ?_ | refine zL ?_ | refine zM ?_ | refine zN ?_ | refine zO ?_) | ((with_reducible refine yG ?_ ?_); (focus decide)) | ((with_reducible refine yA ?_); refine yB rfl ?_; (with_reducible first | refine yC ?_ | refine yD ?_)))
  refine AW.iter (false :: false :: false :: true :: true :: true :: false :: false :: false :: false :: false :: false :: false :: false :: false :: false :: false :: false :: false :: false :: false :: false :: false :: false :: false :: false :: false :: false :: false :: false :: false :: false :: false :: false :: false :: false :: false :: false :: false :: false :: false :: false :: false :: false :: false :: false :: false :: false :: false :: false :: false :: false :: false :: false :: false :: false :: false :: false :: false :: false :: false :: false :: false :: false :: false :: false :: false :: false :: false :: false :: false :: false :: false :: false :: false :: false :: false :: false :: false :: false :: false :: false :: false :: false :: false :: false :: false :: false :: false :: false :: false :: false :: false :: false :: false :: false :: false :: false :: false :: false :: false :: false :: false :: false :: false :: false :: false :: false :: false :: false :: false :: false :: false :: false :: false :: false :: false :: false :: false :: false :: false :: false :: false :: false :: false :: false :: false :: false :: false :: false :: false :: false :: []) n (fun k => ⟨(V.junk :: V.junk :: V.junk :: .p (.sl (.strs ol) false) :: .p (.bool true) :: .p (.int .i64 (2 * (k : Int))) :: V.junk :: V.junk :: V.junk :: V.junk :: V.junk :: V.junk :: V.junk :: V.junk :: V.junk :: V.junk :: V.junk :: V.junk :: V.junk :: V.junk :: V.junk :: V.junk :: V.junk :: V.junk :: V.junk :: V.junk :: V.junk :: V.junk :: V.junk :: V.junk :: V.junk :: V.junk :: V.junk :: V.junk :: V.junk :: V.junk :: V.junk :: V.junk :: V.junk :: V.junk :: V.junk :: V.junk :: V.junk :: V.junk :: V.junk :: V.junk :: V.junk :: V.junk :: V.junk :: V.junk :: V.junk :: V.junk :: V.junk :: V.junk :: V.junk :: V.junk :: V.junk :: V.junk :: V.junk :: V.junk :: V.junk :: V.junk :: V.junk :: V.junk :: V.junk :: V.junk :: V.junk :: V.junk :: V.junk :: V.junk :: V.junk :: V.junk :: V.junk :: V.junk :: V.junk :: V.junk :: V.junk :: V.junk :: V.junk :: V.junk :: V.junk :: V.junk :: V.junk :: V.junk :: V.junk :: V.junk :: V.junk :: V.junk :: V.junk :: V.junk :: V.junk :: V.junk :: V.junk :: V.junk :: V.junk :: V.junk :: V.junk :: V.junk :: V.junk :: V.junk :: V.junk :: V.junk :: V.junk :: V.junk :: V.junk :: V.junk :: V.junk :: V.junk :: V.junk :: V.junk :: V.junk :: V.junk :: V.junk :: V.junk :: V.junk :: V.junk :: V.junk :: V.junk :: V.junk :: V.junk :: V.junk :: V.junk :: V.junk :: V.junk :: V.junk :: V.junk :: V.junk :: V.junk :: V.junk :: V.junk :: V.junk :: V.junk :: []), ⟨[(10000, (0, .cells [.p (.int .u32 0), .p (.int .i32 1), .p (.int .u32 0), .p .iface0, .p (.sl (.strs ol) false)]))], []⟩⟩) ?_ ?_
  · simp (maxSteps := 1000000) (disch := refine hold_ ?_; first | (simp [-List.getD_eq_getElem?_getD]; done) | omega) [-List.getD_eq_getElem?_getD]
  intro k hk
  by_cases hkn : k < n
  · have c1 : 2 * (k : Int) < 6 := by omega
    have t1 : (2 * (k : Int)).toNat = 2 * k := by omega
    have t2 : (2 * (k : Int) + 1).toNat = 2 * k + 1 := by omega
    have t3 : 0 ≤ 2 * (k : Int) := by omega
    have t4 : 0 ≤ 2 * (k : Int) + 1 := by omega
    have t5 : 2 * (k : Int) + 1 < 6 := by omega
    have w1 : IntKind.i64.wrap (2 * (k : Int) + 1) = 2 * (k : Int) + 1 := wrap_i64 _ (by omega) (by omega)
    have w2 : IntKind.i64.wrap (2 * (k : Int) + 2) = 2 * ((k : Int) + 1) := (wrap_i64 _ (by omega) (by omega)).trans (by omega)
    obtain ⟨g1, g2⟩ := hget k hkn
    generalize oB k = b at *
    have z1 : (txt [b]).size = 1 := txt_size [b]
    have z2 : (txt [32#8]).size = 1 := txt_size [32#8]
    repeat (first | ((first | (with_reducible first | refine zP fun K_ hK_ => ?_ | refine zQ fun K_ hK_ => ?_ | refine zT ?_ | refine zU ?_ | refine zV ?_ | refine zW ?_ | refine zX ?_ | refine zY ?_) | ((with_reducible first | refine zR ?_ ?_ fun K_ hK_ => ?_ | refine zS ?_ ?_ fun K_ hK_ => ?_); (focus kernel_rfl); (focus kernel_rfl))); first | (simp (maxSteps := 1000000) (disch := refine hold_ ?_; first | (simp [hlen, c1, t1, t2, t3, t4, t5, w1, w2, g1, g2, z1, z2, hkn, -List.getD_eq_getElem?_getD]; done) | omega) [hlen, c1, t1, t2, t3, t4, t5, w1, w2, g1, g2, z1, z2, hkn, -List.getD_eq_getElem?_getD]; try first | (with_reducible refine zZ ?_) | subst hK_) | subst hK_) | (with_reducible first | refine zA ?_ | refine zB ?_ | refine zC ?_ | refine zD ?_ | refine zE ?_ | refine zF ?_ | refine zG ?_ | refine zH ?_ | refine zI ?_ | refine zJ ?_ | refine zK ?_ | refine zL ?_ | refine zM ?_ | refine zN ?_ | refine zO ?_) | ((with_reducible refine yG ?_ ?_); (focus decide)) | ((with_reducible refine yA ?_); refine yB rfl ?_; (with_reducible first | refine yC ?_ | refine yD ?_)))
    refine ⟨hkn, ?_⟩
    simp (maxSteps := 1000000) (disch := refine hold_ ?_; first | (simp [-List.getD_eq_getElem?_getD]; done) | omega) [-List.getD_eq_getElem?_getD]
  · have hk3 : k = n := by omega
    subst hk3
    have c1 : ¬ 2 * (k : Int) < 6 := by omega
    have i0 := hI 0 (by omega)
    repeat (first | ((first | (with_reducible first | refine zP fun K_ hK_ => ?_ | refine zQ fun K_ hK_ => ?_ | refine zT ?_ | refine zU ?_ | refine zV ?_ | refine zW ?_ | refine zX ?_ | refine zY ?_) | ((with_reducible first | refine zR ?_ ?_ fun K_ hK_ => ?_ | refine zS ?_ ?_ fun K_ hK_ => ?_); (focus kernel_rfl); (focus kernel_rfl))); first | (simp (maxSteps := 1000000) (disch := refine hold_ ?_; first | (simp [hlen, c1, al99, bu99, i0, -List.getD_eq_getElem?_getD]; done) | omega) [hlen, c1, al99, bu99, i0, -List.getD_eq_getElem?_getD]; try first | (with_reducible refine zZ ?_) | subst hK_) | subst hK_) | (with_reducible first | refine zA ?_ | refine zB ?_ | refine zC ?_ | refine zD ?_ | refine zE ?_ | refine zF ?_ | refine zG ?_ | refine zH ?_ | refine zI ?_ | refine zJ ?_ | refine zK ?_ | refine zL ?_ | refine zM ?_ | refine zN ?_ | refine zO ?_) | ((with_reducible refine yG ?_ ?_); (focus decide)) | ((with_reducible refine yA ?_); refine yB rfl ?_; (with_reducible first | refine yC ?_ | refine yD ?_)))
    refine AW.iter (false :: false :: false :: true :: false :: false :: true :: false :: false :: false :: false :: false :: false :: false :: false :: false :: false :: false :: false :: false :: false :: false :: false :: false :: false :: false :: false :: false :: false :: false :: false :: false :: false :: false :: false :: false :: false :: false :: false :: false :: false :: false :: false :: false :: false :: false :: false :: false :: false :: false :: false :: false :: false :: false :: false :: false :: false :: false :: false :: false :: false :: true :: false :: false :: false :: false :: false :: false :: false :: false :: false :: false :: false :: false :: false :: false :: false :: false :: false :: false :: false :: false :: false :: false :: false :: false :: false :: false :: false :: false :: false :: false :: false :: false :: false :: false :: false :: false :: false :: false :: false :: false :: false :: false :: false :: false :: false :: false :: false :: false :: false :: false :: false :: false :: false :: false :: false :: false :: false :: false :: false :: false :: false :: false :: false :: false :: false :: false :: false :: false :: false :: false :: []) 256 (fun j => ⟨(V.junk :: V.junk :: V.junk :: .p (.sl (.strs ol) false) :: V.junk :: V.junk :: .ptr 6 0 0 :: V.junk :: V.junk :: V.junk :: V.junk :: V.junk :: V.junk :: V.junk :: V.junk :: V.junk :: V.junk :: V.junk :: V.junk :: V.junk :: V.junk :: V.junk :: V.junk :: V.junk :: V.junk :: V.junk :: V.junk :: V.junk :: V.junk :: V.junk :: V.junk :: V.junk :: V.junk :: V.junk :: V.junk :: V.junk :: V.junk :: V.junk :: V.junk :: V.junk :: V.junk :: V.junk :: V.junk :: V.junk :: V.junk :: V.junk :: V.junk :: V.junk :: V.junk :: V.junk :: V.junk :: V.junk :: V.junk :: V.junk :: V.junk :: V.junk :: V.junk :: V.junk :: V.junk :: V.junk :: V.junk :: .p (.int .i64 j) :: V.junk :: V.junk :: V.junk :: V.junk :: V.junk :: V.junk :: V.junk :: V.junk :: V.junk :: V.junk :: V.junk :: V.junk :: V.junk :: V.junk :: V.junk :: V.junk :: V.junk :: V.junk :: V.junk :: V.junk :: V.junk :: V.junk :: V.junk :: V.junk :: V.junk :: V.junk :: V.junk :: V.junk :: V.junk :: V.junk :: V.junk :: V.junk :: V.junk :: V.junk :: V.junk :: V.junk :: V.junk :: V.junk :: V.junk :: V.junk :: V.junk :: V.junk :: V.junk :: V.junk :: V.junk :: V.junk :: V.junk :: V.junk :: V.junk :: V.junk :: V.junk :: V.junk :: V.junk :: V.junk :: V.junk :: V.junk :: V.junk :: V.junk :: V.junk :: V.junk :: V.junk :: V.junk :: V.junk :: V.junk :: V.junk :: V.junk :: V.junk :: V.junk :: V.junk :: V.junk :: []), ⟨[(10000, (0, .cells [.p (.int .u32 0), .p (.int .i32 1), .p (.int .u32 0), .p .iface0, .p (.sl (.strs ol) false)])), (6, (0, .row (.ints .u8 (idL j))))], []⟩⟩) ?_ ?_
    · simp (maxSteps := 1000000) (disch := refine hold_ ?_; first | (simp [-List.getD_eq_getElem?_getD]; done) | omega) [-List.getD_eq_getElem?_getD]
    intro j hj
    by_cases hjn : j < 256
    · have hjz : (j : Int) < 256 := by omega
      have e1 : IntKind.i64.wrap ((j : Int) + 1) = j + 1 := wrap_i64 _ (by omega) (by omega)
      have e2 : IntKind.u8.wrap (j : Int) = j := by rw [wrap_u8]; omega
      have e3 := hI j hj
      have e4 := hS j hjn
      repeat (first | ((first | (with_reducible first | refine zP fun K_ hK_ => ?_ | refine zQ fun K_ hK_ => ?_ | refine zT ?_ | refine zU ?_ | refine zV ?_ | refine zW ?_ | refine zX ?_ | refine zY ?_) | ((with_reducible first | refine zR ?_ ?_ fun K_ hK_ => ?_ | refine zS ?_ ?_ fun K_ hK_ => ?_); (focus kernel_rfl); (focus kernel_rfl))); first | (simp (maxSteps := 1000000) (disch := refine hold_ ?_; first | (simp [hjz, hjn, e1, e2, e3, e4, -List.getD_eq_getElem?_getD]; done) | omega) [hjz, hjn, e1, e2, e3, e4, -List.getD_eq_getElem?_getD]; try first | (with_reducible refine zZ ?_) | subst hK_) | subst hK_) | (with_reducible first | refine zA ?_ | refine zB ?_ | refine zC ?_ | refine zD ?_ | refine zE ?_ | refine zF ?_ | refine zG ?_ | refine zH ?_ | refine zI ?_ | refine zJ ?_ | refine zK ?_ | refine zL ?_ | refine zM ?_ | refine zN ?_ | refine zO ?_) | ((with_reducible refine yG ?_ ?_); (focus decide)) | ((with_reducible refine yA ?_); refine yB rfl ?_; (with_reducible first | refine yC ?_ | refine yD ?_)))
      refine ⟨hjn, ?_⟩
      simp (maxSteps := 1000000) (disch := refine hold_ ?_; first | (simp [-List.getD_eq_getElem?_getD]; done) | omega) [-List.getD_eq_getElem?_getD]
    · have hj2 : j = 256 := by omega
      have hjz : ¬ (j : Int) < 256 := by omega
      rw [show idL j = idT 0 by rw [h0, hj2]]
      clear hS h0
      have w4 : idx k = 4 := by rw [hn]; rfl
      have w5 : IntKind.i64.wrap 4 = 4 := wrap_i64 _ (by omega) (by omega)
      repeat (first | ((first | (with_reducible first | refine zP fun K_ hK_ => ?_ | refine zQ fun K_ hK_ => ?_ | refine zT ?_ | refine zU ?_ | refine zV ?_ | refine zW ?_ | refine zX ?_ | refine zY ?_) | ((with_reducible first | refine zR ?_ ?_ fun K_ hK_ => ?_ | refine zS ?_ ?_ fun K_ hK_ => ?_); (focus kernel_rfl); (focus kernel_rfl))); first | (simp (maxSteps := 1000000) (disch := refine hold_ ?_; first | (simp [hlen, hjz, w5, -List.getD_eq_getElem?_getD]; done) | omega) [hlen, hjz, w5, -List.getD_eq_getElem?_getD]; try first | (with_reducible refine zZ ?_) | subst hK_) | subst hK_) | (with_reducible first | refine zA ?_ | refine zB ?_ | refine zC ?_ | refine zD ?_ | refine zE ?_ | refine zF ?_ | refine zG ?_ | refine zH ?_ | refine zI ?_ | refine zJ ?_ | refine zK ?_ | refine zL ?_ | refine zM ?_ | refine zN ?_ | refine zO ?_) | ((with_reducible refine yG ?_ ?_); (focus decide)) | ((with_reducible refine yA ?_); refine yB rfl ?_; (with_reducible first | refine yC ?_ | refine yD ?_)))
      refine AW.iter (false :: false :: false :: true :: false :: false :: true :: false :: true :: false :: false :: false :: false :: false :: false :: false :: false :: false :: false :: false :: false :: false :: false :: false :: false :: false :: false :: false :: false :: false :: false :: false :: false :: false :: false :: false :: false :: false :: false :: false :: false :: false :: false :: false :: false :: false :: false :: false :: false :: false :: false :: false :: false :: false :: false :: false :: false :: false :: false :: false :: false :: false :: false :: false :: false :: false :: false :: false :: false :: false :: false :: false :: false :: false :: false :: false :: false :: false :: false :: false :: false :: false :: false :: false :: false :: false :: false :: false :: false :: false :: false :: false :: false :: false :: false :: false :: false :: false :: false :: false :: false :: false :: false :: false :: false :: false :: false :: false :: false :: false :: false :: false :: false :: false :: false :: false :: false :: false :: false :: false :: false :: false :: false :: false :: false :: false :: false :: false :: false :: false :: false :: false :: []) k (fun m => ⟨(V.junk :: V.junk :: V.junk :: .p (.sl (.strs ol) false) :: V.junk :: V.junk :: .ptr 6 0 0 :: V.junk :: .p (.int .i64 (idx (k - m))) :: V.junk :: V.junk :: V.junk :: V.junk :: V.junk :: V.junk :: V.junk :: V.junk :: V.junk :: V.junk :: V.junk :: V.junk :: V.junk :: V.junk :: V.junk :: V.junk :: V.junk :: V.junk :: V.junk :: V.junk :: V.junk :: V.junk :: V.junk :: V.junk :: V.junk :: V.junk :: V.junk :: V.junk :: V.junk :: V.junk :: V.junk :: V.junk :: V.junk :: V.junk :: V.junk :: V.junk :: V.junk :: V.junk :: V.junk :: V.junk :: V.junk :: V.junk :: V.junk :: V.junk :: V.junk :: V.junk :: V.junk :: V.junk :: V.junk :: V.junk :: V.junk :: V.junk :: V.junk :: V.junk :: V.junk :: V.junk :: V.junk :: V.junk :: V.junk :: V.junk :: V.junk :: V.junk :: V.junk :: V.junk :: V.junk :: V.junk :: V.junk :: V.junk :: V.junk :: V.junk :: V.junk :: V.junk :: V.junk :: V.junk :: V.junk :: V.junk :: V.junk :: V.junk :: V.junk :: V.junk :: V.junk :: V.junk :: V.junk :: V.junk :: V.junk :: V.junk :: V.junk :: V.junk :: V.junk :: V.junk :: V.junk :: V.junk :: V.junk :: V.junk :: V.junk :: V.junk :: V.junk :: V.junk :: V.junk :: V.junk :: V.junk :: V.junk :: V.junk :: V.junk :: V.junk :: V.junk :: V.junk :: V.junk :: V.junk :: V.junk :: V.junk :: V.junk :: V.junk :: V.junk :: V.junk :: V.junk :: V.junk :: V.junk :: V.junk :: V.junk :: V.junk :: V.junk :: V.junk :: []), ⟨[(10000, (0, .cells [.p (.int .u32 0), .p (.int .i32 1), .p (.int .u32 0), .p .iface0, .p (.sl (.strs ol) false)])), (6, (0, .row (.ints .u8 (idT m))))], []⟩⟩) ?_ ?_
      · simp (maxSteps := 1000000) (disch := refine hold_ ?_; first | (simp [w4, w5, -List.getD_eq_getElem?_getD]; done) | omega) [w4, w5, -List.getD_eq_getElem?_getD]
      intro m hm
      by_cases hmn : m < k
      · obtain ⟨q, hq⟩ : ∃ q, k - m = q + 1 := ⟨k - m - 1, by omega⟩
        have hq2 : k - (m + 1) = q := by omega
        rw [hq, hq2]
        have hqn : q < k := by omega
        obtain ⟨g1, g2⟩ := hget q hqn
        have hx := hX m q (by omega)
        have c2 : 0 ≤ idx (q + 1) := by unfold idx; omega
        have t1 : (idx (q + 1)).toNat = 2 * q := by unfold idx; omega
        have w1 : IntKind.i64.wrap (idx (q + 1) + 1) = idx (q + 1) + 1 := wrap_i64 _ (by unfold idx; omega) (by unfold idx; omega)
        have w2 : IntKind.i64.wrap (idx (q + 1) - 2) = idx q := (wrap_i64 _ (by unfold idx; omega) (by unfold idx; omega)).trans (by unfold idx; omega)
        have t2 : (idx (q + 1) + 1).toNat = 2 * q + 1 := by unfold idx; omega
        have t3 : 0 ≤ idx (q + 1) + 1 := by omega
        have t4 : idx (q + 1) < 6 := by unfold idx; omega
        have t5 : idx (q + 1) + 1 < 6 := by unfold idx; omega
        generalize oB q = o at *
        have z1 : (txt [o]).size = 1 := txt_size [o]
        have z2 : (((txt [o]).data.toList.getD 0 0).toNat : Int) = ub o := txt_get [o] 0
        have z3 : (txt [32#8]).size = 1 := txt_size [32#8]
        have z4 : (((txt [32#8]).data.toList.getD 0 0).toNat : Int) = 32 := txt_get [32#8] 0
        have hu1 := (ub_lt o).1
        have hu2 := (ub_lt o).2
        have hbl : o.toNat < 256 := o.isLt
        have hl := hT m
        generalize idx (q + 1) = c at *
        generalize idx q = c' at *
        repeat (first | ((first | (with_reducible first | refine zP fun K_ hK_ => ?_ | refine zQ fun K_ hK_ => ?_ | refine zT ?_ | refine zU ?_ | refine zV ?_ | refine zW ?_ | refine zX ?_ | refine zY ?_) | ((with_reducible first | refine zR ?_ ?_ fun K_ hK_ => ?_ | refine zS ?_ ?_ fun K_ hK_ => ?_); (focus kernel_rfl); (focus kernel_rfl))); first | (simp (maxSteps := 1000000) (disch := refine hold_ ?_; first | (simp [hlen, c2, t1, t2, t3, t4, t5, w1, w2, g1, g2, z1, z2, z3, z4, hu1, hu2, hbl, hl, hx, -List.getD_eq_getElem?_getD]; done) | omega) [hlen, c2, t1, t2, t3, t4, t5, w1, w2, g1, g2, z1, z2, z3, z4, hu1, hu2, hbl, hl, hx, -List.getD_eq_getElem?_getD]; try first | (with_reducible refine zZ ?_) | subst hK_) | subst hK_) | (with_reducible first | refine zA ?_ | refine zB ?_ | refine zC ?_ | refine zD ?_ | refine zE ?_ | refine zF ?_ | refine zG ?_ | refine zH ?_ | refine zI ?_ | refine zJ ?_ | refine zK ?_ | refine zL ?_ | refine zM ?_ | refine zN ?_ | refine zO ?_) | ((with_reducible refine yG ?_ ?_); (focus decide)) | ((with_reducible refine yA ?_); refine yB rfl ?_; (with_reducible first | refine yC ?_ | refine yD ?_)))
        refine ⟨hmn, ?_⟩
        simp (maxSteps := 1000000) (disch := refine hold_ ?_; first | (simp [hq2, -List.getD_eq_getElem?_getD]; done) | omega) [hq2, -List.getD_eq_getElem?_getD]
      · have hm2 : m = k := by omega
        subst hm2
        rw [Nat.sub_self, hE]
        have c2 : ¬ 0 ≤ idx 0 := by decide
        have hl := tabT_len
        generalize tabT = T at *
        repeat (first | ((with_reducible refine Go.Av.AW.freezeAt 25 6 ?_ ?_ fun K_ hK_ => ?_); (focus decide); (focus (simp; done)); simp (maxSteps := 1000000) (disch := refine hold_ ?_; first | (simp [-ownSl, Go.Av.ownSl_bl, c2, if100, hl, -List.getD_eq_getElem?_getD]; done) | omega) [-ownSl, Go.Av.ownSl_bl, c2, if100, hl, -List.getD_eq_getElem?_getD]; subst hK_) | ((first | (with_reducible first | refine zP fun K_ hK_ => ?_ | refine zQ fun K_ hK_ => ?_ | refine zT ?_ | refine zU ?_ | refine zV ?_ | refine zW ?_ | refine zX ?_ | refine zY ?_) | ((with_reducible first | refine zR ?_ ?_ fun K_ hK_ => ?_ | refine zS ?_ ?_ fun K_ hK_ => ?_); (focus kernel_rfl); (focus kernel_rfl))); first | (simp (maxSteps := 1000000) (disch := refine hold_ ?_; first | (simp [c2, if100, hl, -List.getD_eq_getElem?_getD]; done) | omega) [c2, if100, hl, -List.getD_eq_getElem?_getD]; try first | (with_reducible refine zZ ?_) | subst hK_) | subst hK_) | (with_reducible first | refine zA ?_ | refine zB ?_ | refine zC ?_ | refine zD ?_ | refine zE ?_ | refine zF ?_ | refine zG ?_ | refine zH ?_ | refine zI ?_ | refine zJ ?_ | refine zK ?_ | refine zL ?_ | refine zM ?_ | refine zN ?_ | refine zO ?_) | ((with_reducible refine yG ?_ ?_); (focus decide)) | ((with_reducible refine yA ?_); refine yB rfl ?_; (with_reducible first | refine yC ?_ | refine yD ?_)))
        all_goals simp (maxSteps := 1000000) (disch := refine hold_ ?_; first | (simp [hl, -List.getD_eq_getElem?_getD]; done) | omega) [hl, -List.getD_eq_getElem?_getD]
end Go.Av.Cha
end
