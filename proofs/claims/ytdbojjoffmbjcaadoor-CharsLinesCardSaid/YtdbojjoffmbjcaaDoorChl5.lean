/- The walks of this seat's functions, and what is known of what they reckon (Chl5). Conditions: those that each theorem names. -/
import Derived.Test.YtdbojjoffmbjcaaDoorChl1
import Derived.Lib.Builder
import Derived.Lib.UnsafeStr
import Derived.WalkKit
import Derived.LaidEql
import Derived.Shelf.RegionOpenPlain
section
set_option linter.unusedSimpArgs false
set_option linter.unusedVariables false
set_option linter.unusedSectionVars false
open Go Go.Av Go.Proofs
namespace Go.Av.Chl
variable [ML]
theorem eqIn_same {P : Program} {t e n : TypeId} (hu : P.underlying t = some (.pointer e)) (hs : ∀ w, (Go.sizeOf e).run P w = .ok (n + 1) w) (d : Nat) (a : Addr) (w : World) :
    (Op.equalIn (d + 1) t (.pointer (some a)) (.pointer (some a))).run P w = .ok true w := by
  simp [Op.equalIn, run_underlying hu, hs, run_sameAddr_same]
theorem cc_used (w : World) (b : Nat) (h : w.cell? ⟨b, 0, none⟩ = some (.pointer (some ⟨b, 0, none⟩))) :
    Calls Tryd.prog 26 #[.pointer (some ⟨b, 0, none⟩)] w fun x w' => x = .returned (.tuple #[]) ∧ w' = w := by
  have t36 := Tryd.underlying34; have a36 := fun w => run_isAgg (P := Tryd.prog) (t := 34) (b := false) (by kernel_rfl) w; have z36 := fun w => tsize_run (P := Tryd.prog) (t := 34) (n := 1) (by kernel_rfl) w; have u36 := run_underlying t36
  have t38 := Tryd.underlying36; have a38 := fun w => run_isAgg (P := Tryd.prog) (t := 36) (b := true) (by kernel_rfl) w; have z38 := fun w => tsize_run (P := Tryd.prog) (t := 36) (n := 2) (by kernel_rfl) w; have u38 := run_underlying t38
  have t50 := Tryd.underlying62; have a50 := fun w => run_isAgg (P := Tryd.prog) (t := 62) (b := false) (by kernel_rfl) w; have z50 := fun w => tsize_run (P := Tryd.prog) (t := 62) (n := 1) (by kernel_rfl) w; have u50 := run_underlying t50
  have t4 := Tryd.underlying4; have a4 := fun w => run_isAgg (P := Tryd.prog) (t := 4) (b := false) (by kernel_rfl) w; have z4 := fun w => tsize_run (P := Tryd.prog) (t := 4) (n := 1) (by kernel_rfl) w; have u4 := run_underlying t4
  have hq : (binOp .neq 34 (.pointer (some ⟨b, 0, none⟩)) (.pointer (some ⟨b, 0, none⟩))).run Tryd.prog w = .ok (.bool false) w := by
    have : (Op.equal 34 (.pointer (some ⟨b, 0, none⟩)) (.pointer (some ⟨b, 0, none⟩))).run Tryd.prog w = .ok true w := eqIn_same (n := 1) t36 z38 9999 _ w
    simp [binOp, this]
  go_enter Tryd.func26, Tryd.ntmps26
  go_wp2
  go_end0
  exact ⟨rfl, rfl⟩
set_option maxRecDepth 4000 in
theorem cc_fresh (w : World) (b : Nat) (h0 : w.cell? ⟨b, 0, none⟩ = some (.pointer none)) (hsh : w.shape? b = some (36, 2)) (hfz : w.frozen? ⟨b, 0, none⟩ = false) :
    Calls Tryd.prog 26 #[.pointer (some ⟨b, 0, none⟩)] w fun x w' => x = .returned (.tuple #[]) ∧ w' = w.setCell ⟨b, 0, none⟩ (.pointer (some ⟨b, 0, none⟩)) := by
  obtain ⟨j, hj, hjs⟩ := Option.map_eq_some_iff.1 (show (Tryd.prog.info? 36).map (·.size) = some 2 by kernel_rfl)
  have t36 := Tryd.underlying34; have a36 := fun w => run_isAgg (P := Tryd.prog) (t := 34) (b := false) (by kernel_rfl) w; have z36 := fun w => tsize_run (P := Tryd.prog) (t := 34) (n := 1) (by kernel_rfl) w; have u36 := run_underlying t36
  have t38 := Tryd.underlying36; have a38 := fun w => run_isAgg (P := Tryd.prog) (t := 36) (b := true) (by kernel_rfl) w; have z38 := fun w => tsize_run (P := Tryd.prog) (t := 36) (n := 2) (by kernel_rfl) w; have u38 := run_underlying t38
  have t50 := Tryd.underlying62; have a50 := fun w => run_isAgg (P := Tryd.prog) (t := 62) (b := false) (by kernel_rfl) w; have z50 := fun w => tsize_run (P := Tryd.prog) (t := 62) (n := 1) (by kernel_rfl) w; have u50 := run_underlying t50
  have t4 := Tryd.underlying4; have a4 := fun w => run_isAgg (P := Tryd.prog) (t := 4) (b := false) (by kernel_rfl) w; have z4 := fun w => tsize_run (P := Tryd.prog) (t := 4) (n := 1) (by kernel_rfl) w; have u4 := run_underlying t4
  go_enter Tryd.func26, Tryd.ntmps26
  go_wp2
  rw [Lib.run_to_unsafe w ⟨b, 0, none⟩ t36 t50 hj (by rw [hjs]; decide) hsh (Nat.zero_lt_succ 1)]
  simp only [Result.andThen]
  rw [Oper.upon_value]
  go_wp2
  rw [run_callFunc_extern Tryd.func41 (by kernel_rfl) (by kernel_rfl) (by kernel_rfl) (e := Extern.AbiNoEscape.same) (by kernel_rfl)]
  rw [Lib.run_noEscape]
  simp only [Result.andThen]
  rw [Oper.upon_value]
  go_wp2
  rw [Lib.run_from_unsafe w ⟨b, 0, none⟩ t50 t36 hj hsh (by kernel_rfl)]
  simp only [Result.andThen]
  rw [Oper.upon_value]
  go_wp2
  go_end0
  exact ⟨rfl, rfl⟩
theorem copy_ok : PrimOk Tryd.prog 26 (copyPrim 36 2 0) := copyPrim_ok (fun args w => Tryd.call26 args w) cc_fresh cc_used
theorem st_full (w : World) (b g cap : Nat) (l : List UInt8) (cur : Array Value) (fz : Nat × Nat) (h0 : l ≠ []) (c1 : w.cell? ⟨b, 0 + 1, none⟩ = some (.slice (some ⟨g, 0, none⟩) l.length cap)) (hcap : cap ≠ 0)
    (hg : w.heap[g]? = some (.cells cur 5 fz)) (hcs : l.length ≤ cur.size) (hbig : l.length ≤ 140737488355328) (hcell : ∀ j x, l[j]? = some x → w.cell? ⟨g, j, none⟩ = some (.int .u8 x.toNat)) :
    Calls Tryd.prog 17 #[.pointer (some ⟨b, 0, none⟩)] w fun x w' => x = .returned (.string ⟨l.toArray⟩) ∧ w' = w.drew.freeze ⟨g, 0, none⟩ l.length := by
  have hSD : (Builtin.unsafeSliceData_ #[28] 51 #[.slice (some ⟨g, 0, none⟩) l.length cap]).run Tryd.prog w.drew = .ok (.pointer (some ⟨g, 0, none⟩)) w.drew :=
    Lib.run_unsafeSliceData_row _ _ _ _ _ _ hcap
  have c1' : w.drew.cell? ⟨b, 1, none⟩ = some (.slice (some ⟨g, 0, none⟩) l.length cap) := c1
  have t36 := Tryd.underlying34; have a36 := fun w => run_isAgg (P := Tryd.prog) (t := 34) (b := false) (by kernel_rfl) w; have z36 := fun w => tsize_run (P := Tryd.prog) (t := 34) (n := 1) (by kernel_rfl) w; have u36 := run_underlying t36
  have t38 := Tryd.underlying36; have a38 := fun w => run_isAgg (P := Tryd.prog) (t := 36) (b := true) (by kernel_rfl) w; have z38 := fun w => tsize_run (P := Tryd.prog) (t := 36) (n := 2) (by kernel_rfl) w; have u38 := run_underlying t38
  have t22 := Tryd.underlying28; have a22 := fun w => run_isAgg (P := Tryd.prog) (t := 28) (b := false) (by kernel_rfl) w; have z22 := fun w => tsize_run (P := Tryd.prog) (t := 28) (n := 1) (by kernel_rfl) w; have u22 := run_underlying t22
  have t48 := Tryd.underlying51; have a48 := fun w => run_isAgg (P := Tryd.prog) (t := 51) (b := false) (by kernel_rfl) w; have z48 := fun w => tsize_run (P := Tryd.prog) (t := 51) (n := 1) (by kernel_rfl) w; have u48 := run_underlying t48
  have t3 := Tryd.underlying3; have a3 := fun w => run_isAgg (P := Tryd.prog) (t := 3) (b := false) (by kernel_rfl) w; have z3 := fun w => tsize_run (P := Tryd.prog) (t := 3) (n := 1) (by kernel_rfl) w; have u3 := run_underlying t3
  have t9 := Tryd.underlying9; have a9 := fun w => run_isAgg (P := Tryd.prog) (t := 9) (b := false) (by kernel_rfl) w; have z9 := fun w => tsize_run (P := Tryd.prog) (t := 9) (n := 1) (by kernel_rfl) w; have u9 := run_underlying t9
  have t5 := Tryd.underlying5; have a5 := fun w => run_isAgg (P := Tryd.prog) (t := 5) (b := false) (by kernel_rfl) w; have z5 := fun w => tsize_run (P := Tryd.prog) (t := 5) (n := 1) (by kernel_rfl) w; have u5 := run_underlying t5
  have hUS : (Builtin.unsafeString_ #[51, 3] 9 #[.pointer (some ⟨g, 0, none⟩), .int .i64 l.length]).run Tryd.prog w.drew = .ok (.string ⟨l.toArray⟩) (w.drew.freeze ⟨g, 0, none⟩ l.length) := by
    refine Lib.run_unsafeString_row w.drew 51 3 9 5 t48 (by kernel_rfl) g cur.size (by have hg' : w.drew.heap[g]? = some (.cells cur 5 fz) := hg; simp [World.shape?, hg']) l h0 (by omega) (by omega) ?_
    intro j x hx
    have := hcell j x hx
    rw [addr_add, Nat.zero_add]; exact this
  have mixed : Tryd.prog.follows .mixedOrders = true := by kernel_rfl
  go_enter Tryd.func17, Tryd.ntmps17
  go_wp2
  go_region_o
  all_goals (go_wp2; go_ret; exact ⟨rfl, rfl⟩)
theorem st_none (w : World) (b : Nat) (c1 : w.cell? ⟨b, 0 + 1, none⟩ = some (.slice none 0 0)) :
    Calls Tryd.prog 17 #[.pointer (some ⟨b, 0, none⟩)] w fun x w' => x = .returned (.string ByteArray.empty) ∧ w' = w.drew := by
  have c1' : w.drew.cell? ⟨b, 1, none⟩ = some (.slice none 0 0) := c1
  have t36 := Tryd.underlying34; have a36 := fun w => run_isAgg (P := Tryd.prog) (t := 34) (b := false) (by kernel_rfl) w; have z36 := fun w => tsize_run (P := Tryd.prog) (t := 34) (n := 1) (by kernel_rfl) w; have u36 := run_underlying t36
  have t38 := Tryd.underlying36; have a38 := fun w => run_isAgg (P := Tryd.prog) (t := 36) (b := true) (by kernel_rfl) w; have z38 := fun w => tsize_run (P := Tryd.prog) (t := 36) (n := 2) (by kernel_rfl) w; have u38 := run_underlying t38
  have t22 := Tryd.underlying28; have a22 := fun w => run_isAgg (P := Tryd.prog) (t := 28) (b := false) (by kernel_rfl) w; have z22 := fun w => tsize_run (P := Tryd.prog) (t := 28) (n := 1) (by kernel_rfl) w; have u22 := run_underlying t22
  have t48 := Tryd.underlying51; have a48 := fun w => run_isAgg (P := Tryd.prog) (t := 51) (b := false) (by kernel_rfl) w; have z48 := fun w => tsize_run (P := Tryd.prog) (t := 51) (n := 1) (by kernel_rfl) w; have u48 := run_underlying t48
  have t3 := Tryd.underlying3; have a3 := fun w => run_isAgg (P := Tryd.prog) (t := 3) (b := false) (by kernel_rfl) w; have z3 := fun w => tsize_run (P := Tryd.prog) (t := 3) (n := 1) (by kernel_rfl) w; have u3 := run_underlying t3
  have t9 := Tryd.underlying9; have a9 := fun w => run_isAgg (P := Tryd.prog) (t := 9) (b := false) (by kernel_rfl) w; have z9 := fun w => tsize_run (P := Tryd.prog) (t := 9) (n := 1) (by kernel_rfl) w; have u9 := run_underlying t9
  have t5 := Tryd.underlying5; have a5 := fun w => run_isAgg (P := Tryd.prog) (t := 5) (b := false) (by kernel_rfl) w; have z5 := fun w => tsize_run (P := Tryd.prog) (t := 5) (n := 1) (by kernel_rfl) w; have u5 := run_underlying t5
  have hUS := fun (pt it ty : TypeId) => Lib.run_unsafeString_none (P := Tryd.prog) (w := w.drew) pt it ty none
  have hSD := fun (ts : Array TypeId) (ty : TypeId) => Lib.run_unsafeSliceData_nil (P := Tryd.prog) (w := w.drew) ts ty 0 0
  have mixed : Tryd.prog.follows .mixedOrders = true := by kernel_rfl
  go_enter Tryd.func17, Tryd.ntmps17
  go_wp2
  go_region_o
  all_goals (go_wp2; go_ret; exact ⟨rfl, rfl⟩)
theorem str_ok : PrimOk Tryd.prog 17 (strPrim 5 0) := strPrim_ok (fun args w => Tryd.call17 args w) st_full st_none
theorem ws_ct (l : List (BitVec 8)) (nl : Bool) (c : List (BitVec 8)) (hl : l.length ≤ 100000000) (hc : c.length ≤ 100000000) :
    FnG Tryd.prog 16 [.ptr 10000 0 0, .p (.str (txt c))] [.cells [.adr 10000 0 0 36 2, .brow 5 (bl l) 10000 0 nl]] 1 [.p (.int .i64 c.length), .p .iface0] [.cells [.adr 10000 0 0 36 2, .brow 5 (bl (l ++ c)) 0 0 (nl && c.length == 0)]] 1 := by
  have hz := txt_size c
  have hb := txt_bytes c
  have hs : l.length + c.length ≤ 140737488355328 := by omega
  refine FnG.of_body Tryd.func16 rfl ?_
  repeat (first | ((with_reducible refine callK_at 26 ?_); refine callK_b (by first | decide | exact Nat.le_of_ble_eq_true rfl) (copy_ok) ?_; simp (maxSteps := 1000000) (disch := refine hold_ ?_; first | (simp [Go.Av.copyPrim, Go.Av.strPrim, hl, hz, hb, hs, -List.getD_eq_getElem?_getD]; done) | omega) [Go.Av.copyPrim, Go.Av.strPrim, hl, hz, hb, hs, -List.getD_eq_getElem?_getD]; first | refine zZ ?_ | subst hK_) | ((first | (with_reducible first | refine zP fun K_ hK_ => ?_ | refine zQ fun K_ hK_ => ?_ | refine zT ?_ | refine zU ?_ | refine zV ?_ | refine zW ?_ | refine zX ?_ | refine zY ?_) | ((with_reducible first | refine zR ?_ ?_ fun K_ hK_ => ?_ | refine zS ?_ ?_ fun K_ hK_ => ?_); (focus kernel_rfl); (focus kernel_rfl))); first | (simp (maxSteps := 1000000) (disch := refine hold_ ?_; first | (simp [hl, hz, hb, hs, -List.getD_eq_getElem?_getD]; done) | omega) [hl, hz, hb, hs, -List.getD_eq_getElem?_getD]; try first | (with_reducible refine zZ ?_) | subst hK_) | subst hK_) | (with_reducible first | refine zA ?_ | refine zB ?_ | refine zC ?_ | refine zD ?_ | refine zE ?_ | refine zF ?_ | refine zG ?_ | refine zH ?_ | refine zI ?_ | refine zJ ?_ | refine zK ?_ | refine zL ?_ | refine zM ?_ | refine zN ?_ | refine zO ?_) | ((with_reducible refine yG ?_ ?_); (focus decide)) | ((with_reducible refine yA ?_); refine yB rfl ?_; (with_reducible first | refine yC ?_ | refine yD ?_)))
  simp (maxSteps := 1000000) (disch := refine hold_ ?_; first | (simp [hl, -List.getD_eq_getElem?_getD]; done) | omega) [hl, -List.getD_eq_getElem?_getD]
end Go.Av.Chl
end
