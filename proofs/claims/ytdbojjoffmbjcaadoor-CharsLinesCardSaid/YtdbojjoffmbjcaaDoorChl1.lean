/- The walks of this seat's functions, and what is known of what they reckon (Chl1). Conditions: those that each theorem names. -/
import Derived.Test.YtdbojjoffmbjcaaDoorAv5
import Derived.Test.YtdbojjoffmbjcaaDoorProg
import Derived.KernelRfl
import Derived.Lib.Bytealg
section
namespace Go.Av.Chl
open Go Go.Av Go.Proofs
set_option linter.unusedVariables false
@[simp] theorem x2_u : udesc Tryd.prog 2 = some (.int .i64) := nr (by kernel_rfl)
@[simp] theorem x2_isSlice : isSlice Tryd.prog 2 = false := nr (by kernel_rfl)
@[simp] theorem x2_isString : isString Tryd.prog 2 = false := nr (by kernel_rfl)
@[simp] theorem x2_arrLen : arrLen Tryd.prog 2 = none := nr (by kernel_rfl)
@[simp] theorem x2_esz : esz Tryd.prog 2 = none := nr (by kernel_rfl)
@[simp] theorem x2_isAggT : isAggT Tryd.prog 2 = some false := nr (by kernel_rfl)
@[simp] theorem x2_tsize : tsize Tryd.prog 2 = some 1 := nr (by kernel_rfl)
@[simp] theorem x2_notInt : notInt Tryd.prog 2 = false := nr (by kernel_rfl)
@[simp] theorem x2_isBytes : isBytes Tryd.prog 2 = false := nr (by kernel_rfl)
@[simp] theorem x2_alloc (H : List (Nat × (Nat × HB))) (d : Nat) : aalloc Tryd.prog H d 2 = some (.ptr d (nextVer H d) 0, upd H d (nextVer H d, .row (.ints .i64 [0]))) := nr (by kernel_rfl)
@[simp] theorem x3_u : udesc Tryd.prog 3 = some (.int .i64) := nr (by kernel_rfl)
@[simp] theorem x3_isSlice : isSlice Tryd.prog 3 = false := nr (by kernel_rfl)
@[simp] theorem x3_isString : isString Tryd.prog 3 = false := nr (by kernel_rfl)
@[simp] theorem x3_arrLen : arrLen Tryd.prog 3 = none := nr (by kernel_rfl)
@[simp] theorem x3_esz : esz Tryd.prog 3 = none := nr (by kernel_rfl)
@[simp] theorem x3_isAggT : isAggT Tryd.prog 3 = some false := nr (by kernel_rfl)
@[simp] theorem x3_tsize : tsize Tryd.prog 3 = some 1 := nr (by kernel_rfl)
@[simp] theorem x3_notInt : notInt Tryd.prog 3 = false := nr (by kernel_rfl)
@[simp] theorem x3_isBytes : isBytes Tryd.prog 3 = false := nr (by kernel_rfl)
@[simp] theorem x3_alloc (H : List (Nat × (Nat × HB))) (d : Nat) : aalloc Tryd.prog H d 3 = some (.ptr d (nextVer H d) 0, upd H d (nextVer H d, .row (.ints .i64 [0]))) := nr (by kernel_rfl)
@[simp] theorem x4_u : udesc Tryd.prog 4 = some .bool := nr (by kernel_rfl)
@[simp] theorem x4_eq (a b : Bool) : eqNil Tryd.prog 4 (.p (.bool a)) (.p (.bool b)) = some (a == b) := eqNil_bool (by kernel_rfl) a b
@[simp] theorem x4_isSlice : isSlice Tryd.prog 4 = false := nr (by kernel_rfl)
@[simp] theorem x4_isString : isString Tryd.prog 4 = false := nr (by kernel_rfl)
@[simp] theorem x4_arrLen : arrLen Tryd.prog 4 = none := nr (by kernel_rfl)
@[simp] theorem x4_esz : esz Tryd.prog 4 = none := nr (by kernel_rfl)
@[simp] theorem x4_isAggT : isAggT Tryd.prog 4 = some false := nr (by kernel_rfl)
@[simp] theorem x4_tsize : tsize Tryd.prog 4 = some 1 := nr (by kernel_rfl)
@[simp] theorem x4_notInt : notInt Tryd.prog 4 = true := nr (by kernel_rfl)
@[simp] theorem x4_isBytes : isBytes Tryd.prog 4 = false := nr (by kernel_rfl)
@[simp] theorem x4_alloc (H : List (Nat × (Nat × HB))) (d : Nat) : aalloc Tryd.prog H d 4 = some (.ptr d (nextVer H d) 0, upd H d (nextVer H d, .cells [.p (.bool false)])) := nr (by kernel_rfl)
@[simp] theorem x5_u : udesc Tryd.prog 5 = some (.int .u8) := nr (by kernel_rfl)
@[simp] theorem x5_isSlice : isSlice Tryd.prog 5 = false := nr (by kernel_rfl)
@[simp] theorem x5_isString : isString Tryd.prog 5 = false := nr (by kernel_rfl)
@[simp] theorem x5_arrLen : arrLen Tryd.prog 5 = none := nr (by kernel_rfl)
@[simp] theorem x5_esz : esz Tryd.prog 5 = none := nr (by kernel_rfl)
@[simp] theorem x5_isAggT : isAggT Tryd.prog 5 = some false := nr (by kernel_rfl)
@[simp] theorem x5_tsize : tsize Tryd.prog 5 = some 1 := nr (by kernel_rfl)
@[simp] theorem x5_notInt : notInt Tryd.prog 5 = false := nr (by kernel_rfl)
@[simp] theorem x5_isBytes : isBytes Tryd.prog 5 = false := nr (by kernel_rfl)
@[simp] theorem x5_alloc (H : List (Nat × (Nat × HB))) (d : Nat) : aalloc Tryd.prog H d 5 = some (.ptr d (nextVer H d) 0, upd H d (nextVer H d, .row (.ints .u8 [0]))) := nr (by kernel_rfl)
@[simp] theorem x9_u : udesc Tryd.prog 9 = some .string := nr (by kernel_rfl)
@[simp] theorem x9_isSlice : isSlice Tryd.prog 9 = false := nr (by kernel_rfl)
@[simp] theorem x9_isString : isString Tryd.prog 9 = true := nr (by kernel_rfl)
@[simp] theorem x9_arrLen : arrLen Tryd.prog 9 = none := nr (by kernel_rfl)
@[simp] theorem x9_esz : esz Tryd.prog 9 = none := nr (by kernel_rfl)
@[simp] theorem x9_isAggT : isAggT Tryd.prog 9 = some false := nr (by kernel_rfl)
@[simp] theorem x9_tsize : tsize Tryd.prog 9 = some 1 := nr (by kernel_rfl)
@[simp] theorem x9_notInt : notInt Tryd.prog 9 = true := nr (by kernel_rfl)
@[simp] theorem x9_isBytes : isBytes Tryd.prog 9 = false := nr (by kernel_rfl)
@[simp] theorem x9_alloc (H : List (Nat × (Nat × HB))) (d : Nat) : aalloc Tryd.prog H d 9 = some (.ptr d (nextVer H d) 0, upd H d (nextVer H d, .cells [.p (.str ByteArray.empty)])) := nr (by kernel_rfl)
@[simp] theorem x12_u : udesc Tryd.prog 12 = some (.int .u64) := nr (by kernel_rfl)
@[simp] theorem x12_isSlice : isSlice Tryd.prog 12 = false := nr (by kernel_rfl)
@[simp] theorem x12_isString : isString Tryd.prog 12 = false := nr (by kernel_rfl)
@[simp] theorem x12_arrLen : arrLen Tryd.prog 12 = none := nr (by kernel_rfl)
@[simp] theorem x12_esz : esz Tryd.prog 12 = none := nr (by kernel_rfl)
@[simp] theorem x12_isAggT : isAggT Tryd.prog 12 = some false := nr (by kernel_rfl)
@[simp] theorem x12_tsize : tsize Tryd.prog 12 = some 1 := nr (by kernel_rfl)
@[simp] theorem x12_notInt : notInt Tryd.prog 12 = false := nr (by kernel_rfl)
@[simp] theorem x12_isBytes : isBytes Tryd.prog 12 = false := nr (by kernel_rfl)
@[simp] theorem x12_alloc (H : List (Nat × (Nat × HB))) (d : Nat) : aalloc Tryd.prog H d 12 = some (.ptr d (nextVer H d) 0, upd H d (nextVer H d, .row (.ints .u64 [0]))) := nr (by kernel_rfl)
@[simp] theorem x21_u : udesc Tryd.prog 21 = some (.int .i32) := nr (by kernel_rfl)
@[simp] theorem x21_isSlice : isSlice Tryd.prog 21 = false := nr (by kernel_rfl)
@[simp] theorem x21_isString : isString Tryd.prog 21 = false := nr (by kernel_rfl)
@[simp] theorem x21_arrLen : arrLen Tryd.prog 21 = none := nr (by kernel_rfl)
@[simp] theorem x21_esz : esz Tryd.prog 21 = none := nr (by kernel_rfl)
@[simp] theorem x21_isAggT : isAggT Tryd.prog 21 = some false := nr (by kernel_rfl)
@[simp] theorem x21_tsize : tsize Tryd.prog 21 = some 1 := nr (by kernel_rfl)
@[simp] theorem x21_notInt : notInt Tryd.prog 21 = false := nr (by kernel_rfl)
@[simp] theorem x21_isBytes : isBytes Tryd.prog 21 = false := nr (by kernel_rfl)
@[simp] theorem x21_alloc (H : List (Nat × (Nat × HB))) (d : Nat) : aalloc Tryd.prog H d 21 = some (.ptr d (nextVer H d) 0, upd H d (nextVer H d, .row (.ints .i32 [0]))) := nr (by kernel_rfl)
@[simp] theorem x28_us : udesc Tryd.prog 28 = some (.slice 5) := nr (by kernel_rfl)
@[simp] theorem x28_eq (x y : V) : eqNil Tryd.prog 28 x y = eqSl x y := eqNil_sl (e := 5) (by kernel_rfl) x y
@[simp] theorem x28_isSlice : isSlice Tryd.prog 28 = true := nr (by kernel_rfl)
@[simp] theorem x28_isString : isString Tryd.prog 28 = false := nr (by kernel_rfl)
@[simp] theorem x28_arrLen : arrLen Tryd.prog 28 = none := nr (by kernel_rfl)
@[simp] theorem x28_esz : esz Tryd.prog 28 = some 1 := nr (by kernel_rfl)
@[simp] theorem x28_isAggT : isAggT Tryd.prog 28 = some false := nr (by kernel_rfl)
@[simp] theorem x28_tsize : tsize Tryd.prog 28 = some 1 := nr (by kernel_rfl)
@[simp] theorem x28_notInt : notInt Tryd.prog 28 = true := nr (by kernel_rfl)
@[simp] theorem x28_isBytes : isBytes Tryd.prog 28 = true := nr (by kernel_rfl)
@[simp] theorem x28_row (T : List (Nat × Nat)) (d len : Nat) (ps : List (Nat × V)) : arowSlice Tryd.prog T d 28 len ps = if len * 1 ≤ 16777216 then rowFill (bl []) 1 len d T (fillV (fun k => some (k * 1, 1)) [] (zrep len [.p (.int .u8 0)]) ps) else none := arowSlice_eq (P := Tryd.prog) (t := 28) (s := 1) (zl := [.p (.int .u8 0)]) (e := 5) (b := 1) (z := .int .u8 0) (by kernel_rfl) (by kernel_rfl) (by kernel_rfl) rfl T d len ps
@[simp] theorem x28_own (H : List (Nat × (Nat × HB))) (d len : Nat) (ps : List (Nat × V)) : abuildSlice Tryd.prog H d 28 len ps = if len * 1 ≤ 16777216 then (fillV (fun k => some (k * 1, 1)) H (zrep len [.p (.int .u8 0)]) ps).map fun l => (.own d (nextVer H d) 0 len len, upd H d (nextVer H d, mkHB l)) else none := abuildSlice_eq (P := Tryd.prog) (t := 28) (s := 1) (zl := [.p (.int .u8 0)]) (e := 5) (b := 1) (z := .int .u8 0) (by kernel_rfl) (by kernel_rfl) (by kernel_rfl) rfl H d len ps
@[simp] theorem x28_copy (H : List (Nat × (Nat × HB))) (id ver off len cap : Nat) (y : V) : acopy Tryd.prog H 28 (.own id ver off len cap) y = copyR ver off len 1 H id (look H id) (srcV H 1 y) := acopy_eq (e := 5) (b := 1) (z := .int .u8 0) (by kernel_rfl) H id ver off len cap y
@[simp] theorem x28_make (H : List (Nat × (Nat × HB))) (d : Nat) (k k' : IntKind) (n m : Int) (h0 : 0 ≤ n) (h1 : n ≤ m) (h2 : m ≤ 281474976710656) : amakeSlice Tryd.prog H d 28 (.p (.int k n)) (.p (.int k' m)) = some (.own d (nextVer H d) 0 n.toNat m.toNat, upd H d (nextVer H d, .row (bl (List.replicate m.toNat 0#8)))) := amake_bytes (e := 5) (by kernel_rfl) H d k k' n m h0 h1 h2
@[simp] theorem x28_elem : elemInfo Tryd.prog 28 = some (5, 1, 1, .int .u8 0) := nr (by kernel_rfl)
@[simp] theorem x28_alloc (H : List (Nat × (Nat × HB))) (d : Nat) : aalloc Tryd.prog H d 28 = some (.ptr d (nextVer H d) 0, upd H d (nextVer H d, .cells [.p (.sl (.vals 1 []) true)])) := nr (by kernel_rfl)
@[simp] theorem x34_up : udesc Tryd.prog 34 = some (.pointer 36) := nr (by kernel_rfl)
@[simp] theorem x34_eq (x y : V) : eqNil Tryd.prog 34 x y = eqPt x y := eqNil_pt (e := 36) (by kernel_rfl) x y
@[simp] theorem x34_isSlice : isSlice Tryd.prog 34 = false := nr (by kernel_rfl)
@[simp] theorem x34_isString : isString Tryd.prog 34 = false := nr (by kernel_rfl)
@[simp] theorem x34_arrLen : arrLen Tryd.prog 34 = none := nr (by kernel_rfl)
@[simp] theorem x34_esz : esz Tryd.prog 34 = none := nr (by kernel_rfl)
@[simp] theorem x34_isAggT : isAggT Tryd.prog 34 = some false := nr (by kernel_rfl)
@[simp] theorem x34_tsize : tsize Tryd.prog 34 = some 1 := nr (by kernel_rfl)
@[simp] theorem x34_notInt : notInt Tryd.prog 34 = true := nr (by kernel_rfl)
@[simp] theorem x34_isBytes : isBytes Tryd.prog 34 = false := nr (by kernel_rfl)
@[simp] theorem x34_alloc (H : List (Nat × (Nat × HB))) (d : Nat) : aalloc Tryd.prog H d 34 = some (.ptr d (nextVer H d) 0, upd H d (nextVer H d, .cells [.p .ptr0])) := nr (by kernel_rfl)
@[simp] theorem x35_isSlice : isSlice Tryd.prog 35 = false := nr (by kernel_rfl)
@[simp] theorem x35_isString : isString Tryd.prog 35 = false := nr (by kernel_rfl)
@[simp] theorem x35_arrLen : arrLen Tryd.prog 35 = none := nr (by kernel_rfl)
@[simp] theorem x35_esz : esz Tryd.prog 35 = none := nr (by kernel_rfl)
@[simp] theorem x35_isAggT : isAggT Tryd.prog 35 = some true := nr (by kernel_rfl)
@[simp] theorem x35_tsize : tsize Tryd.prog 35 = some 2 := nr (by kernel_rfl)
@[simp] theorem x35_notInt : notInt Tryd.prog 35 = true := nr (by kernel_rfl)
@[simp] theorem x35_isBytes : isBytes Tryd.prog 35 = false := nr (by kernel_rfl)
@[simp] theorem x35_alloc (H : List (Nat × (Nat × HB))) (d : Nat) : aalloc Tryd.prog H d 35 = some (.ptr d (nextVer H d) 0, upd H d (nextVer H d, .cells [.p .ptr0, .p (.sl (.vals 1 []) true)])) := nr (by kernel_rfl)
@[simp] theorem x35_build (H : List (Nat × (Nat × HB))) (ps : List (Nat × V)) : abuild Tryd.prog H 35 ps = (fillV (fun k => lookN [(0, 1), (1, 1)] k) H [.p .ptr0, .p (.sl (.vals 1 []) true)] ps).map mkAgg := nr (by kernel_rfl)
@[simp] theorem x35_f0 (x : V) : afield Tryd.prog 35 x 0 = fieldV false 0 1 x := nr (by kernel_rfl)
@[simp] theorem x35_fa0 (id ver off : Nat) : afieldAddr Tryd.prog 35 (.ptr id ver off) 0 = some (.ptr id ver (off + 0)) := nr (by kernel_rfl)
@[simp] theorem x35_fe0 (r : Row PV) (i j : Nat) : afieldAddr Tryd.prog 35 (.p (.eptr r i j)) 0 = some (.p (.eptr r i (j + 0))) := nr (by kernel_rfl)
@[simp] theorem x35_f1 (x : V) : afield Tryd.prog 35 x 1 = fieldV false 1 1 x := nr (by kernel_rfl)
@[simp] theorem x35_fa1 (id ver off : Nat) : afieldAddr Tryd.prog 35 (.ptr id ver off) 1 = some (.ptr id ver (off + 1)) := nr (by kernel_rfl)
@[simp] theorem x35_fe1 (r : Row PV) (i j : Nat) : afieldAddr Tryd.prog 35 (.p (.eptr r i j)) 1 = some (.p (.eptr r i (j + 1))) := nr (by kernel_rfl)
@[simp] theorem x36_isSlice : isSlice Tryd.prog 36 = false := nr (by kernel_rfl)
@[simp] theorem x36_isString : isString Tryd.prog 36 = false := nr (by kernel_rfl)
@[simp] theorem x36_arrLen : arrLen Tryd.prog 36 = none := nr (by kernel_rfl)
@[simp] theorem x36_esz : esz Tryd.prog 36 = none := nr (by kernel_rfl)
@[simp] theorem x36_isAggT : isAggT Tryd.prog 36 = some true := nr (by kernel_rfl)
@[simp] theorem x36_tsize : tsize Tryd.prog 36 = some 2 := nr (by kernel_rfl)
@[simp] theorem x36_notInt : notInt Tryd.prog 36 = true := nr (by kernel_rfl)
@[simp] theorem x36_isBytes : isBytes Tryd.prog 36 = false := nr (by kernel_rfl)
@[simp] theorem x36_alloc (H : List (Nat × (Nat × HB))) (d : Nat) : aalloc Tryd.prog H d 36 = some (.ptr d (nextVer H d) 0, upd H d (nextVer H d, .cells [.adr d (nextVer H d) 0 36 2, .p (.sl (.vals 1 []) true)])) := nr (by kernel_rfl)
@[simp] theorem x36_build (H : List (Nat × (Nat × HB))) (ps : List (Nat × V)) : abuild Tryd.prog H 36 ps = (fillV (fun k => lookN [(0, 1), (1, 1)] k) H [.p .ptr0, .p (.sl (.vals 1 []) true)] ps).map mkAgg := nr (by kernel_rfl)
@[simp] theorem x36_f0 (x : V) : afield Tryd.prog 36 x 0 = fieldV false 0 1 x := nr (by kernel_rfl)
@[simp] theorem x36_fa0 (id ver off : Nat) : afieldAddr Tryd.prog 36 (.ptr id ver off) 0 = some (.ptr id ver (off + 0)) := nr (by kernel_rfl)
@[simp] theorem x36_fe0 (r : Row PV) (i j : Nat) : afieldAddr Tryd.prog 36 (.p (.eptr r i j)) 0 = some (.p (.eptr r i (j + 0))) := nr (by kernel_rfl)
@[simp] theorem x36_f1 (x : V) : afield Tryd.prog 36 x 1 = fieldV false 1 1 x := nr (by kernel_rfl)
@[simp] theorem x36_fa1 (id ver off : Nat) : afieldAddr Tryd.prog 36 (.ptr id ver off) 1 = some (.ptr id ver (off + 1)) := nr (by kernel_rfl)
@[simp] theorem x36_fe1 (r : Row PV) (i j : Nat) : afieldAddr Tryd.prog 36 (.p (.eptr r i j)) 1 = some (.p (.eptr r i (j + 1))) := nr (by kernel_rfl)
@[simp] theorem x47_us : udesc Tryd.prog 47 = some (.slice 21) := nr (by kernel_rfl)
@[simp] theorem x47_eq (x y : V) : eqNil Tryd.prog 47 x y = eqSl x y := eqNil_sl (e := 21) (by kernel_rfl) x y
@[simp] theorem x47_isSlice : isSlice Tryd.prog 47 = true := nr (by kernel_rfl)
@[simp] theorem x47_isString : isString Tryd.prog 47 = false := nr (by kernel_rfl)
@[simp] theorem x47_arrLen : arrLen Tryd.prog 47 = none := nr (by kernel_rfl)
@[simp] theorem x47_esz : esz Tryd.prog 47 = some 1 := nr (by kernel_rfl)
@[simp] theorem x47_isAggT : isAggT Tryd.prog 47 = some false := nr (by kernel_rfl)
@[simp] theorem x47_tsize : tsize Tryd.prog 47 = some 1 := nr (by kernel_rfl)
@[simp] theorem x47_notInt : notInt Tryd.prog 47 = true := nr (by kernel_rfl)
@[simp] theorem x47_isBytes : isBytes Tryd.prog 47 = false := nr (by kernel_rfl)
@[simp] theorem x47_row (T : List (Nat × Nat)) (d len : Nat) (ps : List (Nat × V)) : arowSlice Tryd.prog T d 47 len ps = if len * 1 ≤ 16777216 then rowFill (.ints .i32 []) 1 len d T (fillV (fun k => some (k * 1, 1)) [] (zrep len [.p (.int .i32 0)]) ps) else none := arowSlice_eq (P := Tryd.prog) (t := 47) (s := 1) (zl := [.p (.int .i32 0)]) (e := 21) (b := 4) (z := .int .i32 0) (by kernel_rfl) (by kernel_rfl) (by kernel_rfl) rfl T d len ps
@[simp] theorem x47_own (H : List (Nat × (Nat × HB))) (d len : Nat) (ps : List (Nat × V)) : abuildSlice Tryd.prog H d 47 len ps = if len * 1 ≤ 16777216 then (fillV (fun k => some (k * 1, 1)) H (zrep len [.p (.int .i32 0)]) ps).map fun l => (.own d (nextVer H d) 0 len len, upd H d (nextVer H d, mkHB l)) else none := abuildSlice_eq (P := Tryd.prog) (t := 47) (s := 1) (zl := [.p (.int .i32 0)]) (e := 21) (b := 4) (z := .int .i32 0) (by kernel_rfl) (by kernel_rfl) (by kernel_rfl) rfl H d len ps
@[simp] theorem x47_copy (H : List (Nat × (Nat × HB))) (id ver off len cap : Nat) (y : V) : acopy Tryd.prog H 47 (.own id ver off len cap) y = copyR ver off len 1 H id (look H id) (srcV H 1 y) := acopy_eq (e := 21) (b := 4) (z := .int .i32 0) (by kernel_rfl) H id ver off len cap y
@[simp] theorem x47_elem : elemInfo Tryd.prog 47 = some (21, 1, 4, .int .i32 0) := nr (by kernel_rfl)
@[simp] theorem x47_alloc (H : List (Nat × (Nat × HB))) (d : Nat) : aalloc Tryd.prog H d 47 = some (.ptr d (nextVer H d) 0, upd H d (nextVer H d, .cells [.p (.sl (.vals 1 []) true)])) := nr (by kernel_rfl)
@[simp] theorem x51_up : udesc Tryd.prog 51 = some (.pointer 5) := nr (by kernel_rfl)
@[simp] theorem x51_eq (x y : V) : eqNil Tryd.prog 51 x y = eqPt x y := eqNil_pt (e := 5) (by kernel_rfl) x y
@[simp] theorem x51_isSlice : isSlice Tryd.prog 51 = false := nr (by kernel_rfl)
@[simp] theorem x51_isString : isString Tryd.prog 51 = false := nr (by kernel_rfl)
@[simp] theorem x51_arrLen : arrLen Tryd.prog 51 = none := nr (by kernel_rfl)
@[simp] theorem x51_esz : esz Tryd.prog 51 = none := nr (by kernel_rfl)
@[simp] theorem x51_isAggT : isAggT Tryd.prog 51 = some false := nr (by kernel_rfl)
@[simp] theorem x51_tsize : tsize Tryd.prog 51 = some 1 := nr (by kernel_rfl)
@[simp] theorem x51_notInt : notInt Tryd.prog 51 = true := nr (by kernel_rfl)
@[simp] theorem x51_isBytes : isBytes Tryd.prog 51 = false := nr (by kernel_rfl)
@[simp] theorem x51_alloc (H : List (Nat × (Nat × HB))) (d : Nat) : aalloc Tryd.prog H d 51 = some (.ptr d (nextVer H d) 0, upd H d (nextVer H d, .cells [.p .ptr0])) := nr (by kernel_rfl)
@[simp] theorem x60_u : udesc Tryd.prog 60 = some (.int .u64) := nr (by kernel_rfl)
@[simp] theorem x60_isSlice : isSlice Tryd.prog 60 = false := nr (by kernel_rfl)
@[simp] theorem x60_isString : isString Tryd.prog 60 = false := nr (by kernel_rfl)
@[simp] theorem x60_arrLen : arrLen Tryd.prog 60 = none := nr (by kernel_rfl)
@[simp] theorem x60_esz : esz Tryd.prog 60 = none := nr (by kernel_rfl)
@[simp] theorem x60_isAggT : isAggT Tryd.prog 60 = some false := nr (by kernel_rfl)
@[simp] theorem x60_tsize : tsize Tryd.prog 60 = some 1 := nr (by kernel_rfl)
@[simp] theorem x60_notInt : notInt Tryd.prog 60 = false := nr (by kernel_rfl)
@[simp] theorem x60_isBytes : isBytes Tryd.prog 60 = false := nr (by kernel_rfl)
@[simp] theorem x60_alloc (H : List (Nat × (Nat × HB))) (d : Nat) : aalloc Tryd.prog H d 60 = some (.ptr d (nextVer H d) 0, upd H d (nextVer H d, .row (.ints .u64 [0]))) := nr (by kernel_rfl)
@[simp] theorem x66_eq (a b : List Int) (ha : a.length = 256) (hb : b.length = 256) : eqNil Tryd.prog 66 (.p (.agg (.ints .u8 a))) (.p (.agg (.ints .u8 b))) = some (a == b) := eqNil_arr (n := 256) (e := 5) (by kernel_rfl) (by kernel_rfl) (by kernel_rfl) (by kernel_rfl) a b ha hb
@[simp] theorem x66_eqb (a b : List (BitVec 8)) (ha : a.length = 256) (hb : b.length = 256) : eqNil Tryd.prog 66 (.p (.agg (bl a))) (.p (.agg (bl b))) = some (a == b) := eqNil_bytes (n := 256) (e := 5) (by kernel_rfl) (by kernel_rfl) (by kernel_rfl) (by kernel_rfl) a b ha hb
@[simp] theorem x66_isSlice : isSlice Tryd.prog 66 = false := nr (by kernel_rfl)
@[simp] theorem x66_isString : isString Tryd.prog 66 = false := nr (by kernel_rfl)
@[simp] theorem x66_arrLen : arrLen Tryd.prog 66 = some 256 := nr (by kernel_rfl)
@[simp] theorem x66_esz : esz Tryd.prog 66 = some 1 := nr (by kernel_rfl)
@[simp] theorem x66_isAggT : isAggT Tryd.prog 66 = some true := nr (by kernel_rfl)
@[simp] theorem x66_tsize : tsize Tryd.prog 66 = some 256 := nr (by kernel_rfl)
@[simp] theorem x66_notInt : notInt Tryd.prog 66 = true := nr (by kernel_rfl)
@[simp] theorem x66_isBytes : isBytes Tryd.prog 66 = false := nr (by kernel_rfl)
@[simp] theorem x66_arrElem : arrElem Tryd.prog 66 = some 256 := nr (by kernel_rfl)
@[simp] theorem x67_eqs (r s : Row PV) : eqNil Tryd.prog 67 (.p (.agg r)) (.p (.agg s)) = eqAts r s [(0, 0), (1, 0)] := eqNil_struct (by kernel_rfl) r s
@[simp] theorem x67_isSlice : isSlice Tryd.prog 67 = false := nr (by kernel_rfl)
@[simp] theorem x67_isString : isString Tryd.prog 67 = false := nr (by kernel_rfl)
@[simp] theorem x67_arrLen : arrLen Tryd.prog 67 = none := nr (by kernel_rfl)
@[simp] theorem x67_esz : esz Tryd.prog 67 = none := nr (by kernel_rfl)
@[simp] theorem x67_isAggT : isAggT Tryd.prog 67 = some true := nr (by kernel_rfl)
@[simp] theorem x67_tsize : tsize Tryd.prog 67 = some 2 := nr (by kernel_rfl)
@[simp] theorem x67_notInt : notInt Tryd.prog 67 = true := nr (by kernel_rfl)
@[simp] theorem x67_isBytes : isBytes Tryd.prog 67 = false := nr (by kernel_rfl)
@[simp] theorem x67_alloc (H : List (Nat × (Nat × HB))) (d : Nat) : aalloc Tryd.prog H d 67 = some (.ptr d (nextVer H d) 0, upd H d (nextVer H d, .row (.ints .u8 [0, 0]))) := nr (by kernel_rfl)
@[simp] theorem x67_build (H : List (Nat × (Nat × HB))) (ps : List (Nat × V)) : abuild Tryd.prog H 67 ps = (fillV (fun k => lookN [(0, 1), (1, 1)] k) H [.p (.int .u8 0), .p (.int .u8 0)] ps).map mkAgg := nr (by kernel_rfl)
@[simp] theorem x67_f0 (x : V) : afield Tryd.prog 67 x 0 = fieldV false 0 1 x := nr (by kernel_rfl)
@[simp] theorem x67_fa0 (id ver off : Nat) : afieldAddr Tryd.prog 67 (.ptr id ver off) 0 = some (.ptr id ver (off + 0)) := nr (by kernel_rfl)
@[simp] theorem x67_fe0 (r : Row PV) (i j : Nat) : afieldAddr Tryd.prog 67 (.p (.eptr r i j)) 0 = some (.p (.eptr r i (j + 0))) := nr (by kernel_rfl)
@[simp] theorem x67_f1 (x : V) : afield Tryd.prog 67 x 1 = fieldV false 1 1 x := nr (by kernel_rfl)
@[simp] theorem x67_fa1 (id ver off : Nat) : afieldAddr Tryd.prog 67 (.ptr id ver off) 1 = some (.ptr id ver (off + 1)) := nr (by kernel_rfl)
@[simp] theorem x67_fe1 (r : Row PV) (i j : Nat) : afieldAddr Tryd.prog 67 (.p (.eptr r i j)) 1 = some (.p (.eptr r i (j + 1))) := nr (by kernel_rfl)
@[simp] theorem x68_eqs (r s : Row PV) : eqNil Tryd.prog 68 (.p (.agg r)) (.p (.agg s)) = eqAts r s [(0, 0), (1, 0)] := eqNil_struct (by kernel_rfl) r s
@[simp] theorem x68_isSlice : isSlice Tryd.prog 68 = false := nr (by kernel_rfl)
@[simp] theorem x68_isString : isString Tryd.prog 68 = false := nr (by kernel_rfl)
@[simp] theorem x68_arrLen : arrLen Tryd.prog 68 = none := nr (by kernel_rfl)
@[simp] theorem x68_esz : esz Tryd.prog 68 = none := nr (by kernel_rfl)
@[simp] theorem x68_isAggT : isAggT Tryd.prog 68 = some true := nr (by kernel_rfl)
@[simp] theorem x68_tsize : tsize Tryd.prog 68 = some 2 := nr (by kernel_rfl)
@[simp] theorem x68_notInt : notInt Tryd.prog 68 = true := nr (by kernel_rfl)
@[simp] theorem x68_isBytes : isBytes Tryd.prog 68 = false := nr (by kernel_rfl)
@[simp] theorem x68_alloc (H : List (Nat × (Nat × HB))) (d : Nat) : aalloc Tryd.prog H d 68 = some (.ptr d (nextVer H d) 0, upd H d (nextVer H d, .row (.ints .u8 [0, 0]))) := nr (by kernel_rfl)
@[simp] theorem x68_build (H : List (Nat × (Nat × HB))) (ps : List (Nat × V)) : abuild Tryd.prog H 68 ps = (fillV (fun k => lookN [(0, 1), (1, 1)] k) H [.p (.int .u8 0), .p (.int .u8 0)] ps).map mkAgg := nr (by kernel_rfl)
@[simp] theorem x68_f0 (x : V) : afield Tryd.prog 68 x 0 = fieldV false 0 1 x := nr (by kernel_rfl)
@[simp] theorem x68_fa0 (id ver off : Nat) : afieldAddr Tryd.prog 68 (.ptr id ver off) 0 = some (.ptr id ver (off + 0)) := nr (by kernel_rfl)
@[simp] theorem x68_fe0 (r : Row PV) (i j : Nat) : afieldAddr Tryd.prog 68 (.p (.eptr r i j)) 0 = some (.p (.eptr r i (j + 0))) := nr (by kernel_rfl)
@[simp] theorem x68_f1 (x : V) : afield Tryd.prog 68 x 1 = fieldV false 1 1 x := nr (by kernel_rfl)
@[simp] theorem x68_fa1 (id ver off : Nat) : afieldAddr Tryd.prog 68 (.ptr id ver off) 1 = some (.ptr id ver (off + 1)) := nr (by kernel_rfl)
@[simp] theorem x68_fe1 (r : Row PV) (i j : Nat) : afieldAddr Tryd.prog 68 (.p (.eptr r i j)) 1 = some (.p (.eptr r i (j + 1))) := nr (by kernel_rfl)
@[simp] theorem x69_isSlice : isSlice Tryd.prog 69 = false := nr (by kernel_rfl)
@[simp] theorem x69_isString : isString Tryd.prog 69 = false := nr (by kernel_rfl)
@[simp] theorem x69_arrLen : arrLen Tryd.prog 69 = some 16 := nr (by kernel_rfl)
@[simp] theorem x69_esz : esz Tryd.prog 69 = some 2 := nr (by kernel_rfl)
@[simp] theorem x69_isAggT : isAggT Tryd.prog 69 = some true := nr (by kernel_rfl)
@[simp] theorem x69_tsize : tsize Tryd.prog 69 = some 32 := nr (by kernel_rfl)
@[simp] theorem x69_notInt : notInt Tryd.prog 69 = true := nr (by kernel_rfl)
@[simp] theorem x69_isBytes : isBytes Tryd.prog 69 = false := nr (by kernel_rfl)
@[simp] theorem x69_arrElem : arrElem Tryd.prog 69 = none := nr (by kernel_rfl)
@[simp] theorem x70_u : udesc Tryd.prog 70 = some (.int .u32) := nr (by kernel_rfl)
@[simp] theorem x70_isSlice : isSlice Tryd.prog 70 = false := nr (by kernel_rfl)
@[simp] theorem x70_isString : isString Tryd.prog 70 = false := nr (by kernel_rfl)
@[simp] theorem x70_arrLen : arrLen Tryd.prog 70 = none := nr (by kernel_rfl)
@[simp] theorem x70_esz : esz Tryd.prog 70 = none := nr (by kernel_rfl)
@[simp] theorem x70_isAggT : isAggT Tryd.prog 70 = some false := nr (by kernel_rfl)
@[simp] theorem x70_tsize : tsize Tryd.prog 70 = some 1 := nr (by kernel_rfl)
@[simp] theorem x70_notInt : notInt Tryd.prog 70 = false := nr (by kernel_rfl)
@[simp] theorem x70_isBytes : isBytes Tryd.prog 70 = false := nr (by kernel_rfl)
@[simp] theorem x70_alloc (H : List (Nat × (Nat × HB))) (d : Nat) : aalloc Tryd.prog H d 70 = some (.ptr d (nextVer H d) 0, upd H d (nextVer H d, .row (.ints .u32 [0]))) := nr (by kernel_rfl)
@[simp] theorem x74_u : udesc Tryd.prog 74 = some (.int .u64) := nr (by kernel_rfl)
@[simp] theorem x74_isSlice : isSlice Tryd.prog 74 = false := nr (by kernel_rfl)
@[simp] theorem x74_isString : isString Tryd.prog 74 = false := nr (by kernel_rfl)
@[simp] theorem x74_arrLen : arrLen Tryd.prog 74 = none := nr (by kernel_rfl)
@[simp] theorem x74_esz : esz Tryd.prog 74 = none := nr (by kernel_rfl)
@[simp] theorem x74_isAggT : isAggT Tryd.prog 74 = some false := nr (by kernel_rfl)
@[simp] theorem x74_tsize : tsize Tryd.prog 74 = some 1 := nr (by kernel_rfl)
@[simp] theorem x74_notInt : notInt Tryd.prog 74 = false := nr (by kernel_rfl)
@[simp] theorem x74_isBytes : isBytes Tryd.prog 74 = false := nr (by kernel_rfl)
@[simp] theorem x74_alloc (H : List (Nat × (Nat × HB))) (d : Nat) : aalloc Tryd.prog H d 74 = some (.ptr d (nextVer H d) 0, upd H d (nextVer H d, .row (.ints .u64 [0]))) := nr (by kernel_rfl)
theorem mixed : Tryd.prog.follows .mixedOrders = true := by kernel_rfl
end Go.Av.Chl
end
section
set_option linter.unusedVariables false
namespace Go.Av.Chl
open Go Go.Av Go.Proofs
def firstF (n : Nat) : Int := if n < 128 then 240 else if n < 194 then 241 else if n < 224 then 2 else if n = 224 then 19 else if n = 237 then 35 else if n < 240 then 3 else if n = 240 then 52 else if n < 244 then 4 else if n = 244 then 68 else 241
def firstL : List Int := (List.range 256).map firstF
def accL : List Int := [128, 191, 160, 191, 128, 159, 144, 191, 128, 143, 0, 0, 0, 0, 0, 0, 0, 0, 0, 0, 0, 0, 0, 0, 0, 0, 0, 0, 0, 0, 0, 0]
class ML where
  m : Int
def glF (m : Int) : Nat → Option (Row PV)
  | 0 => some (.vals 1 [.int .i64 m])
  | 1 => some (.vals 256 [.agg (.ints .u8 firstL)])
  | 2 => some (.vals 32 [.agg (.ints .u8 accL)])
  | _ => none
instance [ML] : Tables := ⟨glF ML.m, fun f => if f = 44 ∨ f = 51 ∨ f = 16 ∨ f = 17 ∨ f = 26 then 2 else 0⟩
end Go.Av.Chl
end
section
set_option linter.unusedSimpArgs false
set_option linter.unusedVariables false
set_option linter.unusedSectionVars false
open Go Go.Av Go.Proofs
namespace Go.Av.Chl
variable [ML]
def charB (r : Int) : Bool := decide (0 ≤ r ∧ r ≤ 1114111 ∧ (r < 55296 ∨ 57343 < r))
def xmlB (r : Int) : Bool := decide (r = 9 ∨ r = 10 ∨ r = 13 ∨ (32 ≤ r ∧ r ≤ 55295) ∨ (57344 ≤ r ∧ r ≤ 65533) ∨ (65536 ≤ r ∧ r ≤ 1114111))
theorem validRune_ct (r : Int) : Fn Tryd.prog 43 [.int .i32 r] [.p (.bool (charB r))] := by
  refine Fn.of_body Tryd.func43 rfl ?_
  have hr : r < 0 ∨ (0 ≤ r ∧ r < 55296) ∨ (55296 ≤ r ∧ r ≤ 57343) ∨ (57343 < r ∧ r ≤ 1114111) ∨ 1114111 < r := by omega
  rcases hr with hr | hr | hr | hr | hr
  all_goals
    (first | have f1 : (0 ≤ r) = True := eq_true (by omega) | have f1 : (0 ≤ r) = False := eq_false (by omega)); (first | have f2 : (r ≤ 1114111) = True := eq_true (by omega) | have f2 : (r ≤ 1114111) = False := eq_false (by omega)); (first | have f3 : (r < 55296) = True := eq_true (by omega) | have f3 : (r < 55296) = False := eq_false (by omega)); (first | have f4 : (57343 < r) = True := eq_true (by omega) | have f4 : (57343 < r) = False := eq_false (by omega))
    (first | have fx : charB r = true := by simp [charB, f1, f2, f3, f4] | have fx : charB r = false := by simp [charB, f1, f2, f3, f4])
    rw [fx]
    repeat (first | ((first | refine zP fun K_ hK_ => ?_ | refine zQ fun K_ hK_ => ?_ | refine zR (by kernel_rfl) (by kernel_rfl) fun K_ hK_ => ?_ | refine zS (by kernel_rfl) (by kernel_rfl) fun K_ hK_ => ?_ | refine zT ?_); first | (simp (maxSteps := 1000000) (disch := refine hold_ ?_; first | (simp [f1, f2, f3, f4, -List.getD_eq_getElem?_getD]; done) | omega) [f1, f2, f3, f4, -List.getD_eq_getElem?_getD]; try first | refine zZ ?_ | subst hK_) | subst hK_) | refine zA ?_ | refine zB ?_ | refine zC ?_ | refine zD ?_ | refine zE ?_ | refine zF ?_ | refine zG ?_ | refine zH ?_ | refine zI ?_ | refine zJ ?_ | refine zK ?_ | refine zL ?_ | refine zM ?_ | refine zN ?_ | refine zO ?_ | refine yG (by decide) ?_ | refine AW.condT rfl ?_ | refine AW.condF rfl ?_)
    simp (maxSteps := 1000000) (disch := refine hold_ ?_; first | (simp [f1, f2, f3, f4, -List.getD_eq_getElem?_getD]; done) | omega) [f1, f2, f3, f4, -List.getD_eq_getElem?_getD]
set_option maxHeartbeats 4000000 in
theorem xml_ct (r : Int) : Fn Tryd.prog 24 [.int .i32 r] [.p (.bool (xmlB r))] := by
  refine Fn.of_body Tryd.func24 rfl ?_
  have hr : r < 9 ∨ r = 9 ∨ r = 10 ∨ (10 < r ∧ r < 13) ∨ r = 13 ∨ (13 < r ∧ r < 32) ∨ (32 ≤ r ∧ r ≤ 55295) ∨ (55295 < r ∧ r < 57344) ∨ (57344 ≤ r ∧ r ≤ 65533) ∨ (65533 < r ∧ r < 65536) ∨ (65536 ≤ r ∧ r ≤ 1114111) ∨ 1114111 < r := by omega
  rcases hr with hr | hr | hr | hr | hr | hr | hr | hr | hr | hr | hr | hr
  all_goals
    (first | have f1 : (r == 9) = true := beq_iff_eq.2 (by omega) | have f1 : (r == 9) = false := beq_eq_false_iff_ne.2 (by omega)); (first | have f2 : (r == 10) = true := beq_iff_eq.2 (by omega) | have f2 : (r == 10) = false := beq_eq_false_iff_ne.2 (by omega)); (first | have f3 : (r == 13) = true := beq_iff_eq.2 (by omega) | have f3 : (r == 13) = false := beq_eq_false_iff_ne.2 (by omega)); (first | have f4 : (32 ≤ r) = True := eq_true (by omega) | have f4 : (32 ≤ r) = False := eq_false (by omega)); (first | have f5 : (r ≤ 55295) = True := eq_true (by omega) | have f5 : (r ≤ 55295) = False := eq_false (by omega)); (first | have f6 : (57344 ≤ r) = True := eq_true (by omega) | have f6 : (57344 ≤ r) = False := eq_false (by omega)); (first | have f7 : (r ≤ 65533) = True := eq_true (by omega) | have f7 : (r ≤ 65533) = False := eq_false (by omega)); (first | have f8 : (65536 ≤ r) = True := eq_true (by omega) | have f8 : (65536 ≤ r) = False := eq_false (by omega)); (first | have f9 : (r ≤ 1114111) = True := eq_true (by omega) | have f9 : (r ≤ 1114111) = False := eq_false (by omega))
    (first | have g1 : (r = 9) = True := eq_true (by omega) | have g1 : (r = 9) = False := eq_false (by omega)); (first | have g2 : (r = 10) = True := eq_true (by omega) | have g2 : (r = 10) = False := eq_false (by omega)); (first | have g3 : (r = 13) = True := eq_true (by omega) | have g3 : (r = 13) = False := eq_false (by omega))
    (first | have fx : xmlB r = true := by simp [xmlB, f1, f2, f3, f4, f5, f6, f7, f8, f9, g1, g2, g3] | have fx : xmlB r = false := by simp [xmlB, f1, f2, f3, f4, f5, f6, f7, f8, f9, g1, g2, g3])
    rw [fx]
    repeat (first | ((first | refine zP fun K_ hK_ => ?_ | refine zQ fun K_ hK_ => ?_ | refine zR (by kernel_rfl) (by kernel_rfl) fun K_ hK_ => ?_ | refine zS (by kernel_rfl) (by kernel_rfl) fun K_ hK_ => ?_ | refine zT ?_); first | (simp (maxSteps := 1000000) (disch := refine hold_ ?_; first | (simp [f1, f2, f3, f4, f5, f6, f7, f8, f9, -List.getD_eq_getElem?_getD]; done) | omega) [f1, f2, f3, f4, f5, f6, f7, f8, f9, -List.getD_eq_getElem?_getD]; try first | refine zZ ?_ | subst hK_) | subst hK_) | refine zA ?_ | refine zB ?_ | refine zC ?_ | refine zD ?_ | refine zE ?_ | refine zF ?_ | refine zG ?_ | refine zH ?_ | refine zI ?_ | refine zJ ?_ | refine zK ?_ | refine zL ?_ | refine zM ?_ | refine zN ?_ | refine zO ?_ | refine yG (by decide) ?_ | refine AW.condT rfl ?_ | refine AW.condF rfl ?_)
    simp (maxSteps := 1000000) (disch := refine hold_ ?_; first | (simp [f1, f2, f3, f4, f5, f6, f7, f8, f9, -List.getD_eq_getElem?_getD]; done) | omega) [f1, f2, f3, f4, f5, f6, f7, f8, f9, -List.getD_eq_getElem?_getD]
end Go.Av.Chl
end
section
set_option linter.unusedSimpArgs false
set_option linter.unusedVariables false
set_option linter.unusedSectionVars false
open Go Go.Av Go.Proofs
namespace Go.Av.Chl
variable [ML]
def byt (n : Int) : BitVec 8 := BitVec.ofInt 8 n
def encL (r : Int) : List (BitVec 8) :=
  if r < 128 then [byt r]
  else if r < 2048 then [byt (192 + r / 64), byt (128 + r % 64)]
  else if r < 65536 then [byt (224 + r / 4096), byt (128 + r / 64 % 64), byt (128 + r % 64)]
  else [byt (240 + r / 262144), byt (128 + r / 4096 % 64), byt (128 + r / 64 % 64), byt (128 + r % 64)]
theorem ub_byt (n : Int) (h0 : 0 ≤ n) (h : n < 256) : ub (byt n) = n := by simp [ub, byt, BitVec.toNat_ofInt]; omega
theorem ints_byt1 (a : Int) (h : 0 ≤ a ∧ a < 256) : (Row.ints .u8 [a] : Row PV) = bl [byt a] := by simp [bl, ub_byt, h]
theorem ints_byt2 (a b : Int) (h : 0 ≤ a ∧ a < 256) (h2 : 0 ≤ b ∧ b < 256) : (Row.ints .u8 [a, b] : Row PV) = bl [byt a, byt b] := by simp [bl, ub_byt, h, h2]
theorem ints_byt3 (a b c : Int) (h : 0 ≤ a ∧ a < 256) (h2 : 0 ≤ b ∧ b < 256) (h3 : 0 ≤ c ∧ c < 256) : (Row.ints .u8 [a, b, c] : Row PV) = bl [byt a, byt b, byt c] := by simp [bl, ub_byt, h, h2, h3]
theorem ints_byt4 (a b c d : Int) (h : 0 ≤ a ∧ a < 256) (h2 : 0 ≤ b ∧ b < 256) (h3 : 0 ≤ c ∧ c < 256) (h4 : 0 ≤ d ∧ d < 256) : (Row.ints .u8 [a, b, c, d] : Row PV) = bl [byt a, byt b, byt c, byt d] := by simp [bl, ub_byt, h, h2, h3, h4]
theorem wrap_u32 (n : Int) (h0 : 0 ≤ n) (h : n < 4294967296) : IntKind.u32.wrap n = n := by
  have : IntKind.u32.wrap n = n % 4294967296 := rfl
  rw [this]; omega
end Go.Av.Chl
end
section
set_option linter.unusedSimpArgs false
set_option linter.unusedVariables false
set_option linter.unusedSectionVars false
open Go Go.Av Go.Proofs
namespace Go.Av.Chl
variable [ML]
theorem ib_and (k : IntKind) (a b : Int) : intBin .and k a b = some (.int k (k.wrap (BitVec.ofInt k.bits a &&& BitVec.ofInt k.bits b).toNat)) := rfl
theorem ib_or (k : IntKind) (a b : Int) : intBin .or k a b = some (.int k (k.wrap (BitVec.ofInt k.bits a ||| BitVec.ofInt k.bits b).toNat)) := rfl
set_option maxRecDepth 100000 in
theorem and63F : ∀ x : Fin 256, IntKind.u8.wrap ((BitVec.ofInt IntKind.u8.bits ((x.val : Nat) : Int) &&& BitVec.ofInt IntKind.u8.bits 63).toNat : Nat) = ((x.val % 64 : Nat) : Int) := by decide
set_option maxRecDepth 100000 in
theorem or128F : ∀ x : Fin 64, IntKind.u8.wrap ((BitVec.ofInt IntKind.u8.bits 128 ||| BitVec.ofInt IntKind.u8.bits ((x.val : Nat) : Int)).toNat : Nat) = ((128 + x.val : Nat) : Int) := by decide
theorem or192F : ∀ x : Fin 32, IntKind.u8.wrap ((BitVec.ofInt IntKind.u8.bits 192 ||| BitVec.ofInt IntKind.u8.bits ((x.val : Nat) : Int)).toNat : Nat) = ((192 + x.val : Nat) : Int) := by decide
theorem or224F : ∀ x : Fin 16, IntKind.u8.wrap ((BitVec.ofInt IntKind.u8.bits 224 ||| BitVec.ofInt IntKind.u8.bits ((x.val : Nat) : Int)).toNat : Nat) = ((224 + x.val : Nat) : Int) := by decide
theorem or240F : ∀ x : Fin 8, IntKind.u8.wrap ((BitVec.ofInt IntKind.u8.bits 240 ||| BitVec.ofInt IntKind.u8.bits ((x.val : Nat) : Int)).toNat : Nat) = ((240 + x.val : Nat) : Int) := by decide
theorem and63 (x : Int) (h : 0 ≤ x ∧ x < 256) : intBin .and .u8 x 63 = some (.int .u8 (x % 64)) := by
  obtain ⟨n, rfl⟩ : ∃ n : Nat, x = n := ⟨x.toNat, by omega⟩
  have := and63F ⟨n, by omega⟩
  rw [ib_and, this]; simp
theorem or128 (x : Int) (h : 0 ≤ x ∧ x < 64) : intBin .or .u8 128 x = some (.int .u8 (128 + x)) := by
  obtain ⟨n, rfl⟩ : ∃ n : Nat, x = n := ⟨x.toNat, by omega⟩
  have := or128F ⟨n, by omega⟩
  rw [ib_or, this]; simp
theorem or192 (x : Int) (h : 0 ≤ x ∧ x < 32) : intBin .or .u8 192 x = some (.int .u8 (192 + x)) := by
  obtain ⟨n, rfl⟩ : ∃ n : Nat, x = n := ⟨x.toNat, by omega⟩
  have := or192F ⟨n, by omega⟩
  rw [ib_or, this]; simp
theorem or224 (x : Int) (h : 0 ≤ x ∧ x < 16) : intBin .or .u8 224 x = some (.int .u8 (224 + x)) := by
  obtain ⟨n, rfl⟩ : ∃ n : Nat, x = n := ⟨x.toNat, by omega⟩
  have := or224F ⟨n, by omega⟩
  rw [ib_or, this]; simp
theorem or240 (x : Int) (h : 0 ≤ x ∧ x < 8) : intBin .or .u8 240 x = some (.int .u8 (240 + x)) := by
  obtain ⟨n, rfl⟩ : ∃ n : Nat, x = n := ⟨x.toNat, by omega⟩
  have := or240F ⟨n, by omega⟩
  rw [ib_or, this]; simp
theorem shr_i32 (x b : Int) (m : Int) (hb : 0 ≤ b) (hm : 2 ^ (min b.toNat 32) = m) (h0 : 0 < m) : shiftBin .shr .i32 x b = some (.int .i32 (x / m)) := by
  unfold shiftBin
  rw [if_neg (by omega)]
  simp only [show IntKind.i32.bits = 32 from rfl, hm]
  rw [Int.fdiv_eq_ediv_of_nonneg _ (by omega)]
theorem shr6 (x : Int) : shiftBin .shr .i32 x 6 = some (.int .i32 (x / 64)) := shr_i32 x 6 64 (by omega) (by decide) (by omega)
theorem shr12 (x : Int) : shiftBin .shr .i32 x 12 = some (.int .i32 (x / 4096)) := shr_i32 x 12 4096 (by omega) (by decide) (by omega)
theorem shr18 (x : Int) : shiftBin .shr .i32 x 18 = some (.int .i32 (x / 262144)) := shr_i32 x 18 262144 (by omega) (by decide) (by omega)
set_option maxHeartbeats 8000000 in
theorem appendNon_ct (c : List (BitVec 8)) (nl : Bool) (r : Int) (h0 : 128 ≤ r) (hr : charB r = true) (hc : c.length ≤ 100000000) :
    FnG Tryd.prog 51 [.row (bl c) 10000 0 nl, .p (.int .i32 r)] [] 1 [.row (bl (c ++ encL r)) 0 0 false] [] 1 := by
  refine FnG.of_body Tryd.func51 rfl ?_
  have hr2 : 0 ≤ r ∧ r ≤ 1114111 ∧ (r < 55296 ∨ 57343 < r) := by simpa [charB] using hr
  have w0 : IntKind.u32.wrap r = r := wrap_u32 _ (by omega) (by omega)
  have g3 : IntKind.u8.wrap r = r % 256 := rfl
  have g4 : intBin .and .u8 (r % 256) 63 = some (.int .u8 (r % 64)) := by rw [and63 _ (by omega)]; congr 2; omega
  have g5 : intBin .or .u8 128 (r % 64) = some (.int .u8 (128 + r % 64)) := or128 _ (by omega)
  have i1 : IntKind.u8.wrap (r / 64) = r / 64 % 256 := rfl
  have i2 : intBin .and .u8 (r / 64 % 256) 63 = some (.int .u8 (r / 64 % 64)) := by rw [and63 _ (by omega)]; congr 2; omega
  have i3 : intBin .or .u8 128 (r / 64 % 64) = some (.int .u8 (128 + r / 64 % 64)) := or128 _ (by omega)
  have j1 : IntKind.u8.wrap (r / 4096) = r / 4096 % 256 := rfl
  have j2 : intBin .and .u8 (r / 4096 % 256) 63 = some (.int .u8 (r / 4096 % 64)) := by rw [and63 _ (by omega)]; congr 2; omega
  have j3 : intBin .or .u8 128 (r / 4096 % 64) = some (.int .u8 (128 + r / 4096 % 64)) := or128 _ (by omega)
  have hcs : r < 2048 ∨ (2048 ≤ r ∧ r < 55296) ∨ (57343 < r ∧ r < 65536) ∨ 65536 ≤ r := by omega
  rcases hcs with hcs | hcs | hcs | hcs
  all_goals (first | have f1 : (r < 128) = True := eq_true (by omega) | have f1 : (r < 128) = False := eq_false (by omega)); (first | have f2 : (r < 2048) = True := eq_true (by omega) | have f2 : (r < 2048) = False := eq_false (by omega)); (first | have f3 : (r < 65536) = True := eq_true (by omega) | have f3 : (r < 65536) = False := eq_false (by omega)); (first | have f4 : (r ≤ 2047) = True := eq_true (by omega) | have f4 : (r ≤ 2047) = False := eq_false (by omega)); (first | have f5 : (r < 55296) = True := eq_true (by omega) | have f5 : (r < 55296) = False := eq_false (by omega)); (first | have f6 : (57343 < r) = True := eq_true (by omega) | have f6 : (57343 < r) = False := eq_false (by omega)); (first | have f7 : (r ≤ 65535) = True := eq_true (by omega) | have f7 : (r ≤ 65535) = False := eq_false (by omega)); (first | have f8 : (65535 < r) = True := eq_true (by omega) | have f8 : (65535 < r) = False := eq_false (by omega)); (first | have f9 : (r ≤ 1114111) = True := eq_true (by omega) | have f9 : (r ≤ 1114111) = False := eq_false (by omega))
  · have hE : encL r = [byt (192 + r / 64), byt (128 + r % 64)] := by simp [encL, f1, f2]
    have g1 : IntKind.u8.wrap (r / 64) = r / 64 := wrap_u8' _ (by omega) (by omega)
    have g2 : intBin .or .u8 192 (r / 64) = some (.int .u8 (192 + r / 64)) := or192 _ (by omega)
    have hB := ints_byt2 (192 + r / 64) (128 + r % 64) (by omega) (by omega)
    rw [hE]
    repeat (first | ((first | refine zP fun K_ hK_ => ?_ | refine zQ fun K_ hK_ => ?_ | refine zR (by kernel_rfl) (by kernel_rfl) fun K_ hK_ => ?_ | refine zS (by kernel_rfl) (by kernel_rfl) fun K_ hK_ => ?_ | refine zT ?_); first | (simp (maxSteps := 1000000) (disch := refine hold_ ?_; first | (simp [w0, g1, g2, g3, g4, g5, shr6, hB, f1, f2, f3, f4, f5, f6, f7, f8, f9, -List.getD_eq_getElem?_getD]; done) | omega) [w0, g1, g2, g3, g4, g5, shr6, hB, f1, f2, f3, f4, f5, f6, f7, f8, f9, -List.getD_eq_getElem?_getD]; try first | refine zZ ?_ | subst hK_) | subst hK_) | refine zA ?_ | refine zB ?_ | refine zC ?_ | refine zD ?_ | refine zE ?_ | refine zF ?_ | refine zG ?_ | refine zH ?_ | refine zI ?_ | refine zJ ?_ | refine zK ?_ | refine zL ?_ | refine zM ?_ | refine zN ?_ | refine zO ?_ | refine yG (by decide) ?_ | refine AW.condT rfl ?_ | refine AW.condF rfl ?_)
    simp (maxSteps := 1000000) (disch := refine hold_ ?_; first | (simp [hB, -List.getD_eq_getElem?_getD]; done) | omega) [hB, -List.getD_eq_getElem?_getD]
  iterate 2
    · have hE : encL r = [byt (224 + r / 4096), byt (128 + r / 64 % 64), byt (128 + r % 64)] := by simp [encL, f1, f2, f3]
      have g1 : IntKind.u8.wrap (r / 4096) = r / 4096 := wrap_u8' _ (by omega) (by omega)
      have g2 : intBin .or .u8 224 (r / 4096) = some (.int .u8 (224 + r / 4096)) := or224 _ (by omega)
      have hB := ints_byt3 (224 + r / 4096) (128 + r / 64 % 64) (128 + r % 64) (by omega) (by omega) (by omega)
      rw [hE]
      repeat (first | ((first | refine zP fun K_ hK_ => ?_ | refine zQ fun K_ hK_ => ?_ | refine zR (by kernel_rfl) (by kernel_rfl) fun K_ hK_ => ?_ | refine zS (by kernel_rfl) (by kernel_rfl) fun K_ hK_ => ?_ | refine zT ?_); first | (simp (maxSteps := 1000000) (disch := refine hold_ ?_; first | (simp [w0, g1, g2, g3, g4, g5, i1, i2, i3, shr6, shr12, hB, f1, f2, f3, f4, f5, f6, f7, f8, f9, -List.getD_eq_getElem?_getD]; done) | omega) [w0, g1, g2, g3, g4, g5, i1, i2, i3, shr6, shr12, hB, f1, f2, f3, f4, f5, f6, f7, f8, f9, -List.getD_eq_getElem?_getD]; try first | refine zZ ?_ | subst hK_) | subst hK_) | refine zA ?_ | refine zB ?_ | refine zC ?_ | refine zD ?_ | refine zE ?_ | refine zF ?_ | refine zG ?_ | refine zH ?_ | refine zI ?_ | refine zJ ?_ | refine zK ?_ | refine zL ?_ | refine zM ?_ | refine zN ?_ | refine zO ?_ | refine yG (by decide) ?_ | refine AW.condT rfl ?_ | refine AW.condF rfl ?_)
      simp (maxSteps := 1000000) (disch := refine hold_ ?_; first | (simp [hB, -List.getD_eq_getElem?_getD]; done) | omega) [hB, -List.getD_eq_getElem?_getD]
  · have hE : encL r = [byt (240 + r / 262144), byt (128 + r / 4096 % 64), byt (128 + r / 64 % 64), byt (128 + r % 64)] := by simp [encL, f1, f2, f3]
    have g1 : IntKind.u8.wrap (r / 262144) = r / 262144 := wrap_u8' _ (by omega) (by omega)
    have g2 : intBin .or .u8 240 (r / 262144) = some (.int .u8 (240 + r / 262144)) := or240 _ (by omega)
    have hB := ints_byt4 (240 + r / 262144) (128 + r / 4096 % 64) (128 + r / 64 % 64) (128 + r % 64) (by omega) (by omega) (by omega) (by omega)
    rw [hE]
    repeat (first | ((first | refine zP fun K_ hK_ => ?_ | refine zQ fun K_ hK_ => ?_ | refine zR (by kernel_rfl) (by kernel_rfl) fun K_ hK_ => ?_ | refine zS (by kernel_rfl) (by kernel_rfl) fun K_ hK_ => ?_ | refine zT ?_); first | (simp (maxSteps := 1000000) (disch := refine hold_ ?_; first | (simp [w0, g1, g2, g3, g4, g5, i1, i2, i3, j1, j2, j3, shr6, shr12, shr18, hB, f1, f2, f3, f4, f5, f6, f7, f8, f9, -List.getD_eq_getElem?_getD]; done) | omega) [w0, g1, g2, g3, g4, g5, i1, i2, i3, j1, j2, j3, shr6, shr12, shr18, hB, f1, f2, f3, f4, f5, f6, f7, f8, f9, -List.getD_eq_getElem?_getD]; try first | refine zZ ?_ | subst hK_) | subst hK_) | refine zA ?_ | refine zB ?_ | refine zC ?_ | refine zD ?_ | refine zE ?_ | refine zF ?_ | refine zG ?_ | refine zH ?_ | refine zI ?_ | refine zJ ?_ | refine zK ?_ | refine zL ?_ | refine zM ?_ | refine zN ?_ | refine zO ?_ | refine yG (by decide) ?_ | refine AW.condT rfl ?_ | refine AW.condF rfl ?_)
    simp (maxSteps := 1000000) (disch := refine hold_ ?_; first | (simp [hB, -List.getD_eq_getElem?_getD]; done) | omega) [hB, -List.getD_eq_getElem?_getD]
end Go.Av.Chl
end
section
set_option linter.unusedSimpArgs false
set_option linter.unusedVariables false
set_option linter.unusedSectionVars false
open Go Go.Av Go.Proofs
namespace Go.Av.Chl
variable [ML]
theorem appendRune_ct (c : List (BitVec 8)) (nl : Bool) (r : Int) (hr : charB r = true) (hc : c.length ≤ 100000000) :
    FnG Tryd.prog 44 [.row (bl c) 10000 0 nl, .p (.int .i32 r)] [] 1 [.row (bl (c ++ encL r)) 0 0 false] [] 1 := by
  refine FnG.of_body Tryd.func44 rfl ?_
  have hr2 : 0 ≤ r ∧ r ≤ 1114111 ∧ (r < 55296 ∨ 57343 < r) := by simpa [charB] using hr
  have w0 : IntKind.u32.wrap r = r := wrap_u32 _ (by omega) (by omega)
  by_cases hs : r < 128
  · (first | have f1 : (r ≤ 127) = True := eq_true (by omega) | have f1 : (r ≤ 127) = False := eq_false (by omega))
    have hE : encL r = [byt r] := by simp [encL, hs]
    have hB := ints_byt1 r (by omega)
    have c0 : IntKind.u8.wrap r = r := wrap_u8' _ (by omega) (by omega)
    rw [hE]
    repeat (first | ((first | refine zP fun K_ hK_ => ?_ | refine zQ fun K_ hK_ => ?_ | refine zR (by kernel_rfl) (by kernel_rfl) fun K_ hK_ => ?_ | refine zS (by kernel_rfl) (by kernel_rfl) fun K_ hK_ => ?_ | refine zT ?_); first | (simp (maxSteps := 1000000) (disch := refine hold_ ?_; first | (simp [w0, c0, hB, f1, -List.getD_eq_getElem?_getD]; done) | omega) [w0, c0, hB, f1, -List.getD_eq_getElem?_getD]; try first | refine zZ ?_ | subst hK_) | subst hK_) | refine zA ?_ | refine zB ?_ | refine zC ?_ | refine zD ?_ | refine zE ?_ | refine zF ?_ | refine zG ?_ | refine zH ?_ | refine zI ?_ | refine zJ ?_ | refine zK ?_ | refine zL ?_ | refine zM ?_ | refine zN ?_ | refine zO ?_ | refine yG (by decide) ?_ | refine AW.condT rfl ?_ | refine AW.condF rfl ?_)
    simp (maxSteps := 1000000) (disch := refine hold_ ?_; first | (simp [hB, -List.getD_eq_getElem?_getD]; done) | omega) [hB, -List.getD_eq_getElem?_getD]
  · (first | have f1 : (r ≤ 127) = True := eq_true (by omega) | have f1 : (r ≤ 127) = False := eq_false (by omega))
    repeat (first | ((first | refine callK_at 51 ?_); refine callK_o (by first | decide | exact Nat.le_of_ble_eq_true rfl) ?_; simp (maxSteps := 1000000) (disch := refine hold_ ?_; first | (simp [w0, f1, -List.getD_eq_getElem?_getD]; done) | omega) [w0, f1, -List.getD_eq_getElem?_getD]; (first | refine callK3_of (FnG.ct (appendNon_ct c nl r (by omega) hr hc) Tryd.call51) ?_); (try simp (maxSteps := 1000000) (disch := refine hold_ ?_; first | (simp [w0, f1, -List.getD_eq_getElem?_getD]; done) | omega) [w0, f1, -List.getD_eq_getElem?_getD]); try first | refine zZ ?_ | subst hK_) | ((first | refine zP fun K_ hK_ => ?_ | refine zQ fun K_ hK_ => ?_ | refine zR (by kernel_rfl) (by kernel_rfl) fun K_ hK_ => ?_ | refine zS (by kernel_rfl) (by kernel_rfl) fun K_ hK_ => ?_ | refine zT ?_); first | (simp (maxSteps := 1000000) (disch := refine hold_ ?_; first | (simp [w0, f1, -List.getD_eq_getElem?_getD]; done) | omega) [w0, f1, -List.getD_eq_getElem?_getD]; try first | refine zZ ?_ | subst hK_) | subst hK_) | refine zA ?_ | refine zB ?_ | refine zC ?_ | refine zD ?_ | refine zE ?_ | refine zF ?_ | refine zG ?_ | refine zH ?_ | refine zI ?_ | refine zJ ?_ | refine zK ?_ | refine zL ?_ | refine zM ?_ | refine zN ?_ | refine zO ?_ | refine yG (by decide) ?_ | refine AW.condT rfl ?_ | refine AW.condF rfl ?_)
    simp (maxSteps := 1000000) (disch := refine hold_ ?_; first | (simp [-List.getD_eq_getElem?_getD]; done) | omega) [-List.getD_eq_getElem?_getD]
def rl (l : List Int) : Row PV := .ints .i32 l
@[simp] theorem rl_len (l : List Int) : (rl l).len = l.length := rfl
@[simp] theorem rl_sz (l : List Int) : (rl l).sz = 1 := rfl
@[simp] theorem rl_elem (l : List Int) (i : Nat) : (rl l).elem i = .int .i32 (l.getD i 0) := rfl
@[simp] theorem rl_cell (l : List Int) (i j : Nat) : ((rl l).elem i).cell j = .int .i32 (l.getD i 0) := rfl
@[simp] theorem rl_cut (l : List Int) (i j : Nat) : (rl l).cut i j = rl ((l.take j).drop i) := rfl
@[simp] theorem app_rl (a : List Int) (n : Int) : appRow (rl a) (.ints .i32 [n]) = some (rl (a ++ [n])) := by simp [rl]
def encAll (l : List Int) (k : Nat) : List (BitVec 8) := ((l.take k).map encL).flatten
theorem encL_len (r : Int) : (encL r).length ≤ 4 := by unfold encL; (repeat' split) <;> simp
theorem encL_pos (r : Int) : 1 ≤ (encL r).length := by unfold encL; (repeat' split) <;> simp
theorem encAll_zero (l : List Int) : encAll l 0 = [] := rfl
theorem encAll_succ (l : List Int) (k : Nat) (h : k < l.length) : encAll l (k + 1) = encAll l k ++ encL (l.getD k 0) := by
  have : l.take (k + 1) = l.take k ++ [l.getD k 0] := by
    rw [List.take_add_one, List.getElem?_eq_getElem h, List.getD_eq_getElem?_getD, List.getElem?_eq_getElem h]; rfl
  unfold encAll; rw [this]; simp
theorem encAll_len (l : List Int) (k : Nat) : (encAll l k).length ≤ 4 * k := by
  induction k with
  | zero => simp [encAll]
  | succ k ih =>
    by_cases h : k < l.length
    · rw [encAll_succ l k h, List.length_append]; have := encL_len (l.getD k 0); omega
    · have : encAll l (k + 1) = encAll l k := by simp [encAll, List.take_of_length_le (show l.length ≤ k by omega), List.take_of_length_le (show l.length ≤ k + 1 by omega)]
      rw [this]; omega
set_option maxHeartbeats 4000000 in
theorem ubytes_ct (nl : Bool) (l : List Int) (hl : l.length ≤ 1000000) (n : Nat) (hn : n ≤ l.length) (hb : ∀ k, k < n → charB (l.getD k 0) = true) (hend : n < l.length → charB (l.getD n 0) = false) :
    if n < l.length then Fn Tryd.prog 30 [.sl (rl l) nl] [.p (.sl (.vals 1 []) true), .p (.bool false)]
    else Fn Tryd.prog 30 [.sl (rl l) nl] [.row (bl (encAll l l.length)) 0 0 (l.length == 0), .p (.bool true)] 1 := by
  by_cases hnl : n < l.length
  · rw [if_pos hnl]
    have hx := hend hnl
    refine Fn.of_body Tryd.func30 rfl ?_
    repeat (first | ((first | refine zP fun K_ hK_ => ?_ | refine zQ fun K_ hK_ => ?_ | refine zR (by kernel_rfl) (by kernel_rfl) fun K_ hK_ => ?_ | refine zS (by kernel_rfl) (by kernel_rfl) fun K_ hK_ => ?_ | refine zT ?_); first | (simp (maxSteps := 1000000) (disch := refine hold_ ?_; first | (simp [-List.getD_eq_getElem?_getD]; done) | omega) [-List.getD_eq_getElem?_getD]; try first | refine zZ ?_ | subst hK_) | subst hK_) | refine zA ?_ | refine zB ?_ | refine zC ?_ | refine zD ?_ | refine zE ?_ | refine zF ?_ | refine zG ?_ | refine zH ?_ | refine zI ?_ | refine zJ ?_ | refine zK ?_ | refine zL ?_ | refine zM ?_ | refine zN ?_ | refine zO ?_ | refine yG (by decide) ?_ | refine AW.condT rfl ?_ | refine AW.condF rfl ?_)
    refine AW.nilRow 4 (bl []) 4 _ rfl rfl ?_
    refine AW.iter (false :: false :: false :: false :: true :: false :: false :: true :: true :: true :: false :: false :: false :: false :: false :: false :: false :: false :: false :: false :: false :: []) n (fun k => ⟨(V.junk :: V.junk :: V.junk :: V.junk :: .row (bl (encAll l k)) 0 0 (k == 0) :: V.junk :: V.junk :: .p (.sl (rl l) nl) :: .p (.int .i64 l.length) :: .p (.int .i64 k) :: V.junk :: V.junk :: V.junk :: V.junk :: V.junk :: V.junk :: V.junk :: V.junk :: V.junk :: V.junk :: V.junk :: []), ⟨[], [(0, 0)]⟩⟩) ?_ ?_
    · simp (maxSteps := 1000000) (disch := refine hold_ ?_; first | (simp [encAll_zero, -List.getD_eq_getElem?_getD]; done) | omega) [encAll_zero, -List.getD_eq_getElem?_getD]
    intro k hk
    have hk3 : k < l.length := by omega
    have e1 : IntKind.i64.wrap ((k : Int) + 1) = k + 1 := wrap_i64 _ (by omega) (by omega)
    have h9 := encAll_len l k
    by_cases hkn : k < n
    · have hr := hb k hkn
      have hs := encAll_succ l k hk3
      generalize hr0 : l.getD k 0 = r at *
      have k39 := validRune_ct r
      rw [hr] at k39
      repeat (first | ((first | refine zP fun K_ hK_ => ?_ | refine zQ fun K_ hK_ => ?_ | refine zR (by kernel_rfl) (by kernel_rfl) fun K_ hK_ => ?_ | refine zS (by kernel_rfl) (by kernel_rfl) fun K_ hK_ => ?_ | refine zT ?_); first | (simp (maxSteps := 1000000) (disch := refine hold_ ?_; first | (simp [hk3, hr0, -List.getD_eq_getElem?_getD]; done) | omega) [hk3, hr0, -List.getD_eq_getElem?_getD]; try first | refine zZ ?_ | subst hK_) | subst hK_) | refine zA ?_ | refine zB ?_ | refine zC ?_ | refine zD ?_ | refine zE ?_ | refine zF ?_ | refine zG ?_ | refine zH ?_ | refine zI ?_ | refine zJ ?_ | refine zK ?_ | refine zL ?_ | refine zM ?_ | refine zN ?_ | refine zO ?_ | refine yG (by decide) ?_ | refine AW.condT rfl ?_ | refine AW.condF rfl ?_)
      (refine callK_p ?_; simp (maxSteps := 1000000) (disch := refine hold_ ?_; first | (simp [hk3, hr0, -List.getD_eq_getElem?_getD]; done) | omega) [hk3, hr0, -List.getD_eq_getElem?_getD]; refine callK1_of (Fn.ct k39 Tryd.call43) ?_; (try simp (maxSteps := 1000000) (disch := refine hold_ ?_; first | (simp [hk3, hr0, -List.getD_eq_getElem?_getD]; done) | omega) [hk3, hr0, -List.getD_eq_getElem?_getD]); first | refine zZ ?_ | subst hK_)
      repeat (first | ((first | refine callK_at 44 ?_); refine callK_o (by first | decide | exact Nat.le_of_ble_eq_true rfl) ?_; simp (maxSteps := 1000000) (disch := refine hold_ ?_; first | (simp [hk3, hr0, e1, -List.getD_eq_getElem?_getD]; done) | omega) [hk3, hr0, e1, -List.getD_eq_getElem?_getD]; (first | refine callK3_of (FnG.ct (appendRune_ct _ _ r hr (by omega)) Tryd.call44) ?_); (try simp (maxSteps := 1000000) (disch := refine hold_ ?_; first | (simp [hk3, hr0, e1, -List.getD_eq_getElem?_getD]; done) | omega) [hk3, hr0, e1, -List.getD_eq_getElem?_getD]); try first | refine zZ ?_ | subst hK_) | ((first | refine zP fun K_ hK_ => ?_ | refine zQ fun K_ hK_ => ?_ | refine zR (by kernel_rfl) (by kernel_rfl) fun K_ hK_ => ?_ | refine zS (by kernel_rfl) (by kernel_rfl) fun K_ hK_ => ?_ | refine zT ?_); first | (simp (maxSteps := 1000000) (disch := refine hold_ ?_; first | (simp [hk3, hr0, e1, -List.getD_eq_getElem?_getD]; done) | omega) [hk3, hr0, e1, -List.getD_eq_getElem?_getD]; try first | refine zZ ?_ | subst hK_) | subst hK_) | refine zA ?_ | refine zB ?_ | refine zC ?_ | refine zD ?_ | refine zE ?_ | refine zF ?_ | refine zG ?_ | refine zH ?_ | refine zI ?_ | refine zJ ?_ | refine zK ?_ | refine zL ?_ | refine zM ?_ | refine zN ?_ | refine zO ?_ | refine yG (by decide) ?_ | refine AW.condT rfl ?_ | refine AW.condF rfl ?_)
      refine ⟨hkn, ?_⟩
      simp (maxSteps := 1000000) (disch := refine hold_ ?_; first | (simp [hs, -List.getD_eq_getElem?_getD]; done) | omega) [hs, -List.getD_eq_getElem?_getD]
    · have hkn2 : k = n := by omega
      subst hkn2
      have k39 := validRune_ct (l.getD k 0)
      rw [hx] at k39
      repeat (first | ((first | refine zP fun K_ hK_ => ?_ | refine zQ fun K_ hK_ => ?_ | refine zR (by kernel_rfl) (by kernel_rfl) fun K_ hK_ => ?_ | refine zS (by kernel_rfl) (by kernel_rfl) fun K_ hK_ => ?_ | refine zT ?_); first | (simp (maxSteps := 1000000) (disch := refine hold_ ?_; first | (simp [hk3, -List.getD_eq_getElem?_getD]; done) | omega) [hk3, -List.getD_eq_getElem?_getD]; try first | refine zZ ?_ | subst hK_) | subst hK_) | refine zA ?_ | refine zB ?_ | refine zC ?_ | refine zD ?_ | refine zE ?_ | refine zF ?_ | refine zG ?_ | refine zH ?_ | refine zI ?_ | refine zJ ?_ | refine zK ?_ | refine zL ?_ | refine zM ?_ | refine zN ?_ | refine zO ?_ | refine yG (by decide) ?_ | refine AW.condT rfl ?_ | refine AW.condF rfl ?_)
      (refine callK_p ?_; simp (maxSteps := 1000000) (disch := refine hold_ ?_; first | (simp [hk3, -List.getD_eq_getElem?_getD]; done) | omega) [hk3, -List.getD_eq_getElem?_getD]; refine callK1_of (Fn.ct k39 Tryd.call43) ?_; (try simp (maxSteps := 1000000) (disch := refine hold_ ?_; first | (simp [hk3, -List.getD_eq_getElem?_getD]; done) | omega) [hk3, -List.getD_eq_getElem?_getD]); first | refine zZ ?_ | subst hK_)
      repeat (first | ((first | refine zP fun K_ hK_ => ?_ | refine zQ fun K_ hK_ => ?_ | refine zR (by kernel_rfl) (by kernel_rfl) fun K_ hK_ => ?_ | refine zS (by kernel_rfl) (by kernel_rfl) fun K_ hK_ => ?_ | refine zT ?_); first | (simp (maxSteps := 1000000) (disch := refine hold_ ?_; first | (simp [hk3, -List.getD_eq_getElem?_getD]; done) | omega) [hk3, -List.getD_eq_getElem?_getD]; try first | refine zZ ?_ | subst hK_) | subst hK_) | refine zA ?_ | refine zB ?_ | refine zC ?_ | refine zD ?_ | refine zE ?_ | refine zF ?_ | refine zG ?_ | refine zH ?_ | refine zI ?_ | refine zJ ?_ | refine zK ?_ | refine zL ?_ | refine zM ?_ | refine zN ?_ | refine zO ?_ | refine yG (by decide) ?_ | refine AW.condT rfl ?_ | refine AW.condF rfl ?_)
      simp (maxSteps := 1000000) (disch := refine hold_ ?_; first | (simp [-List.getD_eq_getElem?_getD]; done) | omega) [-List.getD_eq_getElem?_getD]
  · rw [if_neg hnl]
    have hnl2 : n = l.length := by omega
    subst hnl2
    refine Fn.of_body Tryd.func30 rfl ?_
    repeat (first | ((first | refine zP fun K_ hK_ => ?_ | refine zQ fun K_ hK_ => ?_ | refine zR (by kernel_rfl) (by kernel_rfl) fun K_ hK_ => ?_ | refine zS (by kernel_rfl) (by kernel_rfl) fun K_ hK_ => ?_ | refine zT ?_); first | (simp (maxSteps := 1000000) (disch := refine hold_ ?_; first | (simp [-List.getD_eq_getElem?_getD]; done) | omega) [-List.getD_eq_getElem?_getD]; try first | refine zZ ?_ | subst hK_) | subst hK_) | refine zA ?_ | refine zB ?_ | refine zC ?_ | refine zD ?_ | refine zE ?_ | refine zF ?_ | refine zG ?_ | refine zH ?_ | refine zI ?_ | refine zJ ?_ | refine zK ?_ | refine zL ?_ | refine zM ?_ | refine zN ?_ | refine zO ?_ | refine yG (by decide) ?_ | refine AW.condT rfl ?_ | refine AW.condF rfl ?_)
    refine AW.nilRow 4 (bl []) 4 _ rfl rfl ?_
    refine AW.iter (false :: false :: false :: false :: true :: false :: false :: true :: true :: true :: false :: false :: false :: false :: false :: false :: false :: false :: false :: false :: false :: []) l.length (fun k => ⟨(V.junk :: V.junk :: V.junk :: V.junk :: .row (bl (encAll l k)) 0 0 (k == 0) :: V.junk :: V.junk :: .p (.sl (rl l) nl) :: .p (.int .i64 l.length) :: .p (.int .i64 k) :: V.junk :: V.junk :: V.junk :: V.junk :: V.junk :: V.junk :: V.junk :: V.junk :: V.junk :: V.junk :: V.junk :: []), ⟨[], [(0, 0)]⟩⟩) ?_ ?_
    · simp (maxSteps := 1000000) (disch := refine hold_ ?_; first | (simp [encAll_zero, -List.getD_eq_getElem?_getD]; done) | omega) [encAll_zero, -List.getD_eq_getElem?_getD]
    intro k hk
    have e1 : IntKind.i64.wrap ((k : Int) + 1) = k + 1 := wrap_i64 _ (by omega) (by omega)
    have h9 := encAll_len l k
    by_cases hkn : k < l.length
    · have hr := hb k hkn
      have hs := encAll_succ l k hkn
      generalize hr0 : l.getD k 0 = r at *
      have k39 := validRune_ct r
      rw [hr] at k39
      repeat (first | ((first | refine zP fun K_ hK_ => ?_ | refine zQ fun K_ hK_ => ?_ | refine zR (by kernel_rfl) (by kernel_rfl) fun K_ hK_ => ?_ | refine zS (by kernel_rfl) (by kernel_rfl) fun K_ hK_ => ?_ | refine zT ?_); first | (simp (maxSteps := 1000000) (disch := refine hold_ ?_; first | (simp [hkn, hr0, -List.getD_eq_getElem?_getD]; done) | omega) [hkn, hr0, -List.getD_eq_getElem?_getD]; try first | refine zZ ?_ | subst hK_) | subst hK_) | refine zA ?_ | refine zB ?_ | refine zC ?_ | refine zD ?_ | refine zE ?_ | refine zF ?_ | refine zG ?_ | refine zH ?_ | refine zI ?_ | refine zJ ?_ | refine zK ?_ | refine zL ?_ | refine zM ?_ | refine zN ?_ | refine zO ?_ | refine yG (by decide) ?_ | refine AW.condT rfl ?_ | refine AW.condF rfl ?_)
      (refine callK_p ?_; simp (maxSteps := 1000000) (disch := refine hold_ ?_; first | (simp [hkn, hr0, -List.getD_eq_getElem?_getD]; done) | omega) [hkn, hr0, -List.getD_eq_getElem?_getD]; refine callK1_of (Fn.ct k39 Tryd.call43) ?_; (try simp (maxSteps := 1000000) (disch := refine hold_ ?_; first | (simp [hkn, hr0, -List.getD_eq_getElem?_getD]; done) | omega) [hkn, hr0, -List.getD_eq_getElem?_getD]); first | refine zZ ?_ | subst hK_)
      repeat (first | ((first | refine callK_at 44 ?_); refine callK_o (by first | decide | exact Nat.le_of_ble_eq_true rfl) ?_; simp (maxSteps := 1000000) (disch := refine hold_ ?_; first | (simp [hkn, hr0, e1, -List.getD_eq_getElem?_getD]; done) | omega) [hkn, hr0, e1, -List.getD_eq_getElem?_getD]; (first | refine callK3_of (FnG.ct (appendRune_ct _ _ r hr (by omega)) Tryd.call44) ?_); (try simp (maxSteps := 1000000) (disch := refine hold_ ?_; first | (simp [hkn, hr0, e1, -List.getD_eq_getElem?_getD]; done) | omega) [hkn, hr0, e1, -List.getD_eq_getElem?_getD]); try first | refine zZ ?_ | subst hK_) | ((first | refine zP fun K_ hK_ => ?_ | refine zQ fun K_ hK_ => ?_ | refine zR (by kernel_rfl) (by kernel_rfl) fun K_ hK_ => ?_ | refine zS (by kernel_rfl) (by kernel_rfl) fun K_ hK_ => ?_ | refine zT ?_); first | (simp (maxSteps := 1000000) (disch := refine hold_ ?_; first | (simp [hkn, hr0, e1, -List.getD_eq_getElem?_getD]; done) | omega) [hkn, hr0, e1, -List.getD_eq_getElem?_getD]; try first | refine zZ ?_ | subst hK_) | subst hK_) | refine zA ?_ | refine zB ?_ | refine zC ?_ | refine zD ?_ | refine zE ?_ | refine zF ?_ | refine zG ?_ | refine zH ?_ | refine zI ?_ | refine zJ ?_ | refine zK ?_ | refine zL ?_ | refine zM ?_ | refine zN ?_ | refine zO ?_ | refine yG (by decide) ?_ | refine AW.condT rfl ?_ | refine AW.condF rfl ?_)
      refine ⟨hkn, ?_⟩
      simp (maxSteps := 1000000) (disch := refine hold_ ?_; first | (simp [hs, -List.getD_eq_getElem?_getD]; done) | omega) [hs, -List.getD_eq_getElem?_getD]
    · have hkn2 : k = l.length := by omega
      subst hkn2
      repeat (first | ((first | refine zP fun K_ hK_ => ?_ | refine zQ fun K_ hK_ => ?_ | refine zR (by kernel_rfl) (by kernel_rfl) fun K_ hK_ => ?_ | refine zS (by kernel_rfl) (by kernel_rfl) fun K_ hK_ => ?_ | refine zT ?_); first | (simp (maxSteps := 1000000) (disch := refine hold_ ?_; first | (simp [-List.getD_eq_getElem?_getD]; done) | omega) [-List.getD_eq_getElem?_getD]; try first | refine zZ ?_ | subst hK_) | subst hK_) | refine zA ?_ | refine zB ?_ | refine zC ?_ | refine zD ?_ | refine zE ?_ | refine zF ?_ | refine zG ?_ | refine zH ?_ | refine zI ?_ | refine zJ ?_ | refine zK ?_ | refine zL ?_ | refine zM ?_ | refine zN ?_ | refine zO ?_ | refine yG (by decide) ?_ | refine AW.condT rfl ?_ | refine AW.condF rfl ?_)
      simp (maxSteps := 1000000) (disch := refine hold_ ?_; first | (simp [-List.getD_eq_getElem?_getD]; done) | omega) [-List.getD_eq_getElem?_getD]
end Go.Av.Chl
end
section
set_option linter.unusedSimpArgs false
set_option linter.unusedVariables false
set_option linter.unusedSectionVars false
open Go Go.Av Go.Proofs
namespace Go.Av.Chl
variable [ML]
def bt (l : List (BitVec 8)) (i : Nat) : Int := ub (l.getD i 0)
theorem bt_lt (l : List (BitVec 8)) (i : Nat) : 0 ≤ bt l i ∧ bt l i < 256 := by
  have := (l.getD i 0).isLt
  unfold bt ub; omega
def loB (b : Int) : Int := if b = 224 then 160 else if b = 240 then 144 else 128
def hiB (b : Int) : Int := if b = 237 then 159 else if b = 244 then 143 else 191
def okS (l : List (BitVec 8)) : Nat :=
  if l.length = 0 then 0
  else if bt l 0 < 128 then 1
  else if 194 ≤ bt l 0 ∧ bt l 0 < 224 then (if 2 ≤ l.length ∧ 128 ≤ bt l 1 ∧ bt l 1 ≤ 191 then 2 else 0)
  else if 224 ≤ bt l 0 ∧ bt l 0 < 240 then (if 3 ≤ l.length ∧ loB (bt l 0) ≤ bt l 1 ∧ bt l 1 ≤ hiB (bt l 0) ∧ 128 ≤ bt l 2 ∧ bt l 2 ≤ 191 then 3 else 0)
  else if 240 ≤ bt l 0 ∧ bt l 0 < 245 then (if 4 ≤ l.length ∧ loB (bt l 0) ≤ bt l 1 ∧ bt l 1 ≤ hiB (bt l 0) ∧ 128 ≤ bt l 2 ∧ bt l 2 ≤ 191 ∧ 128 ≤ bt l 3 ∧ bt l 3 ≤ 191 then 4 else 0)
  else 0
def runeN (l : List (BitVec 8)) : Int :=
  if bt l 0 < 128 then bt l 0
  else if bt l 0 < 224 then (bt l 0 - 192) * 64 + (bt l 1 - 128)
  else if bt l 0 < 240 then (bt l 0 - 224) * 4096 + (bt l 1 - 128) * 64 + (bt l 2 - 128)
  else (bt l 0 - 240) * 262144 + (bt l 1 - 128) * 4096 + (bt l 2 - 128) * 64 + (bt l 3 - 128)
theorem okS_len (l : List (BitVec 8)) : okS l ≤ l.length := by
  unfold okS
  (repeat' split) <;> omega
def charsL (l : List (BitVec 8)) : Option (List Int) :=
  if h : l.length = 0 then some []
  else if h2 : okS l = 0 then none
  else (charsL (l.drop (okS l))).map (runeN l :: ·)
termination_by l.length
decreasing_by simp; omega
theorem charsL_nil : charsL [] = some [] := by rw [charsL]; simp
theorem charsL_bad (l : List (BitVec 8)) (h : l.length ≠ 0) (h2 : okS l = 0) : charsL l = none := by rw [charsL]; simp [h, h2]
theorem charsL_step (l : List (BitVec 8)) (h : l.length ≠ 0) (h2 : okS l ≠ 0) : charsL l = (charsL (l.drop (okS l))).map (runeN l :: ·) := by
  rw [charsL]; simp only [h, h2, dif_neg, not_false_eq_true]
def validB (l : List (BitVec 8)) : Bool := (charsL l).isSome
theorem validB_nil (l : List (BitVec 8)) (h : l.length = 0) : validB l = true := by
  obtain rfl := List.eq_nil_of_length_eq_zero h; unfold validB; rw [charsL_nil]; rfl
theorem validB_bad (l : List (BitVec 8)) (h : l.length ≠ 0) (h2 : okS l = 0) : validB l = false := by unfold validB; rw [charsL_bad l h h2]; rfl
theorem validB_step (l : List (BitVec 8)) (h : l.length ≠ 0) (n : Nat) (hn : okS l = n) (h2 : n ≠ 0) : validB l = validB (l.drop n) := by
  subst hn; unfold validB; rw [charsL_step l h h2]; cases charsL (l.drop (okS l)) <;> rfl
theorem validB_asc (l : List (BitVec 8)) (h : l.length ≠ 0) (h2 : bt l 0 < 128) : validB l = validB (l.drop 1) :=
  validB_step l h 1 (by unfold okS; simp [h, h2]) (by omega)
theorem bt_drop (l : List (BitVec 8)) (n i : Nat) : bt (l.drop n) i = bt l (n + i) := by simp [bt, List.getD_eq_getElem?_getD]
theorem validB_skip (n : Nat) : ∀ (l : List (BitVec 8)), n ≤ l.length → (∀ i, i < n → bt l i < 128) → validB l = validB (l.drop n) := by
  induction n with
  | zero => intro l _ _; rfl
  | succ n ih =>
    intro l hl hb
    rw [validB_asc l (by omega) (hb 0 (by omega)), ih (l.drop 1) (by simp; omega) (fun i hi => by rw [bt_drop]; exact hb (1 + i) (by omega)), List.drop_drop, Nat.add_comm 1 n]
theorem first_get (n : Nat) (h : n < 256) : firstL.getD n 0 = firstF n := by simp [firstL, List.getD_eq_getElem?_getD, h]
@[simp] theorem gl0 : Tables.gl 1 = some (.vals 256 [.agg (.ints .u8 firstL)]) := rfl
@[simp] theorem eval_g0 (σ : St) : σ.eval (.global 1) = .p (.eptr (.vals 256 [.agg (.ints .u8 firstL)]) 0 0) := rfl
@[simp] theorem eval_g1 (σ : St) : σ.eval (.global 2) = .p (.eptr (.vals 32 [.agg (.ints .u8 accL)]) 0 0) := rfl
@[simp] theorem cell_agg1 (k : IntKind) (q : List Int) (j : Nat) : ([PV.agg (Row.ints k q)].getD 0 PV.ptr0).cell j = .int k (q.getD j 0) := rfl
@[simp] theorem gl1 : Tables.gl 2 = some (.vals 32 [.agg (.ints .u8 accL)]) := rfl
def wordN (l : List (BitVec 8)) : Int := bt l 0 + bt l 1 * 256 + bt l 2 * 65536 + bt l 3 * 16777216 + bt l 4 * 4294967296 + bt l 5 * 1099511627776 + bt l 6 * 281474976710656 + bt l 7 * 72057594037927936
theorem shl_u64 (a : Int) (s : Nat) (m : Int) (h : 0 ≤ a ∧ a < 256) (hs : s ≤ 56) (hm : (2 : Int) ^ s = m) (hm2 : m ≤ 72057594037927936) : shiftBin .shl .u64 a (s : Int) = some (.int .u64 (a * m)) := by
  unfold shiftBin
  rw [if_neg (by omega)]
  have e : min ((s : Int)).toNat IntKind.u64.bits = s := by
    simp only [Int.toNat_natCast, show IntKind.u64.bits = 64 from rfl]; omega
  simp only [e, hm]
  have h0 : 0 < m := by rw [← hm]; exact Int.pow_pos (by omega)
  have hlt : a * m < 18446744073709551616 := by
    have : a * m ≤ 255 * m := Int.mul_le_mul_of_nonneg_right (by omega) (by omega)
    omega
  rw [wrap_u64 _ (Int.mul_nonneg h.1 (by omega)) hlt]
theorem or_u64 (x b : Int) (s : Nat) (m : Int) (hx : 0 ≤ x ∧ x < m) (hb : 0 ≤ b ∧ b < 256) (hm : (2 : Int) ^ s = m) (hm2 : m ≤ 72057594037927936) : intBin .or .u64 x (b * m) = some (.int .u64 (x + b * m)) := by
  obtain ⟨n, rfl⟩ : ∃ n : Nat, x = n := ⟨x.toNat, by omega⟩
  obtain ⟨c, rfl⟩ : ∃ c : Nat, b = c := ⟨b.toNat, by omega⟩
  have hm' : m = ((2 ^ s : Nat) : Int) := by rw [← hm]; simp
  have hn : n < 2 ^ s := by rw [hm'] at hx; omega
  have hc : c < 256 := by omega
  have h2 : 2 ^ s ≤ 72057594037927936 := by rw [hm'] at hm2; omega
  have hcm : c * 2 ^ s ≤ 255 * 2 ^ s := Nat.mul_le_mul_right _ (by omega)
  rw [hm', show ((c : Int) * ((2 ^ s : Nat) : Int)) = ((c * 2 ^ s : Nat) : Int) by simp]
  rw [ib_or]
  have e : (BitVec.ofInt IntKind.u64.bits (n : Int) ||| BitVec.ofInt IntKind.u64.bits ((c * 2 ^ s : Nat) : Int)).toNat = n + c * 2 ^ s := by
    rw [BitVec.toNat_or, show IntKind.u64.bits = 64 from rfl, BitVec.ofInt_natCast, BitVec.ofInt_natCast, BitVec.toNat_ofNat, BitVec.toNat_ofNat, Nat.mod_eq_of_lt (by omega), Nat.mod_eq_of_lt (by omega), Nat.or_comm]
    have := Nat.shiftLeft_add_eq_or_of_lt hn c
    rw [Nat.shiftLeft_eq] at this
    rw [← this, Nat.add_comm]
  rw [e, wrap_u64 _ (by omega) (by omega)]
  simp
set_option maxHeartbeats 4000000 in
theorem word_ct (nl : Bool) (l : List (BitVec 8)) (h : 8 ≤ l.length) : Fn Tryd.prog 52 [.sl (bl l) nl] [.p (.int .u64 (wordN l))] := by
  refine Fn.of_body Tryd.func52 rfl ?_
  have g (i : Nat) (hi : i < 8) : i < l.length := by omega
  unfold wordN
  have u0 := bt_lt l 0
  have u1 := bt_lt l 1
  have u2 := bt_lt l 2
  have u3 := bt_lt l 3
  have u4 := bt_lt l 4
  have u5 := bt_lt l 5
  have u6 := bt_lt l 6
  have u7 := bt_lt l 7
  generalize hb0 : bt l 0 = b0 at *
  generalize hb1 : bt l 1 = b1 at *
  generalize hb2 : bt l 2 = b2 at *
  generalize hb3 : bt l 3 = b3 at *
  generalize hb4 : bt l 4 = b4 at *
  generalize hb5 : bt l 5 = b5 at *
  generalize hb6 : bt l 6 = b6 at *
  generalize hb7 : bt l 7 = b7 at *
  have e0 : ub (l.getD 0 0#8) = b0 := hb0
  have w0 : IntKind.u64.wrap b0 = b0 := wrap_u64 _ (by omega) (by omega)
  have e1 : ub (l.getD 1 0#8) = b1 := hb1
  have w1 : IntKind.u64.wrap b1 = b1 := wrap_u64 _ (by omega) (by omega)
  have e2 : ub (l.getD 2 0#8) = b2 := hb2
  have w2 : IntKind.u64.wrap b2 = b2 := wrap_u64 _ (by omega) (by omega)
  have e3 : ub (l.getD 3 0#8) = b3 := hb3
  have w3 : IntKind.u64.wrap b3 = b3 := wrap_u64 _ (by omega) (by omega)
  have e4 : ub (l.getD 4 0#8) = b4 := hb4
  have w4 : IntKind.u64.wrap b4 = b4 := wrap_u64 _ (by omega) (by omega)
  have e5 : ub (l.getD 5 0#8) = b5 := hb5
  have w5 : IntKind.u64.wrap b5 = b5 := wrap_u64 _ (by omega) (by omega)
  have e6 : ub (l.getD 6 0#8) = b6 := hb6
  have w6 : IntKind.u64.wrap b6 = b6 := wrap_u64 _ (by omega) (by omega)
  have e7 : ub (l.getD 7 0#8) = b7 := hb7
  have w7 : IntKind.u64.wrap b7 = b7 := wrap_u64 _ (by omega) (by omega)
  have s1 : shiftBin .shl .u64 b1 8 = some (.int .u64 (b1 * 256)) := shl_u64 b1 8 256 u1 (by omega) (by decide) (by omega)
  have o1 : intBin .or .u64 (b0) (b1 * 256) = some (.int .u64 (b0 + b1 * 256)) := or_u64 _ b1 8 256 (by omega) u1 (by decide) (by omega)
  have s2 : shiftBin .shl .u64 b2 16 = some (.int .u64 (b2 * 65536)) := shl_u64 b2 16 65536 u2 (by omega) (by decide) (by omega)
  have o2 : intBin .or .u64 (b0 + b1 * 256) (b2 * 65536) = some (.int .u64 (b0 + b1 * 256 + b2 * 65536)) := or_u64 _ b2 16 65536 (by omega) u2 (by decide) (by omega)
  have s3 : shiftBin .shl .u64 b3 24 = some (.int .u64 (b3 * 16777216)) := shl_u64 b3 24 16777216 u3 (by omega) (by decide) (by omega)
  have o3 : intBin .or .u64 (b0 + b1 * 256 + b2 * 65536) (b3 * 16777216) = some (.int .u64 (b0 + b1 * 256 + b2 * 65536 + b3 * 16777216)) := or_u64 _ b3 24 16777216 (by omega) u3 (by decide) (by omega)
  have s4 : shiftBin .shl .u64 b4 32 = some (.int .u64 (b4 * 4294967296)) := shl_u64 b4 32 4294967296 u4 (by omega) (by decide) (by omega)
  have o4 : intBin .or .u64 (b0 + b1 * 256 + b2 * 65536 + b3 * 16777216) (b4 * 4294967296) = some (.int .u64 (b0 + b1 * 256 + b2 * 65536 + b3 * 16777216 + b4 * 4294967296)) := or_u64 _ b4 32 4294967296 (by omega) u4 (by decide) (by omega)
  have s5 : shiftBin .shl .u64 b5 40 = some (.int .u64 (b5 * 1099511627776)) := shl_u64 b5 40 1099511627776 u5 (by omega) (by decide) (by omega)
  have o5 : intBin .or .u64 (b0 + b1 * 256 + b2 * 65536 + b3 * 16777216 + b4 * 4294967296) (b5 * 1099511627776) = some (.int .u64 (b0 + b1 * 256 + b2 * 65536 + b3 * 16777216 + b4 * 4294967296 + b5 * 1099511627776)) := or_u64 _ b5 40 1099511627776 (by omega) u5 (by decide) (by omega)
  have s6 : shiftBin .shl .u64 b6 48 = some (.int .u64 (b6 * 281474976710656)) := shl_u64 b6 48 281474976710656 u6 (by omega) (by decide) (by omega)
  have o6 : intBin .or .u64 (b0 + b1 * 256 + b2 * 65536 + b3 * 16777216 + b4 * 4294967296 + b5 * 1099511627776) (b6 * 281474976710656) = some (.int .u64 (b0 + b1 * 256 + b2 * 65536 + b3 * 16777216 + b4 * 4294967296 + b5 * 1099511627776 + b6 * 281474976710656)) := or_u64 _ b6 48 281474976710656 (by omega) u6 (by decide) (by omega)
  have s7 : shiftBin .shl .u64 b7 56 = some (.int .u64 (b7 * 72057594037927936)) := shl_u64 b7 56 72057594037927936 u7 (by omega) (by decide) (by omega)
  have o7 : intBin .or .u64 (b0 + b1 * 256 + b2 * 65536 + b3 * 16777216 + b4 * 4294967296 + b5 * 1099511627776 + b6 * 281474976710656) (b7 * 72057594037927936) = some (.int .u64 (b0 + b1 * 256 + b2 * 65536 + b3 * 16777216 + b4 * 4294967296 + b5 * 1099511627776 + b6 * 281474976710656 + b7 * 72057594037927936)) := or_u64 _ b7 56 72057594037927936 (by omega) u7 (by decide) (by omega)
  repeat (first | ((first | refine zP fun K_ hK_ => ?_ | refine zQ fun K_ hK_ => ?_ | refine zR (by kernel_rfl) (by kernel_rfl) fun K_ hK_ => ?_ | refine zS (by kernel_rfl) (by kernel_rfl) fun K_ hK_ => ?_ | refine zT ?_); first | (simp (maxSteps := 1000000) (disch := refine hold_ ?_; first | (simp [g, e0, w0, e1, w1, e2, w2, e3, w3, e4, w4, e5, w5, e6, w6, e7, w7, s1, o1, s2, o2, s3, o3, s4, o4, s5, o5, s6, o6, s7, o7, -List.getD_eq_getElem?_getD]; done) | omega) [g, e0, w0, e1, w1, e2, w2, e3, w3, e4, w4, e5, w5, e6, w6, e7, w7, s1, o1, s2, o2, s3, o3, s4, o4, s5, o5, s6, o6, s7, o7, -List.getD_eq_getElem?_getD]; try first | refine zZ ?_ | subst hK_) | subst hK_) | refine zA ?_ | refine zB ?_ | refine zC ?_ | refine zD ?_ | refine zE ?_ | refine zF ?_ | refine zG ?_ | refine zH ?_ | refine zI ?_ | refine zJ ?_ | refine zK ?_ | refine zL ?_ | refine zM ?_ | refine zN ?_ | refine zO ?_ | refine yG (by decide) ?_ | refine AW.condT rfl ?_ | refine AW.condF rfl ?_)
  simp (maxSteps := 1000000) (disch := refine hold_ ?_; first | (simp [-List.getD_eq_getElem?_getD]; done) | omega) [-List.getD_eq_getElem?_getD]
end Go.Av.Chl
end
section
set_option linter.unusedSimpArgs false
set_option linter.unusedVariables false
set_option linter.unusedSectionVars false
open Go Go.Av Go.Proofs
namespace Go.Av.Chl
variable [ML]
def andM (x : Int) : Int := IntKind.u64.wrap (BitVec.ofInt IntKind.u64.bits x &&& BitVec.ofInt IntKind.u64.bits 9259542123273814144).toNat
def orW (x y : Int) : Int := IntKind.u64.wrap (BitVec.ofInt IntKind.u64.bits x ||| BitVec.ofInt IntKind.u64.bits y).toNat
theorem ib_andM (x : Int) : intBin .and .u64 x 9259542123273814144 = some (.int .u64 (andM x)) := rfl
theorem ib_orW (x y : Int) : intBin .or .u64 x y = some (.int .u64 (orW x y)) := rfl
theorem andM_nat (n : Nat) (h : n < 18446744073709551616) : andM n = ((n &&& 9259542123273814144 : Nat) : Int) := by
  have e : (BitVec.ofInt IntKind.u64.bits (n : Int) &&& BitVec.ofInt IntKind.u64.bits 9259542123273814144).toNat = n &&& 9259542123273814144 := by
    rw [BitVec.toNat_and, show IntKind.u64.bits = 64 from rfl, BitVec.ofInt_natCast, BitVec.toNat_ofNat, Nat.mod_eq_of_lt (by omega)]
    rfl
  unfold andM
  rw [e]
  have : n &&& 9259542123273814144 ≤ n := Nat.and_le_left
  exact wrap_u64 _ (by omega) (by omega)
theorem orW_nat (n m : Nat) (h : n < 18446744073709551616) (h2 : m < 18446744073709551616) : orW n m = ((n ||| m : Nat) : Int) ∧ n ||| m < 18446744073709551616 := by
  have e : (BitVec.ofInt IntKind.u64.bits (n : Int) ||| BitVec.ofInt IntKind.u64.bits (m : Int)).toNat = n ||| m := by
    rw [BitVec.toNat_or, show IntKind.u64.bits = 64 from rfl, BitVec.ofInt_natCast, BitVec.ofInt_natCast, BitVec.toNat_ofNat, BitVec.toNat_ofNat, Nat.mod_eq_of_lt (by omega), Nat.mod_eq_of_lt (by omega)]
  have hlt : n ||| m < 18446744073709551616 := Nat.or_lt_two_pow (n := 64) (by omega) (by omega)
  unfold orW
  rw [e]
  exact ⟨wrap_u64 _ (by omega) (by omega), hlt⟩
def hiZ (x : Int) : Prop := 0 ≤ x ∧ x < 18446744073709551616 ∧ andM x = 0
theorem hiZ_bit {n : Nat} (h : hiZ n) (i : Nat) (hi : i < 8) : n.testBit (8 * i + 7) = false := by
  obtain ⟨_, h2, h3⟩ := h
  rw [andM_nat n (by omega)] at h3
  have h4 : n &&& 9259542123273814144 = 0 := by omega
  have h5 := congrArg (fun x => Nat.testBit x (8 * i + 7)) h4
  simp only [Nat.testBit_and, Nat.zero_testBit] at h5
  have h6 : Nat.testBit 9259542123273814144 (8 * i + 7) = true := by
    have : i = 0 ∨ i = 1 ∨ i = 2 ∨ i = 3 ∨ i = 4 ∨ i = 5 ∨ i = 6 ∨ i = 7 := by omega
    rcases this with rfl | rfl | rfl | rfl | rfl | rfl | rfl | rfl <;> decide
  rw [h6, Bool.and_true] at h5; exact h5
theorem hiZ_or {x y : Int} (hx : 0 ≤ x ∧ x < 18446744073709551616) (hy : 0 ≤ y ∧ y < 18446744073709551616) (h : andM (orW x y) = 0) : hiZ x ∧ hiZ y := by
  obtain ⟨n, rfl⟩ : ∃ n : Nat, x = n := ⟨x.toNat, by omega⟩
  obtain ⟨m, rfl⟩ : ∃ m : Nat, y = m := ⟨y.toNat, by omega⟩
  obtain ⟨e1, e2⟩ := orW_nat n m (by omega) (by omega)
  rw [e1, andM_nat _ e2] at h
  have h4 : (n ||| m) &&& 9259542123273814144 = 0 := by omega
  rw [Nat.and_or_distrib_right] at h4
  have h5 : n &&& 9259542123273814144 = 0 ∧ m &&& 9259542123273814144 = 0 := Nat.or_eq_zero_iff.1 h4
  refine ⟨⟨by omega, by omega, ?_⟩, ⟨by omega, by omega, ?_⟩⟩
  · rw [andM_nat _ (by omega), h5.1]; rfl
  · rw [andM_nat _ (by omega), h5.2]; rfl
theorem orW_lt {x y : Int} (hx : 0 ≤ x ∧ x < 18446744073709551616) (hy : 0 ≤ y ∧ y < 18446744073709551616) : 0 ≤ orW x y ∧ orW x y < 18446744073709551616 := by
  obtain ⟨n, rfl⟩ : ∃ n : Nat, x = n := ⟨x.toNat, by omega⟩
  obtain ⟨m, rfl⟩ : ∃ m : Nat, y = m := ⟨y.toNat, by omega⟩
  obtain ⟨e1, e2⟩ := orW_nat n m (by omega) (by omega)
  rw [e1]; omega
theorem wordN_lt (l : List (BitVec 8)) : 0 ≤ wordN l ∧ wordN l < 18446744073709551616 := by
  have h0 := bt_lt l 0; have h1 := bt_lt l 1; have h2 := bt_lt l 2; have h3 := bt_lt l 3; have h4 := bt_lt l 4; have h5 := bt_lt l 5; have h6 := bt_lt l 6; have h7 := bt_lt l 7
  unfold wordN; omega
theorem bit_div (n k : Nat) (h : n.testBit k = false) : n / 2 ^ k % 2 = 0 := by
  rw [Nat.testBit_eq_decide_div_mod_eq] at h
  have : n / 2 ^ k % 2 ≠ 1 := by simpa using h
  omega
theorem wordN_asc (l : List (BitVec 8)) (h : hiZ (wordN l)) : ∀ i, i < 8 → bt l i < 128 := by
  have h0 := bt_lt l 0; have h1 := bt_lt l 1; have h2 := bt_lt l 2; have h3 := bt_lt l 3; have h4 := bt_lt l 4; have h5 := bt_lt l 5; have h6 := bt_lt l 6; have h7 := bt_lt l 7
  obtain ⟨n, hn⟩ : ∃ n : Nat, wordN l = n := ⟨(wordN l).toNat, by have := wordN_lt l; omega⟩
  have hw := hn
  rw [hn] at h
  unfold wordN at hw
  have c0 := bit_div n 7 (hiZ_bit h 0 (by omega))
  have c1 := bit_div n 15 (hiZ_bit h 1 (by omega))
  have c2 := bit_div n 23 (hiZ_bit h 2 (by omega))
  have c3 := bit_div n 31 (hiZ_bit h 3 (by omega))
  have c4 := bit_div n 39 (hiZ_bit h 4 (by omega))
  have c5 := bit_div n 47 (hiZ_bit h 5 (by omega))
  have c6 := bit_div n 55 (hiZ_bit h 6 (by omega))
  have c7 := bit_div n 63 (hiZ_bit h 7 (by omega))
  intro i hi
  have : i = 0 ∨ i = 1 ∨ i = 2 ∨ i = 3 ∨ i = 4 ∨ i = 5 ∨ i = 6 ∨ i = 7 := by omega
  rcases this with rfl | rfl | rfl | rfl | rfl | rfl | rfl | rfl
  all_goals
    generalize bt l 0 = b0 at *
    generalize bt l 1 = b1 at *
    generalize bt l 2 = b2 at *
    generalize bt l 3 = b3 at *
    generalize bt l 4 = b4 at *
    generalize bt l 5 = b5 at *
    generalize bt l 6 = b6 at *
    generalize bt l 7 = b7 at *
  · clear c1 c2 c3 c4 c5 c6 c7; simp only [Nat.reducePow] at c0; omega
  · clear c0 c2 c3 c4 c5 c6 c7; simp only [Nat.reducePow] at c1; omega
  · clear c0 c1 c3 c4 c5 c6 c7; simp only [Nat.reducePow] at c2; omega
  · clear c0 c1 c2 c4 c5 c6 c7; simp only [Nat.reducePow] at c3; omega
  · clear c0 c1 c2 c3 c5 c6 c7; simp only [Nat.reducePow] at c4; omega
  · clear c0 c1 c2 c3 c4 c6 c7; simp only [Nat.reducePow] at c5; omega
  · clear c0 c1 c2 c3 c4 c5 c7; simp only [Nat.reducePow] at c6; omega
  · clear c0 c1 c2 c3 c4 c5 c6; simp only [Nat.reducePow] at c7; omega
end Go.Av.Chl
end
section
set_option linter.unusedSimpArgs false
set_option linter.unusedVariables false
set_option linter.unusedSectionVars false
open Go Go.Av Go.Proofs
namespace Go.Av.Chl
variable [ML]
theorem idx_ct (l : List (BitVec 8)) (c : BitVec 8) : Ct Tryd.prog 46 (([.str (txt l), .int .u8 (ub c)] : List PV).map V.p) [] 0 [.p (.int .i64 (idxI l c))] [] 0 := by
  intro G w vs g
  right
  have hl := g.len
  match vs, hl with
  | [a, b], _ =>
    have h0 := g.args 0 (by simp)
    have h1 := g.args 1 (by simp)
    simp only [List.map_cons, List.map_nil, List.getD_cons_zero, List.getD_cons_succ] at h0 h1
    obtain rfl := h0.str
    obtain rfl := h1.int
    refine ⟨.int .i64 (idxI l c), w, ?_, rfl, G, Ext.refl G w, g.wf, fun i hi => by simp at hi, .p (.int _ _)⟩
    rw [run_callFunc_extern Tryd.func46 (by kernel_rfl) (by kernel_rfl) (by kernel_rfl) (e := Extern.BytealgIndexByte.indexByte) (by kernel_rfl)]
    show ((Extern.BytealgIndexByte.indexByte #[.string (txt l), .int .u8 (ub c)]).run Tryd.prog w).andThen _ = _
    rw [Lib.run_indexByteString, idxI_lib]; rfl
theorem indexByte_ct (l : List (BitVec 8)) (c : BitVec 8) : Fn Tryd.prog 35 [.str (txt l), .int .u8 (ub c)] [.p (.int .i64 (idxI l c))] := by
  refine Fn.of_body Tryd.func35 rfl ?_
  repeat (first | ((first | refine zP fun K_ hK_ => ?_ | refine zQ fun K_ hK_ => ?_ | refine zR (by kernel_rfl) (by kernel_rfl) fun K_ hK_ => ?_ | refine zS (by kernel_rfl) (by kernel_rfl) fun K_ hK_ => ?_ | refine zT ?_); first | (simp (maxSteps := 1000000) (disch := refine hold_ ?_; first | (simp [-List.getD_eq_getElem?_getD]; done) | omega) [-List.getD_eq_getElem?_getD]; try first | refine zZ ?_ | subst hK_) | subst hK_) | refine zA ?_ | refine zB ?_ | refine zC ?_ | refine zD ?_ | refine zE ?_ | refine zF ?_ | refine zG ?_ | refine zH ?_ | refine zI ?_ | refine zJ ?_ | refine zK ?_ | refine zL ?_ | refine zM ?_ | refine zN ?_ | refine zO ?_ | refine yG (by decide) ?_ | refine AW.condT rfl ?_ | refine AW.condF rfl ?_)
  (refine callK_p ?_; simp (maxSteps := 1000000) (disch := refine hold_ ?_; first | (simp [-List.getD_eq_getElem?_getD]; done) | omega) [-List.getD_eq_getElem?_getD]; refine callK1_of (idx_ct l c) ?_; (try simp (maxSteps := 1000000) (disch := refine hold_ ?_; first | (simp [-List.getD_eq_getElem?_getD]; done) | omega) [-List.getD_eq_getElem?_getD]); first | refine zZ ?_ | subst hK_)
  repeat (first | ((first | refine zP fun K_ hK_ => ?_ | refine zQ fun K_ hK_ => ?_ | refine zR (by kernel_rfl) (by kernel_rfl) fun K_ hK_ => ?_ | refine zS (by kernel_rfl) (by kernel_rfl) fun K_ hK_ => ?_ | refine zT ?_); first | (simp (maxSteps := 1000000) (disch := refine hold_ ?_; first | (simp [-List.getD_eq_getElem?_getD]; done) | omega) [-List.getD_eq_getElem?_getD]; try first | refine zZ ?_ | subst hK_) | subst hK_) | refine zA ?_ | refine zB ?_ | refine zC ?_ | refine zD ?_ | refine zE ?_ | refine zF ?_ | refine zG ?_ | refine zH ?_ | refine zI ?_ | refine zJ ?_ | refine zK ?_ | refine zL ?_ | refine zM ?_ | refine zN ?_ | refine zO ?_ | refine yG (by decide) ?_ | refine AW.condT rfl ?_ | refine AW.condF rfl ?_)
  simp (maxSteps := 1000000) (disch := refine hold_ ?_; first | (simp [-List.getD_eq_getElem?_getD]; done) | omega) [-List.getD_eq_getElem?_getD]
end Go.Av.Chl
end
section
set_option linter.unusedSimpArgs false
set_option linter.unusedVariables false
set_option linter.unusedSectionVars false
open Go Go.Av Go.Proofs
namespace Go.Av.Chl
variable [ML]
def preB (l p : List (BitVec 8)) : Bool := decide (p.length ≤ l.length) && (l.take p.length == p)
theorem hp1_ct (l p : List (BitVec 8)) : Fn Tryd.prog 50 [.str (txt l), .str (txt p)] [.p (.bool (preB l p))] := by
  have sl := txt_size l
  have sp := txt_size p
  have hq := str_eq_txt (l.take p.length) p
  have hx : (txt l).extract 0 p.length = txt (l.take p.length) := by rw [txt_extract]; simp
  by_cases h : p.length ≤ l.length
  · have hz : (p.length : Int) ≤ l.length := by omega
    have e : preB l p = (l.take p.length == p) := by unfold preB; simp [h]
    rw [e]
    generalize l.take p.length = q at *
    refine Fn.of_body Tryd.func50 rfl ?_
    repeat (first | ((first | (with_reducible first | refine zP fun K_ hK_ => ?_ | refine zQ fun K_ hK_ => ?_ | refine zT ?_ | refine zU ?_ | refine zV ?_ | refine zW ?_ | refine zX ?_ | refine zY ?_) | ((with_reducible first | refine zR ?_ ?_ fun K_ hK_ => ?_ | refine zS ?_ ?_ fun K_ hK_ => ?_); (focus kernel_rfl); (focus kernel_rfl))); first | (simp (maxSteps := 1000000) (disch := refine hold_ ?_; first | (simp [sl, sp, h, hz, hx, hq, -List.getD_eq_getElem?_getD]; done) | omega) [sl, sp, h, hz, hx, hq, -List.getD_eq_getElem?_getD]; try first | (with_reducible refine zZ ?_) | subst hK_) | subst hK_) | (with_reducible first | refine zA ?_ | refine zB ?_ | refine zC ?_ | refine zD ?_ | refine zE ?_ | refine zF ?_ | refine zG ?_ | refine zH ?_ | refine zI ?_ | refine zJ ?_ | refine zK ?_ | refine zL ?_ | refine zM ?_ | refine zN ?_ | refine zO ?_) | ((with_reducible refine yG ?_ ?_); (focus decide)) | ((with_reducible refine yA ?_); refine yB rfl ?_; (with_reducible first | refine yC ?_ | refine yD ?_)))
    all_goals simp (maxSteps := 1000000) (disch := refine hold_ ?_; first | (simp [-List.getD_eq_getElem?_getD]; done) | omega) [-List.getD_eq_getElem?_getD]
  · have hz : ¬ (p.length : Int) ≤ l.length := by omega
    have e : preB l p = false := by unfold preB; simp [h]
    rw [e]
    refine Fn.of_body Tryd.func50 rfl ?_
    repeat (first | ((first | (with_reducible first | refine zP fun K_ hK_ => ?_ | refine zQ fun K_ hK_ => ?_ | refine zT ?_ | refine zU ?_ | refine zV ?_ | refine zW ?_ | refine zX ?_ | refine zY ?_) | ((with_reducible first | refine zR ?_ ?_ fun K_ hK_ => ?_ | refine zS ?_ ?_ fun K_ hK_ => ?_); (focus kernel_rfl); (focus kernel_rfl))); first | (simp (maxSteps := 1000000) (disch := refine hold_ ?_; first | (simp [sl, sp, h, hz, -List.getD_eq_getElem?_getD]; done) | omega) [sl, sp, h, hz, -List.getD_eq_getElem?_getD]; try first | (with_reducible refine zZ ?_) | subst hK_) | subst hK_) | (with_reducible first | refine zA ?_ | refine zB ?_ | refine zC ?_ | refine zD ?_ | refine zE ?_ | refine zF ?_ | refine zG ?_ | refine zH ?_ | refine zI ?_ | refine zJ ?_ | refine zK ?_ | refine zL ?_ | refine zM ?_ | refine zN ?_ | refine zO ?_) | ((with_reducible refine yG ?_ ?_); (focus decide)) | ((with_reducible refine yA ?_); refine yB rfl ?_; (with_reducible first | refine yC ?_ | refine yD ?_)))
    all_goals simp (maxSteps := 1000000) (disch := refine hold_ ?_; first | (simp [-List.getD_eq_getElem?_getD]; done) | omega) [-List.getD_eq_getElem?_getD]
theorem cp1_ct (l p : List (BitVec 8)) : Fn Tryd.prog 42 [.str (txt l), .str (txt p)] [.p (.str (txt (if preB l p then l.drop p.length else l))), .p (.bool (preB l p))] := by
  have sl := txt_size l
  have sp := txt_size p
  have k54 := hp1_ct l p
  have hx : (txt l).extract p.length l.length = txt (l.drop p.length) := by rw [txt_extract, List.take_length]
  cases h : preB l p with
  | true =>
    rw [h] at k54
    have hl : p.length ≤ l.length := by
      unfold preB at h
      rw [Bool.and_eq_true, decide_eq_true_eq] at h; exact h.1
    refine Fn.of_body Tryd.func42 rfl ?_
    repeat (first | ((with_reducible first | refine callK_at 50 ?_); refine callK_p ?_; simp (maxSteps := 1000000) (disch := refine hold_ ?_; first | (simp [sl, sp, hl, hx, -List.getD_eq_getElem?_getD]; done) | omega) [sl, sp, hl, hx, -List.getD_eq_getElem?_getD]; (first | refine callK1_of (Fn.ct k54 Tryd.call50) ?_); (try simp (maxSteps := 1000000) (disch := refine hold_ ?_; first | (simp [sl, sp, hl, hx, -List.getD_eq_getElem?_getD]; done) | omega) [sl, sp, hl, hx, -List.getD_eq_getElem?_getD]); try first | (with_reducible refine zZ ?_) | subst hK_) | ((first | (with_reducible first | refine zP fun K_ hK_ => ?_ | refine zQ fun K_ hK_ => ?_ | refine zT ?_ | refine zU ?_ | refine zV ?_ | refine zW ?_ | refine zX ?_ | refine zY ?_) | ((with_reducible first | refine zR ?_ ?_ fun K_ hK_ => ?_ | refine zS ?_ ?_ fun K_ hK_ => ?_); (focus kernel_rfl); (focus kernel_rfl))); first | (simp (maxSteps := 1000000) (disch := refine hold_ ?_; first | (simp [sl, sp, hl, hx, -List.getD_eq_getElem?_getD]; done) | omega) [sl, sp, hl, hx, -List.getD_eq_getElem?_getD]; try first | (with_reducible refine zZ ?_) | subst hK_) | subst hK_) | (with_reducible first | refine zA ?_ | refine zB ?_ | refine zC ?_ | refine zD ?_ | refine zE ?_ | refine zF ?_ | refine zG ?_ | refine zH ?_ | refine zI ?_ | refine zJ ?_ | refine zK ?_ | refine zL ?_ | refine zM ?_ | refine zN ?_ | refine zO ?_) | ((with_reducible refine yG ?_ ?_); (focus decide)) | ((with_reducible refine yA ?_); refine yB rfl ?_; (with_reducible first | refine yC ?_ | refine yD ?_)))
    all_goals simp (maxSteps := 1000000) (disch := refine hold_ ?_; first | (simp [-List.getD_eq_getElem?_getD]; done) | omega) [-List.getD_eq_getElem?_getD]
  | false =>
    rw [h] at k54
    refine Fn.of_body Tryd.func42 rfl ?_
    repeat (first | ((with_reducible first | refine callK_at 50 ?_); refine callK_p ?_; simp (maxSteps := 1000000) (disch := refine hold_ ?_; first | (simp [sl, sp, -List.getD_eq_getElem?_getD]; done) | omega) [sl, sp, -List.getD_eq_getElem?_getD]; (first | refine callK1_of (Fn.ct k54 Tryd.call50) ?_); (try simp (maxSteps := 1000000) (disch := refine hold_ ?_; first | (simp [sl, sp, -List.getD_eq_getElem?_getD]; done) | omega) [sl, sp, -List.getD_eq_getElem?_getD]); try first | (with_reducible refine zZ ?_) | subst hK_) | ((first | (with_reducible first | refine zP fun K_ hK_ => ?_ | refine zQ fun K_ hK_ => ?_ | refine zT ?_ | refine zU ?_ | refine zV ?_ | refine zW ?_ | refine zX ?_ | refine zY ?_) | ((with_reducible first | refine zR ?_ ?_ fun K_ hK_ => ?_ | refine zS ?_ ?_ fun K_ hK_ => ?_); (focus kernel_rfl); (focus kernel_rfl))); first | (simp (maxSteps := 1000000) (disch := refine hold_ ?_; first | (simp [sl, sp, -List.getD_eq_getElem?_getD]; done) | omega) [sl, sp, -List.getD_eq_getElem?_getD]; try first | (with_reducible refine zZ ?_) | subst hK_) | subst hK_) | (with_reducible first | refine zA ?_ | refine zB ?_ | refine zC ?_ | refine zD ?_ | refine zE ?_ | refine zF ?_ | refine zG ?_ | refine zH ?_ | refine zI ?_ | refine zJ ?_ | refine zK ?_ | refine zL ?_ | refine zM ?_ | refine zN ?_ | refine zO ?_) | ((with_reducible refine yG ?_ ?_); (focus decide)) | ((with_reducible refine yA ?_); refine yB rfl ?_; (with_reducible first | refine yC ?_ | refine yD ?_)))
    all_goals simp (maxSteps := 1000000) (disch := refine hold_ ?_; first | (simp [-List.getD_eq_getElem?_getD]; done) | omega) [-List.getD_eq_getElem?_getD]
theorem cp_ct (l p : List (BitVec 8)) : Fn Tryd.prog 27 [.str (txt l), .str (txt p)] [.p (.str (txt (if preB l p then l.drop p.length else l))), .p (.bool (preB l p))] := by
  have k := cp1_ct l p
  generalize (if preB l p then l.drop p.length else l) = q at *
  refine Fn.of_body Tryd.func27 rfl ?_
  repeat (first | ((with_reducible first | refine callK_at 42 ?_); refine callK_p ?_; simp (maxSteps := 1000000) (disch := refine hold_ ?_; first | (simp [-List.getD_eq_getElem?_getD]; done) | omega) [-List.getD_eq_getElem?_getD]; (first | refine callK1_of (Fn.ct k Tryd.call42) ?_); (try simp (maxSteps := 1000000) (disch := refine hold_ ?_; first | (simp [-List.getD_eq_getElem?_getD]; done) | omega) [-List.getD_eq_getElem?_getD]); try first | (with_reducible refine zZ ?_) | subst hK_) | ((first | (with_reducible first | refine zP fun K_ hK_ => ?_ | refine zQ fun K_ hK_ => ?_ | refine zT ?_ | refine zU ?_ | refine zV ?_ | refine zW ?_ | refine zX ?_ | refine zY ?_) | ((with_reducible first | refine zR ?_ ?_ fun K_ hK_ => ?_ | refine zS ?_ ?_ fun K_ hK_ => ?_); (focus kernel_rfl); (focus kernel_rfl))); first | (simp (maxSteps := 1000000) (disch := refine hold_ ?_; first | (simp [-List.getD_eq_getElem?_getD]; done) | omega) [-List.getD_eq_getElem?_getD]; try first | (with_reducible refine zZ ?_) | subst hK_) | subst hK_) | (with_reducible first | refine zA ?_ | refine zB ?_ | refine zC ?_ | refine zD ?_ | refine zE ?_ | refine zF ?_ | refine zG ?_ | refine zH ?_ | refine zI ?_ | refine zJ ?_ | refine zK ?_ | refine zL ?_ | refine zM ?_ | refine zN ?_ | refine zO ?_) | ((with_reducible refine yG ?_ ?_); (focus decide)) | ((with_reducible refine yA ?_); refine yB rfl ?_; (with_reducible first | refine yC ?_ | refine yD ?_)))
  all_goals simp (maxSteps := 1000000) (disch := refine hold_ ?_; first | (simp [-List.getD_eq_getElem?_getD]; done) | omega) [-List.getD_eq_getElem?_getD]
theorem index1_ct (l : List (BitVec 8)) (d : BitVec 8) : Fn Tryd.prog 22 [.str (txt l), .str (txt [d])] [.p (.int .i64 (idxI l d))] := by
  have k64 := indexByte_ct l d
  have hq := str_eq_txt [d] l
  have hs : (txt [d]).size = 1 := by rw [txt_size]; rfl
  have hg : (((txt [d]).data.toList.getD 0 0).toNat : Int) = ub d := txt_get [d] 0
  refine Fn.of_body Tryd.func22 rfl ?_
  cases hl : ([d] == l) with
  | true =>
    have e : idxI l d = 0 := by
      rw [← beq_iff_eq.1 hl]
      simp [idxI]
    rw [hl] at hq
    rw [e]
    repeat (first | ((first | (with_reducible first | refine zP fun K_ hK_ => ?_ | refine zQ fun K_ hK_ => ?_ | refine zT ?_ | refine zU ?_ | refine zV ?_ | refine zW ?_ | refine zX ?_ | refine zY ?_) | ((with_reducible first | refine zR ?_ ?_ fun K_ hK_ => ?_ | refine zS ?_ ?_ fun K_ hK_ => ?_); (focus kernel_rfl); (focus kernel_rfl))); first | (simp (maxSteps := 1000000) (disch := refine hold_ ?_; first | (simp [hq, hs, hg, -List.getD_eq_getElem?_getD]; done) | omega) [hq, hs, hg, -List.getD_eq_getElem?_getD]; try first | (with_reducible refine zZ ?_) | subst hK_) | subst hK_) | (with_reducible first | refine zA ?_ | refine zB ?_ | refine zC ?_ | refine zD ?_ | refine zE ?_ | refine zF ?_ | refine zG ?_ | refine zH ?_ | refine zI ?_ | refine zJ ?_ | refine zK ?_ | refine zL ?_ | refine zM ?_ | refine zN ?_ | refine zO ?_) | ((with_reducible refine yG ?_ ?_); (focus decide)) | ((with_reducible refine yA ?_); refine yB rfl ?_; (with_reducible first | refine yC ?_ | refine yD ?_)))
    all_goals simp (maxSteps := 1000000) (disch := refine hold_ ?_; first | (simp [-List.getD_eq_getElem?_getD]; done) | omega) [-List.getD_eq_getElem?_getD]
  | false =>
    rw [hl] at hq
    repeat (first | ((with_reducible first | refine callK_at 35 ?_); refine callK_p ?_; simp (maxSteps := 1000000) (disch := refine hold_ ?_; first | (simp [hq, hs, hg, -List.getD_eq_getElem?_getD]; done) | omega) [hq, hs, hg, -List.getD_eq_getElem?_getD]; (first | refine callK1_of (Fn.ct k64 Tryd.call35) ?_); (try simp (maxSteps := 1000000) (disch := refine hold_ ?_; first | (simp [hq, hs, hg, -List.getD_eq_getElem?_getD]; done) | omega) [hq, hs, hg, -List.getD_eq_getElem?_getD]); try first | (with_reducible refine zZ ?_) | subst hK_) | ((first | (with_reducible first | refine zP fun K_ hK_ => ?_ | refine zQ fun K_ hK_ => ?_ | refine zT ?_ | refine zU ?_ | refine zV ?_ | refine zW ?_ | refine zX ?_ | refine zY ?_) | ((with_reducible first | refine zR ?_ ?_ fun K_ hK_ => ?_ | refine zS ?_ ?_ fun K_ hK_ => ?_); (focus kernel_rfl); (focus kernel_rfl))); first | (simp (maxSteps := 1000000) (disch := refine hold_ ?_; first | (simp [hq, hs, hg, -List.getD_eq_getElem?_getD]; done) | omega) [hq, hs, hg, -List.getD_eq_getElem?_getD]; try first | (with_reducible refine zZ ?_) | subst hK_) | subst hK_) | (with_reducible first | refine zA ?_ | refine zB ?_ | refine zC ?_ | refine zD ?_ | refine zE ?_ | refine zF ?_ | refine zG ?_ | refine zH ?_ | refine zI ?_ | refine zJ ?_ | refine zK ?_ | refine zL ?_ | refine zM ?_ | refine zN ?_ | refine zO ?_) | ((with_reducible refine yG ?_ ?_); (focus decide)) | ((with_reducible refine yA ?_); refine yB rfl ?_; (with_reducible first | refine yC ?_ | refine yD ?_)))
    all_goals simp (maxSteps := 1000000) (disch := refine hold_ ?_; first | (simp [-List.getD_eq_getElem?_getD]; done) | omega) [-List.getD_eq_getElem?_getD]
theorem index_ct1 (l : List (BitVec 8)) (d : BitVec 8) : Fn Tryd.prog 13 [.str (txt l), .str (txt [d])] [.p (.int .i64 (idxI l d))] := by
  refine Fn.of_body Tryd.func13 rfl ?_
  repeat (first | ((with_reducible first | refine callK_at 22 ?_); refine callK_p ?_; simp (maxSteps := 1000000) (disch := refine hold_ ?_; first | (simp [-List.getD_eq_getElem?_getD]; done) | omega) [-List.getD_eq_getElem?_getD]; (first | refine callK1_of (Fn.ct (index1_ct l d) Tryd.call22) ?_); (try simp (maxSteps := 1000000) (disch := refine hold_ ?_; first | (simp [-List.getD_eq_getElem?_getD]; done) | omega) [-List.getD_eq_getElem?_getD]); try first | (with_reducible refine zZ ?_) | subst hK_) | ((first | (with_reducible first | refine zP fun K_ hK_ => ?_ | refine zQ fun K_ hK_ => ?_ | refine zT ?_ | refine zU ?_ | refine zV ?_ | refine zW ?_ | refine zX ?_ | refine zY ?_) | ((with_reducible first | refine zR ?_ ?_ fun K_ hK_ => ?_ | refine zS ?_ ?_ fun K_ hK_ => ?_); (focus kernel_rfl); (focus kernel_rfl))); first | (simp (maxSteps := 1000000) (disch := refine hold_ ?_; first | (simp [-List.getD_eq_getElem?_getD]; done) | omega) [-List.getD_eq_getElem?_getD]; try first | (with_reducible refine zZ ?_) | subst hK_) | subst hK_) | (with_reducible first | refine zA ?_ | refine zB ?_ | refine zC ?_ | refine zD ?_ | refine zE ?_ | refine zF ?_ | refine zG ?_ | refine zH ?_ | refine zI ?_ | refine zJ ?_ | refine zK ?_ | refine zL ?_ | refine zM ?_ | refine zN ?_ | refine zO ?_) | ((with_reducible refine yG ?_ ?_); (focus decide)) | ((with_reducible refine yA ?_); refine yB rfl ?_; (with_reducible first | refine yC ?_ | refine yD ?_)))
  all_goals simp (maxSteps := 1000000) (disch := refine hold_ ?_; first | (simp [-List.getD_eq_getElem?_getD]; done) | omega) [-List.getD_eq_getElem?_getD]
theorem idx_contains (l : List (BitVec 8)) (c : BitVec 8) : (decide (0 ≤ idxI l c)) = l.contains c := by
  rcases idxI_spec l c with ⟨h, hm⟩ | ⟨k, h, hk, hg, _⟩
  · rw [h]; simp; exact hm
  · rw [h]
    have : c ∈ l := by
      rw [← hg, List.getD_eq_getElem?_getD, List.getElem?_eq_getElem hk]; exact List.getElem_mem hk
    simp [this]
theorem contains_ct (l : List (BitVec 8)) (d : BitVec 8) : Fn Tryd.prog 9 [.str (txt l), .str (txt [d])] [.p (.bool (l.contains d))] := by
  have k := index_ct1 l d
  rw [← idx_contains]
  generalize idxI l d = I at *
  refine Fn.of_body Tryd.func9 rfl ?_
  repeat (first | ((with_reducible first | refine callK_at 13 ?_); refine callK_p ?_; simp (maxSteps := 1000000) (disch := refine hold_ ?_; first | (simp [-List.getD_eq_getElem?_getD]; done) | omega) [-List.getD_eq_getElem?_getD]; (first | refine callK1_of (Fn.ct k Tryd.call13) ?_); (try simp (maxSteps := 1000000) (disch := refine hold_ ?_; first | (simp [-List.getD_eq_getElem?_getD]; done) | omega) [-List.getD_eq_getElem?_getD]); try first | (with_reducible refine zZ ?_) | subst hK_) | ((first | (with_reducible first | refine zP fun K_ hK_ => ?_ | refine zQ fun K_ hK_ => ?_ | refine zT ?_ | refine zU ?_ | refine zV ?_ | refine zW ?_ | refine zX ?_ | refine zY ?_) | ((with_reducible first | refine zR ?_ ?_ fun K_ hK_ => ?_ | refine zS ?_ ?_ fun K_ hK_ => ?_); (focus kernel_rfl); (focus kernel_rfl))); first | (simp (maxSteps := 1000000) (disch := refine hold_ ?_; first | (simp [-List.getD_eq_getElem?_getD]; done) | omega) [-List.getD_eq_getElem?_getD]; try first | (with_reducible refine zZ ?_) | subst hK_) | subst hK_) | (with_reducible first | refine zA ?_ | refine zB ?_ | refine zC ?_ | refine zD ?_ | refine zE ?_ | refine zF ?_ | refine zG ?_ | refine zH ?_ | refine zI ?_ | refine zJ ?_ | refine zK ?_ | refine zL ?_ | refine zM ?_ | refine zN ?_ | refine zO ?_) | ((with_reducible refine yG ?_ ?_); (focus decide)) | ((with_reducible refine yA ?_); refine yB rfl ?_; (with_reducible first | refine yC ?_ | refine yD ?_)))
  all_goals simp (maxSteps := 1000000) (disch := refine hold_ ?_; first | (simp [-List.getD_eq_getElem?_getD]; done) | omega) [-List.getD_eq_getElem?_getD]
def cutB (d : BitVec 8) : List (BitVec 8) → Option (List (BitVec 8) × List (BitVec 8))
  | [] => none
  | c :: l => if c = d then some ([], l) else (cutB d l).map fun q => (c :: q.1, q.2)
theorem cutB_idx (d : BitVec 8) : ∀ l, (cutB d l = none ∧ idxI l d = -1) ∨ ∃ k : Nat, idxI l d = k ∧ k < l.length ∧ cutB d l = some (l.take k, l.drop (k + 1))
  | [] => .inl ⟨rfl, rfl⟩
  | c :: l => by
    by_cases h : c = d
    · subst h
      right; exact ⟨0, by simp [idxI], by simp, by simp [cutB]⟩
    · rcases cutB_idx d l with ⟨h1, h2⟩ | ⟨k, h1, h2, h3⟩
      · left; exact ⟨by simp [cutB, h, h1], by simp [idxI, h, h2]⟩
      · right; exact ⟨k + 1, by simp [idxI, h, h1], by simp; omega, by simp [cutB, h, h3]⟩
def cutR (l : List (BitVec 8)) : Option (List (BitVec 8) × List (BitVec 8)) → List V
  | none => [.p (.str (txt l)), .p (.str (txt [])), .p (.bool false)]
  | some q => [.p (.str (txt q.1)), .p (.str (txt q.2)), .p (.bool true)]
theorem cut1_ct (l : List (BitVec 8)) (d : BitVec 8) (hl : l.length ≤ 4000000) : Fn Tryd.prog 25 [.str (txt l), .str (txt [d])] (cutR l (cutB d l)) := by
  have k62 := index1_ct l d
  have sl := txt_size l
  have hs : (txt [d]).size = 1 := by rw [txt_size]; rfl
  have t0 : ByteArray.mk #[] = txt [] := rfl
  rcases cutB_idx d l with ⟨h1, h2⟩ | ⟨k, h1, h2, h3⟩
  · rw [h2] at k62
    rw [h1]
    refine Fn.of_body Tryd.func25 rfl ?_
    repeat (first | ((with_reducible first | refine callK_at 22 ?_); refine callK_p ?_; simp (maxSteps := 1000000) (disch := refine hold_ ?_; first | (simp [-List.getD_eq_getElem?_getD]; done) | omega) [-List.getD_eq_getElem?_getD]; (first | refine callK1_of (Fn.ct k62 Tryd.call22) ?_); (try simp (maxSteps := 1000000) (disch := refine hold_ ?_; first | (simp [-List.getD_eq_getElem?_getD]; done) | omega) [-List.getD_eq_getElem?_getD]); try first | (with_reducible refine zZ ?_) | subst hK_) | ((first | (with_reducible first | refine zP fun K_ hK_ => ?_ | refine zQ fun K_ hK_ => ?_ | refine zT ?_ | refine zU ?_ | refine zV ?_ | refine zW ?_ | refine zX ?_ | refine zY ?_) | ((with_reducible first | refine zR ?_ ?_ fun K_ hK_ => ?_ | refine zS ?_ ?_ fun K_ hK_ => ?_); (focus kernel_rfl); (focus kernel_rfl))); first | (simp (maxSteps := 1000000) (disch := refine hold_ ?_; first | (simp [-List.getD_eq_getElem?_getD]; done) | omega) [-List.getD_eq_getElem?_getD]; try first | (with_reducible refine zZ ?_) | subst hK_) | subst hK_) | (with_reducible first | refine zA ?_ | refine zB ?_ | refine zC ?_ | refine zD ?_ | refine zE ?_ | refine zF ?_ | refine zG ?_ | refine zH ?_ | refine zI ?_ | refine zJ ?_ | refine zK ?_ | refine zL ?_ | refine zM ?_ | refine zN ?_ | refine zO ?_) | ((with_reducible refine yG ?_ ?_); (focus decide)) | ((with_reducible refine yA ?_); refine yB rfl ?_; (with_reducible first | refine yC ?_ | refine yD ?_)))
    all_goals simp (maxSteps := 1000000) (disch := refine hold_ ?_; first | (simp [cutR, t0, -List.getD_eq_getElem?_getD]; done) | omega) [cutR, t0, -List.getD_eq_getElem?_getD]
  · rw [h1] at k62
    rw [h3]
    have e1 : IntKind.i64.wrap ((k : Int) + 1) = k + 1 := wrap_i64 _ (by omega) (by omega)
    have h4 : k ≤ l.length := by omega
    have h5 : k + 1 ≤ l.length := by omega
    have h6 : ((k : Int) + 1).toNat = k + 1 := by omega
    have x1 : (txt l).extract 0 k = txt (l.take k) := by rw [txt_extract]; simp
    have x2 : (txt l).extract (k + 1) l.length = txt (l.drop (k + 1)) := by rw [txt_extract, List.take_length]
    have hkz : (k : Int) ≤ l.length := by omega
    have hkz1 : (k : Int) + 1 ≤ l.length := by omega
    have hk0 : (0 : Int) ≤ (k : Int) + 1 := by omega
    generalize l.take k = q1 at *
    generalize l.drop (k + 1) = q2 at *
    refine Fn.of_body Tryd.func25 rfl ?_
    repeat (first | ((with_reducible first | refine callK_at 22 ?_); refine callK_p ?_; simp (maxSteps := 1000000) (disch := refine hold_ ?_; first | (simp [sl, hs, e1, h4, h5, h6, x1, x2, hkz, hkz1, hk0, -List.getD_eq_getElem?_getD]; done) | omega) [sl, hs, e1, h4, h5, h6, x1, x2, hkz, hkz1, hk0, -List.getD_eq_getElem?_getD]; (first | refine callK1_of (Fn.ct k62 Tryd.call22) ?_); (try simp (maxSteps := 1000000) (disch := refine hold_ ?_; first | (simp [sl, hs, e1, h4, h5, h6, x1, x2, hkz, hkz1, hk0, -List.getD_eq_getElem?_getD]; done) | omega) [sl, hs, e1, h4, h5, h6, x1, x2, hkz, hkz1, hk0, -List.getD_eq_getElem?_getD]); try first | (with_reducible refine zZ ?_) | subst hK_) | ((first | (with_reducible first | refine zP fun K_ hK_ => ?_ | refine zQ fun K_ hK_ => ?_ | refine zT ?_ | refine zU ?_ | refine zV ?_ | refine zW ?_ | refine zX ?_ | refine zY ?_) | ((with_reducible first | refine zR ?_ ?_ fun K_ hK_ => ?_ | refine zS ?_ ?_ fun K_ hK_ => ?_); (focus kernel_rfl); (focus kernel_rfl))); first | (simp (maxSteps := 1000000) (disch := refine hold_ ?_; first | (simp [sl, hs, e1, h4, h5, h6, x1, x2, hkz, hkz1, hk0, -List.getD_eq_getElem?_getD]; done) | omega) [sl, hs, e1, h4, h5, h6, x1, x2, hkz, hkz1, hk0, -List.getD_eq_getElem?_getD]; try first | (with_reducible refine zZ ?_) | subst hK_) | subst hK_) | (with_reducible first | refine zA ?_ | refine zB ?_ | refine zC ?_ | refine zD ?_ | refine zE ?_ | refine zF ?_ | refine zG ?_ | refine zH ?_ | refine zI ?_ | refine zJ ?_ | refine zK ?_ | refine zL ?_ | refine zM ?_ | refine zN ?_ | refine zO ?_) | ((with_reducible refine yG ?_ ?_); (focus decide)) | ((with_reducible refine yA ?_); refine yB rfl ?_; (with_reducible first | refine yC ?_ | refine yD ?_)))
    all_goals simp (maxSteps := 1000000) (disch := refine hold_ ?_; first | (simp [cutR, -List.getD_eq_getElem?_getD]; done) | omega) [cutR, -List.getD_eq_getElem?_getD]
theorem cut_ct (l : List (BitVec 8)) (d : BitVec 8) (hl : l.length ≤ 4000000) : Fn Tryd.prog 15 [.str (txt l), .str (txt [d])] (cutR l (cutB d l)) := by
  have k := cut1_ct l d hl
  cases h : cutB d l with
  | none =>
    rw [h] at k
    refine Fn.of_body Tryd.func15 rfl ?_
    repeat (first | ((with_reducible first | refine callK_at 25 ?_); refine callK_p ?_; simp (maxSteps := 1000000) (disch := refine hold_ ?_; first | (simp [cutR, -List.getD_eq_getElem?_getD]; done) | omega) [cutR, -List.getD_eq_getElem?_getD]; (first | refine callK1_of (Fn.ct k Tryd.call25) ?_); (try simp (maxSteps := 1000000) (disch := refine hold_ ?_; first | (simp [cutR, -List.getD_eq_getElem?_getD]; done) | omega) [cutR, -List.getD_eq_getElem?_getD]); try first | (with_reducible refine zZ ?_) | subst hK_) | ((first | (with_reducible first | refine zP fun K_ hK_ => ?_ | refine zQ fun K_ hK_ => ?_ | refine zT ?_ | refine zU ?_ | refine zV ?_ | refine zW ?_ | refine zX ?_ | refine zY ?_) | ((with_reducible first | refine zR ?_ ?_ fun K_ hK_ => ?_ | refine zS ?_ ?_ fun K_ hK_ => ?_); (focus kernel_rfl); (focus kernel_rfl))); first | (simp (maxSteps := 1000000) (disch := refine hold_ ?_; first | (simp [cutR, -List.getD_eq_getElem?_getD]; done) | omega) [cutR, -List.getD_eq_getElem?_getD]; try first | (with_reducible refine zZ ?_) | subst hK_) | subst hK_) | (with_reducible first | refine zA ?_ | refine zB ?_ | refine zC ?_ | refine zD ?_ | refine zE ?_ | refine zF ?_ | refine zG ?_ | refine zH ?_ | refine zI ?_ | refine zJ ?_ | refine zK ?_ | refine zL ?_ | refine zM ?_ | refine zN ?_ | refine zO ?_) | ((with_reducible refine yG ?_ ?_); (focus decide)) | ((with_reducible refine yA ?_); refine yB rfl ?_; (with_reducible first | refine yC ?_ | refine yD ?_)))
    all_goals simp (maxSteps := 1000000) (disch := refine hold_ ?_; first | (simp [cutR, -List.getD_eq_getElem?_getD]; done) | omega) [cutR, -List.getD_eq_getElem?_getD]
  | some q =>
    rw [h] at k
    refine Fn.of_body Tryd.func15 rfl ?_
    repeat (first | ((with_reducible first | refine callK_at 25 ?_); refine callK_p ?_; simp (maxSteps := 1000000) (disch := refine hold_ ?_; first | (simp [cutR, -List.getD_eq_getElem?_getD]; done) | omega) [cutR, -List.getD_eq_getElem?_getD]; (first | refine callK1_of (Fn.ct k Tryd.call25) ?_); (try simp (maxSteps := 1000000) (disch := refine hold_ ?_; first | (simp [cutR, -List.getD_eq_getElem?_getD]; done) | omega) [cutR, -List.getD_eq_getElem?_getD]); try first | (with_reducible refine zZ ?_) | subst hK_) | ((first | (with_reducible first | refine zP fun K_ hK_ => ?_ | refine zQ fun K_ hK_ => ?_ | refine zT ?_ | refine zU ?_ | refine zV ?_ | refine zW ?_ | refine zX ?_ | refine zY ?_) | ((with_reducible first | refine zR ?_ ?_ fun K_ hK_ => ?_ | refine zS ?_ ?_ fun K_ hK_ => ?_); (focus kernel_rfl); (focus kernel_rfl))); first | (simp (maxSteps := 1000000) (disch := refine hold_ ?_; first | (simp [cutR, -List.getD_eq_getElem?_getD]; done) | omega) [cutR, -List.getD_eq_getElem?_getD]; try first | (with_reducible refine zZ ?_) | subst hK_) | subst hK_) | (with_reducible first | refine zA ?_ | refine zB ?_ | refine zC ?_ | refine zD ?_ | refine zE ?_ | refine zF ?_ | refine zG ?_ | refine zH ?_ | refine zI ?_ | refine zJ ?_ | refine zK ?_ | refine zL ?_ | refine zM ?_ | refine zN ?_ | refine zO ?_) | ((with_reducible refine yG ?_ ?_); (focus decide)) | ((with_reducible refine yA ?_); refine yB rfl ?_; (with_reducible first | refine yC ?_ | refine yD ?_)))
    all_goals simp (maxSteps := 1000000) (disch := refine hold_ ?_; first | (simp [cutR, -List.getD_eq_getElem?_getD]; done) | omega) [cutR, -List.getD_eq_getElem?_getD]
end Go.Av.Chl
end
