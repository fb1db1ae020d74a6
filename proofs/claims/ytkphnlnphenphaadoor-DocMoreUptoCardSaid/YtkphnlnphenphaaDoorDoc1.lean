/- The walks of this seat's functions, and what is known of what they reckon (Doc1). Conditions: those that each theorem names. -/
import Derived.Test.YtkphnlnphenphaaDoorAv4
import Derived.Test.YtkphnlnphenphaaDoorProg
import Derived.KernelRfl
section
namespace Go.Av.Doc
open Go Go.Av Go.Proofs
set_option linter.unusedVariables false
@[simp] theorem x2_u : udesc Tryd.prog 2 = some (.int .i64) := nr (by kernel_rfl)
@[simp] theorem x2_isSlice : isSlice Tryd.prog 2 = false := nr (by kernel_rfl)
@[simp] theorem x2_isString : isString Tryd.prog 2 = false := nr (by kernel_rfl)
@[simp] theorem x2_arrLen : arrLen Tryd.prog 2 = none := nr (by kernel_rfl)
@[simp] theorem x2_esz : esz Tryd.prog 2 = none := nr (by kernel_rfl)
@[simp] theorem x2_isAggT : isAggT Tryd.prog 2 = some false := nr (by kernel_rfl)
@[simp] theorem x2_tsize : tsize Tryd.prog 2 = some 1 := nr (by kernel_rfl)
@[simp] theorem x2_notInt : notInt Tryd.prog 2 = false := nr (by kernel_rfl)
@[simp] theorem x2_isBytes : isBytes Tryd.prog 2 = false := nr (by kernel_rfl)
@[simp] theorem x2_alloc (H : List (Nat × (Nat × HB))) (d : Nat) : aalloc Tryd.prog H d 2 = some (.ptr d (nextVer H d) 0, upd H d (nextVer H d, .row (.ints .i64 [0]))) := nr (by kernel_rfl)
@[simp] theorem x3_u : udesc Tryd.prog 3 = some (.int .i64) := nr (by kernel_rfl)
@[simp] theorem x3_isSlice : isSlice Tryd.prog 3 = false := nr (by kernel_rfl)
@[simp] theorem x3_isString : isString Tryd.prog 3 = false := nr (by kernel_rfl)
@[simp] theorem x3_arrLen : arrLen Tryd.prog 3 = none := nr (by kernel_rfl)
@[simp] theorem x3_esz : esz Tryd.prog 3 = none := nr (by kernel_rfl)
@[simp] theorem x3_isAggT : isAggT Tryd.prog 3 = some false := nr (by kernel_rfl)
@[simp] theorem x3_tsize : tsize Tryd.prog 3 = some 1 := nr (by kernel_rfl)
@[simp] theorem x3_notInt : notInt Tryd.prog 3 = false := nr (by kernel_rfl)
@[simp] theorem x3_isBytes : isBytes Tryd.prog 3 = false := nr (by kernel_rfl)
@[simp] theorem x3_alloc (H : List (Nat × (Nat × HB))) (d : Nat) : aalloc Tryd.prog H d 3 = some (.ptr d (nextVer H d) 0, upd H d (nextVer H d, .row (.ints .i64 [0]))) := nr (by kernel_rfl)
@[simp] theorem x4_u : udesc Tryd.prog 4 = some .bool := nr (by kernel_rfl)
@[simp] theorem x4_eq (a b : Bool) : eqNil Tryd.prog 4 (.p (.bool a)) (.p (.bool b)) = some (a == b) := eqNil_bool (by kernel_rfl) a b
@[simp] theorem x4_isSlice : isSlice Tryd.prog 4 = false := nr (by kernel_rfl)
@[simp] theorem x4_isString : isString Tryd.prog 4 = false := nr (by kernel_rfl)
@[simp] theorem x4_arrLen : arrLen Tryd.prog 4 = none := nr (by kernel_rfl)
@[simp] theorem x4_esz : esz Tryd.prog 4 = none := nr (by kernel_rfl)
@[simp] theorem x4_isAggT : isAggT Tryd.prog 4 = some false := nr (by kernel_rfl)
@[simp] theorem x4_tsize : tsize Tryd.prog 4 = some 1 := nr (by kernel_rfl)
@[simp] theorem x4_notInt : notInt Tryd.prog 4 = true := nr (by kernel_rfl)
@[simp] theorem x4_isBytes : isBytes Tryd.prog 4 = false := nr (by kernel_rfl)
@[simp] theorem x4_alloc (H : List (Nat × (Nat × HB))) (d : Nat) : aalloc Tryd.prog H d 4 = some (.ptr d (nextVer H d) 0, upd H d (nextVer H d, .cells [.p (.bool false)])) := nr (by kernel_rfl)
@[simp] theorem x5_u : udesc Tryd.prog 5 = some (.int .u8) := nr (by kernel_rfl)
@[simp] theorem x5_isSlice : isSlice Tryd.prog 5 = false := nr (by kernel_rfl)
@[simp] theorem x5_isString : isString Tryd.prog 5 = false := nr (by kernel_rfl)
@[simp] theorem x5_arrLen : arrLen Tryd.prog 5 = none := nr (by kernel_rfl)
@[simp] theorem x5_esz : esz Tryd.prog 5 = none := nr (by kernel_rfl)
@[simp] theorem x5_isAggT : isAggT Tryd.prog 5 = some false := nr (by kernel_rfl)
@[simp] theorem x5_tsize : tsize Tryd.prog 5 = some 1 := nr (by kernel_rfl)
@[simp] theorem x5_notInt : notInt Tryd.prog 5 = false := nr (by kernel_rfl)
@[simp] theorem x5_isBytes : isBytes Tryd.prog 5 = false := nr (by kernel_rfl)
@[simp] theorem x5_alloc (H : List (Nat × (Nat × HB))) (d : Nat) : aalloc Tryd.prog H d 5 = some (.ptr d (nextVer H d) 0, upd H d (nextVer H d, .row (.ints .u8 [0]))) := nr (by kernel_rfl)
@[simp] theorem x9_u : udesc Tryd.prog 9 = some .string := nr (by kernel_rfl)
@[simp] theorem x9_isSlice : isSlice Tryd.prog 9 = false := nr (by kernel_rfl)
@[simp] theorem x9_isString : isString Tryd.prog 9 = true := nr (by kernel_rfl)
@[simp] theorem x9_arrLen : arrLen Tryd.prog 9 = none := nr (by kernel_rfl)
@[simp] theorem x9_esz : esz Tryd.prog 9 = none := nr (by kernel_rfl)
@[simp] theorem x9_isAggT : isAggT Tryd.prog 9 = some false := nr (by kernel_rfl)
@[simp] theorem x9_tsize : tsize Tryd.prog 9 = some 1 := nr (by kernel_rfl)
@[simp] theorem x9_notInt : notInt Tryd.prog 9 = true := nr (by kernel_rfl)
@[simp] theorem x9_isBytes : isBytes Tryd.prog 9 = false := nr (by kernel_rfl)
@[simp] theorem x9_alloc (H : List (Nat × (Nat × HB))) (d : Nat) : aalloc Tryd.prog H d 9 = some (.ptr d (nextVer H d) 0, upd H d (nextVer H d, .cells [.p (.str ByteArray.empty)])) := nr (by kernel_rfl)
@[simp] theorem x12_u : udesc Tryd.prog 12 = some (.int .u64) := nr (by kernel_rfl)
@[simp] theorem x12_isSlice : isSlice Tryd.prog 12 = false := nr (by kernel_rfl)
@[simp] theorem x12_isString : isString Tryd.prog 12 = false := nr (by kernel_rfl)
@[simp] theorem x12_arrLen : arrLen Tryd.prog 12 = none := nr (by kernel_rfl)
@[simp] theorem x12_esz : esz Tryd.prog 12 = none := nr (by kernel_rfl)
@[simp] theorem x12_isAggT : isAggT Tryd.prog 12 = some false := nr (by kernel_rfl)
@[simp] theorem x12_tsize : tsize Tryd.prog 12 = some 1 := nr (by kernel_rfl)
@[simp] theorem x12_notInt : notInt Tryd.prog 12 = false := nr (by kernel_rfl)
@[simp] theorem x12_isBytes : isBytes Tryd.prog 12 = false := nr (by kernel_rfl)
@[simp] theorem x12_alloc (H : List (Nat × (Nat × HB))) (d : Nat) : aalloc Tryd.prog H d 12 = some (.ptr d (nextVer H d) 0, upd H d (nextVer H d, .row (.ints .u64 [0]))) := nr (by kernel_rfl)
@[simp] theorem x21_u : udesc Tryd.prog 21 = some (.int .i32) := nr (by kernel_rfl)
@[simp] theorem x21_isSlice : isSlice Tryd.prog 21 = false := nr (by kernel_rfl)
@[simp] theorem x21_isString : isString Tryd.prog 21 = false := nr (by kernel_rfl)
@[simp] theorem x21_arrLen : arrLen Tryd.prog 21 = none := nr (by kernel_rfl)
@[simp] theorem x21_esz : esz Tryd.prog 21 = none := nr (by kernel_rfl)
@[simp] theorem x21_isAggT : isAggT Tryd.prog 21 = some false := nr (by kernel_rfl)
@[simp] theorem x21_tsize : tsize Tryd.prog 21 = some 1 := nr (by kernel_rfl)
@[simp] theorem x21_notInt : notInt Tryd.prog 21 = false := nr (by kernel_rfl)
@[simp] theorem x21_isBytes : isBytes Tryd.prog 21 = false := nr (by kernel_rfl)
@[simp] theorem x21_alloc (H : List (Nat × (Nat × HB))) (d : Nat) : aalloc Tryd.prog H d 21 = some (.ptr d (nextVer H d) 0, upd H d (nextVer H d, .row (.ints .i32 [0]))) := nr (by kernel_rfl)
@[simp] theorem x22_us : udesc Tryd.prog 22 = some (.slice 37) := nr (by kernel_rfl)
@[simp] theorem x22_eq (x y : V) : eqNil Tryd.prog 22 x y = eqSl x y := eqNil_sl (e := 37) (by kernel_rfl) x y
@[simp] theorem x22_isSlice : isSlice Tryd.prog 22 = true := nr (by kernel_rfl)
@[simp] theorem x22_isString : isString Tryd.prog 22 = false := nr (by kernel_rfl)
@[simp] theorem x22_arrLen : arrLen Tryd.prog 22 = none := nr (by kernel_rfl)
@[simp] theorem x22_esz : esz Tryd.prog 22 = some 8 := nr (by kernel_rfl)
@[simp] theorem x22_isAggT : isAggT Tryd.prog 22 = some false := nr (by kernel_rfl)
@[simp] theorem x22_tsize : tsize Tryd.prog 22 = some 1 := nr (by kernel_rfl)
@[simp] theorem x22_notInt : notInt Tryd.prog 22 = true := nr (by kernel_rfl)
@[simp] theorem x22_isBytes : isBytes Tryd.prog 22 = false := nr (by kernel_rfl)
@[simp] theorem x22_row (T : List (Nat × Nat)) (d len : Nat) (ps : List (Nat × V)) : arowSlice Tryd.prog T d 22 len ps = if len * 8 ≤ 16777216 then rowFill (.vals 8 []) 8 len d T (fillV (fun k => some (k * 8, 8)) [] (zrep len [.p (.int .i64 0), .p (.int .i64 0), .p (.str ByteArray.empty), .p (.str ByteArray.empty), .p (.str ByteArray.empty), .p (.str ByteArray.empty), .p (.sl (.vals 1 []) true), .p (.sl (.vals 1 []) true)]) ps) else none := arowSlice_eq (P := Tryd.prog) (t := 22) (s := 8) (zl := [.p (.int .i64 0), .p (.int .i64 0), .p (.str ByteArray.empty), .p (.str ByteArray.empty), .p (.str ByteArray.empty), .p (.str ByteArray.empty), .p (.sl (.vals 1 []) true), .p (.sl (.vals 1 []) true)]) (e := 37) (b := 128) (z := .agg #[.int .i64 0, .int .i64 0, .string ByteArray.empty, .string ByteArray.empty, .string ByteArray.empty, .string ByteArray.empty, .slice none 0 0, .slice none 0 0]) (by kernel_rfl) (by kernel_rfl) (by kernel_rfl) rfl T d len ps
@[simp] theorem x22_copy (H : List (Nat × (Nat × HB))) (id ver off len cap : Nat) (y : V) : acopy Tryd.prog H 22 (.own id ver off len cap) y = copyR ver off len 8 H id (look H id) (srcV H 8 y) := acopy_eq (e := 37) (b := 128) (z := .agg #[.int .i64 0, .int .i64 0, .string ByteArray.empty, .string ByteArray.empty, .string ByteArray.empty, .string ByteArray.empty, .slice none 0 0, .slice none 0 0]) (by kernel_rfl) H id ver off len cap y
@[simp] theorem x22_elem : elemInfo Tryd.prog 22 = some (37, 8, 128, .agg #[.int .i64 0, .int .i64 0, .string ByteArray.empty, .string ByteArray.empty, .string ByteArray.empty, .string ByteArray.empty, .slice none 0 0, .slice none 0 0]) := nr (by kernel_rfl)
@[simp] theorem x22_alloc (H : List (Nat × (Nat × HB))) (d : Nat) : aalloc Tryd.prog H d 22 = some (.ptr d (nextVer H d) 0, upd H d (nextVer H d, .cells [.p (.sl (.vals 1 []) true)])) := nr (by kernel_rfl)
@[simp] theorem x25_up : udesc Tryd.prog 25 = some (.pointer 58) := nr (by kernel_rfl)
@[simp] theorem x25_eq (x y : V) : eqNil Tryd.prog 25 x y = eqPt x y := eqNil_pt (e := 58) (by kernel_rfl) x y
@[simp] theorem x25_isSlice : isSlice Tryd.prog 25 = false := nr (by kernel_rfl)
@[simp] theorem x25_isString : isString Tryd.prog 25 = false := nr (by kernel_rfl)
@[simp] theorem x25_arrLen : arrLen Tryd.prog 25 = none := nr (by kernel_rfl)
@[simp] theorem x25_esz : esz Tryd.prog 25 = none := nr (by kernel_rfl)
@[simp] theorem x25_isAggT : isAggT Tryd.prog 25 = some false := nr (by kernel_rfl)
@[simp] theorem x25_tsize : tsize Tryd.prog 25 = some 1 := nr (by kernel_rfl)
@[simp] theorem x25_notInt : notInt Tryd.prog 25 = true := nr (by kernel_rfl)
@[simp] theorem x25_isBytes : isBytes Tryd.prog 25 = false := nr (by kernel_rfl)
@[simp] theorem x25_alloc (H : List (Nat × (Nat × HB))) (d : Nat) : aalloc Tryd.prog H d 25 = some (.ptr d (nextVer H d) 0, upd H d (nextVer H d, .cells [.p .ptr0])) := nr (by kernel_rfl)
@[simp] theorem x26_u : udesc Tryd.prog 26 = some (.int .i64) := nr (by kernel_rfl)
@[simp] theorem x26_isSlice : isSlice Tryd.prog 26 = false := nr (by kernel_rfl)
@[simp] theorem x26_isString : isString Tryd.prog 26 = false := nr (by kernel_rfl)
@[simp] theorem x26_arrLen : arrLen Tryd.prog 26 = none := nr (by kernel_rfl)
@[simp] theorem x26_esz : esz Tryd.prog 26 = none := nr (by kernel_rfl)
@[simp] theorem x26_isAggT : isAggT Tryd.prog 26 = some false := nr (by kernel_rfl)
@[simp] theorem x26_tsize : tsize Tryd.prog 26 = some 1 := nr (by kernel_rfl)
@[simp] theorem x26_notInt : notInt Tryd.prog 26 = false := nr (by kernel_rfl)
@[simp] theorem x26_isBytes : isBytes Tryd.prog 26 = false := nr (by kernel_rfl)
@[simp] theorem x26_alloc (H : List (Nat × (Nat × HB))) (d : Nat) : aalloc Tryd.prog H d 26 = some (.ptr d (nextVer H d) 0, upd H d (nextVer H d, .row (.ints .i64 [0]))) := nr (by kernel_rfl)
@[simp] theorem x34_us : udesc Tryd.prog 34 = some (.slice 45) := nr (by kernel_rfl)
@[simp] theorem x34_eq (x y : V) : eqNil Tryd.prog 34 x y = eqSl x y := eqNil_sl (e := 45) (by kernel_rfl) x y
@[simp] theorem x34_isSlice : isSlice Tryd.prog 34 = true := nr (by kernel_rfl)
@[simp] theorem x34_isString : isString Tryd.prog 34 = false := nr (by kernel_rfl)
@[simp] theorem x34_arrLen : arrLen Tryd.prog 34 = none := nr (by kernel_rfl)
@[simp] theorem x34_esz : esz Tryd.prog 34 = some 2 := nr (by kernel_rfl)
@[simp] theorem x34_isAggT : isAggT Tryd.prog 34 = some false := nr (by kernel_rfl)
@[simp] theorem x34_tsize : tsize Tryd.prog 34 = some 1 := nr (by kernel_rfl)
@[simp] theorem x34_notInt : notInt Tryd.prog 34 = true := nr (by kernel_rfl)
@[simp] theorem x34_isBytes : isBytes Tryd.prog 34 = false := nr (by kernel_rfl)
@[simp] theorem x34_row (T : List (Nat × Nat)) (d len : Nat) (ps : List (Nat × V)) : arowSlice Tryd.prog T d 34 len ps = if len * 2 ≤ 16777216 then rowFill (.vals 2 []) 2 len d T (fillV (fun k => some (k * 2, 2)) [] (zrep len [.p (.str ByteArray.empty), .p (.str ByteArray.empty)]) ps) else none := arowSlice_eq (P := Tryd.prog) (t := 34) (s := 2) (zl := [.p (.str ByteArray.empty), .p (.str ByteArray.empty)]) (e := 45) (b := 32) (z := .agg #[.string ByteArray.empty, .string ByteArray.empty]) (by kernel_rfl) (by kernel_rfl) (by kernel_rfl) rfl T d len ps
@[simp] theorem x34_copy (H : List (Nat × (Nat × HB))) (id ver off len cap : Nat) (y : V) : acopy Tryd.prog H 34 (.own id ver off len cap) y = copyR ver off len 2 H id (look H id) (srcV H 2 y) := acopy_eq (e := 45) (b := 32) (z := .agg #[.string ByteArray.empty, .string ByteArray.empty]) (by kernel_rfl) H id ver off len cap y
@[simp] theorem x34_elem : elemInfo Tryd.prog 34 = some (45, 2, 32, .agg #[.string ByteArray.empty, .string ByteArray.empty]) := nr (by kernel_rfl)
@[simp] theorem x34_alloc (H : List (Nat × (Nat × HB))) (d : Nat) : aalloc Tryd.prog H d 34 = some (.ptr d (nextVer H d) 0, upd H d (nextVer H d, .cells [.p (.sl (.vals 1 []) true)])) := nr (by kernel_rfl)
@[simp] theorem x35_us : udesc Tryd.prog 35 = some (.slice 43) := nr (by kernel_rfl)
@[simp] theorem x35_eq (x y : V) : eqNil Tryd.prog 35 x y = eqSl x y := eqNil_sl (e := 43) (by kernel_rfl) x y
@[simp] theorem x35_isSlice : isSlice Tryd.prog 35 = true := nr (by kernel_rfl)
@[simp] theorem x35_isString : isString Tryd.prog 35 = false := nr (by kernel_rfl)
@[simp] theorem x35_arrLen : arrLen Tryd.prog 35 = none := nr (by kernel_rfl)
@[simp] theorem x35_esz : esz Tryd.prog 35 = some 4 := nr (by kernel_rfl)
@[simp] theorem x35_isAggT : isAggT Tryd.prog 35 = some false := nr (by kernel_rfl)
@[simp] theorem x35_tsize : tsize Tryd.prog 35 = some 1 := nr (by kernel_rfl)
@[simp] theorem x35_notInt : notInt Tryd.prog 35 = true := nr (by kernel_rfl)
@[simp] theorem x35_isBytes : isBytes Tryd.prog 35 = false := nr (by kernel_rfl)
@[simp] theorem x35_row (T : List (Nat × Nat)) (d len : Nat) (ps : List (Nat × V)) : arowSlice Tryd.prog T d 35 len ps = if len * 4 ≤ 16777216 then rowFill (.vals 4 []) 4 len d T (fillV (fun k => some (k * 4, 4)) [] (zrep len [.p (.str ByteArray.empty), .p (.str ByteArray.empty), .p (.str ByteArray.empty), .p (.str ByteArray.empty)]) ps) else none := arowSlice_eq (P := Tryd.prog) (t := 35) (s := 4) (zl := [.p (.str ByteArray.empty), .p (.str ByteArray.empty), .p (.str ByteArray.empty), .p (.str ByteArray.empty)]) (e := 43) (b := 64) (z := .agg #[.string ByteArray.empty, .string ByteArray.empty, .string ByteArray.empty, .string ByteArray.empty]) (by kernel_rfl) (by kernel_rfl) (by kernel_rfl) rfl T d len ps
@[simp] theorem x35_copy (H : List (Nat × (Nat × HB))) (id ver off len cap : Nat) (y : V) : acopy Tryd.prog H 35 (.own id ver off len cap) y = copyR ver off len 4 H id (look H id) (srcV H 4 y) := acopy_eq (e := 43) (b := 64) (z := .agg #[.string ByteArray.empty, .string ByteArray.empty, .string ByteArray.empty, .string ByteArray.empty]) (by kernel_rfl) H id ver off len cap y
@[simp] theorem x35_elem : elemInfo Tryd.prog 35 = some (43, 4, 64, .agg #[.string ByteArray.empty, .string ByteArray.empty, .string ByteArray.empty, .string ByteArray.empty]) := nr (by kernel_rfl)
@[simp] theorem x35_alloc (H : List (Nat × (Nat × HB))) (d : Nat) : aalloc Tryd.prog H d 35 = some (.ptr d (nextVer H d) 0, upd H d (nextVer H d, .cells [.p (.sl (.vals 1 []) true)])) := nr (by kernel_rfl)
@[simp] theorem x36_isSlice : isSlice Tryd.prog 36 = false := nr (by kernel_rfl)
@[simp] theorem x36_isString : isString Tryd.prog 36 = false := nr (by kernel_rfl)
@[simp] theorem x36_arrLen : arrLen Tryd.prog 36 = none := nr (by kernel_rfl)
@[simp] theorem x36_esz : esz Tryd.prog 36 = none := nr (by kernel_rfl)
@[simp] theorem x36_isAggT : isAggT Tryd.prog 36 = some true := nr (by kernel_rfl)
@[simp] theorem x36_tsize : tsize Tryd.prog 36 = some 8 := nr (by kernel_rfl)
@[simp] theorem x36_notInt : notInt Tryd.prog 36 = true := nr (by kernel_rfl)
@[simp] theorem x36_isBytes : isBytes Tryd.prog 36 = false := nr (by kernel_rfl)
@[simp] theorem x36_alloc (H : List (Nat × (Nat × HB))) (d : Nat) : aalloc Tryd.prog H d 36 = some (.ptr d (nextVer H d) 0, upd H d (nextVer H d, .cells [.p (.int .i64 0), .p (.int .i64 0), .p (.str ByteArray.empty), .p (.str ByteArray.empty), .p (.str ByteArray.empty), .p (.str ByteArray.empty), .p (.sl (.vals 1 []) true), .p (.sl (.vals 1 []) true)])) := nr (by kernel_rfl)
@[simp] theorem x36_build (H : List (Nat × (Nat × HB))) (ps : List (Nat × V)) : abuild Tryd.prog H 36 ps = (fillV (fun k => lookN [(0, 1), (1, 1), (2, 1), (3, 1), (4, 1), (5, 1), (6, 1), (7, 1)] k) H [.p (.int .i64 0), .p (.int .i64 0), .p (.str ByteArray.empty), .p (.str ByteArray.empty), .p (.str ByteArray.empty), .p (.str ByteArray.empty), .p (.sl (.vals 1 []) true), .p (.sl (.vals 1 []) true)] ps).map mkAgg := nr (by kernel_rfl)
@[simp] theorem x36_f0 (x : V) : afield Tryd.prog 36 x 0 = fieldV false 0 1 x := nr (by kernel_rfl)
@[simp] theorem x36_fa0 (id ver off : Nat) : afieldAddr Tryd.prog 36 (.ptr id ver off) 0 = some (.ptr id ver (off + 0)) := nr (by kernel_rfl)
@[simp] theorem x36_fe0 (r : Row PV) (i j : Nat) : afieldAddr Tryd.prog 36 (.p (.eptr r i j)) 0 = some (.p (.eptr r i (j + 0))) := nr (by kernel_rfl)
@[simp] theorem x36_f1 (x : V) : afield Tryd.prog 36 x 1 = fieldV false 1 1 x := nr (by kernel_rfl)
@[simp] theorem x36_fa1 (id ver off : Nat) : afieldAddr Tryd.prog 36 (.ptr id ver off) 1 = some (.ptr id ver (off + 1)) := nr (by kernel_rfl)
@[simp] theorem x36_fe1 (r : Row PV) (i j : Nat) : afieldAddr Tryd.prog 36 (.p (.eptr r i j)) 1 = some (.p (.eptr r i (j + 1))) := nr (by kernel_rfl)
@[simp] theorem x36_f2 (x : V) : afield Tryd.prog 36 x 2 = fieldV false 2 1 x := nr (by kernel_rfl)
@[simp] theorem x36_fa2 (id ver off : Nat) : afieldAddr Tryd.prog 36 (.ptr id ver off) 2 = some (.ptr id ver (off + 2)) := nr (by kernel_rfl)
@[simp] theorem x36_fe2 (r : Row PV) (i j : Nat) : afieldAddr Tryd.prog 36 (.p (.eptr r i j)) 2 = some (.p (.eptr r i (j + 2))) := nr (by kernel_rfl)
@[simp] theorem x36_f3 (x : V) : afield Tryd.prog 36 x 3 = fieldV false 3 1 x := nr (by kernel_rfl)
@[simp] theorem x36_fa3 (id ver off : Nat) : afieldAddr Tryd.prog 36 (.ptr id ver off) 3 = some (.ptr id ver (off + 3)) := nr (by kernel_rfl)
@[simp] theorem x36_fe3 (r : Row PV) (i j : Nat) : afieldAddr Tryd.prog 36 (.p (.eptr r i j)) 3 = some (.p (.eptr r i (j + 3))) := nr (by kernel_rfl)
@[simp] theorem x36_f4 (x : V) : afield Tryd.prog 36 x 4 = fieldV false 4 1 x := nr (by kernel_rfl)
@[simp] theorem x36_fa4 (id ver off : Nat) : afieldAddr Tryd.prog 36 (.ptr id ver off) 4 = some (.ptr id ver (off + 4)) := nr (by kernel_rfl)
@[simp] theorem x36_fe4 (r : Row PV) (i j : Nat) : afieldAddr Tryd.prog 36 (.p (.eptr r i j)) 4 = some (.p (.eptr r i (j + 4))) := nr (by kernel_rfl)
@[simp] theorem x36_f5 (x : V) : afield Tryd.prog 36 x 5 = fieldV false 5 1 x := nr (by kernel_rfl)
@[simp] theorem x36_fa5 (id ver off : Nat) : afieldAddr Tryd.prog 36 (.ptr id ver off) 5 = some (.ptr id ver (off + 5)) := nr (by kernel_rfl)
@[simp] theorem x36_fe5 (r : Row PV) (i j : Nat) : afieldAddr Tryd.prog 36 (.p (.eptr r i j)) 5 = some (.p (.eptr r i (j + 5))) := nr (by kernel_rfl)
@[simp] theorem x36_f6 (x : V) : afield Tryd.prog 36 x 6 = fieldV false 6 1 x := nr (by kernel_rfl)
@[simp] theorem x36_fa6 (id ver off : Nat) : afieldAddr Tryd.prog 36 (.ptr id ver off) 6 = some (.ptr id ver (off + 6)) := nr (by kernel_rfl)
@[simp] theorem x36_fe6 (r : Row PV) (i j : Nat) : afieldAddr Tryd.prog 36 (.p (.eptr r i j)) 6 = some (.p (.eptr r i (j + 6))) := nr (by kernel_rfl)
@[simp] theorem x36_f7 (x : V) : afield Tryd.prog 36 x 7 = fieldV false 7 1 x := nr (by kernel_rfl)
@[simp] theorem x36_fa7 (id ver off : Nat) : afieldAddr Tryd.prog 36 (.ptr id ver off) 7 = some (.ptr id ver (off + 7)) := nr (by kernel_rfl)
@[simp] theorem x36_fe7 (r : Row PV) (i j : Nat) : afieldAddr Tryd.prog 36 (.p (.eptr r i j)) 7 = some (.p (.eptr r i (j + 7))) := nr (by kernel_rfl)
@[simp] theorem x37_isSlice : isSlice Tryd.prog 37 = false := nr (by kernel_rfl)
@[simp] theorem x37_isString : isString Tryd.prog 37 = false := nr (by kernel_rfl)
@[simp] theorem x37_arrLen : arrLen Tryd.prog 37 = none := nr (by kernel_rfl)
@[simp] theorem x37_esz : esz Tryd.prog 37 = none := nr (by kernel_rfl)
@[simp] theorem x37_isAggT : isAggT Tryd.prog 37 = some true := nr (by kernel_rfl)
@[simp] theorem x37_tsize : tsize Tryd.prog 37 = some 8 := nr (by kernel_rfl)
@[simp] theorem x37_notInt : notInt Tryd.prog 37 = true := nr (by kernel_rfl)
@[simp] theorem x37_isBytes : isBytes Tryd.prog 37 = false := nr (by kernel_rfl)
@[simp] theorem x37_alloc (H : List (Nat × (Nat × HB))) (d : Nat) : aalloc Tryd.prog H d 37 = some (.ptr d (nextVer H d) 0, upd H d (nextVer H d, .cells [.p (.int .i64 0), .p (.int .i64 0), .p (.str ByteArray.empty), .p (.str ByteArray.empty), .p (.str ByteArray.empty), .p (.str ByteArray.empty), .p (.sl (.vals 1 []) true), .p (.sl (.vals 1 []) true)])) := nr (by kernel_rfl)
@[simp] theorem x37_build (H : List (Nat × (Nat × HB))) (ps : List (Nat × V)) : abuild Tryd.prog H 37 ps = (fillV (fun k => lookN [(0, 1), (1, 1), (2, 1), (3, 1), (4, 1), (5, 1), (6, 1), (7, 1)] k) H [.p (.int .i64 0), .p (.int .i64 0), .p (.str ByteArray.empty), .p (.str ByteArray.empty), .p (.str ByteArray.empty), .p (.str ByteArray.empty), .p (.sl (.vals 1 []) true), .p (.sl (.vals 1 []) true)] ps).map mkAgg := nr (by kernel_rfl)
@[simp] theorem x37_f0 (x : V) : afield Tryd.prog 37 x 0 = fieldV false 0 1 x := nr (by kernel_rfl)
@[simp] theorem x37_fa0 (id ver off : Nat) : afieldAddr Tryd.prog 37 (.ptr id ver off) 0 = some (.ptr id ver (off + 0)) := nr (by kernel_rfl)
@[simp] theorem x37_fe0 (r : Row PV) (i j : Nat) : afieldAddr Tryd.prog 37 (.p (.eptr r i j)) 0 = some (.p (.eptr r i (j + 0))) := nr (by kernel_rfl)
@[simp] theorem x37_f1 (x : V) : afield Tryd.prog 37 x 1 = fieldV false 1 1 x := nr (by kernel_rfl)
@[simp] theorem x37_fa1 (id ver off : Nat) : afieldAddr Tryd.prog 37 (.ptr id ver off) 1 = some (.ptr id ver (off + 1)) := nr (by kernel_rfl)
@[simp] theorem x37_fe1 (r : Row PV) (i j : Nat) : afieldAddr Tryd.prog 37 (.p (.eptr r i j)) 1 = some (.p (.eptr r i (j + 1))) := nr (by kernel_rfl)
@[simp] theorem x37_f2 (x : V) : afield Tryd.prog 37 x 2 = fieldV false 2 1 x := nr (by kernel_rfl)
@[simp] theorem x37_fa2 (id ver off : Nat) : afieldAddr Tryd.prog 37 (.ptr id ver off) 2 = some (.ptr id ver (off + 2)) := nr (by kernel_rfl)
@[simp] theorem x37_fe2 (r : Row PV) (i j : Nat) : afieldAddr Tryd.prog 37 (.p (.eptr r i j)) 2 = some (.p (.eptr r i (j + 2))) := nr (by kernel_rfl)
@[simp] theorem x37_f3 (x : V) : afield Tryd.prog 37 x 3 = fieldV false 3 1 x := nr (by kernel_rfl)
@[simp] theorem x37_fa3 (id ver off : Nat) : afieldAddr Tryd.prog 37 (.ptr id ver off) 3 = some (.ptr id ver (off + 3)) := nr (by kernel_rfl)
@[simp] theorem x37_fe3 (r : Row PV) (i j : Nat) : afieldAddr Tryd.prog 37 (.p (.eptr r i j)) 3 = some (.p (.eptr r i (j + 3))) := nr (by kernel_rfl)
@[simp] theorem x37_f4 (x : V) : afield Tryd.prog 37 x 4 = fieldV false 4 1 x := nr (by kernel_rfl)
@[simp] theorem x37_fa4 (id ver off : Nat) : afieldAddr Tryd.prog 37 (.ptr id ver off) 4 = some (.ptr id ver (off + 4)) := nr (by kernel_rfl)
@[simp] theorem x37_fe4 (r : Row PV) (i j : Nat) : afieldAddr Tryd.prog 37 (.p (.eptr r i j)) 4 = some (.p (.eptr r i (j + 4))) := nr (by kernel_rfl)
@[simp] theorem x37_f5 (x : V) : afield Tryd.prog 37 x 5 = fieldV false 5 1 x := nr (by kernel_rfl)
@[simp] theorem x37_fa5 (id ver off : Nat) : afieldAddr Tryd.prog 37 (.ptr id ver off) 5 = some (.ptr id ver (off + 5)) := nr (by kernel_rfl)
@[simp] theorem x37_fe5 (r : Row PV) (i j : Nat) : afieldAddr Tryd.prog 37 (.p (.eptr r i j)) 5 = some (.p (.eptr r i (j + 5))) := nr (by kernel_rfl)
@[simp] theorem x37_f6 (x : V) : afield Tryd.prog 37 x 6 = fieldV false 6 1 x := nr (by kernel_rfl)
@[simp] theorem x37_fa6 (id ver off : Nat) : afieldAddr Tryd.prog 37 (.ptr id ver off) 6 = some (.ptr id ver (off + 6)) := nr (by kernel_rfl)
@[simp] theorem x37_fe6 (r : Row PV) (i j : Nat) : afieldAddr Tryd.prog 37 (.p (.eptr r i j)) 6 = some (.p (.eptr r i (j + 6))) := nr (by kernel_rfl)
@[simp] theorem x37_f7 (x : V) : afield Tryd.prog 37 x 7 = fieldV false 7 1 x := nr (by kernel_rfl)
@[simp] theorem x37_fa7 (id ver off : Nat) : afieldAddr Tryd.prog 37 (.ptr id ver off) 7 = some (.ptr id ver (off + 7)) := nr (by kernel_rfl)
@[simp] theorem x37_fe7 (r : Row PV) (i j : Nat) : afieldAddr Tryd.prog 37 (.p (.eptr r i j)) 7 = some (.p (.eptr r i (j + 7))) := nr (by kernel_rfl)
@[simp] theorem x42_eqs (r s : Row PV) : eqNil Tryd.prog 42 (.p (.agg r)) (.p (.agg s)) = eqAts r s [(0, 1), (1, 1), (2, 1), (3, 1)] := eqNil_struct (by kernel_rfl) r s
@[simp] theorem x42_isSlice : isSlice Tryd.prog 42 = false := nr (by kernel_rfl)
@[simp] theorem x42_isString : isString Tryd.prog 42 = false := nr (by kernel_rfl)
@[simp] theorem x42_arrLen : arrLen Tryd.prog 42 = none := nr (by kernel_rfl)
@[simp] theorem x42_esz : esz Tryd.prog 42 = none := nr (by kernel_rfl)
@[simp] theorem x42_isAggT : isAggT Tryd.prog 42 = some true := nr (by kernel_rfl)
@[simp] theorem x42_tsize : tsize Tryd.prog 42 = some 4 := nr (by kernel_rfl)
@[simp] theorem x42_notInt : notInt Tryd.prog 42 = true := nr (by kernel_rfl)
@[simp] theorem x42_isBytes : isBytes Tryd.prog 42 = false := nr (by kernel_rfl)
@[simp] theorem x42_alloc (H : List (Nat × (Nat × HB))) (d : Nat) : aalloc Tryd.prog H d 42 = some (.ptr d (nextVer H d) 0, upd H d (nextVer H d, .cells [.p (.str ByteArray.empty), .p (.str ByteArray.empty), .p (.str ByteArray.empty), .p (.str ByteArray.empty)])) := nr (by kernel_rfl)
@[simp] theorem x42_build (H : List (Nat × (Nat × HB))) (ps : List (Nat × V)) : abuild Tryd.prog H 42 ps = (fillV (fun k => lookN [(0, 1), (1, 1), (2, 1), (3, 1)] k) H [.p (.str ByteArray.empty), .p (.str ByteArray.empty), .p (.str ByteArray.empty), .p (.str ByteArray.empty)] ps).map mkAgg := nr (by kernel_rfl)
@[simp] theorem x42_f0 (x : V) : afield Tryd.prog 42 x 0 = fieldV false 0 1 x := nr (by kernel_rfl)
@[simp] theorem x42_fa0 (id ver off : Nat) : afieldAddr Tryd.prog 42 (.ptr id ver off) 0 = some (.ptr id ver (off + 0)) := nr (by kernel_rfl)
@[simp] theorem x42_fe0 (r : Row PV) (i j : Nat) : afieldAddr Tryd.prog 42 (.p (.eptr r i j)) 0 = some (.p (.eptr r i (j + 0))) := nr (by kernel_rfl)
@[simp] theorem x42_f1 (x : V) : afield Tryd.prog 42 x 1 = fieldV false 1 1 x := nr (by kernel_rfl)
@[simp] theorem x42_fa1 (id ver off : Nat) : afieldAddr Tryd.prog 42 (.ptr id ver off) 1 = some (.ptr id ver (off + 1)) := nr (by kernel_rfl)
@[simp] theorem x42_fe1 (r : Row PV) (i j : Nat) : afieldAddr Tryd.prog 42 (.p (.eptr r i j)) 1 = some (.p (.eptr r i (j + 1))) := nr (by kernel_rfl)
@[simp] theorem x42_f2 (x : V) : afield Tryd.prog 42 x 2 = fieldV false 2 1 x := nr (by kernel_rfl)
@[simp] theorem x42_fa2 (id ver off : Nat) : afieldAddr Tryd.prog 42 (.ptr id ver off) 2 = some (.ptr id ver (off + 2)) := nr (by kernel_rfl)
@[simp] theorem x42_fe2 (r : Row PV) (i j : Nat) : afieldAddr Tryd.prog 42 (.p (.eptr r i j)) 2 = some (.p (.eptr r i (j + 2))) := nr (by kernel_rfl)
@[simp] theorem x42_f3 (x : V) : afield Tryd.prog 42 x 3 = fieldV false 3 1 x := nr (by kernel_rfl)
@[simp] theorem x42_fa3 (id ver off : Nat) : afieldAddr Tryd.prog 42 (.ptr id ver off) 3 = some (.ptr id ver (off + 3)) := nr (by kernel_rfl)
@[simp] theorem x42_fe3 (r : Row PV) (i j : Nat) : afieldAddr Tryd.prog 42 (.p (.eptr r i j)) 3 = some (.p (.eptr r i (j + 3))) := nr (by kernel_rfl)
@[simp] theorem x43_eqs (r s : Row PV) : eqNil Tryd.prog 43 (.p (.agg r)) (.p (.agg s)) = eqAts r s [(0, 1), (1, 1), (2, 1), (3, 1)] := eqNil_struct (by kernel_rfl) r s
@[simp] theorem x43_isSlice : isSlice Tryd.prog 43 = false := nr (by kernel_rfl)
@[simp] theorem x43_isString : isString Tryd.prog 43 = false := nr (by kernel_rfl)
@[simp] theorem x43_arrLen : arrLen Tryd.prog 43 = none := nr (by kernel_rfl)
@[simp] theorem x43_esz : esz Tryd.prog 43 = none := nr (by kernel_rfl)
@[simp] theorem x43_isAggT : isAggT Tryd.prog 43 = some true := nr (by kernel_rfl)
@[simp] theorem x43_tsize : tsize Tryd.prog 43 = some 4 := nr (by kernel_rfl)
@[simp] theorem x43_notInt : notInt Tryd.prog 43 = true := nr (by kernel_rfl)
@[simp] theorem x43_isBytes : isBytes Tryd.prog 43 = false := nr (by kernel_rfl)
@[simp] theorem x43_alloc (H : List (Nat × (Nat × HB))) (d : Nat) : aalloc Tryd.prog H d 43 = some (.ptr d (nextVer H d) 0, upd H d (nextVer H d, .cells [.p (.str ByteArray.empty), .p (.str ByteArray.empty), .p (.str ByteArray.empty), .p (.str ByteArray.empty)])) := nr (by kernel_rfl)
@[simp] theorem x43_build (H : List (Nat × (Nat × HB))) (ps : List (Nat × V)) : abuild Tryd.prog H 43 ps = (fillV (fun k => lookN [(0, 1), (1, 1), (2, 1), (3, 1)] k) H [.p (.str ByteArray.empty), .p (.str ByteArray.empty), .p (.str ByteArray.empty), .p (.str ByteArray.empty)] ps).map mkAgg := nr (by kernel_rfl)
@[simp] theorem x43_f0 (x : V) : afield Tryd.prog 43 x 0 = fieldV false 0 1 x := nr (by kernel_rfl)
@[simp] theorem x43_fa0 (id ver off : Nat) : afieldAddr Tryd.prog 43 (.ptr id ver off) 0 = some (.ptr id ver (off + 0)) := nr (by kernel_rfl)
@[simp] theorem x43_fe0 (r : Row PV) (i j : Nat) : afieldAddr Tryd.prog 43 (.p (.eptr r i j)) 0 = some (.p (.eptr r i (j + 0))) := nr (by kernel_rfl)
@[simp] theorem x43_f1 (x : V) : afield Tryd.prog 43 x 1 = fieldV false 1 1 x := nr (by kernel_rfl)
@[simp] theorem x43_fa1 (id ver off : Nat) : afieldAddr Tryd.prog 43 (.ptr id ver off) 1 = some (.ptr id ver (off + 1)) := nr (by kernel_rfl)
@[simp] theorem x43_fe1 (r : Row PV) (i j : Nat) : afieldAddr Tryd.prog 43 (.p (.eptr r i j)) 1 = some (.p (.eptr r i (j + 1))) := nr (by kernel_rfl)
@[simp] theorem x43_f2 (x : V) : afield Tryd.prog 43 x 2 = fieldV false 2 1 x := nr (by kernel_rfl)
@[simp] theorem x43_fa2 (id ver off : Nat) : afieldAddr Tryd.prog 43 (.ptr id ver off) 2 = some (.ptr id ver (off + 2)) := nr (by kernel_rfl)
@[simp] theorem x43_fe2 (r : Row PV) (i j : Nat) : afieldAddr Tryd.prog 43 (.p (.eptr r i j)) 2 = some (.p (.eptr r i (j + 2))) := nr (by kernel_rfl)
@[simp] theorem x43_f3 (x : V) : afield Tryd.prog 43 x 3 = fieldV false 3 1 x := nr (by kernel_rfl)
@[simp] theorem x43_fa3 (id ver off : Nat) : afieldAddr Tryd.prog 43 (.ptr id ver off) 3 = some (.ptr id ver (off + 3)) := nr (by kernel_rfl)
@[simp] theorem x43_fe3 (r : Row PV) (i j : Nat) : afieldAddr Tryd.prog 43 (.p (.eptr r i j)) 3 = some (.p (.eptr r i (j + 3))) := nr (by kernel_rfl)
@[simp] theorem x45_eqs (r s : Row PV) : eqNil Tryd.prog 45 (.p (.agg r)) (.p (.agg s)) = eqAts r s [(0, 1), (1, 1)] := eqNil_struct (by kernel_rfl) r s
@[simp] theorem x45_isSlice : isSlice Tryd.prog 45 = false := nr (by kernel_rfl)
@[simp] theorem x45_isString : isString Tryd.prog 45 = false := nr (by kernel_rfl)
@[simp] theorem x45_arrLen : arrLen Tryd.prog 45 = none := nr (by kernel_rfl)
@[simp] theorem x45_esz : esz Tryd.prog 45 = none := nr (by kernel_rfl)
@[simp] theorem x45_isAggT : isAggT Tryd.prog 45 = some true := nr (by kernel_rfl)
@[simp] theorem x45_tsize : tsize Tryd.prog 45 = some 2 := nr (by kernel_rfl)
@[simp] theorem x45_notInt : notInt Tryd.prog 45 = true := nr (by kernel_rfl)
@[simp] theorem x45_isBytes : isBytes Tryd.prog 45 = false := nr (by kernel_rfl)
@[simp] theorem x45_alloc (H : List (Nat × (Nat × HB))) (d : Nat) : aalloc Tryd.prog H d 45 = some (.ptr d (nextVer H d) 0, upd H d (nextVer H d, .cells [.p (.str ByteArray.empty), .p (.str ByteArray.empty)])) := nr (by kernel_rfl)
@[simp] theorem x45_build (H : List (Nat × (Nat × HB))) (ps : List (Nat × V)) : abuild Tryd.prog H 45 ps = (fillV (fun k => lookN [(0, 1), (1, 1)] k) H [.p (.str ByteArray.empty), .p (.str ByteArray.empty)] ps).map mkAgg := nr (by kernel_rfl)
@[simp] theorem x45_f0 (x : V) : afield Tryd.prog 45 x 0 = fieldV false 0 1 x := nr (by kernel_rfl)
@[simp] theorem x45_fa0 (id ver off : Nat) : afieldAddr Tryd.prog 45 (.ptr id ver off) 0 = some (.ptr id ver (off + 0)) := nr (by kernel_rfl)
@[simp] theorem x45_fe0 (r : Row PV) (i j : Nat) : afieldAddr Tryd.prog 45 (.p (.eptr r i j)) 0 = some (.p (.eptr r i (j + 0))) := nr (by kernel_rfl)
@[simp] theorem x45_f1 (x : V) : afield Tryd.prog 45 x 1 = fieldV false 1 1 x := nr (by kernel_rfl)
@[simp] theorem x45_fa1 (id ver off : Nat) : afieldAddr Tryd.prog 45 (.ptr id ver off) 1 = some (.ptr id ver (off + 1)) := nr (by kernel_rfl)
@[simp] theorem x45_fe1 (r : Row PV) (i j : Nat) : afieldAddr Tryd.prog 45 (.p (.eptr r i j)) 1 = some (.p (.eptr r i (j + 1))) := nr (by kernel_rfl)
@[simp] theorem x48_us : udesc Tryd.prog 48 = some (.slice 3) := nr (by kernel_rfl)
@[simp] theorem x48_eq (x y : V) : eqNil Tryd.prog 48 x y = eqSl x y := eqNil_sl (e := 3) (by kernel_rfl) x y
@[simp] theorem x48_isSlice : isSlice Tryd.prog 48 = true := nr (by kernel_rfl)
@[simp] theorem x48_isString : isString Tryd.prog 48 = false := nr (by kernel_rfl)
@[simp] theorem x48_arrLen : arrLen Tryd.prog 48 = none := nr (by kernel_rfl)
@[simp] theorem x48_esz : esz Tryd.prog 48 = some 1 := nr (by kernel_rfl)
@[simp] theorem x48_isAggT : isAggT Tryd.prog 48 = some false := nr (by kernel_rfl)
@[simp] theorem x48_tsize : tsize Tryd.prog 48 = some 1 := nr (by kernel_rfl)
@[simp] theorem x48_notInt : notInt Tryd.prog 48 = true := nr (by kernel_rfl)
@[simp] theorem x48_isBytes : isBytes Tryd.prog 48 = false := nr (by kernel_rfl)
@[simp] theorem x48_row (T : List (Nat × Nat)) (d len : Nat) (ps : List (Nat × V)) : arowSlice Tryd.prog T d 48 len ps = if len * 1 ≤ 16777216 then rowFill (.ints .i64 []) 1 len d T (fillV (fun k => some (k * 1, 1)) [] (zrep len [.p (.int .i64 0)]) ps) else none := arowSlice_eq (P := Tryd.prog) (t := 48) (s := 1) (zl := [.p (.int .i64 0)]) (e := 3) (b := 8) (z := .int .i64 0) (by kernel_rfl) (by kernel_rfl) (by kernel_rfl) rfl T d len ps
@[simp] theorem x48_copy (H : List (Nat × (Nat × HB))) (id ver off len cap : Nat) (y : V) : acopy Tryd.prog H 48 (.own id ver off len cap) y = copyR ver off len 1 H id (look H id) (srcV H 1 y) := acopy_eq (e := 3) (b := 8) (z := .int .i64 0) (by kernel_rfl) H id ver off len cap y
@[simp] theorem x48_elem : elemInfo Tryd.prog 48 = some (3, 1, 8, .int .i64 0) := nr (by kernel_rfl)
@[simp] theorem x48_alloc (H : List (Nat × (Nat × HB))) (d : Nat) : aalloc Tryd.prog H d 48 = some (.ptr d (nextVer H d) 0, upd H d (nextVer H d, .cells [.p (.sl (.vals 1 []) true)])) := nr (by kernel_rfl)
@[simp] theorem x58_isSlice : isSlice Tryd.prog 58 = false := nr (by kernel_rfl)
@[simp] theorem x58_isString : isString Tryd.prog 58 = false := nr (by kernel_rfl)
@[simp] theorem x58_arrLen : arrLen Tryd.prog 58 = none := nr (by kernel_rfl)
@[simp] theorem x58_esz : esz Tryd.prog 58 = none := nr (by kernel_rfl)
@[simp] theorem x58_isAggT : isAggT Tryd.prog 58 = some true := nr (by kernel_rfl)
@[simp] theorem x58_tsize : tsize Tryd.prog 58 = some 3 := nr (by kernel_rfl)
@[simp] theorem x58_notInt : notInt Tryd.prog 58 = true := nr (by kernel_rfl)
@[simp] theorem x58_isBytes : isBytes Tryd.prog 58 = false := nr (by kernel_rfl)
@[simp] theorem x58_alloc (H : List (Nat × (Nat × HB))) (d : Nat) : aalloc Tryd.prog H d 58 = some (.ptr d (nextVer H d) 0, upd H d (nextVer H d, .cells [.p (.sl (.vals 1 []) true), .p (.sl (.vals 1 []) true), .p (.int .i64 0)])) := nr (by kernel_rfl)
@[simp] theorem x58_build (H : List (Nat × (Nat × HB))) (ps : List (Nat × V)) : abuild Tryd.prog H 58 ps = (fillV (fun k => lookN [(0, 1), (1, 1), (2, 1)] k) H [.p (.sl (.vals 1 []) true), .p (.sl (.vals 1 []) true), .p (.int .i64 0)] ps).map mkAgg := nr (by kernel_rfl)
@[simp] theorem x58_f0 (x : V) : afield Tryd.prog 58 x 0 = fieldV false 0 1 x := nr (by kernel_rfl)
@[simp] theorem x58_fa0 (id ver off : Nat) : afieldAddr Tryd.prog 58 (.ptr id ver off) 0 = some (.ptr id ver (off + 0)) := nr (by kernel_rfl)
@[simp] theorem x58_fe0 (r : Row PV) (i j : Nat) : afieldAddr Tryd.prog 58 (.p (.eptr r i j)) 0 = some (.p (.eptr r i (j + 0))) := nr (by kernel_rfl)
@[simp] theorem x58_f1 (x : V) : afield Tryd.prog 58 x 1 = fieldV false 1 1 x := nr (by kernel_rfl)
@[simp] theorem x58_fa1 (id ver off : Nat) : afieldAddr Tryd.prog 58 (.ptr id ver off) 1 = some (.ptr id ver (off + 1)) := nr (by kernel_rfl)
@[simp] theorem x58_fe1 (r : Row PV) (i j : Nat) : afieldAddr Tryd.prog 58 (.p (.eptr r i j)) 1 = some (.p (.eptr r i (j + 1))) := nr (by kernel_rfl)
@[simp] theorem x58_f2 (x : V) : afield Tryd.prog 58 x 2 = fieldV false 2 1 x := nr (by kernel_rfl)
@[simp] theorem x58_fa2 (id ver off : Nat) : afieldAddr Tryd.prog 58 (.ptr id ver off) 2 = some (.ptr id ver (off + 2)) := nr (by kernel_rfl)
@[simp] theorem x58_fe2 (r : Row PV) (i j : Nat) : afieldAddr Tryd.prog 58 (.p (.eptr r i j)) 2 = some (.p (.eptr r i (j + 2))) := nr (by kernel_rfl)
@[simp] theorem x67_us : udesc Tryd.prog 67 = some (.slice 5) := nr (by kernel_rfl)
@[simp] theorem x67_eq (x y : V) : eqNil Tryd.prog 67 x y = eqSl x y := eqNil_sl (e := 5) (by kernel_rfl) x y
@[simp] theorem x67_isSlice : isSlice Tryd.prog 67 = true := nr (by kernel_rfl)
@[simp] theorem x67_isString : isString Tryd.prog 67 = false := nr (by kernel_rfl)
@[simp] theorem x67_arrLen : arrLen Tryd.prog 67 = none := nr (by kernel_rfl)
@[simp] theorem x67_esz : esz Tryd.prog 67 = some 1 := nr (by kernel_rfl)
@[simp] theorem x67_isAggT : isAggT Tryd.prog 67 = some false := nr (by kernel_rfl)
@[simp] theorem x67_tsize : tsize Tryd.prog 67 = some 1 := nr (by kernel_rfl)
@[simp] theorem x67_notInt : notInt Tryd.prog 67 = true := nr (by kernel_rfl)
@[simp] theorem x67_isBytes : isBytes Tryd.prog 67 = true := nr (by kernel_rfl)
@[simp] theorem x67_row (T : List (Nat × Nat)) (d len : Nat) (ps : List (Nat × V)) : arowSlice Tryd.prog T d 67 len ps = if len * 1 ≤ 16777216 then rowFill (bl []) 1 len d T (fillV (fun k => some (k * 1, 1)) [] (zrep len [.p (.int .u8 0)]) ps) else none := arowSlice_eq (P := Tryd.prog) (t := 67) (s := 1) (zl := [.p (.int .u8 0)]) (e := 5) (b := 1) (z := .int .u8 0) (by kernel_rfl) (by kernel_rfl) (by kernel_rfl) rfl T d len ps
@[simp] theorem x67_copy (H : List (Nat × (Nat × HB))) (id ver off len cap : Nat) (y : V) : acopy Tryd.prog H 67 (.own id ver off len cap) y = copyR ver off len 1 H id (look H id) (srcV H 1 y) := acopy_eq (e := 5) (b := 1) (z := .int .u8 0) (by kernel_rfl) H id ver off len cap y
@[simp] theorem x67_make (H : List (Nat × (Nat × HB))) (d : Nat) (k k' : IntKind) (n m : Int) (h0 : 0 ≤ n) (h1 : n ≤ m) (h2 : m ≤ 281474976710656) : amakeSlice Tryd.prog H d 67 (.p (.int k n)) (.p (.int k' m)) = some (.own d (nextVer H d) 0 n.toNat m.toNat, upd H d (nextVer H d, .row (bl (List.replicate m.toNat 0#8)))) := amake_bytes (e := 5) (by kernel_rfl) H d k k' n m h0 h1 h2
@[simp] theorem x67_elem : elemInfo Tryd.prog 67 = some (5, 1, 1, .int .u8 0) := nr (by kernel_rfl)
@[simp] theorem x67_alloc (H : List (Nat × (Nat × HB))) (d : Nat) : aalloc Tryd.prog H d 67 = some (.ptr d (nextVer H d) 0, upd H d (nextVer H d, .cells [.p (.sl (.vals 1 []) true)])) := nr (by kernel_rfl)
@[simp] theorem x81_us : udesc Tryd.prog 81 = some (.slice 21) := nr (by kernel_rfl)
@[simp] theorem x81_eq (x y : V) : eqNil Tryd.prog 81 x y = eqSl x y := eqNil_sl (e := 21) (by kernel_rfl) x y
@[simp] theorem x81_isSlice : isSlice Tryd.prog 81 = true := nr (by kernel_rfl)
@[simp] theorem x81_isString : isString Tryd.prog 81 = false := nr (by kernel_rfl)
@[simp] theorem x81_arrLen : arrLen Tryd.prog 81 = none := nr (by kernel_rfl)
@[simp] theorem x81_esz : esz Tryd.prog 81 = some 1 := nr (by kernel_rfl)
@[simp] theorem x81_isAggT : isAggT Tryd.prog 81 = some false := nr (by kernel_rfl)
@[simp] theorem x81_tsize : tsize Tryd.prog 81 = some 1 := nr (by kernel_rfl)
@[simp] theorem x81_notInt : notInt Tryd.prog 81 = true := nr (by kernel_rfl)
@[simp] theorem x81_isBytes : isBytes Tryd.prog 81 = false := nr (by kernel_rfl)
@[simp] theorem x81_row (T : List (Nat × Nat)) (d len : Nat) (ps : List (Nat × V)) : arowSlice Tryd.prog T d 81 len ps = if len * 1 ≤ 16777216 then rowFill (.ints .i32 []) 1 len d T (fillV (fun k => some (k * 1, 1)) [] (zrep len [.p (.int .i32 0)]) ps) else none := arowSlice_eq (P := Tryd.prog) (t := 81) (s := 1) (zl := [.p (.int .i32 0)]) (e := 21) (b := 4) (z := .int .i32 0) (by kernel_rfl) (by kernel_rfl) (by kernel_rfl) rfl T d len ps
@[simp] theorem x81_copy (H : List (Nat × (Nat × HB))) (id ver off len cap : Nat) (y : V) : acopy Tryd.prog H 81 (.own id ver off len cap) y = copyR ver off len 1 H id (look H id) (srcV H 1 y) := acopy_eq (e := 21) (b := 4) (z := .int .i32 0) (by kernel_rfl) H id ver off len cap y
@[simp] theorem x81_elem : elemInfo Tryd.prog 81 = some (21, 1, 4, .int .i32 0) := nr (by kernel_rfl)
@[simp] theorem x81_alloc (H : List (Nat × (Nat × HB))) (d : Nat) : aalloc Tryd.prog H d 81 = some (.ptr d (nextVer H d) 0, upd H d (nextVer H d, .cells [.p (.sl (.vals 1 []) true)])) := nr (by kernel_rfl)
@[simp] theorem x84_u : udesc Tryd.prog 84 = some (.int .u32) := nr (by kernel_rfl)
@[simp] theorem x84_isSlice : isSlice Tryd.prog 84 = false := nr (by kernel_rfl)
@[simp] theorem x84_isString : isString Tryd.prog 84 = false := nr (by kernel_rfl)
@[simp] theorem x84_arrLen : arrLen Tryd.prog 84 = none := nr (by kernel_rfl)
@[simp] theorem x84_esz : esz Tryd.prog 84 = none := nr (by kernel_rfl)
@[simp] theorem x84_isAggT : isAggT Tryd.prog 84 = some false := nr (by kernel_rfl)
@[simp] theorem x84_tsize : tsize Tryd.prog 84 = some 1 := nr (by kernel_rfl)
@[simp] theorem x84_notInt : notInt Tryd.prog 84 = false := nr (by kernel_rfl)
@[simp] theorem x84_isBytes : isBytes Tryd.prog 84 = false := nr (by kernel_rfl)
@[simp] theorem x84_alloc (H : List (Nat × (Nat × HB))) (d : Nat) : aalloc Tryd.prog H d 84 = some (.ptr d (nextVer H d) 0, upd H d (nextVer H d, .row (.ints .u32 [0]))) := nr (by kernel_rfl)
@[simp] theorem x89_eqs (r s : Row PV) : eqNil Tryd.prog 89 (.p (.agg r)) (.p (.agg s)) = eqAts r s [(0, 0), (1, 0)] := eqNil_struct (by kernel_rfl) r s
@[simp] theorem x89_isSlice : isSlice Tryd.prog 89 = false := nr (by kernel_rfl)
@[simp] theorem x89_isString : isString Tryd.prog 89 = false := nr (by kernel_rfl)
@[simp] theorem x89_arrLen : arrLen Tryd.prog 89 = none := nr (by kernel_rfl)
@[simp] theorem x89_esz : esz Tryd.prog 89 = none := nr (by kernel_rfl)
@[simp] theorem x89_isAggT : isAggT Tryd.prog 89 = some true := nr (by kernel_rfl)
@[simp] theorem x89_tsize : tsize Tryd.prog 89 = some 2 := nr (by kernel_rfl)
@[simp] theorem x89_notInt : notInt Tryd.prog 89 = true := nr (by kernel_rfl)
@[simp] theorem x89_isBytes : isBytes Tryd.prog 89 = false := nr (by kernel_rfl)
@[simp] theorem x89_alloc (H : List (Nat × (Nat × HB))) (d : Nat) : aalloc Tryd.prog H d 89 = some (.ptr d (nextVer H d) 0, upd H d (nextVer H d, .row (.ints .i32 [0, 0]))) := nr (by kernel_rfl)
@[simp] theorem x89_build (H : List (Nat × (Nat × HB))) (ps : List (Nat × V)) : abuild Tryd.prog H 89 ps = (fillV (fun k => lookN [(0, 1), (1, 1)] k) H [.p (.int .i32 0), .p (.int .i32 0)] ps).map mkAgg := nr (by kernel_rfl)
@[simp] theorem x89_f0 (x : V) : afield Tryd.prog 89 x 0 = fieldV false 0 1 x := nr (by kernel_rfl)
@[simp] theorem x89_fa0 (id ver off : Nat) : afieldAddr Tryd.prog 89 (.ptr id ver off) 0 = some (.ptr id ver (off + 0)) := nr (by kernel_rfl)
@[simp] theorem x89_fe0 (r : Row PV) (i j : Nat) : afieldAddr Tryd.prog 89 (.p (.eptr r i j)) 0 = some (.p (.eptr r i (j + 0))) := nr (by kernel_rfl)
@[simp] theorem x89_f1 (x : V) : afield Tryd.prog 89 x 1 = fieldV false 1 1 x := nr (by kernel_rfl)
@[simp] theorem x89_fa1 (id ver off : Nat) : afieldAddr Tryd.prog 89 (.ptr id ver off) 1 = some (.ptr id ver (off + 1)) := nr (by kernel_rfl)
@[simp] theorem x89_fe1 (r : Row PV) (i j : Nat) : afieldAddr Tryd.prog 89 (.p (.eptr r i j)) 1 = some (.p (.eptr r i (j + 1))) := nr (by kernel_rfl)
@[simp] theorem x91_u : udesc Tryd.prog 91 = some (.int .u64) := nr (by kernel_rfl)
@[simp] theorem x91_isSlice : isSlice Tryd.prog 91 = false := nr (by kernel_rfl)
@[simp] theorem x91_isString : isString Tryd.prog 91 = false := nr (by kernel_rfl)
@[simp] theorem x91_arrLen : arrLen Tryd.prog 91 = none := nr (by kernel_rfl)
@[simp] theorem x91_esz : esz Tryd.prog 91 = none := nr (by kernel_rfl)
@[simp] theorem x91_isAggT : isAggT Tryd.prog 91 = some false := nr (by kernel_rfl)
@[simp] theorem x91_tsize : tsize Tryd.prog 91 = some 1 := nr (by kernel_rfl)
@[simp] theorem x91_notInt : notInt Tryd.prog 91 = false := nr (by kernel_rfl)
@[simp] theorem x91_isBytes : isBytes Tryd.prog 91 = false := nr (by kernel_rfl)
@[simp] theorem x91_alloc (H : List (Nat × (Nat × HB))) (d : Nat) : aalloc Tryd.prog H d 91 = some (.ptr d (nextVer H d) 0, upd H d (nextVer H d, .row (.ints .u64 [0]))) := nr (by kernel_rfl)
@[simp] theorem x92_us : udesc Tryd.prog 92 = some (.slice 89) := nr (by kernel_rfl)
@[simp] theorem x92_eq (x y : V) : eqNil Tryd.prog 92 x y = eqSl x y := eqNil_sl (e := 89) (by kernel_rfl) x y
@[simp] theorem x92_isSlice : isSlice Tryd.prog 92 = true := nr (by kernel_rfl)
@[simp] theorem x92_isString : isString Tryd.prog 92 = false := nr (by kernel_rfl)
@[simp] theorem x92_arrLen : arrLen Tryd.prog 92 = none := nr (by kernel_rfl)
@[simp] theorem x92_esz : esz Tryd.prog 92 = some 2 := nr (by kernel_rfl)
@[simp] theorem x92_isAggT : isAggT Tryd.prog 92 = some false := nr (by kernel_rfl)
@[simp] theorem x92_tsize : tsize Tryd.prog 92 = some 1 := nr (by kernel_rfl)
@[simp] theorem x92_notInt : notInt Tryd.prog 92 = true := nr (by kernel_rfl)
@[simp] theorem x92_isBytes : isBytes Tryd.prog 92 = false := nr (by kernel_rfl)
@[simp] theorem x92_row (T : List (Nat × Nat)) (d len : Nat) (ps : List (Nat × V)) : arowSlice Tryd.prog T d 92 len ps = if len * 2 ≤ 16777216 then rowFill (.vals 2 []) 2 len d T (fillV (fun k => some (k * 2, 2)) [] (zrep len [.p (.int .i32 0), .p (.int .i32 0)]) ps) else none := arowSlice_eq (P := Tryd.prog) (t := 92) (s := 2) (zl := [.p (.int .i32 0), .p (.int .i32 0)]) (e := 89) (b := 8) (z := .agg #[.int .i32 0, .int .i32 0]) (by kernel_rfl) (by kernel_rfl) (by kernel_rfl) rfl T d len ps
@[simp] theorem x92_copy (H : List (Nat × (Nat × HB))) (id ver off len cap : Nat) (y : V) : acopy Tryd.prog H 92 (.own id ver off len cap) y = copyR ver off len 2 H id (look H id) (srcV H 2 y) := acopy_eq (e := 89) (b := 8) (z := .agg #[.int .i32 0, .int .i32 0]) (by kernel_rfl) H id ver off len cap y
@[simp] theorem x92_elem : elemInfo Tryd.prog 92 = some (89, 2, 8, .agg #[.int .i32 0, .int .i32 0]) := nr (by kernel_rfl)
@[simp] theorem x92_alloc (H : List (Nat × (Nat × HB))) (d : Nat) : aalloc Tryd.prog H d 92 = some (.ptr d (nextVer H d) 0, upd H d (nextVer H d, .cells [.p (.sl (.vals 1 []) true)])) := nr (by kernel_rfl)
@[simp] theorem x96_eq (a b : List Int) (ha : a.length = 256) (hb : b.length = 256) : eqNil Tryd.prog 96 (.p (.agg (.ints .u8 a))) (.p (.agg (.ints .u8 b))) = some (a == b) := eqNil_arr (n := 256) (e := 5) (by kernel_rfl) (by kernel_rfl) (by kernel_rfl) (by kernel_rfl) a b ha hb
@[simp] theorem x96_eqb (a b : List (BitVec 8)) (ha : a.length = 256) (hb : b.length = 256) : eqNil Tryd.prog 96 (.p (.agg (bl a))) (.p (.agg (bl b))) = some (a == b) := eqNil_bytes (n := 256) (e := 5) (by kernel_rfl) (by kernel_rfl) (by kernel_rfl) (by kernel_rfl) a b ha hb
@[simp] theorem x96_isSlice : isSlice Tryd.prog 96 = false := nr (by kernel_rfl)
@[simp] theorem x96_isString : isString Tryd.prog 96 = false := nr (by kernel_rfl)
@[simp] theorem x96_arrLen : arrLen Tryd.prog 96 = some 256 := nr (by kernel_rfl)
@[simp] theorem x96_esz : esz Tryd.prog 96 = some 1 := nr (by kernel_rfl)
@[simp] theorem x96_isAggT : isAggT Tryd.prog 96 = some true := nr (by kernel_rfl)
@[simp] theorem x96_tsize : tsize Tryd.prog 96 = some 256 := nr (by kernel_rfl)
@[simp] theorem x96_notInt : notInt Tryd.prog 96 = true := nr (by kernel_rfl)
@[simp] theorem x96_isBytes : isBytes Tryd.prog 96 = false := nr (by kernel_rfl)
@[simp] theorem x96_arrElem : arrElem Tryd.prog 96 = some 256 := nr (by kernel_rfl)
@[simp] theorem x98_eqs (r s : Row PV) : eqNil Tryd.prog 98 (.p (.agg r)) (.p (.agg s)) = eqAts r s [(0, 0), (1, 0)] := eqNil_struct (by kernel_rfl) r s
@[simp] theorem x98_isSlice : isSlice Tryd.prog 98 = false := nr (by kernel_rfl)
@[simp] theorem x98_isString : isString Tryd.prog 98 = false := nr (by kernel_rfl)
@[simp] theorem x98_arrLen : arrLen Tryd.prog 98 = none := nr (by kernel_rfl)
@[simp] theorem x98_esz : esz Tryd.prog 98 = none := nr (by kernel_rfl)
@[simp] theorem x98_isAggT : isAggT Tryd.prog 98 = some true := nr (by kernel_rfl)
@[simp] theorem x98_tsize : tsize Tryd.prog 98 = some 2 := nr (by kernel_rfl)
@[simp] theorem x98_notInt : notInt Tryd.prog 98 = true := nr (by kernel_rfl)
@[simp] theorem x98_isBytes : isBytes Tryd.prog 98 = false := nr (by kernel_rfl)
@[simp] theorem x98_alloc (H : List (Nat × (Nat × HB))) (d : Nat) : aalloc Tryd.prog H d 98 = some (.ptr d (nextVer H d) 0, upd H d (nextVer H d, .row (.ints .u8 [0, 0]))) := nr (by kernel_rfl)
@[simp] theorem x98_build (H : List (Nat × (Nat × HB))) (ps : List (Nat × V)) : abuild Tryd.prog H 98 ps = (fillV (fun k => lookN [(0, 1), (1, 1)] k) H [.p (.int .u8 0), .p (.int .u8 0)] ps).map mkAgg := nr (by kernel_rfl)
@[simp] theorem x98_f0 (x : V) : afield Tryd.prog 98 x 0 = fieldV false 0 1 x := nr (by kernel_rfl)
@[simp] theorem x98_fa0 (id ver off : Nat) : afieldAddr Tryd.prog 98 (.ptr id ver off) 0 = some (.ptr id ver (off + 0)) := nr (by kernel_rfl)
@[simp] theorem x98_fe0 (r : Row PV) (i j : Nat) : afieldAddr Tryd.prog 98 (.p (.eptr r i j)) 0 = some (.p (.eptr r i (j + 0))) := nr (by kernel_rfl)
@[simp] theorem x98_f1 (x : V) : afield Tryd.prog 98 x 1 = fieldV false 1 1 x := nr (by kernel_rfl)
@[simp] theorem x98_fa1 (id ver off : Nat) : afieldAddr Tryd.prog 98 (.ptr id ver off) 1 = some (.ptr id ver (off + 1)) := nr (by kernel_rfl)
@[simp] theorem x98_fe1 (r : Row PV) (i j : Nat) : afieldAddr Tryd.prog 98 (.p (.eptr r i j)) 1 = some (.p (.eptr r i (j + 1))) := nr (by kernel_rfl)
@[simp] theorem x99_isSlice : isSlice Tryd.prog 99 = false := nr (by kernel_rfl)
@[simp] theorem x99_isString : isString Tryd.prog 99 = false := nr (by kernel_rfl)
@[simp] theorem x99_arrLen : arrLen Tryd.prog 99 = some 16 := nr (by kernel_rfl)
@[simp] theorem x99_esz : esz Tryd.prog 99 = some 2 := nr (by kernel_rfl)
@[simp] theorem x99_isAggT : isAggT Tryd.prog 99 = some true := nr (by kernel_rfl)
@[simp] theorem x99_tsize : tsize Tryd.prog 99 = some 32 := nr (by kernel_rfl)
@[simp] theorem x99_notInt : notInt Tryd.prog 99 = true := nr (by kernel_rfl)
@[simp] theorem x99_isBytes : isBytes Tryd.prog 99 = false := nr (by kernel_rfl)
@[simp] theorem x99_arrElem : arrElem Tryd.prog 99 = none := nr (by kernel_rfl)
@[simp] theorem x100_u : udesc Tryd.prog 100 = some (.int .u64) := nr (by kernel_rfl)
@[simp] theorem x100_isSlice : isSlice Tryd.prog 100 = false := nr (by kernel_rfl)
@[simp] theorem x100_isString : isString Tryd.prog 100 = false := nr (by kernel_rfl)
@[simp] theorem x100_arrLen : arrLen Tryd.prog 100 = none := nr (by kernel_rfl)
@[simp] theorem x100_esz : esz Tryd.prog 100 = none := nr (by kernel_rfl)
@[simp] theorem x100_isAggT : isAggT Tryd.prog 100 = some false := nr (by kernel_rfl)
@[simp] theorem x100_tsize : tsize Tryd.prog 100 = some 1 := nr (by kernel_rfl)
@[simp] theorem x100_notInt : notInt Tryd.prog 100 = false := nr (by kernel_rfl)
@[simp] theorem x100_isBytes : isBytes Tryd.prog 100 = false := nr (by kernel_rfl)
@[simp] theorem x100_alloc (H : List (Nat × (Nat × HB))) (d : Nat) : aalloc Tryd.prog H d 100 = some (.ptr d (nextVer H d) 0, upd H d (nextVer H d, .row (.ints .u64 [0]))) := nr (by kernel_rfl)
theorem mixed : Tryd.prog.follows .mixedOrders = true := by kernel_rfl
end Go.Av.Doc
end
section
set_option linter.unusedVariables false
namespace Go.Av.Doc
open Go Go.Av Go.Proofs
def firstF (n : Nat) : Int := if n < 128 then 240 else if n < 194 then 241 else if n < 224 then 2 else if n = 224 then 19 else if n = 237 then 35 else if n < 240 then 3 else if n = 240 then 52 else if n < 244 then 4 else if n = 244 then 68 else 241
def firstL : List Int := (List.range 256).map firstF
def accL : List Int := [128, 191, 160, 191, 128, 159, 144, 191, 128, 143, 0, 0, 0, 0, 0, 0, 0, 0, 0, 0, 0, 0, 0, 0, 0, 0, 0, 0, 0, 0, 0, 0]
class ML where
  m : Int
def glF (m : Int) : Nat → Option (Row PV)
  | 0 => some (.vals 1 [.int .i64 m])
  | 1 => some (.vals 256 [.agg (.ints .u8 firstL)])
  | 2 => some (.vals 32 [.agg (.ints .u8 accL)])
  | _ => none
instance [ML] : Tables := ⟨glF ML.m, fun f => 0⟩
end Go.Av.Doc
end
section
set_option linter.unusedSimpArgs false
set_option linter.unusedVariables false
set_option linter.unusedSectionVars false
open Go Go.Av Go.Proofs
namespace Go.Av.Doc
variable [ML]
def charB (r : Int) : Bool := decide (0 ≤ r ∧ r ≤ 1114111 ∧ (r < 55296 ∨ 57343 < r))
def xmlB (r : Int) : Bool := decide (r = 9 ∨ r = 10 ∨ r = 13 ∨ (32 ≤ r ∧ r ≤ 55295) ∨ (57344 ≤ r ∧ r ≤ 65533) ∨ (65536 ≤ r ∧ r ≤ 1114111))
theorem charB_ct (r : Int) : Fn Tryd.prog 63 [.int .i32 r] [.p (.bool (charB r))] := by
  refine Fn.of_body Tryd.func63 rfl ?_
  have hr : r < 0 ∨ (0 ≤ r ∧ r < 55296) ∨ (55296 ≤ r ∧ r ≤ 57343) ∨ (57343 < r ∧ r ≤ 1114111) ∨ 1114111 < r := by omega
  rcases hr with hr | hr | hr | hr | hr
  all_goals
    (first | have f1 : (0 ≤ r) = True := eq_true (by omega) | have f1 : (0 ≤ r) = False := eq_false (by omega)); (first | have f2 : (r ≤ 1114111) = True := eq_true (by omega) | have f2 : (r ≤ 1114111) = False := eq_false (by omega)); (first | have f3 : (r < 55296) = True := eq_true (by omega) | have f3 : (r < 55296) = False := eq_false (by omega)); (first | have f4 : (57343 < r) = True := eq_true (by omega) | have f4 : (57343 < r) = False := eq_false (by omega))
    (first | have fx : charB r = true := by simp [charB, f1, f2, f3, f4] | have fx : charB r = false := by simp [charB, f1, f2, f3, f4])
    rw [fx]
    repeat (first | ((first | refine zP fun K_ hK_ => ?_ | refine zQ fun K_ hK_ => ?_ | refine zR (by kernel_rfl) (by kernel_rfl) fun K_ hK_ => ?_ | refine zS (by kernel_rfl) (by kernel_rfl) fun K_ hK_ => ?_ | refine zT ?_); first | (simp (maxSteps := 1000000) (disch := refine hold_ ?_; first | (simp [f1, f2, f3, f4, -List.getD_eq_getElem?_getD]; done) | omega) [f1, f2, f3, f4, -List.getD_eq_getElem?_getD]; try first | refine zZ ?_ | subst hK_) | subst hK_) | refine zA ?_ | refine zB ?_ | refine zC ?_ | refine zD ?_ | refine zE ?_ | refine zF ?_ | refine zG ?_ | refine zH ?_ | refine zI ?_ | refine zJ ?_ | refine zK ?_ | refine zL ?_ | refine zM ?_ | refine zN ?_ | refine zO ?_ | refine yG (by decide) ?_ | refine AW.condT rfl ?_ | refine AW.condF rfl ?_)
    simp (maxSteps := 1000000) (disch := refine hold_ ?_; first | (simp [f1, f2, f3, f4, -List.getD_eq_getElem?_getD]; done) | omega) [f1, f2, f3, f4, -List.getD_eq_getElem?_getD]
set_option maxHeartbeats 4000000 in
theorem xml_ct (r : Int) : Fn Tryd.prog 81 [.int .i32 r] [.p (.bool (xmlB r))] := by
  refine Fn.of_body Tryd.func81 rfl ?_
  have hr : r < 9 ∨ r = 9 ∨ r = 10 ∨ (10 < r ∧ r < 13) ∨ r = 13 ∨ (13 < r ∧ r < 32) ∨ (32 ≤ r ∧ r ≤ 55295) ∨ (55295 < r ∧ r < 57344) ∨ (57344 ≤ r ∧ r ≤ 65533) ∨ (65533 < r ∧ r < 65536) ∨ (65536 ≤ r ∧ r ≤ 1114111) ∨ 1114111 < r := by omega
  rcases hr with hr | hr | hr | hr | hr | hr | hr | hr | hr | hr | hr | hr
  all_goals
    (first | have f1 : (r == 9) = true := beq_iff_eq.2 (by omega) | have f1 : (r == 9) = false := beq_eq_false_iff_ne.2 (by omega)); (first | have f2 : (r == 10) = true := beq_iff_eq.2 (by omega) | have f2 : (r == 10) = false := beq_eq_false_iff_ne.2 (by omega)); (first | have f3 : (r == 13) = true := beq_iff_eq.2 (by omega) | have f3 : (r == 13) = false := beq_eq_false_iff_ne.2 (by omega)); (first | have f4 : (32 ≤ r) = True := eq_true (by omega) | have f4 : (32 ≤ r) = False := eq_false (by omega)); (first | have f5 : (r ≤ 55295) = True := eq_true (by omega) | have f5 : (r ≤ 55295) = False := eq_false (by omega)); (first | have f6 : (57344 ≤ r) = True := eq_true (by omega) | have f6 : (57344 ≤ r) = False := eq_false (by omega)); (first | have f7 : (r ≤ 65533) = True := eq_true (by omega) | have f7 : (r ≤ 65533) = False := eq_false (by omega)); (first | have f8 : (65536 ≤ r) = True := eq_true (by omega) | have f8 : (65536 ≤ r) = False := eq_false (by omega)); (first | have f9 : (r ≤ 1114111) = True := eq_true (by omega) | have f9 : (r ≤ 1114111) = False := eq_false (by omega))
    (first | have g1 : (r = 9) = True := eq_true (by omega) | have g1 : (r = 9) = False := eq_false (by omega)); (first | have g2 : (r = 10) = True := eq_true (by omega) | have g2 : (r = 10) = False := eq_false (by omega)); (first | have g3 : (r = 13) = True := eq_true (by omega) | have g3 : (r = 13) = False := eq_false (by omega))
    (first | have fx : xmlB r = true := by simp [xmlB, f1, f2, f3, f4, f5, f6, f7, f8, f9, g1, g2, g3] | have fx : xmlB r = false := by simp [xmlB, f1, f2, f3, f4, f5, f6, f7, f8, f9, g1, g2, g3])
    rw [fx]
    repeat (first | ((first | refine zP fun K_ hK_ => ?_ | refine zQ fun K_ hK_ => ?_ | refine zR (by kernel_rfl) (by kernel_rfl) fun K_ hK_ => ?_ | refine zS (by kernel_rfl) (by kernel_rfl) fun K_ hK_ => ?_ | refine zT ?_); first | (simp (maxSteps := 1000000) (disch := refine hold_ ?_; first | (simp [f1, f2, f3, f4, f5, f6, f7, f8, f9, -List.getD_eq_getElem?_getD]; done) | omega) [f1, f2, f3, f4, f5, f6, f7, f8, f9, -List.getD_eq_getElem?_getD]; try first | refine zZ ?_ | subst hK_) | subst hK_) | refine zA ?_ | refine zB ?_ | refine zC ?_ | refine zD ?_ | refine zE ?_ | refine zF ?_ | refine zG ?_ | refine zH ?_ | refine zI ?_ | refine zJ ?_ | refine zK ?_ | refine zL ?_ | refine zM ?_ | refine zN ?_ | refine zO ?_ | refine yG (by decide) ?_ | refine AW.condT rfl ?_ | refine AW.condF rfl ?_)
    simp (maxSteps := 1000000) (disch := refine hold_ ?_; first | (simp [f1, f2, f3, f4, f5, f6, f7, f8, f9, -List.getD_eq_getElem?_getD]; done) | omega) [f1, f2, f3, f4, f5, f6, f7, f8, f9, -List.getD_eq_getElem?_getD]
set_option maxHeartbeats 4000000 in
theorem rxml_ct (r : Int) : Fn Tryd.prog 87 [.int .i32 r] [.p (.bool (xmlB r))] := by
  refine Fn.of_body Tryd.func87 rfl ?_
  have hr : r < 0 ∨ (0 ≤ r ∧ r < 9) ∨ r = 9 ∨ r = 10 ∨ (10 < r ∧ r < 13) ∨ r = 13 ∨ (13 < r ∧ r < 32) ∨ (32 ≤ r ∧ r ≤ 55295) ∨ (55295 < r ∧ r < 57344) ∨ (57344 ≤ r ∧ r ≤ 65533) ∨ r = 65534 ∨ r = 65535 ∨ (65536 ≤ r ∧ r ≤ 1114111) ∨ 1114111 < r := by omega
  rcases hr with hr | hr | hr | hr | hr | hr | hr | hr | hr | hr | hr | hr | hr | hr
  all_goals
    (first | have f1 : (r == 9) = true := beq_iff_eq.2 (by omega) | have f1 : (r == 9) = false := beq_eq_false_iff_ne.2 (by omega)); (first | have f2 : (r == 10) = true := beq_iff_eq.2 (by omega) | have f2 : (r == 10) = false := beq_eq_false_iff_ne.2 (by omega)); (first | have f3 : (r == 13) = true := beq_iff_eq.2 (by omega) | have f3 : (r == 13) = false := beq_eq_false_iff_ne.2 (by omega)); (first | have f4 : (32 ≤ r) = True := eq_true (by omega) | have f4 : (32 ≤ r) = False := eq_false (by omega)); (first | have f5 : (r == 65534) = true := beq_iff_eq.2 (by omega) | have f5 : (r == 65534) = false := beq_eq_false_iff_ne.2 (by omega)); (first | have f6 : (r == 65535) = true := beq_iff_eq.2 (by omega) | have f6 : (r == 65535) = false := beq_eq_false_iff_ne.2 (by omega)); (first | have f7 : (0 ≤ r) = True := eq_true (by omega) | have f7 : (0 ≤ r) = False := eq_false (by omega)); (first | have f8 : (r ≤ 1114111) = True := eq_true (by omega) | have f8 : (r ≤ 1114111) = False := eq_false (by omega)); (first | have f9 : (r < 55296) = True := eq_true (by omega) | have f9 : (r < 55296) = False := eq_false (by omega)); (first | have f10 : (57343 < r) = True := eq_true (by omega) | have f10 : (57343 < r) = False := eq_false (by omega)); (first | have f11 : (r ≤ 55295) = True := eq_true (by omega) | have f11 : (r ≤ 55295) = False := eq_false (by omega)); (first | have f12 : (57344 ≤ r) = True := eq_true (by omega) | have f12 : (57344 ≤ r) = False := eq_false (by omega)); (first | have f13 : (r ≤ 65533) = True := eq_true (by omega) | have f13 : (r ≤ 65533) = False := eq_false (by omega)); (first | have f14 : (65536 ≤ r) = True := eq_true (by omega) | have f14 : (65536 ≤ r) = False := eq_false (by omega))
    (first | have g1 : (r = 9) = True := eq_true (by omega) | have g1 : (r = 9) = False := eq_false (by omega)); (first | have g2 : (r = 10) = True := eq_true (by omega) | have g2 : (r = 10) = False := eq_false (by omega)); (first | have g3 : (r = 13) = True := eq_true (by omega) | have g3 : (r = 13) = False := eq_false (by omega))
    (first | have fx : xmlB r = true := by simp [xmlB, f1, f2, f3, f4, f5, f6, f7, f8, f9, f10, f11, f12, f13, f14, g1, g2, g3] | have fx : xmlB r = false := by simp [xmlB, f1, f2, f3, f4, f5, f6, f7, f8, f9, f10, f11, f12, f13, f14, g1, g2, g3])
    (first | have fc : charB r = true := by simp [charB, f1, f2, f3, f4, f5, f6, f7, f8, f9, f10, f11, f12, f13, f14] | have fc : charB r = false := by simp [charB, f1, f2, f3, f4, f5, f6, f7, f8, f9, f10, f11, f12, f13, f14])
    have k := charB_ct r
    rw [fx]; rw [fc] at k
    repeat (first | ((first | refine callK_at 63 ?_); refine callK_p ?_; simp (maxSteps := 1000000) (disch := refine hold_ ?_; first | (simp [f1, f2, f3, f4, f5, f6, f7, f8, f9, f10, f11, f12, f13, f14, bne, -List.getD_eq_getElem?_getD]; done) | omega) [f1, f2, f3, f4, f5, f6, f7, f8, f9, f10, f11, f12, f13, f14, bne, -List.getD_eq_getElem?_getD]; (first | refine callK1_of (Fn.ct k Tryd.call63) ?_); (try simp (maxSteps := 1000000) (disch := refine hold_ ?_; first | (simp [f1, f2, f3, f4, f5, f6, f7, f8, f9, f10, f11, f12, f13, f14, bne, -List.getD_eq_getElem?_getD]; done) | omega) [f1, f2, f3, f4, f5, f6, f7, f8, f9, f10, f11, f12, f13, f14, bne, -List.getD_eq_getElem?_getD]); try first | refine zZ ?_ | subst hK_) | ((first | refine zP fun K_ hK_ => ?_ | refine zQ fun K_ hK_ => ?_ | refine zR (by kernel_rfl) (by kernel_rfl) fun K_ hK_ => ?_ | refine zS (by kernel_rfl) (by kernel_rfl) fun K_ hK_ => ?_ | refine zT ?_); first | (simp (maxSteps := 1000000) (disch := refine hold_ ?_; first | (simp [f1, f2, f3, f4, f5, f6, f7, f8, f9, f10, f11, f12, f13, f14, bne, -List.getD_eq_getElem?_getD]; done) | omega) [f1, f2, f3, f4, f5, f6, f7, f8, f9, f10, f11, f12, f13, f14, bne, -List.getD_eq_getElem?_getD]; try first | refine zZ ?_ | subst hK_) | subst hK_) | refine zA ?_ | refine zB ?_ | refine zC ?_ | refine zD ?_ | refine zE ?_ | refine zF ?_ | refine zG ?_ | refine zH ?_ | refine zI ?_ | refine zJ ?_ | refine zK ?_ | refine zL ?_ | refine zM ?_ | refine zN ?_ | refine zO ?_ | refine yG (by decide) ?_ | refine AW.condT rfl ?_ | refine AW.condF rfl ?_)
    simp (maxSteps := 1000000) (disch := refine hold_ ?_; first | (simp [f1, f2, f3, f4, f5, f6, f7, f8, f9, f10, f11, f12, f13, f14, bne, -List.getD_eq_getElem?_getD]; done) | omega) [f1, f2, f3, f4, f5, f6, f7, f8, f9, f10, f11, f12, f13, f14, bne, -List.getD_eq_getElem?_getD]
end Go.Av.Doc
end
section
set_option linter.unusedSimpArgs false
set_option linter.unusedVariables false
set_option linter.unusedSectionVars false
open Go Go.Av Go.Proofs
namespace Go.Av.Doc
variable [ML]
def byt (n : Int) : BitVec 8 := BitVec.ofInt 8 n
def encL (r : Int) : List (BitVec 8) :=
  if r < 128 then [byt r]
  else if r < 2048 then [byt (192 + r / 64), byt (128 + r % 64)]
  else if r < 65536 then [byt (224 + r / 4096), byt (128 + r / 64 % 64), byt (128 + r % 64)]
  else [byt (240 + r / 262144), byt (128 + r / 4096 % 64), byt (128 + r / 64 % 64), byt (128 + r % 64)]
theorem ub_byt (n : Int) (h0 : 0 ≤ n) (h : n < 256) : ub (byt n) = n := by simp [ub, byt, BitVec.toNat_ofInt]; omega
theorem ints_byt1 (a : Int) (h : 0 ≤ a ∧ a < 256) : (Row.ints .u8 [a] : Row PV) = bl [byt a] := by simp [bl, ub_byt, h]
theorem ints_byt2 (a b : Int) (h : 0 ≤ a ∧ a < 256) (h2 : 0 ≤ b ∧ b < 256) : (Row.ints .u8 [a, b] : Row PV) = bl [byt a, byt b] := by simp [bl, ub_byt, h, h2]
theorem ints_byt3 (a b c : Int) (h : 0 ≤ a ∧ a < 256) (h2 : 0 ≤ b ∧ b < 256) (h3 : 0 ≤ c ∧ c < 256) : (Row.ints .u8 [a, b, c] : Row PV) = bl [byt a, byt b, byt c] := by simp [bl, ub_byt, h, h2, h3]
theorem ints_byt4 (a b c d : Int) (h : 0 ≤ a ∧ a < 256) (h2 : 0 ≤ b ∧ b < 256) (h3 : 0 ≤ c ∧ c < 256) (h4 : 0 ≤ d ∧ d < 256) : (Row.ints .u8 [a, b, c, d] : Row PV) = bl [byt a, byt b, byt c, byt d] := by simp [bl, ub_byt, h, h2, h3, h4]
theorem wrap_u32 (n : Int) (h0 : 0 ≤ n) (h : n < 4294967296) : IntKind.u32.wrap n = n := by
  have : IntKind.u32.wrap n = n % 4294967296 := rfl
  rw [this]; omega
set_option maxHeartbeats 4000000 in
theorem one_ct (r : Int) (h0 : 0 ≤ r) (hn : r ≤ 1114111) : Fn Tryd.prog 64 [.int .i32 r] [.row (bl (encL r)) 0 0 false] 1 := by
  refine Fn.of_body Tryd.func64 rfl ?_
  have w0 : IntKind.u32.wrap r = r := wrap_u32 _ (by omega) (by omega)
  have d1 : r.tdiv 64 = r / 64 := Int.tdiv_eq_ediv_of_nonneg h0
  have d2 : r.tdiv 4096 = r / 4096 := Int.tdiv_eq_ediv_of_nonneg h0
  have d3 : r.tdiv 262144 = r / 262144 := Int.tdiv_eq_ediv_of_nonneg h0
  have m1 : r.tmod 64 = r % 64 := Int.tmod_eq_emod_of_nonneg h0
  have m2 : (r / 64).tmod 64 = r / 64 % 64 := Int.tmod_eq_emod_of_nonneg (by omega)
  have m3 : (r / 4096).tmod 64 = r / 4096 % 64 := Int.tmod_eq_emod_of_nonneg (by omega)
  have q1 : IntKind.u32.wrap (r / 64) = r / 64 := wrap_u32 _ (by omega) (by omega)
  have q2 : IntKind.u32.wrap (r / 4096) = r / 4096 := wrap_u32 _ (by omega) (by omega)
  have q3 : IntKind.u32.wrap (r / 262144) = r / 262144 := wrap_u32 _ (by omega) (by omega)
  have a1 : IntKind.u32.wrap (128 + r % 64) = 128 + r % 64 := wrap_u32 _ (by omega) (by omega)
  have a2 : IntKind.u32.wrap (128 + r / 64 % 64) = 128 + r / 64 % 64 := wrap_u32 _ (by omega) (by omega)
  have a3 : IntKind.u32.wrap (128 + r / 4096 % 64) = 128 + r / 4096 % 64 := wrap_u32 _ (by omega) (by omega)
  have b1 : IntKind.u8.wrap (128 + r % 64) = 128 + r % 64 := wrap_u8' _ (by omega) (by omega)
  have b2 : IntKind.u8.wrap (128 + r / 64 % 64) = 128 + r / 64 % 64 := wrap_u8' _ (by omega) (by omega)
  have b3 : IntKind.u8.wrap (128 + r / 4096 % 64) = 128 + r / 4096 % 64 := wrap_u8' _ (by omega) (by omega)
  have hr : r < 128 ∨ (128 ≤ r ∧ r < 2048) ∨ (2048 ≤ r ∧ r < 65536) ∨ 65536 ≤ r := by omega
  rcases hr with hr | hr | hr | hr
  all_goals (first | have f1 : (r < 128) = True := eq_true (by omega) | have f1 : (r < 128) = False := eq_false (by omega)); (first | have f2 : (r < 2048) = True := eq_true (by omega) | have f2 : (r < 2048) = False := eq_false (by omega)); (first | have f3 : (r < 65536) = True := eq_true (by omega) | have f3 : (r < 65536) = False := eq_false (by omega))
  · have c0 : IntKind.u8.wrap r = r := wrap_u8' _ (by omega) (by omega)
    have hE : encL r = [byt r] := by simp [encL, f1]
    have hB := ints_byt1 r (by omega)
    rw [hE]
    repeat (first | ((first | refine zP fun K_ hK_ => ?_ | refine zQ fun K_ hK_ => ?_ | refine zR (by kernel_rfl) (by kernel_rfl) fun K_ hK_ => ?_ | refine zS (by kernel_rfl) (by kernel_rfl) fun K_ hK_ => ?_ | refine zT ?_); first | (simp (maxSteps := 1000000) (disch := refine hold_ ?_; first | (simp [w0, c0, hB, f1, -List.getD_eq_getElem?_getD]; done) | omega) [w0, c0, hB, f1, -List.getD_eq_getElem?_getD]; try first | refine zZ ?_ | subst hK_) | subst hK_) | refine zA ?_ | refine zB ?_ | refine zC ?_ | refine zD ?_ | refine zE ?_ | refine zF ?_ | refine zG ?_ | refine zH ?_ | refine zI ?_ | refine zJ ?_ | refine zK ?_ | refine zL ?_ | refine zM ?_ | refine zN ?_ | refine zO ?_ | refine yG (by decide) ?_ | refine AW.condT rfl ?_ | refine AW.condF rfl ?_)
    simp (maxSteps := 1000000) (disch := refine hold_ ?_; first | (simp [w0, c0, hB, -List.getD_eq_getElem?_getD]; done) | omega) [w0, c0, hB, -List.getD_eq_getElem?_getD]
  · have hE : encL r = [byt (192 + r / 64), byt (128 + r % 64)] := by simp [encL, f1, f2]
    have e1 : IntKind.u32.wrap (192 + r / 64) = 192 + r / 64 := wrap_u32 _ (by omega) (by omega)
    have e2 : IntKind.u8.wrap (192 + r / 64) = 192 + r / 64 := wrap_u8' _ (by omega) (by omega)
    have hB := ints_byt2 (192 + r / 64) (128 + r % 64) (by omega) (by omega)
    rw [hE]
    repeat (first | ((first | refine zP fun K_ hK_ => ?_ | refine zQ fun K_ hK_ => ?_ | refine zR (by kernel_rfl) (by kernel_rfl) fun K_ hK_ => ?_ | refine zS (by kernel_rfl) (by kernel_rfl) fun K_ hK_ => ?_ | refine zT ?_); first | (simp (maxSteps := 1000000) (disch := refine hold_ ?_; first | (simp [w0, d1, m1, q1, a1, b1, e1, e2, hB, f1, f2, -List.getD_eq_getElem?_getD]; done) | omega) [w0, d1, m1, q1, a1, b1, e1, e2, hB, f1, f2, -List.getD_eq_getElem?_getD]; try first | refine zZ ?_ | subst hK_) | subst hK_) | refine zA ?_ | refine zB ?_ | refine zC ?_ | refine zD ?_ | refine zE ?_ | refine zF ?_ | refine zG ?_ | refine zH ?_ | refine zI ?_ | refine zJ ?_ | refine zK ?_ | refine zL ?_ | refine zM ?_ | refine zN ?_ | refine zO ?_ | refine yG (by decide) ?_ | refine AW.condT rfl ?_ | refine AW.condF rfl ?_)
    simp (maxSteps := 1000000) (disch := refine hold_ ?_; first | (simp [hB, -List.getD_eq_getElem?_getD]; done) | omega) [hB, -List.getD_eq_getElem?_getD]
  · have hE : encL r = [byt (224 + r / 4096), byt (128 + r / 64 % 64), byt (128 + r % 64)] := by simp [encL, f1, f2, f3]
    have e1 : IntKind.u32.wrap (224 + r / 4096) = 224 + r / 4096 := wrap_u32 _ (by omega) (by omega)
    have e2 : IntKind.u8.wrap (224 + r / 4096) = 224 + r / 4096 := wrap_u8' _ (by omega) (by omega)
    have hB := ints_byt3 (224 + r / 4096) (128 + r / 64 % 64) (128 + r % 64) (by omega) (by omega) (by omega)
    rw [hE]
    repeat (first | ((first | refine zP fun K_ hK_ => ?_ | refine zQ fun K_ hK_ => ?_ | refine zR (by kernel_rfl) (by kernel_rfl) fun K_ hK_ => ?_ | refine zS (by kernel_rfl) (by kernel_rfl) fun K_ hK_ => ?_ | refine zT ?_); first | (simp (maxSteps := 1000000) (disch := refine hold_ ?_; first | (simp [w0, d1, d2, m1, m2, q1, q2, a1, a2, b1, b2, e1, e2, hB, f1, f2, f3, -List.getD_eq_getElem?_getD]; done) | omega) [w0, d1, d2, m1, m2, q1, q2, a1, a2, b1, b2, e1, e2, hB, f1, f2, f3, -List.getD_eq_getElem?_getD]; try first | refine zZ ?_ | subst hK_) | subst hK_) | refine zA ?_ | refine zB ?_ | refine zC ?_ | refine zD ?_ | refine zE ?_ | refine zF ?_ | refine zG ?_ | refine zH ?_ | refine zI ?_ | refine zJ ?_ | refine zK ?_ | refine zL ?_ | refine zM ?_ | refine zN ?_ | refine zO ?_ | refine yG (by decide) ?_ | refine AW.condT rfl ?_ | refine AW.condF rfl ?_)
    simp (maxSteps := 1000000) (disch := refine hold_ ?_; first | (simp [hB, -List.getD_eq_getElem?_getD]; done) | omega) [hB, -List.getD_eq_getElem?_getD]
  · have hE : encL r = [byt (240 + r / 262144), byt (128 + r / 4096 % 64), byt (128 + r / 64 % 64), byt (128 + r % 64)] := by simp [encL, f1, f2, f3]
    have e1 : IntKind.u32.wrap (240 + r / 262144) = 240 + r / 262144 := wrap_u32 _ (by omega) (by omega)
    have e2 : IntKind.u8.wrap (240 + r / 262144) = 240 + r / 262144 := wrap_u8' _ (by omega) (by omega)
    have hB := ints_byt4 (240 + r / 262144) (128 + r / 4096 % 64) (128 + r / 64 % 64) (128 + r % 64) (by omega) (by omega) (by omega) (by omega)
    rw [hE]
    repeat (first | ((first | refine zP fun K_ hK_ => ?_ | refine zQ fun K_ hK_ => ?_ | refine zR (by kernel_rfl) (by kernel_rfl) fun K_ hK_ => ?_ | refine zS (by kernel_rfl) (by kernel_rfl) fun K_ hK_ => ?_ | refine zT ?_); first | (simp (maxSteps := 1000000) (disch := refine hold_ ?_; first | (simp [w0, d1, d2, d3, m1, m2, m3, q1, q2, q3, a1, a2, a3, b1, b2, b3, e1, e2, hB, f1, f2, f3, -List.getD_eq_getElem?_getD]; done) | omega) [w0, d1, d2, d3, m1, m2, m3, q1, q2, q3, a1, a2, a3, b1, b2, b3, e1, e2, hB, f1, f2, f3, -List.getD_eq_getElem?_getD]; try first | refine zZ ?_ | subst hK_) | subst hK_) | refine zA ?_ | refine zB ?_ | refine zC ?_ | refine zD ?_ | refine zE ?_ | refine zF ?_ | refine zG ?_ | refine zH ?_ | refine zI ?_ | refine zJ ?_ | refine zK ?_ | refine zL ?_ | refine zM ?_ | refine zN ?_ | refine zO ?_ | refine yG (by decide) ?_ | refine AW.condT rfl ?_ | refine AW.condF rfl ?_)
    simp (maxSteps := 1000000) (disch := refine hold_ ?_; first | (simp [hB, -List.getD_eq_getElem?_getD]; done) | omega) [hB, -List.getD_eq_getElem?_getD]
end Go.Av.Doc
end
section
set_option linter.unusedSimpArgs false
set_option linter.unusedVariables false
set_option linter.unusedSectionVars false
open Go Go.Av Go.Proofs
namespace Go.Av.Doc
variable [ML]
theorem ib_and (k : IntKind) (a b : Int) : intBin .and k a b = some (.int k (k.wrap (BitVec.ofInt k.bits a &&& BitVec.ofInt k.bits b).toNat)) := rfl
theorem ib_or (k : IntKind) (a b : Int) : intBin .or k a b = some (.int k (k.wrap (BitVec.ofInt k.bits a ||| BitVec.ofInt k.bits b).toNat)) := rfl
set_option maxRecDepth 100000 in
theorem and63F : ∀ x : Fin 256, IntKind.u8.wrap ((BitVec.ofInt IntKind.u8.bits ((x.val : Nat) : Int) &&& BitVec.ofInt IntKind.u8.bits 63).toNat : Nat) = ((x.val % 64 : Nat) : Int) := by decide
theorem and63 (x : Int) (h : 0 ≤ x ∧ x < 256) : intBin .and .u8 x 63 = some (.int .u8 (x % 64)) := by
  obtain ⟨n, rfl⟩ : ∃ n : Nat, x = n := ⟨x.toNat, by omega⟩
  have := and63F ⟨n, by omega⟩
  rw [ib_and, this]; simp
end Go.Av.Doc
end
section
set_option linter.unusedSimpArgs false
set_option linter.unusedVariables false
set_option linter.unusedSectionVars false
open Go Go.Av Go.Proofs
namespace Go.Av.Doc
variable [ML]
def rl (l : List Int) : Row PV := .ints .i32 l
@[simp] theorem rl_len (l : List Int) : (rl l).len = l.length := rfl
@[simp] theorem rl_sz (l : List Int) : (rl l).sz = 1 := rfl
@[simp] theorem rl_elem (l : List Int) (i : Nat) : (rl l).elem i = .int .i32 (l.getD i 0) := rfl
@[simp] theorem rl_cell (l : List Int) (i j : Nat) : ((rl l).elem i).cell j = .int .i32 (l.getD i 0) := rfl
@[simp] theorem rl_cut (l : List Int) (i j : Nat) : (rl l).cut i j = rl ((l.take j).drop i) := rfl
@[simp] theorem app_rl (a : List Int) (n : Int) : appRow (rl a) (.ints .i32 [n]) = some (rl (a ++ [n])) := by simp [rl]
end Go.Av.Doc
end
section
set_option linter.unusedSimpArgs false
set_option linter.unusedVariables false
set_option linter.unusedSectionVars false
open Go Go.Av Go.Proofs
namespace Go.Av.Doc
variable [ML]
def bt (l : List (BitVec 8)) (i : Nat) : Int := ub (l.getD i 0)
theorem bt_lt (l : List (BitVec 8)) (i : Nat) : 0 ≤ bt l i ∧ bt l i < 256 := by
  have := (l.getD i 0).isLt
  unfold bt ub; omega
def loB (b : Int) : Int := if b = 224 then 160 else if b = 240 then 144 else 128
def hiB (b : Int) : Int := if b = 237 then 159 else if b = 244 then 143 else 191
def okS (l : List (BitVec 8)) : Nat :=
  if l.length = 0 then 0
  else if bt l 0 < 128 then 1
  else if 194 ≤ bt l 0 ∧ bt l 0 < 224 then (if 2 ≤ l.length ∧ 128 ≤ bt l 1 ∧ bt l 1 ≤ 191 then 2 else 0)
  else if 224 ≤ bt l 0 ∧ bt l 0 < 240 then (if 3 ≤ l.length ∧ loB (bt l 0) ≤ bt l 1 ∧ bt l 1 ≤ hiB (bt l 0) ∧ 128 ≤ bt l 2 ∧ bt l 2 ≤ 191 then 3 else 0)
  else if 240 ≤ bt l 0 ∧ bt l 0 < 245 then (if 4 ≤ l.length ∧ loB (bt l 0) ≤ bt l 1 ∧ bt l 1 ≤ hiB (bt l 0) ∧ 128 ≤ bt l 2 ∧ bt l 2 ≤ 191 ∧ 128 ≤ bt l 3 ∧ bt l 3 ≤ 191 then 4 else 0)
  else 0
def runeN (l : List (BitVec 8)) : Int :=
  if bt l 0 < 128 then bt l 0
  else if bt l 0 < 224 then (bt l 0 - 192) * 64 + (bt l 1 - 128)
  else if bt l 0 < 240 then (bt l 0 - 224) * 4096 + (bt l 1 - 128) * 64 + (bt l 2 - 128)
  else (bt l 0 - 240) * 262144 + (bt l 1 - 128) * 4096 + (bt l 2 - 128) * 64 + (bt l 3 - 128)
theorem okS_len (l : List (BitVec 8)) : okS l ≤ l.length := by
  unfold okS
  (repeat' split) <;> omega
def charsL (l : List (BitVec 8)) : Option (List Int) :=
  if h : l.length = 0 then some []
  else if h2 : okS l = 0 then none
  else (charsL (l.drop (okS l))).map (runeN l :: ·)
termination_by l.length
decreasing_by simp; omega
theorem charsL_nil : charsL [] = some [] := by rw [charsL]; simp
theorem charsL_bad (l : List (BitVec 8)) (h : l.length ≠ 0) (h2 : okS l = 0) : charsL l = none := by rw [charsL]; simp [h, h2]
theorem charsL_step (l : List (BitVec 8)) (h : l.length ≠ 0) (h2 : okS l ≠ 0) : charsL l = (charsL (l.drop (okS l))).map (runeN l :: ·) := by
  rw [charsL]; simp only [h, h2, dif_neg, not_false_eq_true]
def validB (l : List (BitVec 8)) : Bool := (charsL l).isSome
theorem validB_nil (l : List (BitVec 8)) (h : l.length = 0) : validB l = true := by
  obtain rfl := List.eq_nil_of_length_eq_zero h; unfold validB; rw [charsL_nil]; rfl
theorem validB_bad (l : List (BitVec 8)) (h : l.length ≠ 0) (h2 : okS l = 0) : validB l = false := by unfold validB; rw [charsL_bad l h h2]; rfl
theorem validB_step (l : List (BitVec 8)) (h : l.length ≠ 0) (n : Nat) (hn : okS l = n) (h2 : n ≠ 0) : validB l = validB (l.drop n) := by
  subst hn; unfold validB; rw [charsL_step l h h2]; cases charsL (l.drop (okS l)) <;> rfl
theorem validB_asc (l : List (BitVec 8)) (h : l.length ≠ 0) (h2 : bt l 0 < 128) : validB l = validB (l.drop 1) :=
  validB_step l h 1 (by unfold okS; simp [h, h2]) (by omega)
theorem bt_drop (l : List (BitVec 8)) (n i : Nat) : bt (l.drop n) i = bt l (n + i) := by simp [bt, List.getD_eq_getElem?_getD]
theorem validB_skip (n : Nat) : ∀ (l : List (BitVec 8)), n ≤ l.length → (∀ i, i < n → bt l i < 128) → validB l = validB (l.drop n) := by
  induction n with
  | zero => intro l _ _; rfl
  | succ n ih =>
    intro l hl hb
    rw [validB_asc l (by omega) (hb 0 (by omega)), ih (l.drop 1) (by simp; omega) (fun i hi => by rw [bt_drop]; exact hb (1 + i) (by omega)), List.drop_drop, Nat.add_comm 1 n]
theorem first_get (n : Nat) (h : n < 256) : firstL.getD n 0 = firstF n := by simp [firstL, List.getD_eq_getElem?_getD, h]
@[simp] theorem gl0 : Tables.gl 1 = some (.vals 256 [.agg (.ints .u8 firstL)]) := rfl
@[simp] theorem eval_g0 (σ : St) : σ.eval (.global 1) = .p (.eptr (.vals 256 [.agg (.ints .u8 firstL)]) 0 0) := rfl
@[simp] theorem eval_g1 (σ : St) : σ.eval (.global 2) = .p (.eptr (.vals 32 [.agg (.ints .u8 accL)]) 0 0) := rfl
@[simp] theorem cell_agg1 (k : IntKind) (q : List Int) (j : Nat) : ([PV.agg (Row.ints k q)].getD 0 PV.ptr0).cell j = .int k (q.getD j 0) := rfl
@[simp] theorem gl1 : Tables.gl 2 = some (.vals 32 [.agg (.ints .u8 accL)]) := rfl
def wordN (l : List (BitVec 8)) : Int := bt l 0 + bt l 1 * 256 + bt l 2 * 65536 + bt l 3 * 16777216 + bt l 4 * 4294967296 + bt l 5 * 1099511627776 + bt l 6 * 281474976710656 + bt l 7 * 72057594037927936
theorem shl_u64 (a : Int) (s : Nat) (m : Int) (h : 0 ≤ a ∧ a < 256) (hs : s ≤ 56) (hm : (2 : Int) ^ s = m) (hm2 : m ≤ 72057594037927936) : shiftBin .shl .u64 a (s : Int) = some (.int .u64 (a * m)) := by
  unfold shiftBin
  rw [if_neg (by omega)]
  have e : min ((s : Int)).toNat IntKind.u64.bits = s := by
    simp only [Int.toNat_natCast, show IntKind.u64.bits = 64 from rfl]; omega
  simp only [e, hm]
  have h0 : 0 < m := by rw [← hm]; exact Int.pow_pos (by omega)
  have hlt : a * m < 18446744073709551616 := by
    have : a * m ≤ 255 * m := Int.mul_le_mul_of_nonneg_right (by omega) (by omega)
    omega
  rw [wrap_u64 _ (Int.mul_nonneg h.1 (by omega)) hlt]
theorem or_u64 (x b : Int) (s : Nat) (m : Int) (hx : 0 ≤ x ∧ x < m) (hb : 0 ≤ b ∧ b < 256) (hm : (2 : Int) ^ s = m) (hm2 : m ≤ 72057594037927936) : intBin .or .u64 x (b * m) = some (.int .u64 (x + b * m)) := by
  obtain ⟨n, rfl⟩ : ∃ n : Nat, x = n := ⟨x.toNat, by omega⟩
  obtain ⟨c, rfl⟩ : ∃ c : Nat, b = c := ⟨b.toNat, by omega⟩
  have hm' : m = ((2 ^ s : Nat) : Int) := by rw [← hm]; simp
  have hn : n < 2 ^ s := by rw [hm'] at hx; omega
  have hc : c < 256 := by omega
  have h2 : 2 ^ s ≤ 72057594037927936 := by rw [hm'] at hm2; omega
  have hcm : c * 2 ^ s ≤ 255 * 2 ^ s := Nat.mul_le_mul_right _ (by omega)
  rw [hm', show ((c : Int) * ((2 ^ s : Nat) : Int)) = ((c * 2 ^ s : Nat) : Int) by simp]
  rw [ib_or]
  have e : (BitVec.ofInt IntKind.u64.bits (n : Int) ||| BitVec.ofInt IntKind.u64.bits ((c * 2 ^ s : Nat) : Int)).toNat = n + c * 2 ^ s := by
    rw [BitVec.toNat_or, show IntKind.u64.bits = 64 from rfl, BitVec.ofInt_natCast, BitVec.ofInt_natCast, BitVec.toNat_ofNat, BitVec.toNat_ofNat, Nat.mod_eq_of_lt (by omega), Nat.mod_eq_of_lt (by omega), Nat.or_comm]
    have := Nat.shiftLeft_add_eq_or_of_lt hn c
    rw [Nat.shiftLeft_eq] at this
    rw [← this, Nat.add_comm]
  rw [e, wrap_u64 _ (by omega) (by omega)]
  simp
set_option maxHeartbeats 4000000 in
theorem word_ct (nl : Bool) (l : List (BitVec 8)) (h : 8 ≤ l.length) : Fn Tryd.prog 96 [.sl (bl l) nl] [.p (.int .u64 (wordN l))] := by
  refine Fn.of_body Tryd.func96 rfl ?_
  have g (i : Nat) (hi : i < 8) : i < l.length := by omega
  unfold wordN
  have u0 := bt_lt l 0
  have u1 := bt_lt l 1
  have u2 := bt_lt l 2
  have u3 := bt_lt l 3
  have u4 := bt_lt l 4
  have u5 := bt_lt l 5
  have u6 := bt_lt l 6
  have u7 := bt_lt l 7
  generalize hb0 : bt l 0 = b0 at *
  generalize hb1 : bt l 1 = b1 at *
  generalize hb2 : bt l 2 = b2 at *
  generalize hb3 : bt l 3 = b3 at *
  generalize hb4 : bt l 4 = b4 at *
  generalize hb5 : bt l 5 = b5 at *
  generalize hb6 : bt l 6 = b6 at *
  generalize hb7 : bt l 7 = b7 at *
  have e0 : ub (l.getD 0 0#8) = b0 := hb0
  have w0 : IntKind.u64.wrap b0 = b0 := wrap_u64 _ (by omega) (by omega)
  have e1 : ub (l.getD 1 0#8) = b1 := hb1
  have w1 : IntKind.u64.wrap b1 = b1 := wrap_u64 _ (by omega) (by omega)
  have e2 : ub (l.getD 2 0#8) = b2 := hb2
  have w2 : IntKind.u64.wrap b2 = b2 := wrap_u64 _ (by omega) (by omega)
  have e3 : ub (l.getD 3 0#8) = b3 := hb3
  have w3 : IntKind.u64.wrap b3 = b3 := wrap_u64 _ (by omega) (by omega)
  have e4 : ub (l.getD 4 0#8) = b4 := hb4
  have w4 : IntKind.u64.wrap b4 = b4 := wrap_u64 _ (by omega) (by omega)
  have e5 : ub (l.getD 5 0#8) = b5 := hb5
  have w5 : IntKind.u64.wrap b5 = b5 := wrap_u64 _ (by omega) (by omega)
  have e6 : ub (l.getD 6 0#8) = b6 := hb6
  have w6 : IntKind.u64.wrap b6 = b6 := wrap_u64 _ (by omega) (by omega)
  have e7 : ub (l.getD 7 0#8) = b7 := hb7
  have w7 : IntKind.u64.wrap b7 = b7 := wrap_u64 _ (by omega) (by omega)
  have s1 : shiftBin .shl .u64 b1 8 = some (.int .u64 (b1 * 256)) := shl_u64 b1 8 256 u1 (by omega) (by decide) (by omega)
  have o1 : intBin .or .u64 (b0) (b1 * 256) = some (.int .u64 (b0 + b1 * 256)) := or_u64 _ b1 8 256 (by omega) u1 (by decide) (by omega)
  have s2 : shiftBin .shl .u64 b2 16 = some (.int .u64 (b2 * 65536)) := shl_u64 b2 16 65536 u2 (by omega) (by decide) (by omega)
  have o2 : intBin .or .u64 (b0 + b1 * 256) (b2 * 65536) = some (.int .u64 (b0 + b1 * 256 + b2 * 65536)) := or_u64 _ b2 16 65536 (by omega) u2 (by decide) (by omega)
  have s3 : shiftBin .shl .u64 b3 24 = some (.int .u64 (b3 * 16777216)) := shl_u64 b3 24 16777216 u3 (by omega) (by decide) (by omega)
  have o3 : intBin .or .u64 (b0 + b1 * 256 + b2 * 65536) (b3 * 16777216) = some (.int .u64 (b0 + b1 * 256 + b2 * 65536 + b3 * 16777216)) := or_u64 _ b3 24 16777216 (by omega) u3 (by decide) (by omega)
  have s4 : shiftBin .shl .u64 b4 32 = some (.int .u64 (b4 * 4294967296)) := shl_u64 b4 32 4294967296 u4 (by omega) (by decide) (by omega)
  have o4 : intBin .or .u64 (b0 + b1 * 256 + b2 * 65536 + b3 * 16777216) (b4 * 4294967296) = some (.int .u64 (b0 + b1 * 256 + b2 * 65536 + b3 * 16777216 + b4 * 4294967296)) := or_u64 _ b4 32 4294967296 (by omega) u4 (by decide) (by omega)
  have s5 : shiftBin .shl .u64 b5 40 = some (.int .u64 (b5 * 1099511627776)) := shl_u64 b5 40 1099511627776 u5 (by omega) (by decide) (by omega)
  have o5 : intBin .or .u64 (b0 + b1 * 256 + b2 * 65536 + b3 * 16777216 + b4 * 4294967296) (b5 * 1099511627776) = some (.int .u64 (b0 + b1 * 256 + b2 * 65536 + b3 * 16777216 + b4 * 4294967296 + b5 * 1099511627776)) := or_u64 _ b5 40 1099511627776 (by omega) u5 (by decide) (by omega)
  have s6 : shiftBin .shl .u64 b6 48 = some (.int .u64 (b6 * 281474976710656)) := shl_u64 b6 48 281474976710656 u6 (by omega) (by decide) (by omega)
  have o6 : intBin .or .u64 (b0 + b1 * 256 + b2 * 65536 + b3 * 16777216 + b4 * 4294967296 + b5 * 1099511627776) (b6 * 281474976710656) = some (.int .u64 (b0 + b1 * 256 + b2 * 65536 + b3 * 16777216 + b4 * 4294967296 + b5 * 1099511627776 + b6 * 281474976710656)) := or_u64 _ b6 48 281474976710656 (by omega) u6 (by decide) (by omega)
  have s7 : shiftBin .shl .u64 b7 56 = some (.int .u64 (b7 * 72057594037927936)) := shl_u64 b7 56 72057594037927936 u7 (by omega) (by decide) (by omega)
  have o7 : intBin .or .u64 (b0 + b1 * 256 + b2 * 65536 + b3 * 16777216 + b4 * 4294967296 + b5 * 1099511627776 + b6 * 281474976710656) (b7 * 72057594037927936) = some (.int .u64 (b0 + b1 * 256 + b2 * 65536 + b3 * 16777216 + b4 * 4294967296 + b5 * 1099511627776 + b6 * 281474976710656 + b7 * 72057594037927936)) := or_u64 _ b7 56 72057594037927936 (by omega) u7 (by decide) (by omega)
  repeat (first | ((first | refine zP fun K_ hK_ => ?_ | refine zQ fun K_ hK_ => ?_ | refine zR (by kernel_rfl) (by kernel_rfl) fun K_ hK_ => ?_ | refine zS (by kernel_rfl) (by kernel_rfl) fun K_ hK_ => ?_ | refine zT ?_); first | (simp (maxSteps := 1000000) (disch := refine hold_ ?_; first | (simp [g, e0, w0, e1, w1, e2, w2, e3, w3, e4, w4, e5, w5, e6, w6, e7, w7, s1, o1, s2, o2, s3, o3, s4, o4, s5, o5, s6, o6, s7, o7, -List.getD_eq_getElem?_getD]; done) | omega) [g, e0, w0, e1, w1, e2, w2, e3, w3, e4, w4, e5, w5, e6, w6, e7, w7, s1, o1, s2, o2, s3, o3, s4, o4, s5, o5, s6, o6, s7, o7, -List.getD_eq_getElem?_getD]; try first | refine zZ ?_ | subst hK_) | subst hK_) | refine zA ?_ | refine zB ?_ | refine zC ?_ | refine zD ?_ | refine zE ?_ | refine zF ?_ | refine zG ?_ | refine zH ?_ | refine zI ?_ | refine zJ ?_ | refine zK ?_ | refine zL ?_ | refine zM ?_ | refine zN ?_ | refine zO ?_ | refine yG (by decide) ?_ | refine AW.condT rfl ?_ | refine AW.condF rfl ?_)
  simp (maxSteps := 1000000) (disch := refine hold_ ?_; first | (simp [-List.getD_eq_getElem?_getD]; done) | omega) [-List.getD_eq_getElem?_getD]
end Go.Av.Doc
end
section
set_option linter.unusedSimpArgs false
set_option linter.unusedVariables false
set_option linter.unusedSectionVars false
open Go Go.Av Go.Proofs
namespace Go.Av.Doc
variable [ML]
def andM (x : Int) : Int := IntKind.u64.wrap (BitVec.ofInt IntKind.u64.bits x &&& BitVec.ofInt IntKind.u64.bits 9259542123273814144).toNat
def orW (x y : Int) : Int := IntKind.u64.wrap (BitVec.ofInt IntKind.u64.bits x ||| BitVec.ofInt IntKind.u64.bits y).toNat
theorem ib_andM (x : Int) : intBin .and .u64 x 9259542123273814144 = some (.int .u64 (andM x)) := rfl
theorem ib_orW (x y : Int) : intBin .or .u64 x y = some (.int .u64 (orW x y)) := rfl
theorem andM_nat (n : Nat) (h : n < 18446744073709551616) : andM n = ((n &&& 9259542123273814144 : Nat) : Int) := by
  have e : (BitVec.ofInt IntKind.u64.bits (n : Int) &&& BitVec.ofInt IntKind.u64.bits 9259542123273814144).toNat = n &&& 9259542123273814144 := by
    rw [BitVec.toNat_and, show IntKind.u64.bits = 64 from rfl, BitVec.ofInt_natCast, BitVec.toNat_ofNat, Nat.mod_eq_of_lt (by omega)]
    rfl
  unfold andM
  rw [e]
  have : n &&& 9259542123273814144 ≤ n := Nat.and_le_left
  exact wrap_u64 _ (by omega) (by omega)
theorem orW_nat (n m : Nat) (h : n < 18446744073709551616) (h2 : m < 18446744073709551616) : orW n m = ((n ||| m : Nat) : Int) ∧ n ||| m < 18446744073709551616 := by
  have e : (BitVec.ofInt IntKind.u64.bits (n : Int) ||| BitVec.ofInt IntKind.u64.bits (m : Int)).toNat = n ||| m := by
    rw [BitVec.toNat_or, show IntKind.u64.bits = 64 from rfl, BitVec.ofInt_natCast, BitVec.ofInt_natCast, BitVec.toNat_ofNat, BitVec.toNat_ofNat, Nat.mod_eq_of_lt (by omega), Nat.mod_eq_of_lt (by omega)]
  have hlt : n ||| m < 18446744073709551616 := Nat.or_lt_two_pow (n := 64) (by omega) (by omega)
  unfold orW
  rw [e]
  exact ⟨wrap_u64 _ (by omega) (by omega), hlt⟩
def hiZ (x : Int) : Prop := 0 ≤ x ∧ x < 18446744073709551616 ∧ andM x = 0
theorem hiZ_bit {n : Nat} (h : hiZ n) (i : Nat) (hi : i < 8) : n.testBit (8 * i + 7) = false := by
  obtain ⟨_, h2, h3⟩ := h
  rw [andM_nat n (by omega)] at h3
  have h4 : n &&& 9259542123273814144 = 0 := by omega
  have h5 := congrArg (fun x => Nat.testBit x (8 * i + 7)) h4
  simp only [Nat.testBit_and, Nat.zero_testBit] at h5
  have h6 : Nat.testBit 9259542123273814144 (8 * i + 7) = true := by
    have : i = 0 ∨ i = 1 ∨ i = 2 ∨ i = 3 ∨ i = 4 ∨ i = 5 ∨ i = 6 ∨ i = 7 := by omega
    rcases this with rfl | rfl | rfl | rfl | rfl | rfl | rfl | rfl <;> decide
  rw [h6, Bool.and_true] at h5; exact h5
theorem hiZ_or {x y : Int} (hx : 0 ≤ x ∧ x < 18446744073709551616) (hy : 0 ≤ y ∧ y < 18446744073709551616) (h : andM (orW x y) = 0) : hiZ x ∧ hiZ y := by
  obtain ⟨n, rfl⟩ : ∃ n : Nat, x = n := ⟨x.toNat, by omega⟩
  obtain ⟨m, rfl⟩ : ∃ m : Nat, y = m := ⟨y.toNat, by omega⟩
  obtain ⟨e1, e2⟩ := orW_nat n m (by omega) (by omega)
  rw [e1, andM_nat _ e2] at h
  have h4 : (n ||| m) &&& 9259542123273814144 = 0 := by omega
  rw [Nat.and_or_distrib_right] at h4
  have h5 : n &&& 9259542123273814144 = 0 ∧ m &&& 9259542123273814144 = 0 := Nat.or_eq_zero_iff.1 h4
  refine ⟨⟨by omega, by omega, ?_⟩, ⟨by omega, by omega, ?_⟩⟩
  · rw [andM_nat _ (by omega), h5.1]; rfl
  · rw [andM_nat _ (by omega), h5.2]; rfl
theorem orW_lt {x y : Int} (hx : 0 ≤ x ∧ x < 18446744073709551616) (hy : 0 ≤ y ∧ y < 18446744073709551616) : 0 ≤ orW x y ∧ orW x y < 18446744073709551616 := by
  obtain ⟨n, rfl⟩ : ∃ n : Nat, x = n := ⟨x.toNat, by omega⟩
  obtain ⟨m, rfl⟩ : ∃ m : Nat, y = m := ⟨y.toNat, by omega⟩
  obtain ⟨e1, e2⟩ := orW_nat n m (by omega) (by omega)
  rw [e1]; omega
theorem wordN_lt (l : List (BitVec 8)) : 0 ≤ wordN l ∧ wordN l < 18446744073709551616 := by
  have h0 := bt_lt l 0; have h1 := bt_lt l 1; have h2 := bt_lt l 2; have h3 := bt_lt l 3; have h4 := bt_lt l 4; have h5 := bt_lt l 5; have h6 := bt_lt l 6; have h7 := bt_lt l 7
  unfold wordN; omega
theorem bit_div (n k : Nat) (h : n.testBit k = false) : n / 2 ^ k % 2 = 0 := by
  rw [Nat.testBit_eq_decide_div_mod_eq] at h
  have : n / 2 ^ k % 2 ≠ 1 := by simpa using h
  omega
theorem wordN_asc (l : List (BitVec 8)) (h : hiZ (wordN l)) : ∀ i, i < 8 → bt l i < 128 := by
  have h0 := bt_lt l 0; have h1 := bt_lt l 1; have h2 := bt_lt l 2; have h3 := bt_lt l 3; have h4 := bt_lt l 4; have h5 := bt_lt l 5; have h6 := bt_lt l 6; have h7 := bt_lt l 7
  obtain ⟨n, hn⟩ : ∃ n : Nat, wordN l = n := ⟨(wordN l).toNat, by have := wordN_lt l; omega⟩
  have hw := hn
  rw [hn] at h
  unfold wordN at hw
  have c0 := bit_div n 7 (hiZ_bit h 0 (by omega))
  have c1 := bit_div n 15 (hiZ_bit h 1 (by omega))
  have c2 := bit_div n 23 (hiZ_bit h 2 (by omega))
  have c3 := bit_div n 31 (hiZ_bit h 3 (by omega))
  have c4 := bit_div n 39 (hiZ_bit h 4 (by omega))
  have c5 := bit_div n 47 (hiZ_bit h 5 (by omega))
  have c6 := bit_div n 55 (hiZ_bit h 6 (by omega))
  have c7 := bit_div n 63 (hiZ_bit h 7 (by omega))
  intro i hi
  have : i = 0 ∨ i = 1 ∨ i = 2 ∨ i = 3 ∨ i = 4 ∨ i = 5 ∨ i = 6 ∨ i = 7 := by omega
  rcases this with rfl | rfl | rfl | rfl | rfl | rfl | rfl | rfl
  all_goals
    generalize bt l 0 = b0 at *
    generalize bt l 1 = b1 at *
    generalize bt l 2 = b2 at *
    generalize bt l 3 = b3 at *
    generalize bt l 4 = b4 at *
    generalize bt l 5 = b5 at *
    generalize bt l 6 = b6 at *
    generalize bt l 7 = b7 at *
  · clear c1 c2 c3 c4 c5 c6 c7; simp only [Nat.reducePow] at c0; omega
  · clear c0 c2 c3 c4 c5 c6 c7; simp only [Nat.reducePow] at c1; omega
  · clear c0 c1 c3 c4 c5 c6 c7; simp only [Nat.reducePow] at c2; omega
  · clear c0 c1 c2 c4 c5 c6 c7; simp only [Nat.reducePow] at c3; omega
  · clear c0 c1 c2 c3 c5 c6 c7; simp only [Nat.reducePow] at c4; omega
  · clear c0 c1 c2 c3 c4 c6 c7; simp only [Nat.reducePow] at c5; omega
  · clear c0 c1 c2 c3 c4 c5 c7; simp only [Nat.reducePow] at c6; omega
  · clear c0 c1 c2 c3 c4 c5 c6; simp only [Nat.reducePow] at c7; omega
end Go.Av.Doc
end
