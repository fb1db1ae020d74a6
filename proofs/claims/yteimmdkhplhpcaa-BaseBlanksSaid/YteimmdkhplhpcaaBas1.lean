/- The walks of this seat's functions, and what is known of what they reckon (Bas1). Conditions: those that each theorem names. -/
import Derived.Test.YteimmdkhplhpcaaAv4
import Derived.Test.YteimmdkhplhpcaaProg
import Derived.KernelRfl
import Derived.Lib.Builder
import Derived.Lib.UnsafeStr
import Derived.WalkKit
import Derived.LaidEql
import Derived.Shelf.RegionOpenPlain

section
namespace Go.Av.Base
open Go Go.Av Go.Proofs
set_option linter.unusedVariables false
@[simp] theorem x2_u : udesc Try.prog 2 = some (.int .i64) := nr (by kernel_rfl)
@[simp] theorem x2_isSlice : isSlice Try.prog 2 = false := nr (by kernel_rfl)
@[simp] theorem x2_isString : isString Try.prog 2 = false := nr (by kernel_rfl)
@[simp] theorem x2_arrLen : arrLen Try.prog 2 = none := nr (by kernel_rfl)
@[simp] theorem x2_esz : esz Try.prog 2 = none := nr (by kernel_rfl)
@[simp] theorem x2_isAggT : isAggT Try.prog 2 = some false := nr (by kernel_rfl)
@[simp] theorem x2_tsize : tsize Try.prog 2 = some 1 := nr (by kernel_rfl)
@[simp] theorem x2_notInt : notInt Try.prog 2 = false := nr (by kernel_rfl)
@[simp] theorem x2_isBytes : isBytes Try.prog 2 = false := nr (by kernel_rfl)
@[simp] theorem x2_alloc (H : List (Nat × (Nat × HB))) (d : Nat) : aalloc Try.prog H d 2 = some (.ptr d (nextVer H d) 0, upd H d (nextVer H d, .row (.ints .i64 [0]))) := nr (by kernel_rfl)
@[simp] theorem x3_u : udesc Try.prog 3 = some (.int .i64) := nr (by kernel_rfl)
@[simp] theorem x3_isSlice : isSlice Try.prog 3 = false := nr (by kernel_rfl)
@[simp] theorem x3_isString : isString Try.prog 3 = false := nr (by kernel_rfl)
@[simp] theorem x3_arrLen : arrLen Try.prog 3 = none := nr (by kernel_rfl)
@[simp] theorem x3_esz : esz Try.prog 3 = none := nr (by kernel_rfl)
@[simp] theorem x3_isAggT : isAggT Try.prog 3 = some false := nr (by kernel_rfl)
@[simp] theorem x3_tsize : tsize Try.prog 3 = some 1 := nr (by kernel_rfl)
@[simp] theorem x3_notInt : notInt Try.prog 3 = false := nr (by kernel_rfl)
@[simp] theorem x3_isBytes : isBytes Try.prog 3 = false := nr (by kernel_rfl)
@[simp] theorem x3_alloc (H : List (Nat × (Nat × HB))) (d : Nat) : aalloc Try.prog H d 3 = some (.ptr d (nextVer H d) 0, upd H d (nextVer H d, .row (.ints .i64 [0]))) := nr (by kernel_rfl)
@[simp] theorem x4_u : udesc Try.prog 4 = some .bool := nr (by kernel_rfl)
@[simp] theorem x4_eq (a b : Bool) : eqNil Try.prog 4 (.p (.bool a)) (.p (.bool b)) = some (a == b) := eqNil_bool (by kernel_rfl) a b
@[simp] theorem x4_isSlice : isSlice Try.prog 4 = false := nr (by kernel_rfl)
@[simp] theorem x4_isString : isString Try.prog 4 = false := nr (by kernel_rfl)
@[simp] theorem x4_arrLen : arrLen Try.prog 4 = none := nr (by kernel_rfl)
@[simp] theorem x4_esz : esz Try.prog 4 = none := nr (by kernel_rfl)
@[simp] theorem x4_isAggT : isAggT Try.prog 4 = some false := nr (by kernel_rfl)
@[simp] theorem x4_tsize : tsize Try.prog 4 = some 1 := nr (by kernel_rfl)
@[simp] theorem x4_notInt : notInt Try.prog 4 = true := nr (by kernel_rfl)
@[simp] theorem x4_isBytes : isBytes Try.prog 4 = false := nr (by kernel_rfl)
@[simp] theorem x4_alloc (H : List (Nat × (Nat × HB))) (d : Nat) : aalloc Try.prog H d 4 = some (.ptr d (nextVer H d) 0, upd H d (nextVer H d, .cells [.p (.bool false)])) := nr (by kernel_rfl)
@[simp] theorem x5_u : udesc Try.prog 5 = some (.int .u8) := nr (by kernel_rfl)
@[simp] theorem x5_isSlice : isSlice Try.prog 5 = false := nr (by kernel_rfl)
@[simp] theorem x5_isString : isString Try.prog 5 = false := nr (by kernel_rfl)
@[simp] theorem x5_arrLen : arrLen Try.prog 5 = none := nr (by kernel_rfl)
@[simp] theorem x5_esz : esz Try.prog 5 = none := nr (by kernel_rfl)
@[simp] theorem x5_isAggT : isAggT Try.prog 5 = some false := nr (by kernel_rfl)
@[simp] theorem x5_tsize : tsize Try.prog 5 = some 1 := nr (by kernel_rfl)
@[simp] theorem x5_notInt : notInt Try.prog 5 = false := nr (by kernel_rfl)
@[simp] theorem x5_isBytes : isBytes Try.prog 5 = false := nr (by kernel_rfl)
@[simp] theorem x5_alloc (H : List (Nat × (Nat × HB))) (d : Nat) : aalloc Try.prog H d 5 = some (.ptr d (nextVer H d) 0, upd H d (nextVer H d, .row (.ints .u8 [0]))) := nr (by kernel_rfl)
@[simp] theorem x9_u : udesc Try.prog 9 = some .string := nr (by kernel_rfl)
@[simp] theorem x9_isSlice : isSlice Try.prog 9 = false := nr (by kernel_rfl)
@[simp] theorem x9_isString : isString Try.prog 9 = true := nr (by kernel_rfl)
@[simp] theorem x9_arrLen : arrLen Try.prog 9 = none := nr (by kernel_rfl)
@[simp] theorem x9_esz : esz Try.prog 9 = none := nr (by kernel_rfl)
@[simp] theorem x9_isAggT : isAggT Try.prog 9 = some false := nr (by kernel_rfl)
@[simp] theorem x9_tsize : tsize Try.prog 9 = some 1 := nr (by kernel_rfl)
@[simp] theorem x9_notInt : notInt Try.prog 9 = true := nr (by kernel_rfl)
@[simp] theorem x9_isBytes : isBytes Try.prog 9 = false := nr (by kernel_rfl)
@[simp] theorem x9_alloc (H : List (Nat × (Nat × HB))) (d : Nat) : aalloc Try.prog H d 9 = some (.ptr d (nextVer H d) 0, upd H d (nextVer H d, .cells [.p (.str ByteArray.empty)])) := nr (by kernel_rfl)
@[simp] theorem x12_u : udesc Try.prog 12 = some (.int .u64) := nr (by kernel_rfl)
@[simp] theorem x12_isSlice : isSlice Try.prog 12 = false := nr (by kernel_rfl)
@[simp] theorem x12_isString : isString Try.prog 12 = false := nr (by kernel_rfl)
@[simp] theorem x12_arrLen : arrLen Try.prog 12 = none := nr (by kernel_rfl)
@[simp] theorem x12_esz : esz Try.prog 12 = none := nr (by kernel_rfl)
@[simp] theorem x12_isAggT : isAggT Try.prog 12 = some false := nr (by kernel_rfl)
@[simp] theorem x12_tsize : tsize Try.prog 12 = some 1 := nr (by kernel_rfl)
@[simp] theorem x12_notInt : notInt Try.prog 12 = false := nr (by kernel_rfl)
@[simp] theorem x12_isBytes : isBytes Try.prog 12 = false := nr (by kernel_rfl)
@[simp] theorem x12_alloc (H : List (Nat × (Nat × HB))) (d : Nat) : aalloc Try.prog H d 12 = some (.ptr d (nextVer H d) 0, upd H d (nextVer H d, .row (.ints .u64 [0]))) := nr (by kernel_rfl)
@[simp] theorem x21_u : udesc Try.prog 21 = some (.int .i32) := nr (by kernel_rfl)
@[simp] theorem x21_isSlice : isSlice Try.prog 21 = false := nr (by kernel_rfl)
@[simp] theorem x21_isString : isString Try.prog 21 = false := nr (by kernel_rfl)
@[simp] theorem x21_arrLen : arrLen Try.prog 21 = none := nr (by kernel_rfl)
@[simp] theorem x21_esz : esz Try.prog 21 = none := nr (by kernel_rfl)
@[simp] theorem x21_isAggT : isAggT Try.prog 21 = some false := nr (by kernel_rfl)
@[simp] theorem x21_tsize : tsize Try.prog 21 = some 1 := nr (by kernel_rfl)
@[simp] theorem x21_notInt : notInt Try.prog 21 = false := nr (by kernel_rfl)
@[simp] theorem x21_isBytes : isBytes Try.prog 21 = false := nr (by kernel_rfl)
@[simp] theorem x21_alloc (H : List (Nat × (Nat × HB))) (d : Nat) : aalloc Try.prog H d 21 = some (.ptr d (nextVer H d) 0, upd H d (nextVer H d, .row (.ints .i32 [0]))) := nr (by kernel_rfl)
@[simp] theorem x22_us : udesc Try.prog 22 = some (.slice 5) := nr (by kernel_rfl)
@[simp] theorem x22_eq (x y : V) : eqNil Try.prog 22 x y = eqSl x y := eqNil_sl (e := 5) (by kernel_rfl) x y
@[simp] theorem x22_isSlice : isSlice Try.prog 22 = true := nr (by kernel_rfl)
@[simp] theorem x22_isString : isString Try.prog 22 = false := nr (by kernel_rfl)
@[simp] theorem x22_arrLen : arrLen Try.prog 22 = none := nr (by kernel_rfl)
@[simp] theorem x22_esz : esz Try.prog 22 = some 1 := nr (by kernel_rfl)
@[simp] theorem x22_isAggT : isAggT Try.prog 22 = some false := nr (by kernel_rfl)
@[simp] theorem x22_tsize : tsize Try.prog 22 = some 1 := nr (by kernel_rfl)
@[simp] theorem x22_notInt : notInt Try.prog 22 = true := nr (by kernel_rfl)
@[simp] theorem x22_isBytes : isBytes Try.prog 22 = true := nr (by kernel_rfl)
@[simp] theorem x22_row (T : List (Nat × Nat)) (d len : Nat) (ps : List (Nat × V)) : arowSlice Try.prog T d 22 len ps = if len * 1 ≤ 16777216 then rowFill (bl []) 1 len d T (fillV (fun k => some (k * 1, 1)) [] (zrep len [.p (.int .u8 0)]) ps) else none := arowSlice_eq (P := Try.prog) (t := 22) (s := 1) (zl := [.p (.int .u8 0)]) (e := 5) (b := 1) (z := .int .u8 0) (by kernel_rfl) (by kernel_rfl) (by kernel_rfl) rfl T d len ps
@[simp] theorem x22_own (H : List (Nat × (Nat × HB))) (d len : Nat) (ps : List (Nat × V)) : abuildSlice Try.prog H d 22 len ps = if len * 1 ≤ 16777216 then (fillV (fun k => some (k * 1, 1)) H (zrep len [.p (.int .u8 0)]) ps).map fun l => (.own d (nextVer H d) 0 len len, upd H d (nextVer H d, mkHB l)) else none := abuildSlice_eq (P := Try.prog) (t := 22) (s := 1) (zl := [.p (.int .u8 0)]) (e := 5) (b := 1) (z := .int .u8 0) (by kernel_rfl) (by kernel_rfl) (by kernel_rfl) rfl H d len ps
@[simp] theorem x22_copy (H : List (Nat × (Nat × HB))) (id ver off len cap : Nat) (y : V) : acopy Try.prog H 22 (.own id ver off len cap) y = copyR ver off len 1 H id (look H id) (srcV H 1 y) := acopy_eq (e := 5) (b := 1) (z := .int .u8 0) (by kernel_rfl) H id ver off len cap y
@[simp] theorem x22_make (H : List (Nat × (Nat × HB))) (d : Nat) (k k' : IntKind) (n m : Int) (h0 : 0 ≤ n) (h1 : n ≤ m) (h2 : m ≤ 281474976710656) : amakeSlice Try.prog H d 22 (.p (.int k n)) (.p (.int k' m)) = some (.own d (nextVer H d) 0 n.toNat m.toNat, upd H d (nextVer H d, .row (bl (List.replicate m.toNat 0#8)))) := amake_bytes (e := 5) (by kernel_rfl) H d k k' n m h0 h1 h2
@[simp] theorem x22_elem : elemInfo Try.prog 22 = some (5, 1, 1, .int .u8 0) := nr (by kernel_rfl)
@[simp] theorem x22_alloc (H : List (Nat × (Nat × HB))) (d : Nat) : aalloc Try.prog H d 22 = some (.ptr d (nextVer H d) 0, upd H d (nextVer H d, .cells [.p (.sl (.vals 1 []) true)])) := nr (by kernel_rfl)
@[simp] theorem x23_u : udesc Try.prog 23 = some (.int .u16) := nr (by kernel_rfl)
@[simp] theorem x23_isSlice : isSlice Try.prog 23 = false := nr (by kernel_rfl)
@[simp] theorem x23_isString : isString Try.prog 23 = false := nr (by kernel_rfl)
@[simp] theorem x23_arrLen : arrLen Try.prog 23 = none := nr (by kernel_rfl)
@[simp] theorem x23_esz : esz Try.prog 23 = none := nr (by kernel_rfl)
@[simp] theorem x23_isAggT : isAggT Try.prog 23 = some false := nr (by kernel_rfl)
@[simp] theorem x23_tsize : tsize Try.prog 23 = some 1 := nr (by kernel_rfl)
@[simp] theorem x23_notInt : notInt Try.prog 23 = false := nr (by kernel_rfl)
@[simp] theorem x23_isBytes : isBytes Try.prog 23 = false := nr (by kernel_rfl)
@[simp] theorem x23_alloc (H : List (Nat × (Nat × HB))) (d : Nat) : aalloc Try.prog H d 23 = some (.ptr d (nextVer H d) 0, upd H d (nextVer H d, .row (.ints .u16 [0]))) := nr (by kernel_rfl)
@[simp] theorem x32_us : udesc Try.prog 32 = some (.slice 9) := nr (by kernel_rfl)
@[simp] theorem x32_eq (x y : V) : eqNil Try.prog 32 x y = eqSl x y := eqNil_sl (e := 9) (by kernel_rfl) x y
@[simp] theorem x32_isSlice : isSlice Try.prog 32 = true := nr (by kernel_rfl)
@[simp] theorem x32_isString : isString Try.prog 32 = false := nr (by kernel_rfl)
@[simp] theorem x32_arrLen : arrLen Try.prog 32 = none := nr (by kernel_rfl)
@[simp] theorem x32_esz : esz Try.prog 32 = some 1 := nr (by kernel_rfl)
@[simp] theorem x32_isAggT : isAggT Try.prog 32 = some false := nr (by kernel_rfl)
@[simp] theorem x32_tsize : tsize Try.prog 32 = some 1 := nr (by kernel_rfl)
@[simp] theorem x32_notInt : notInt Try.prog 32 = true := nr (by kernel_rfl)
@[simp] theorem x32_isBytes : isBytes Try.prog 32 = false := nr (by kernel_rfl)
@[simp] theorem x32_row (T : List (Nat × Nat)) (d len : Nat) (ps : List (Nat × V)) : arowSlice Try.prog T d 32 len ps = if len * 1 ≤ 16777216 then rowFill (.strs []) 1 len d T (fillV (fun k => some (k * 1, 1)) [] (zrep len [.p (.str ByteArray.empty)]) ps) else none := arowSlice_eq (P := Try.prog) (t := 32) (s := 1) (zl := [.p (.str ByteArray.empty)]) (e := 9) (b := 16) (z := .string ByteArray.empty) (by kernel_rfl) (by kernel_rfl) (by kernel_rfl) rfl T d len ps
@[simp] theorem x32_own (H : List (Nat × (Nat × HB))) (d len : Nat) (ps : List (Nat × V)) : abuildSlice Try.prog H d 32 len ps = if len * 1 ≤ 16777216 then (fillV (fun k => some (k * 1, 1)) H (zrep len [.p (.str ByteArray.empty)]) ps).map fun l => (.own d (nextVer H d) 0 len len, upd H d (nextVer H d, mkHB l)) else none := abuildSlice_eq (P := Try.prog) (t := 32) (s := 1) (zl := [.p (.str ByteArray.empty)]) (e := 9) (b := 16) (z := .string ByteArray.empty) (by kernel_rfl) (by kernel_rfl) (by kernel_rfl) rfl H d len ps
@[simp] theorem x32_copy (H : List (Nat × (Nat × HB))) (id ver off len cap : Nat) (y : V) : acopy Try.prog H 32 (.own id ver off len cap) y = copyR ver off len 1 H id (look H id) (srcV H 1 y) := acopy_eq (e := 9) (b := 16) (z := .string ByteArray.empty) (by kernel_rfl) H id ver off len cap y
@[simp] theorem x32_elem : elemInfo Try.prog 32 = some (9, 1, 16, .string ByteArray.empty) := nr (by kernel_rfl)
@[simp] theorem x32_alloc (H : List (Nat × (Nat × HB))) (d : Nat) : aalloc Try.prog H d 32 = some (.ptr d (nextVer H d) 0, upd H d (nextVer H d, .cells [.p (.sl (.vals 1 []) true)])) := nr (by kernel_rfl)
@[simp] theorem x35_us : udesc Try.prog 35 = some (.slice 22) := nr (by kernel_rfl)
@[simp] theorem x35_eq (x y : V) : eqNil Try.prog 35 x y = eqSl x y := eqNil_sl (e := 22) (by kernel_rfl) x y
@[simp] theorem x35_isSlice : isSlice Try.prog 35 = true := nr (by kernel_rfl)
@[simp] theorem x35_isString : isString Try.prog 35 = false := nr (by kernel_rfl)
@[simp] theorem x35_arrLen : arrLen Try.prog 35 = none := nr (by kernel_rfl)
@[simp] theorem x35_esz : esz Try.prog 35 = some 1 := nr (by kernel_rfl)
@[simp] theorem x35_isAggT : isAggT Try.prog 35 = some false := nr (by kernel_rfl)
@[simp] theorem x35_tsize : tsize Try.prog 35 = some 1 := nr (by kernel_rfl)
@[simp] theorem x35_notInt : notInt Try.prog 35 = true := nr (by kernel_rfl)
@[simp] theorem x35_isBytes : isBytes Try.prog 35 = false := nr (by kernel_rfl)
@[simp] theorem x35_row (T : List (Nat × Nat)) (d len : Nat) (ps : List (Nat × V)) : arowSlice Try.prog T d 35 len ps = if len * 1 ≤ 16777216 then rowFill (.vals 1 []) 1 len d T (fillV (fun k => some (k * 1, 1)) [] (zrep len [.p (.sl (.vals 1 []) true)]) ps) else none := arowSlice_eq (P := Try.prog) (t := 35) (s := 1) (zl := [.p (.sl (.vals 1 []) true)]) (e := 22) (b := 24) (z := .slice none 0 0) (by kernel_rfl) (by kernel_rfl) (by kernel_rfl) rfl T d len ps
@[simp] theorem x35_own (H : List (Nat × (Nat × HB))) (d len : Nat) (ps : List (Nat × V)) : abuildSlice Try.prog H d 35 len ps = if len * 1 ≤ 16777216 then (fillV (fun k => some (k * 1, 1)) H (zrep len [.p (.sl (.vals 1 []) true)]) ps).map fun l => (.own d (nextVer H d) 0 len len, upd H d (nextVer H d, mkHB l)) else none := abuildSlice_eq (P := Try.prog) (t := 35) (s := 1) (zl := [.p (.sl (.vals 1 []) true)]) (e := 22) (b := 24) (z := .slice none 0 0) (by kernel_rfl) (by kernel_rfl) (by kernel_rfl) rfl H d len ps
@[simp] theorem x35_copy (H : List (Nat × (Nat × HB))) (id ver off len cap : Nat) (y : V) : acopy Try.prog H 35 (.own id ver off len cap) y = copyR ver off len 1 H id (look H id) (srcV H 1 y) := acopy_eq (e := 22) (b := 24) (z := .slice none 0 0) (by kernel_rfl) H id ver off len cap y
@[simp] theorem x35_elem : elemInfo Try.prog 35 = some (22, 1, 24, .slice none 0 0) := nr (by kernel_rfl)
@[simp] theorem x35_alloc (H : List (Nat × (Nat × HB))) (d : Nat) : aalloc Try.prog H d 35 = some (.ptr d (nextVer H d) 0, upd H d (nextVer H d, .cells [.p (.sl (.vals 1 []) true)])) := nr (by kernel_rfl)
@[simp] theorem x36_up : udesc Try.prog 36 = some (.pointer 38) := nr (by kernel_rfl)
@[simp] theorem x36_eq (x y : V) : eqNil Try.prog 36 x y = eqPt x y := eqNil_pt (e := 38) (by kernel_rfl) x y
@[simp] theorem x36_isSlice : isSlice Try.prog 36 = false := nr (by kernel_rfl)
@[simp] theorem x36_isString : isString Try.prog 36 = false := nr (by kernel_rfl)
@[simp] theorem x36_arrLen : arrLen Try.prog 36 = none := nr (by kernel_rfl)
@[simp] theorem x36_esz : esz Try.prog 36 = none := nr (by kernel_rfl)
@[simp] theorem x36_isAggT : isAggT Try.prog 36 = some false := nr (by kernel_rfl)
@[simp] theorem x36_tsize : tsize Try.prog 36 = some 1 := nr (by kernel_rfl)
@[simp] theorem x36_notInt : notInt Try.prog 36 = true := nr (by kernel_rfl)
@[simp] theorem x36_isBytes : isBytes Try.prog 36 = false := nr (by kernel_rfl)
@[simp] theorem x36_alloc (H : List (Nat × (Nat × HB))) (d : Nat) : aalloc Try.prog H d 36 = some (.ptr d (nextVer H d) 0, upd H d (nextVer H d, .cells [.p .ptr0])) := nr (by kernel_rfl)
@[simp] theorem x37_isSlice : isSlice Try.prog 37 = false := nr (by kernel_rfl)
@[simp] theorem x37_isString : isString Try.prog 37 = false := nr (by kernel_rfl)
@[simp] theorem x37_arrLen : arrLen Try.prog 37 = none := nr (by kernel_rfl)
@[simp] theorem x37_esz : esz Try.prog 37 = none := nr (by kernel_rfl)
@[simp] theorem x37_isAggT : isAggT Try.prog 37 = some true := nr (by kernel_rfl)
@[simp] theorem x37_tsize : tsize Try.prog 37 = some 2 := nr (by kernel_rfl)
@[simp] theorem x37_notInt : notInt Try.prog 37 = true := nr (by kernel_rfl)
@[simp] theorem x37_isBytes : isBytes Try.prog 37 = false := nr (by kernel_rfl)
@[simp] theorem x37_alloc (H : List (Nat × (Nat × HB))) (d : Nat) : aalloc Try.prog H d 37 = some (.ptr d (nextVer H d) 0, upd H d (nextVer H d, .cells [.p .ptr0, .p (.sl (.vals 1 []) true)])) := nr (by kernel_rfl)
@[simp] theorem x37_build (H : List (Nat × (Nat × HB))) (ps : List (Nat × V)) : abuild Try.prog H 37 ps = (fillV (fun k => lookN [(0, 1), (1, 1)] k) H [.p .ptr0, .p (.sl (.vals 1 []) true)] ps).map mkAgg := nr (by kernel_rfl)
@[simp] theorem x37_f0 (x : V) : afield Try.prog 37 x 0 = fieldV false 0 1 x := nr (by kernel_rfl)
@[simp] theorem x37_fa0 (id ver off : Nat) : afieldAddr Try.prog 37 (.ptr id ver off) 0 = some (.ptr id ver (off + 0)) := nr (by kernel_rfl)
@[simp] theorem x37_fe0 (r : Row PV) (i j : Nat) : afieldAddr Try.prog 37 (.p (.eptr r i j)) 0 = some (.p (.eptr r i (j + 0))) := nr (by kernel_rfl)
@[simp] theorem x37_f1 (x : V) : afield Try.prog 37 x 1 = fieldV false 1 1 x := nr (by kernel_rfl)
@[simp] theorem x37_fa1 (id ver off : Nat) : afieldAddr Try.prog 37 (.ptr id ver off) 1 = some (.ptr id ver (off + 1)) := nr (by kernel_rfl)
@[simp] theorem x37_fe1 (r : Row PV) (i j : Nat) : afieldAddr Try.prog 37 (.p (.eptr r i j)) 1 = some (.p (.eptr r i (j + 1))) := nr (by kernel_rfl)
@[simp] theorem x38_isSlice : isSlice Try.prog 38 = false := nr (by kernel_rfl)
@[simp] theorem x38_isString : isString Try.prog 38 = false := nr (by kernel_rfl)
@[simp] theorem x38_arrLen : arrLen Try.prog 38 = none := nr (by kernel_rfl)
@[simp] theorem x38_esz : esz Try.prog 38 = none := nr (by kernel_rfl)
@[simp] theorem x38_isAggT : isAggT Try.prog 38 = some true := nr (by kernel_rfl)
@[simp] theorem x38_tsize : tsize Try.prog 38 = some 2 := nr (by kernel_rfl)
@[simp] theorem x38_notInt : notInt Try.prog 38 = true := nr (by kernel_rfl)
@[simp] theorem x38_isBytes : isBytes Try.prog 38 = false := nr (by kernel_rfl)
@[simp] theorem x38_alloc (H : List (Nat × (Nat × HB))) (d : Nat) : aalloc Try.prog H d 38 = some (.ptr d (nextVer H d) 0, upd H d (nextVer H d, .cells [.adr d (nextVer H d) 0 38 2, .p (.sl (.vals 1 []) true)])) := nr (by kernel_rfl)
@[simp] theorem x38_build (H : List (Nat × (Nat × HB))) (ps : List (Nat × V)) : abuild Try.prog H 38 ps = (fillV (fun k => lookN [(0, 1), (1, 1)] k) H [.p .ptr0, .p (.sl (.vals 1 []) true)] ps).map mkAgg := nr (by kernel_rfl)
@[simp] theorem x38_f0 (x : V) : afield Try.prog 38 x 0 = fieldV false 0 1 x := nr (by kernel_rfl)
@[simp] theorem x38_fa0 (id ver off : Nat) : afieldAddr Try.prog 38 (.ptr id ver off) 0 = some (.ptr id ver (off + 0)) := nr (by kernel_rfl)
@[simp] theorem x38_fe0 (r : Row PV) (i j : Nat) : afieldAddr Try.prog 38 (.p (.eptr r i j)) 0 = some (.p (.eptr r i (j + 0))) := nr (by kernel_rfl)
@[simp] theorem x38_f1 (x : V) : afield Try.prog 38 x 1 = fieldV false 1 1 x := nr (by kernel_rfl)
@[simp] theorem x38_fa1 (id ver off : Nat) : afieldAddr Try.prog 38 (.ptr id ver off) 1 = some (.ptr id ver (off + 1)) := nr (by kernel_rfl)
@[simp] theorem x38_fe1 (r : Row PV) (i j : Nat) : afieldAddr Try.prog 38 (.p (.eptr r i j)) 1 = some (.p (.eptr r i (j + 1))) := nr (by kernel_rfl)
@[simp] theorem x39_u : udesc Try.prog 39 = some (.int .u32) := nr (by kernel_rfl)
@[simp] theorem x39_isSlice : isSlice Try.prog 39 = false := nr (by kernel_rfl)
@[simp] theorem x39_isString : isString Try.prog 39 = false := nr (by kernel_rfl)
@[simp] theorem x39_arrLen : arrLen Try.prog 39 = none := nr (by kernel_rfl)
@[simp] theorem x39_esz : esz Try.prog 39 = none := nr (by kernel_rfl)
@[simp] theorem x39_isAggT : isAggT Try.prog 39 = some false := nr (by kernel_rfl)
@[simp] theorem x39_tsize : tsize Try.prog 39 = some 1 := nr (by kernel_rfl)
@[simp] theorem x39_notInt : notInt Try.prog 39 = false := nr (by kernel_rfl)
@[simp] theorem x39_isBytes : isBytes Try.prog 39 = false := nr (by kernel_rfl)
@[simp] theorem x39_alloc (H : List (Nat × (Nat × HB))) (d : Nat) : aalloc Try.prog H d 39 = some (.ptr d (nextVer H d) 0, upd H d (nextVer H d, .row (.ints .u32 [0]))) := nr (by kernel_rfl)
@[simp] theorem x40_u : udesc Try.prog 40 = some (.int .u64) := nr (by kernel_rfl)
@[simp] theorem x40_isSlice : isSlice Try.prog 40 = false := nr (by kernel_rfl)
@[simp] theorem x40_isString : isString Try.prog 40 = false := nr (by kernel_rfl)
@[simp] theorem x40_arrLen : arrLen Try.prog 40 = none := nr (by kernel_rfl)
@[simp] theorem x40_esz : esz Try.prog 40 = none := nr (by kernel_rfl)
@[simp] theorem x40_isAggT : isAggT Try.prog 40 = some false := nr (by kernel_rfl)
@[simp] theorem x40_tsize : tsize Try.prog 40 = some 1 := nr (by kernel_rfl)
@[simp] theorem x40_notInt : notInt Try.prog 40 = false := nr (by kernel_rfl)
@[simp] theorem x40_isBytes : isBytes Try.prog 40 = false := nr (by kernel_rfl)
@[simp] theorem x40_alloc (H : List (Nat × (Nat × HB))) (d : Nat) : aalloc Try.prog H d 40 = some (.ptr d (nextVer H d) 0, upd H d (nextVer H d, .row (.ints .u64 [0]))) := nr (by kernel_rfl)
@[simp] theorem x48_up : udesc Try.prog 48 = some (.pointer 5) := nr (by kernel_rfl)
@[simp] theorem x48_eq (x y : V) : eqNil Try.prog 48 x y = eqPt x y := eqNil_pt (e := 5) (by kernel_rfl) x y
@[simp] theorem x48_isSlice : isSlice Try.prog 48 = false := nr (by kernel_rfl)
@[simp] theorem x48_isString : isString Try.prog 48 = false := nr (by kernel_rfl)
@[simp] theorem x48_arrLen : arrLen Try.prog 48 = none := nr (by kernel_rfl)
@[simp] theorem x48_esz : esz Try.prog 48 = none := nr (by kernel_rfl)
@[simp] theorem x48_isAggT : isAggT Try.prog 48 = some false := nr (by kernel_rfl)
@[simp] theorem x48_tsize : tsize Try.prog 48 = some 1 := nr (by kernel_rfl)
@[simp] theorem x48_notInt : notInt Try.prog 48 = true := nr (by kernel_rfl)
@[simp] theorem x48_isBytes : isBytes Try.prog 48 = false := nr (by kernel_rfl)
@[simp] theorem x48_alloc (H : List (Nat × (Nat × HB))) (d : Nat) : aalloc Try.prog H d 48 = some (.ptr d (nextVer H d) 0, upd H d (nextVer H d, .cells [.p .ptr0])) := nr (by kernel_rfl)
theorem mixed : Try.prog.follows .mixedOrders = true := by kernel_rfl
end Go.Av.Base
end

section
namespace Go.Av.Base
open Go Go.Av Go.Proofs
/-- A builder's methods write; nothing else does. -/
instance : Tables := ⟨fun _ => none, fun f => if f = 14 then 2 else if f = 15 then 2 else if f = 20 then 2 else 0⟩
end Go.Av.Base
end

section
set_option linter.unusedSimpArgs false
set_option linter.unusedVariables false
open Go Go.Av Go.Proofs
namespace Go.Av.Base
theorem eqIn_same {P : Program} {t e n : TypeId} (hu : P.underlying t = some (.pointer e)) (hs : ∀ w, (Go.sizeOf e).run P w = .ok (n + 1) w) (d : Nat) (a : Addr) (w : World) :
    (Op.equalIn (d + 1) t (.pointer (some a)) (.pointer (some a))).run P w = .ok true w := by
  simp [Op.equalIn, run_underlying hu, hs, run_sameAddr_same]
theorem cc_used (w : World) (b : Nat) (h : w.cell? ⟨b, 0, none⟩ = some (.pointer (some ⟨b, 0, none⟩))) :
    Calls Try.prog 20 #[.pointer (some ⟨b, 0, none⟩)] w fun x w' => x = .returned (.tuple #[]) ∧ w' = w := by
  have t36 := Try.underlying36; have a36 := fun w => run_isAgg (P := Try.prog) (t := 36) (b := false) (by kernel_rfl) w; have z36 := fun w => tsize_run (P := Try.prog) (t := 36) (n := 1) (by kernel_rfl) w; have u36 := run_underlying t36
  have t38 := Try.underlying38; have a38 := fun w => run_isAgg (P := Try.prog) (t := 38) (b := true) (by kernel_rfl) w; have z38 := fun w => tsize_run (P := Try.prog) (t := 38) (n := 2) (by kernel_rfl) w; have u38 := run_underlying t38
  have t50 := Try.underlying50; have a50 := fun w => run_isAgg (P := Try.prog) (t := 50) (b := false) (by kernel_rfl) w; have z50 := fun w => tsize_run (P := Try.prog) (t := 50) (n := 1) (by kernel_rfl) w; have u50 := run_underlying t50
  have t4 := Try.underlying4; have a4 := fun w => run_isAgg (P := Try.prog) (t := 4) (b := false) (by kernel_rfl) w; have z4 := fun w => tsize_run (P := Try.prog) (t := 4) (n := 1) (by kernel_rfl) w; have u4 := run_underlying t4
  have hq : (binOp .neq 36 (.pointer (some ⟨b, 0, none⟩)) (.pointer (some ⟨b, 0, none⟩))).run Try.prog w = .ok (.bool false) w := by
    have : (Op.equal 36 (.pointer (some ⟨b, 0, none⟩)) (.pointer (some ⟨b, 0, none⟩))).run Try.prog w = .ok true w := eqIn_same (n := 1) t36 z38 9999 _ w
    simp [binOp, this]
  go_enter Try.func20, Try.ntmps20
  go_wp2
  go_end0
  exact ⟨rfl, rfl⟩
theorem cc_fresh (w : World) (b : Nat) (h0 : w.cell? ⟨b, 0, none⟩ = some (.pointer none)) (hsh : w.shape? b = some (38, 2)) (hfz : w.frozen? ⟨b, 0, none⟩ = false) :
    Calls Try.prog 20 #[.pointer (some ⟨b, 0, none⟩)] w fun x w' => x = .returned (.tuple #[]) ∧ w' = w.setCell ⟨b, 0, none⟩ (.pointer (some ⟨b, 0, none⟩)) := by
  obtain ⟨j, hj, hjs⟩ := Option.map_eq_some_iff.1 (show (Try.prog.info? 38).map (·.size) = some 2 by kernel_rfl)
  have t36 := Try.underlying36; have a36 := fun w => run_isAgg (P := Try.prog) (t := 36) (b := false) (by kernel_rfl) w; have z36 := fun w => tsize_run (P := Try.prog) (t := 36) (n := 1) (by kernel_rfl) w; have u36 := run_underlying t36
  have t38 := Try.underlying38; have a38 := fun w => run_isAgg (P := Try.prog) (t := 38) (b := true) (by kernel_rfl) w; have z38 := fun w => tsize_run (P := Try.prog) (t := 38) (n := 2) (by kernel_rfl) w; have u38 := run_underlying t38
  have t50 := Try.underlying50; have a50 := fun w => run_isAgg (P := Try.prog) (t := 50) (b := false) (by kernel_rfl) w; have z50 := fun w => tsize_run (P := Try.prog) (t := 50) (n := 1) (by kernel_rfl) w; have u50 := run_underlying t50
  have t4 := Try.underlying4; have a4 := fun w => run_isAgg (P := Try.prog) (t := 4) (b := false) (by kernel_rfl) w; have z4 := fun w => tsize_run (P := Try.prog) (t := 4) (n := 1) (by kernel_rfl) w; have u4 := run_underlying t4
  go_enter Try.func20, Try.ntmps20
  go_wp2
  rw [Lib.run_to_unsafe w ⟨b, 0, none⟩ t36 t50 hj (by rw [hjs]; decide) hsh (Nat.zero_lt_succ 1)]
  simp only [Result.andThen]
  rw [Oper.upon_value]
  go_wp2
  rw [run_callFunc_extern Try.func23 (by kernel_rfl) (by kernel_rfl) (by kernel_rfl) (e := Extern.AbiNoEscape.same) (by kernel_rfl)]
  rw [Lib.run_noEscape]
  simp only [Result.andThen]
  rw [Oper.upon_value]
  go_wp2
  rw [Lib.run_from_unsafe w ⟨b, 0, none⟩ t50 t36 hj hsh (by kernel_rfl)]
  simp only [Result.andThen]
  rw [Oper.upon_value]
  go_wp2
  go_end0
  exact ⟨rfl, rfl⟩
theorem copy_ok : PrimOk Try.prog 20 (copyPrim 38 2 0) := copyPrim_ok (fun args w => Try.call20 args w) cc_fresh cc_used
theorem st_full (w : World) (b g cap : Nat) (l : List UInt8) (cur : Array Value) (fz : Nat × Nat) (h0 : l ≠ []) (c1 : w.cell? ⟨b, 0 + 1, none⟩ = some (.slice (some ⟨g, 0, none⟩) l.length cap)) (hcap : cap ≠ 0)
    (hg : w.heap[g]? = some (.cells cur 5 fz)) (hcs : l.length ≤ cur.size) (hbig : l.length ≤ 140737488355328) (hcell : ∀ j x, l[j]? = some x → w.cell? ⟨g, j, none⟩ = some (.int .u8 x.toNat)) :
    Calls Try.prog 15 #[.pointer (some ⟨b, 0, none⟩)] w fun x w' => x = .returned (.string ⟨l.toArray⟩) ∧ w' = w.drew.freeze ⟨g, 0, none⟩ l.length := by
  have hSD : (Builtin.unsafeSliceData_ #[22] 48 #[.slice (some ⟨g, 0, none⟩) l.length cap]).run Try.prog w.drew = .ok (.pointer (some ⟨g, 0, none⟩)) w.drew :=
    Lib.run_unsafeSliceData_row _ _ _ _ _ _ hcap
  have c1' : w.drew.cell? ⟨b, 1, none⟩ = some (.slice (some ⟨g, 0, none⟩) l.length cap) := c1
  have t36 := Try.underlying36; have a36 := fun w => run_isAgg (P := Try.prog) (t := 36) (b := false) (by kernel_rfl) w; have z36 := fun w => tsize_run (P := Try.prog) (t := 36) (n := 1) (by kernel_rfl) w; have u36 := run_underlying t36
  have t38 := Try.underlying38; have a38 := fun w => run_isAgg (P := Try.prog) (t := 38) (b := true) (by kernel_rfl) w; have z38 := fun w => tsize_run (P := Try.prog) (t := 38) (n := 2) (by kernel_rfl) w; have u38 := run_underlying t38
  have t22 := Try.underlying22; have a22 := fun w => run_isAgg (P := Try.prog) (t := 22) (b := false) (by kernel_rfl) w; have z22 := fun w => tsize_run (P := Try.prog) (t := 22) (n := 1) (by kernel_rfl) w; have u22 := run_underlying t22
  have t48 := Try.underlying48; have a48 := fun w => run_isAgg (P := Try.prog) (t := 48) (b := false) (by kernel_rfl) w; have z48 := fun w => tsize_run (P := Try.prog) (t := 48) (n := 1) (by kernel_rfl) w; have u48 := run_underlying t48
  have t3 := Try.underlying3; have a3 := fun w => run_isAgg (P := Try.prog) (t := 3) (b := false) (by kernel_rfl) w; have z3 := fun w => tsize_run (P := Try.prog) (t := 3) (n := 1) (by kernel_rfl) w; have u3 := run_underlying t3
  have t9 := Try.underlying9; have a9 := fun w => run_isAgg (P := Try.prog) (t := 9) (b := false) (by kernel_rfl) w; have z9 := fun w => tsize_run (P := Try.prog) (t := 9) (n := 1) (by kernel_rfl) w; have u9 := run_underlying t9
  have t5 := Try.underlying5; have a5 := fun w => run_isAgg (P := Try.prog) (t := 5) (b := false) (by kernel_rfl) w; have z5 := fun w => tsize_run (P := Try.prog) (t := 5) (n := 1) (by kernel_rfl) w; have u5 := run_underlying t5
  have hUS : (Builtin.unsafeString_ #[48, 3] 9 #[.pointer (some ⟨g, 0, none⟩), .int .i64 l.length]).run Try.prog w.drew = .ok (.string ⟨l.toArray⟩) (w.drew.freeze ⟨g, 0, none⟩ l.length) := by
    refine Lib.run_unsafeString_row w.drew 48 3 9 5 t48 (by kernel_rfl) g cur.size (by have hg' : w.drew.heap[g]? = some (.cells cur 5 fz) := hg; simp [World.shape?, hg']) l h0 (by omega) (by omega) ?_
    intro j x hx
    have := hcell j x hx
    rw [addr_add, Nat.zero_add]; exact this
  have mixed : Try.prog.follows .mixedOrders = true := by kernel_rfl
  go_enter Try.func15, Try.ntmps15
  go_wp2
  go_region_o
  all_goals (go_wp2; go_ret; exact ⟨rfl, rfl⟩)
theorem st_none (w : World) (b : Nat) (c1 : w.cell? ⟨b, 0 + 1, none⟩ = some (.slice none 0 0)) :
    Calls Try.prog 15 #[.pointer (some ⟨b, 0, none⟩)] w fun x w' => x = .returned (.string ByteArray.empty) ∧ w' = w.drew := by
  have c1' : w.drew.cell? ⟨b, 1, none⟩ = some (.slice none 0 0) := c1
  have t36 := Try.underlying36; have a36 := fun w => run_isAgg (P := Try.prog) (t := 36) (b := false) (by kernel_rfl) w; have z36 := fun w => tsize_run (P := Try.prog) (t := 36) (n := 1) (by kernel_rfl) w; have u36 := run_underlying t36
  have t38 := Try.underlying38; have a38 := fun w => run_isAgg (P := Try.prog) (t := 38) (b := true) (by kernel_rfl) w; have z38 := fun w => tsize_run (P := Try.prog) (t := 38) (n := 2) (by kernel_rfl) w; have u38 := run_underlying t38
  have t22 := Try.underlying22; have a22 := fun w => run_isAgg (P := Try.prog) (t := 22) (b := false) (by kernel_rfl) w; have z22 := fun w => tsize_run (P := Try.prog) (t := 22) (n := 1) (by kernel_rfl) w; have u22 := run_underlying t22
  have t48 := Try.underlying48; have a48 := fun w => run_isAgg (P := Try.prog) (t := 48) (b := false) (by kernel_rfl) w; have z48 := fun w => tsize_run (P := Try.prog) (t := 48) (n := 1) (by kernel_rfl) w; have u48 := run_underlying t48
  have t3 := Try.underlying3; have a3 := fun w => run_isAgg (P := Try.prog) (t := 3) (b := false) (by kernel_rfl) w; have z3 := fun w => tsize_run (P := Try.prog) (t := 3) (n := 1) (by kernel_rfl) w; have u3 := run_underlying t3
  have t9 := Try.underlying9; have a9 := fun w => run_isAgg (P := Try.prog) (t := 9) (b := false) (by kernel_rfl) w; have z9 := fun w => tsize_run (P := Try.prog) (t := 9) (n := 1) (by kernel_rfl) w; have u9 := run_underlying t9
  have t5 := Try.underlying5; have a5 := fun w => run_isAgg (P := Try.prog) (t := 5) (b := false) (by kernel_rfl) w; have z5 := fun w => tsize_run (P := Try.prog) (t := 5) (n := 1) (by kernel_rfl) w; have u5 := run_underlying t5
  have hUS := fun (pt it ty : TypeId) => Lib.run_unsafeString_none (P := Try.prog) (w := w.drew) pt it ty none
  have hSD := fun (ts : Array TypeId) (ty : TypeId) => Lib.run_unsafeSliceData_nil (P := Try.prog) (w := w.drew) ts ty 0 0
  have mixed : Try.prog.follows .mixedOrders = true := by kernel_rfl
  go_enter Try.func15, Try.ntmps15
  go_wp2
  go_region_o
  all_goals (go_wp2; go_ret; exact ⟨rfl, rfl⟩)
theorem str_ok : PrimOk Try.prog 15 (strPrim 5 0) := strPrim_ok (fun args w => Try.call15 args w) st_full st_none
end Go.Av.Base
end

section
set_option linter.unusedSimpArgs false
set_option linter.unusedVariables false
open Go Go.Av Go.Proofs
namespace Go.Av.Base
/-- WriteByte. -/
theorem wb_ct (l : List (BitVec 8)) (nl : Bool) (c : BitVec 8) (hl : l.length ≤ 100000000) :
    FnG Try.prog 14 [.ptr 10000 0 0, .p (.int .u8 (ub c))] [.cells [.adr 10000 0 0 38 2, .brow 5 (bl l) 10000 0 nl]] 1 [.p .iface0] [.cells [.adr 10000 0 0 38 2, .brow 5 (bl (l ++ [c])) 0 0 false]] 1 := by
  refine FnG.of_body Try.func14 rfl ?_
  repeat (first | ((with_reducible refine callK_at 20 ?_); refine callK_b (by decide) (copy_ok) ?_; simp (config := { maxSteps := 1000000 }) (disch := refine Go.Av.hold_ ?_; first | (simp [Go.Av.copyPrim, Go.Av.strPrim, hl, -List.getD_eq_getElem?_getD]; done) | omega | fail) [Go.Av.copyPrim, Go.Av.strPrim, hl, -List.getD_eq_getElem?_getD]; first | refine callK_id ?_ | subst hK_) | ((with_reducible refine AW.regSeqK fun K_ hK_ => ?_); (try simp (config := { maxSteps := 1000000 }) (disch := refine Go.Av.hold_ ?_; first | (simp [hl, -List.getD_eq_getElem?_getD]; done) | omega | fail) [hl, -List.getD_eq_getElem?_getD]); first | (with_reducible refine callK_id ?_) | subst hK_) | ((with_reducible refine AW.regK fun K_ hK_ => ?_); (try simp (config := { maxSteps := 1000000 }) (disch := refine Go.Av.hold_ ?_; first | (simp [hl, -List.getD_eq_getElem?_getD]; done) | omega | fail) [hl, -List.getD_eq_getElem?_getD]); first | (with_reducible refine callK_id ?_) | subst hK_) | ((with_reducible refine AW.drawSeqK ?_ ?_ fun K_ hK_ => ?_); (focus kernel_rfl); (focus kernel_rfl); (try simp (config := { maxSteps := 1000000 }) (disch := refine Go.Av.hold_ ?_; first | (simp [hl, -List.getD_eq_getElem?_getD]; done) | omega | fail) [hl, -List.getD_eq_getElem?_getD]); first | (with_reducible refine callK_id ?_) | subst hK_) | ((with_reducible refine AW.drawK ?_ ?_ fun K_ hK_ => ?_); (focus kernel_rfl); (focus kernel_rfl); (try simp (config := { maxSteps := 1000000 }) (disch := refine Go.Av.hold_ ?_; first | (simp [hl, -List.getD_eq_getElem?_getD]; done) | omega | fail) [hl, -List.getD_eq_getElem?_getD]); first | (with_reducible refine callK_id ?_) | subst hK_) | (with_reducible refine AW.seq ?_) | (with_reducible refine AW.block ?_) | (with_reducible refine AW.skip ?_) | (with_reducible refine AW.ret ?_) | (with_reducible refine AW.exit ?_) | (with_reducible refine AW.scope ?_) | (with_reducible refine scopeQ_normal ?_) | (with_reducible refine scopeQ_ret ?_) | (with_reducible refine scopeQ_exit ?_) | (with_reducible refine thenQ_normal ?_) | (with_reducible refine thenQ_ret ?_) | (with_reducible refine thenQ_exit ?_) | (with_reducible refine blockQ_normal ?_) | (with_reducible refine blockQ_ret ?_) | (with_reducible refine blockQ_exit ?_) | ((with_reducible refine blockQ_out ?_ ?_); (focus decide)) | ((with_reducible refine AW.cond_id ?_); refine AW.condB rfl ?_; (first | (with_reducible refine condB_true ?_) | (with_reducible refine condB_false ?_))) | ((first | (with_reducible refine contG_id ?_) | (with_reducible refine contO_id ?_) | (with_reducible refine contV_id ?_) | (with_reducible refine bindO_id ?_) | (with_reducible refine bindV_id ?_) | (with_reducible refine runE_id ?_)); simp (config := { maxSteps := 1000000 }) (disch := refine Go.Av.hold_ ?_; first | (simp [hl, -List.getD_eq_getElem?_getD]; done) | omega | fail) [hl, -List.getD_eq_getElem?_getD]; try (with_reducible refine callK_id ?_)))
  simp (config := { maxSteps := 1000000 }) (disch := refine Go.Av.hold_ ?_; first | (simp [hl, -List.getD_eq_getElem?_getD]; done) | omega | fail) [hl, -List.getD_eq_getElem?_getD]
end Go.Av.Base
end

section
set_option linter.unusedSimpArgs false
set_option linter.unusedVariables false
open Go Go.Av Go.Proofs
namespace Go.Av.Base
theorem idx_ct (l : List (BitVec 8)) (c : BitVec 8) : Ct Try.prog 25 (([.str (txt l), .int .u8 (ub c)] : List PV).map V.p) [] 0 [.p (.int .i64 (idxI l c))] [] 0 := by
  intro G w vs g
  right
  have hl := g.len
  match vs, hl with
  | [a, b], _ =>
    have h0 := g.args 0 (by simp)
    have h1 := g.args 1 (by simp)
    simp only [List.map_cons, List.map_nil, List.getD_cons_zero, List.getD_cons_succ] at h0 h1
    obtain rfl := h0.str
    obtain rfl := h1.int
    refine ⟨.int .i64 (idxI l c), w, ?_, rfl, G, Ext.refl G w, g.wf, fun i hi => by simp at hi, .p (.int _ _)⟩
    rw [run_callFunc_extern Try.func25 (by kernel_rfl) (by kernel_rfl) (by kernel_rfl) (e := Extern.BytealgIndexByte.indexByte) (by kernel_rfl)]
    show ((Extern.BytealgIndexByte.indexByte #[.string (txt l), .int .u8 (ub c)]).run Try.prog w).andThen _ = _
    rw [Lib.run_indexByteString, idxI_lib]; rfl
theorem indexByte1_ct (l : List (BitVec 8)) (c : BitVec 8) : Fn Try.prog 22 [.str (txt l), .int .u8 (ub c)] [.p (.int .i64 (idxI l c))] := by
  refine Fn.of_body Try.func22 rfl ?_
  repeat (first | ((with_reducible refine AW.regSeqK fun K_ hK_ => ?_); (try simp (config := { maxSteps := 1000000 }) (disch := refine Go.Av.hold_ ?_; first | (simp [-List.getD_eq_getElem?_getD]; done) | omega | fail) [-List.getD_eq_getElem?_getD]); first | (with_reducible refine callK_id ?_) | subst hK_) | ((with_reducible refine AW.regK fun K_ hK_ => ?_); (try simp (config := { maxSteps := 1000000 }) (disch := refine Go.Av.hold_ ?_; first | (simp [-List.getD_eq_getElem?_getD]; done) | omega | fail) [-List.getD_eq_getElem?_getD]); first | (with_reducible refine callK_id ?_) | subst hK_) | ((with_reducible refine AW.drawSeqK ?_ ?_ fun K_ hK_ => ?_); (focus kernel_rfl); (focus kernel_rfl); (try simp (config := { maxSteps := 1000000 }) (disch := refine Go.Av.hold_ ?_; first | (simp [-List.getD_eq_getElem?_getD]; done) | omega | fail) [-List.getD_eq_getElem?_getD]); first | (with_reducible refine callK_id ?_) | subst hK_) | ((with_reducible refine AW.drawK ?_ ?_ fun K_ hK_ => ?_); (focus kernel_rfl); (focus kernel_rfl); (try simp (config := { maxSteps := 1000000 }) (disch := refine Go.Av.hold_ ?_; first | (simp [-List.getD_eq_getElem?_getD]; done) | omega | fail) [-List.getD_eq_getElem?_getD]); first | (with_reducible refine callK_id ?_) | subst hK_) | (with_reducible refine AW.seq ?_) | (with_reducible refine AW.block ?_) | (with_reducible refine AW.skip ?_) | (with_reducible refine AW.ret ?_) | (with_reducible refine AW.exit ?_) | (with_reducible refine AW.scope ?_) | (with_reducible refine scopeQ_normal ?_) | (with_reducible refine scopeQ_ret ?_) | (with_reducible refine scopeQ_exit ?_) | (with_reducible refine thenQ_normal ?_) | (with_reducible refine thenQ_ret ?_) | (with_reducible refine thenQ_exit ?_) | (with_reducible refine blockQ_normal ?_) | (with_reducible refine blockQ_ret ?_) | (with_reducible refine blockQ_exit ?_) | ((with_reducible refine blockQ_out ?_ ?_); (focus decide)) | ((with_reducible refine AW.cond_id ?_); refine AW.condB rfl ?_; (first | (with_reducible refine condB_true ?_) | (with_reducible refine condB_false ?_))) | ((first | (with_reducible refine contG_id ?_) | (with_reducible refine contO_id ?_) | (with_reducible refine contV_id ?_) | (with_reducible refine bindO_id ?_) | (with_reducible refine bindV_id ?_) | (with_reducible refine runE_id ?_)); simp (config := { maxSteps := 1000000 }) (disch := refine Go.Av.hold_ ?_; first | (simp [-List.getD_eq_getElem?_getD]; done) | omega | fail) [-List.getD_eq_getElem?_getD]; try (with_reducible refine callK_id ?_)))
  (refine callK_p ?_; simp (config := { maxSteps := 1000000 }) (disch := refine Go.Av.hold_ ?_; first | (simp [-List.getD_eq_getElem?_getD]; done) | omega | fail) [-List.getD_eq_getElem?_getD]; refine callK1_of (idx_ct l c) ?_; (try simp (config := { maxSteps := 1000000 }) (disch := refine Go.Av.hold_ ?_; first | (simp [-List.getD_eq_getElem?_getD]; done) | omega | fail) [-List.getD_eq_getElem?_getD]); first | refine callK_id ?_ | subst hK_)
  repeat (first | ((with_reducible refine AW.regSeqK fun K_ hK_ => ?_); (try simp (config := { maxSteps := 1000000 }) (disch := refine Go.Av.hold_ ?_; first | (simp [-List.getD_eq_getElem?_getD]; done) | omega | fail) [-List.getD_eq_getElem?_getD]); first | (with_reducible refine callK_id ?_) | subst hK_) | ((with_reducible refine AW.regK fun K_ hK_ => ?_); (try simp (config := { maxSteps := 1000000 }) (disch := refine Go.Av.hold_ ?_; first | (simp [-List.getD_eq_getElem?_getD]; done) | omega | fail) [-List.getD_eq_getElem?_getD]); first | (with_reducible refine callK_id ?_) | subst hK_) | ((with_reducible refine AW.drawSeqK ?_ ?_ fun K_ hK_ => ?_); (focus kernel_rfl); (focus kernel_rfl); (try simp (config := { maxSteps := 1000000 }) (disch := refine Go.Av.hold_ ?_; first | (simp [-List.getD_eq_getElem?_getD]; done) | omega | fail) [-List.getD_eq_getElem?_getD]); first | (with_reducible refine callK_id ?_) | subst hK_) | ((with_reducible refine AW.drawK ?_ ?_ fun K_ hK_ => ?_); (focus kernel_rfl); (focus kernel_rfl); (try simp (config := { maxSteps := 1000000 }) (disch := refine Go.Av.hold_ ?_; first | (simp [-List.getD_eq_getElem?_getD]; done) | omega | fail) [-List.getD_eq_getElem?_getD]); first | (with_reducible refine callK_id ?_) | subst hK_) | (with_reducible refine AW.seq ?_) | (with_reducible refine AW.block ?_) | (with_reducible refine AW.skip ?_) | (with_reducible refine AW.ret ?_) | (with_reducible refine AW.exit ?_) | (with_reducible refine AW.scope ?_) | (with_reducible refine scopeQ_normal ?_) | (with_reducible refine scopeQ_ret ?_) | (with_reducible refine scopeQ_exit ?_) | (with_reducible refine thenQ_normal ?_) | (with_reducible refine thenQ_ret ?_) | (with_reducible refine thenQ_exit ?_) | (with_reducible refine blockQ_normal ?_) | (with_reducible refine blockQ_ret ?_) | (with_reducible refine blockQ_exit ?_) | ((with_reducible refine blockQ_out ?_ ?_); (focus decide)) | ((with_reducible refine AW.cond_id ?_); refine AW.condB rfl ?_; (first | (with_reducible refine condB_true ?_) | (with_reducible refine condB_false ?_))) | ((first | (with_reducible refine contG_id ?_) | (with_reducible refine contO_id ?_) | (with_reducible refine contV_id ?_) | (with_reducible refine bindO_id ?_) | (with_reducible refine bindV_id ?_) | (with_reducible refine runE_id ?_)); simp (config := { maxSteps := 1000000 }) (disch := refine Go.Av.hold_ ?_; first | (simp [-List.getD_eq_getElem?_getD]; done) | omega | fail) [-List.getD_eq_getElem?_getD]; try (with_reducible refine callK_id ?_)))
  simp (config := { maxSteps := 1000000 }) (disch := refine Go.Av.hold_ ?_; first | (simp [-List.getD_eq_getElem?_getD]; done) | omega | fail) [-List.getD_eq_getElem?_getD]
theorem indexByte_ct (l : List (BitVec 8)) (c : BitVec 8) : Fn Try.prog 17 [.str (txt l), .int .u8 (ub c)] [.p (.int .i64 (idxI l c))] := by
  refine Fn.of_body Try.func17 rfl ?_
  repeat (first | ((with_reducible refine AW.regSeqK fun K_ hK_ => ?_); (try simp (config := { maxSteps := 1000000 }) (disch := refine Go.Av.hold_ ?_; first | (simp [-List.getD_eq_getElem?_getD]; done) | omega | fail) [-List.getD_eq_getElem?_getD]); first | (with_reducible refine callK_id ?_) | subst hK_) | ((with_reducible refine AW.regK fun K_ hK_ => ?_); (try simp (config := { maxSteps := 1000000 }) (disch := refine Go.Av.hold_ ?_; first | (simp [-List.getD_eq_getElem?_getD]; done) | omega | fail) [-List.getD_eq_getElem?_getD]); first | (with_reducible refine callK_id ?_) | subst hK_) | ((with_reducible refine AW.drawSeqK ?_ ?_ fun K_ hK_ => ?_); (focus kernel_rfl); (focus kernel_rfl); (try simp (config := { maxSteps := 1000000 }) (disch := refine Go.Av.hold_ ?_; first | (simp [-List.getD_eq_getElem?_getD]; done) | omega | fail) [-List.getD_eq_getElem?_getD]); first | (with_reducible refine callK_id ?_) | subst hK_) | ((with_reducible refine AW.drawK ?_ ?_ fun K_ hK_ => ?_); (focus kernel_rfl); (focus kernel_rfl); (try simp (config := { maxSteps := 1000000 }) (disch := refine Go.Av.hold_ ?_; first | (simp [-List.getD_eq_getElem?_getD]; done) | omega | fail) [-List.getD_eq_getElem?_getD]); first | (with_reducible refine callK_id ?_) | subst hK_) | (with_reducible refine AW.seq ?_) | (with_reducible refine AW.block ?_) | (with_reducible refine AW.skip ?_) | (with_reducible refine AW.ret ?_) | (with_reducible refine AW.exit ?_) | (with_reducible refine AW.scope ?_) | (with_reducible refine scopeQ_normal ?_) | (with_reducible refine scopeQ_ret ?_) | (with_reducible refine scopeQ_exit ?_) | (with_reducible refine thenQ_normal ?_) | (with_reducible refine thenQ_ret ?_) | (with_reducible refine thenQ_exit ?_) | (with_reducible refine blockQ_normal ?_) | (with_reducible refine blockQ_ret ?_) | (with_reducible refine blockQ_exit ?_) | ((with_reducible refine blockQ_out ?_ ?_); (focus decide)) | ((with_reducible refine AW.cond_id ?_); refine AW.condB rfl ?_; (first | (with_reducible refine condB_true ?_) | (with_reducible refine condB_false ?_))) | ((first | (with_reducible refine contG_id ?_) | (with_reducible refine contO_id ?_) | (with_reducible refine contV_id ?_) | (with_reducible refine bindO_id ?_) | (with_reducible refine bindV_id ?_) | (with_reducible refine runE_id ?_)); simp (config := { maxSteps := 1000000 }) (disch := refine Go.Av.hold_ ?_; first | (simp [-List.getD_eq_getElem?_getD]; done) | omega | fail) [-List.getD_eq_getElem?_getD]; try (with_reducible refine callK_id ?_)))
  (refine callK_p ?_; simp (config := { maxSteps := 1000000 }) (disch := refine Go.Av.hold_ ?_; first | (simp [-List.getD_eq_getElem?_getD]; done) | omega | fail) [-List.getD_eq_getElem?_getD]; refine callK1_of (Fn.ct (indexByte1_ct l c) Try.call22) ?_; (try simp (config := { maxSteps := 1000000 }) (disch := refine Go.Av.hold_ ?_; first | (simp [-List.getD_eq_getElem?_getD]; done) | omega | fail) [-List.getD_eq_getElem?_getD]); first | refine callK_id ?_ | subst hK_)
  repeat (first | ((with_reducible refine AW.regSeqK fun K_ hK_ => ?_); (try simp (config := { maxSteps := 1000000 }) (disch := refine Go.Av.hold_ ?_; first | (simp [-List.getD_eq_getElem?_getD]; done) | omega | fail) [-List.getD_eq_getElem?_getD]); first | (with_reducible refine callK_id ?_) | subst hK_) | ((with_reducible refine AW.regK fun K_ hK_ => ?_); (try simp (config := { maxSteps := 1000000 }) (disch := refine Go.Av.hold_ ?_; first | (simp [-List.getD_eq_getElem?_getD]; done) | omega | fail) [-List.getD_eq_getElem?_getD]); first | (with_reducible refine callK_id ?_) | subst hK_) | ((with_reducible refine AW.drawSeqK ?_ ?_ fun K_ hK_ => ?_); (focus kernel_rfl); (focus kernel_rfl); (try simp (config := { maxSteps := 1000000 }) (disch := refine Go.Av.hold_ ?_; first | (simp [-List.getD_eq_getElem?_getD]; done) | omega | fail) [-List.getD_eq_getElem?_getD]); first | (with_reducible refine callK_id ?_) | subst hK_) | ((with_reducible refine AW.drawK ?_ ?_ fun K_ hK_ => ?_); (focus kernel_rfl); (focus kernel_rfl); (try simp (config := { maxSteps := 1000000 }) (disch := refine Go.Av.hold_ ?_; first | (simp [-List.getD_eq_getElem?_getD]; done) | omega | fail) [-List.getD_eq_getElem?_getD]); first | (with_reducible refine callK_id ?_) | subst hK_) | (with_reducible refine AW.seq ?_) | (with_reducible refine AW.block ?_) | (with_reducible refine AW.skip ?_) | (with_reducible refine AW.ret ?_) | (with_reducible refine AW.exit ?_) | (with_reducible refine AW.scope ?_) | (with_reducible refine scopeQ_normal ?_) | (with_reducible refine scopeQ_ret ?_) | (with_reducible refine scopeQ_exit ?_) | (with_reducible refine thenQ_normal ?_) | (with_reducible refine thenQ_ret ?_) | (with_reducible refine thenQ_exit ?_) | (with_reducible refine blockQ_normal ?_) | (with_reducible refine blockQ_ret ?_) | (with_reducible refine blockQ_exit ?_) | ((with_reducible refine blockQ_out ?_ ?_); (focus decide)) | ((with_reducible refine AW.cond_id ?_); refine AW.condB rfl ?_; (first | (with_reducible refine condB_true ?_) | (with_reducible refine condB_false ?_))) | ((first | (with_reducible refine contG_id ?_) | (with_reducible refine contO_id ?_) | (with_reducible refine contV_id ?_) | (with_reducible refine bindO_id ?_) | (with_reducible refine bindV_id ?_) | (with_reducible refine runE_id ?_)); simp (config := { maxSteps := 1000000 }) (disch := refine Go.Av.hold_ ?_; first | (simp [-List.getD_eq_getElem?_getD]; done) | omega | fail) [-List.getD_eq_getElem?_getD]; try (with_reducible refine callK_id ?_)))
  simp (config := { maxSteps := 1000000 }) (disch := refine Go.Av.hold_ ?_; first | (simp [-List.getD_eq_getElem?_getD]; done) | omega | fail) [-List.getD_eq_getElem?_getD]
/-! ## blanks -/
def blkL : List (BitVec 8) := [32#8, 9#8, 10#8, 13#8]
theorem blk_txt : ByteArray.mk #[32, 9, 10, 13] = txt blkL := rfl
def blankB (c : BitVec 8) : Bool := blkL.contains c
theorem idx_mem (l : List (BitVec 8)) (c : BitVec 8) : (decide (0 ≤ idxI l c)) = l.contains c := by
  rcases idxI_spec l c with ⟨h, hm⟩ | ⟨k, h, hk, hg, _⟩
  · rw [h]; simp; exact hm
  · rw [h]
    have : c ∈ l := by
      rw [← hg, List.getD_eq_getElem?_getD, List.getElem?_eq_getElem hk]; exact List.getElem_mem hk
    simp [this]
theorem valid_ct (r : Int) (h0 : 0 ≤ r) (h : r < 55296) : Fn Try.prog 26 [.int .i32 r] [.p (.bool true)] := by
  refine Fn.of_body Try.func26 rfl ?_
  (first | have f1 : (0 ≤ r) = True := eq_true (by omega) | have f1 : (0 ≤ r) = False := eq_false (by omega)); (first | have f2 : (r ≤ 1114111) = True := eq_true (by omega) | have f2 : (r ≤ 1114111) = False := eq_false (by omega)); (first | have f3 : (r < 55296) = True := eq_true (by omega) | have f3 : (r < 55296) = False := eq_false (by omega)); (first | have f4 : (57343 < r) = True := eq_true (by omega) | have f4 : (57343 < r) = False := eq_false (by omega))
  repeat (first | ((with_reducible refine AW.regSeqK fun K_ hK_ => ?_); (try simp (config := { maxSteps := 1000000 }) (disch := refine Go.Av.hold_ ?_; first | (simp [f1, f2, f3, f4, -List.getD_eq_getElem?_getD]; done) | omega | fail) [f1, f2, f3, f4, -List.getD_eq_getElem?_getD]); first | (with_reducible refine callK_id ?_) | subst hK_) | ((with_reducible refine AW.regK fun K_ hK_ => ?_); (try simp (config := { maxSteps := 1000000 }) (disch := refine Go.Av.hold_ ?_; first | (simp [f1, f2, f3, f4, -List.getD_eq_getElem?_getD]; done) | omega | fail) [f1, f2, f3, f4, -List.getD_eq_getElem?_getD]); first | (with_reducible refine callK_id ?_) | subst hK_) | ((with_reducible refine AW.drawSeqK ?_ ?_ fun K_ hK_ => ?_); (focus kernel_rfl); (focus kernel_rfl); (try simp (config := { maxSteps := 1000000 }) (disch := refine Go.Av.hold_ ?_; first | (simp [f1, f2, f3, f4, -List.getD_eq_getElem?_getD]; done) | omega | fail) [f1, f2, f3, f4, -List.getD_eq_getElem?_getD]); first | (with_reducible refine callK_id ?_) | subst hK_) | ((with_reducible refine AW.drawK ?_ ?_ fun K_ hK_ => ?_); (focus kernel_rfl); (focus kernel_rfl); (try simp (config := { maxSteps := 1000000 }) (disch := refine Go.Av.hold_ ?_; first | (simp [f1, f2, f3, f4, -List.getD_eq_getElem?_getD]; done) | omega | fail) [f1, f2, f3, f4, -List.getD_eq_getElem?_getD]); first | (with_reducible refine callK_id ?_) | subst hK_) | (with_reducible refine AW.seq ?_) | (with_reducible refine AW.block ?_) | (with_reducible refine AW.skip ?_) | (with_reducible refine AW.ret ?_) | (with_reducible refine AW.exit ?_) | (with_reducible refine AW.scope ?_) | (with_reducible refine scopeQ_normal ?_) | (with_reducible refine scopeQ_ret ?_) | (with_reducible refine scopeQ_exit ?_) | (with_reducible refine thenQ_normal ?_) | (with_reducible refine thenQ_ret ?_) | (with_reducible refine thenQ_exit ?_) | (with_reducible refine blockQ_normal ?_) | (with_reducible refine blockQ_ret ?_) | (with_reducible refine blockQ_exit ?_) | ((with_reducible refine blockQ_out ?_ ?_); (focus decide)) | ((with_reducible refine AW.cond_id ?_); refine AW.condB rfl ?_; (first | (with_reducible refine condB_true ?_) | (with_reducible refine condB_false ?_))) | ((first | (with_reducible refine contG_id ?_) | (with_reducible refine contO_id ?_) | (with_reducible refine contV_id ?_) | (with_reducible refine bindO_id ?_) | (with_reducible refine bindV_id ?_) | (with_reducible refine runE_id ?_)); simp (config := { maxSteps := 1000000 }) (disch := refine Go.Av.hold_ ?_; first | (simp [f1, f2, f3, f4, -List.getD_eq_getElem?_getD]; done) | omega | fail) [f1, f2, f3, f4, -List.getD_eq_getElem?_getD]; try (with_reducible refine callK_id ?_)))
  simp (config := { maxSteps := 1000000 }) (disch := refine Go.Av.hold_ ?_; first | (simp [f1, f2, f3, f4, -List.getD_eq_getElem?_getD]; done) | omega | fail) [f1, f2, f3, f4, -List.getD_eq_getElem?_getD]
theorem enc2 : ∀ n : Fin 128, (Utf8.encode (((n.val + 128 : Nat)) : Int)).data.toList = [UInt8.ofNat (192 + (n.val + 128) / 64), UInt8.ofNat (128 + n.val % 64)] := by decide +kernel
set_option maxRecDepth 100000 in
set_option maxHeartbeats 8000000 in
theorem indexRune_ct (c : BitVec 8) : Fn Try.prog 24 [.str (ByteArray.mk #[32, 9, 10, 13]), .int .i32 (ub c)] [.p (.int .i64 (idxI blkL c))] := by
  have hc := c.isLt
  have hu : (ub c) = (c.toNat : Int) := rfl
  by_cases h : c.toNat < 128
  · have h1 : ub c < 128 := by rw [hu]; omega
    have h0 : 0 ≤ ub c := by rw [hu]; omega
    have hw : IntKind.u8.wrap (ub c) = ub c := wrap_u8' _ h0 (by omega)
    have k := indexByte_ct blkL c
    rw [← blk_txt] at k
    refine Fn.of_body Try.func24 rfl ?_
    repeat (first | ((with_reducible refine AW.regSeqK fun K_ hK_ => ?_); (try simp (config := { maxSteps := 1000000 }) (disch := refine Go.Av.hold_ ?_; first | (simp [h0, h1, -List.getD_eq_getElem?_getD]; done) | omega | fail) [h0, h1, -List.getD_eq_getElem?_getD]); first | (with_reducible refine callK_id ?_) | subst hK_) | ((with_reducible refine AW.regK fun K_ hK_ => ?_); (try simp (config := { maxSteps := 1000000 }) (disch := refine Go.Av.hold_ ?_; first | (simp [h0, h1, -List.getD_eq_getElem?_getD]; done) | omega | fail) [h0, h1, -List.getD_eq_getElem?_getD]); first | (with_reducible refine callK_id ?_) | subst hK_) | ((with_reducible refine AW.drawSeqK ?_ ?_ fun K_ hK_ => ?_); (focus kernel_rfl); (focus kernel_rfl); (try simp (config := { maxSteps := 1000000 }) (disch := refine Go.Av.hold_ ?_; first | (simp [h0, h1, -List.getD_eq_getElem?_getD]; done) | omega | fail) [h0, h1, -List.getD_eq_getElem?_getD]); first | (with_reducible refine callK_id ?_) | subst hK_) | ((with_reducible refine AW.drawK ?_ ?_ fun K_ hK_ => ?_); (focus kernel_rfl); (focus kernel_rfl); (try simp (config := { maxSteps := 1000000 }) (disch := refine Go.Av.hold_ ?_; first | (simp [h0, h1, -List.getD_eq_getElem?_getD]; done) | omega | fail) [h0, h1, -List.getD_eq_getElem?_getD]); first | (with_reducible refine callK_id ?_) | subst hK_) | (with_reducible refine AW.seq ?_) | (with_reducible refine AW.block ?_) | (with_reducible refine AW.skip ?_) | (with_reducible refine AW.ret ?_) | (with_reducible refine AW.exit ?_) | (with_reducible refine AW.scope ?_) | (with_reducible refine scopeQ_normal ?_) | (with_reducible refine scopeQ_ret ?_) | (with_reducible refine scopeQ_exit ?_) | (with_reducible refine thenQ_normal ?_) | (with_reducible refine thenQ_ret ?_) | (with_reducible refine thenQ_exit ?_) | (with_reducible refine blockQ_normal ?_) | (with_reducible refine blockQ_ret ?_) | (with_reducible refine blockQ_exit ?_) | ((with_reducible refine blockQ_out ?_ ?_); (focus decide)) | ((with_reducible refine AW.cond_id ?_); refine AW.condB rfl ?_; (first | (with_reducible refine condB_true ?_) | (with_reducible refine condB_false ?_))) | ((first | (with_reducible refine contG_id ?_) | (with_reducible refine contO_id ?_) | (with_reducible refine contV_id ?_) | (with_reducible refine bindO_id ?_) | (with_reducible refine bindV_id ?_) | (with_reducible refine runE_id ?_)); simp (config := { maxSteps := 1000000 }) (disch := refine Go.Av.hold_ ?_; first | (simp [h0, h1, -List.getD_eq_getElem?_getD]; done) | omega | fail) [h0, h1, -List.getD_eq_getElem?_getD]; try (with_reducible refine callK_id ?_)))
    (refine callK_p ?_; simp (config := { maxSteps := 1000000 }) (disch := refine Go.Av.hold_ ?_; first | (simp [hw, -List.getD_eq_getElem?_getD]; done) | omega | fail) [hw, -List.getD_eq_getElem?_getD]; refine callK1_of (Fn.ct k Try.call17) ?_; (try simp (config := { maxSteps := 1000000 }) (disch := refine Go.Av.hold_ ?_; first | (simp [hw, -List.getD_eq_getElem?_getD]; done) | omega | fail) [hw, -List.getD_eq_getElem?_getD]); first | refine callK_id ?_ | subst hK_)
    repeat (first | ((with_reducible refine AW.regSeqK fun K_ hK_ => ?_); (try simp (config := { maxSteps := 1000000 }) (disch := refine Go.Av.hold_ ?_; first | (simp [-List.getD_eq_getElem?_getD]; done) | omega | fail) [-List.getD_eq_getElem?_getD]); first | (with_reducible refine callK_id ?_) | subst hK_) | ((with_reducible refine AW.regK fun K_ hK_ => ?_); (try simp (config := { maxSteps := 1000000 }) (disch := refine Go.Av.hold_ ?_; first | (simp [-List.getD_eq_getElem?_getD]; done) | omega | fail) [-List.getD_eq_getElem?_getD]); first | (with_reducible refine callK_id ?_) | subst hK_) | ((with_reducible refine AW.drawSeqK ?_ ?_ fun K_ hK_ => ?_); (focus kernel_rfl); (focus kernel_rfl); (try simp (config := { maxSteps := 1000000 }) (disch := refine Go.Av.hold_ ?_; first | (simp [-List.getD_eq_getElem?_getD]; done) | omega | fail) [-List.getD_eq_getElem?_getD]); first | (with_reducible refine callK_id ?_) | subst hK_) | ((with_reducible refine AW.drawK ?_ ?_ fun K_ hK_ => ?_); (focus kernel_rfl); (focus kernel_rfl); (try simp (config := { maxSteps := 1000000 }) (disch := refine Go.Av.hold_ ?_; first | (simp [-List.getD_eq_getElem?_getD]; done) | omega | fail) [-List.getD_eq_getElem?_getD]); first | (with_reducible refine callK_id ?_) | subst hK_) | (with_reducible refine AW.seq ?_) | (with_reducible refine AW.block ?_) | (with_reducible refine AW.skip ?_) | (with_reducible refine AW.ret ?_) | (with_reducible refine AW.exit ?_) | (with_reducible refine AW.scope ?_) | (with_reducible refine scopeQ_normal ?_) | (with_reducible refine scopeQ_ret ?_) | (with_reducible refine scopeQ_exit ?_) | (with_reducible refine thenQ_normal ?_) | (with_reducible refine thenQ_ret ?_) | (with_reducible refine thenQ_exit ?_) | (with_reducible refine blockQ_normal ?_) | (with_reducible refine blockQ_ret ?_) | (with_reducible refine blockQ_exit ?_) | ((with_reducible refine blockQ_out ?_ ?_); (focus decide)) | ((with_reducible refine AW.cond_id ?_); refine AW.condB rfl ?_; (first | (with_reducible refine condB_true ?_) | (with_reducible refine condB_false ?_))) | ((first | (with_reducible refine contG_id ?_) | (with_reducible refine contO_id ?_) | (with_reducible refine contV_id ?_) | (with_reducible refine bindO_id ?_) | (with_reducible refine bindV_id ?_) | (with_reducible refine runE_id ?_)); simp (config := { maxSteps := 1000000 }) (disch := refine Go.Av.hold_ ?_; first | (simp [-List.getD_eq_getElem?_getD]; done) | omega | fail) [-List.getD_eq_getElem?_getD]; try (with_reducible refine callK_id ?_)))
    simp (config := { maxSteps := 1000000 }) (disch := refine Go.Av.hold_ ?_; first | (simp [-List.getD_eq_getElem?_getD]; done) | omega | fail) [-List.getD_eq_getElem?_getD]
  · have hn : idxI blkL c = -1 := by
      rcases idxI_spec blkL c with ⟨h, _⟩ | ⟨k, _, hk, hg, _⟩
      · exact h
      · exfalso
        have : ∀ j : Fin 4, (blkL.getD j.val 0).toNat < 128 := by decide
        have := this ⟨k, hk⟩
        rw [show blkL.getD k 0 = c from hg] at this; exact h this
    have h1 : ¬ ub c < 128 := by rw [hu]; omega
    have h0 : 0 ≤ ub c := by rw [hu]; omega
    have h2 : ¬ (ub c == 65533) = true := by rw [hu]; simp; omega
    have k26 := valid_ct (ub c) h0 (by rw [hu]; omega)
    have hE := enc2 ⟨c.toNat - 128, by omega⟩
    have hcc : (((c.toNat - 128 + 128 : Nat)) : Int) = ub c := by rw [hu]; omega
    simp only [hcc] at hE
    rw [hn]
    generalize hR : Utf8.encode (ub c) = R at hE
    have hs : R.size = 2 := by
      show R.data.size = 2
      rw [← Array.length_toList, hE]; rfl
    obtain ⟨y, hy, hy2⟩ : ∃ y : BitVec 8, ((R.data.toList.getD 1 0).toNat : Int) = ub y ∧ 128 ≤ y.toNat := by
      rw [hE]
      refine ⟨BitVec.ofNat 8 (128 + (c.toNat - 128) % 64), ?_, ?_⟩
      · simp [ub]
      · simp; omega
    have hne : ((9 : Int) != ub y) = true := by
      have : ub y = (y.toNat : Int) := rfl
      rw [this, bne_iff_ne]; omega
    have k := indexByte_ct [10#8, 13#8] y
    have hni : idxI [10#8, 13#8] y = -1 := by
      rcases idxI_spec [10#8, 13#8] y with ⟨h, _⟩ | ⟨k, _, hk, hg, _⟩
      · exact h
      · exfalso
        have : ∀ j : Fin 2, (([10#8, 13#8] : List (BitVec 8)).getD j.val 0).toNat < 128 := by decide
        have := this ⟨k, hk⟩
        rw [show ([10#8, 13#8] : List (BitVec 8)).getD k 0 = y from hg] at this; omega
    rw [hni] at k
    have hx : (ByteArray.mk #[32, 9, 10, 13]).extract 2 4 = txt [10#8, 13#8] := rfl
    have hg9 : (((ByteArray.mk #[32, 9, 10, 13]).data.toList.getD 1 0).toNat : Int) = 9 := rfl
    have hsz : (ByteArray.mk #[32, 9, 10, 13]).size = 4 := rfl
    refine Fn.of_body Try.func24 rfl ?_
    repeat (first | ((with_reducible refine AW.regSeqK fun K_ hK_ => ?_); (try simp (config := { maxSteps := 1000000 }) (disch := refine Go.Av.hold_ ?_; first | (simp [h0, h1, h2, -List.getD_eq_getElem?_getD]; done) | omega | fail) [h0, h1, h2, -List.getD_eq_getElem?_getD]); first | (with_reducible refine callK_id ?_) | subst hK_) | ((with_reducible refine AW.regK fun K_ hK_ => ?_); (try simp (config := { maxSteps := 1000000 }) (disch := refine Go.Av.hold_ ?_; first | (simp [h0, h1, h2, -List.getD_eq_getElem?_getD]; done) | omega | fail) [h0, h1, h2, -List.getD_eq_getElem?_getD]); first | (with_reducible refine callK_id ?_) | subst hK_) | ((with_reducible refine AW.drawSeqK ?_ ?_ fun K_ hK_ => ?_); (focus kernel_rfl); (focus kernel_rfl); (try simp (config := { maxSteps := 1000000 }) (disch := refine Go.Av.hold_ ?_; first | (simp [h0, h1, h2, -List.getD_eq_getElem?_getD]; done) | omega | fail) [h0, h1, h2, -List.getD_eq_getElem?_getD]); first | (with_reducible refine callK_id ?_) | subst hK_) | ((with_reducible refine AW.drawK ?_ ?_ fun K_ hK_ => ?_); (focus kernel_rfl); (focus kernel_rfl); (try simp (config := { maxSteps := 1000000 }) (disch := refine Go.Av.hold_ ?_; first | (simp [h0, h1, h2, -List.getD_eq_getElem?_getD]; done) | omega | fail) [h0, h1, h2, -List.getD_eq_getElem?_getD]); first | (with_reducible refine callK_id ?_) | subst hK_) | (with_reducible refine AW.seq ?_) | (with_reducible refine AW.block ?_) | (with_reducible refine AW.skip ?_) | (with_reducible refine AW.ret ?_) | (with_reducible refine AW.exit ?_) | (with_reducible refine AW.scope ?_) | (with_reducible refine scopeQ_normal ?_) | (with_reducible refine scopeQ_ret ?_) | (with_reducible refine scopeQ_exit ?_) | (with_reducible refine thenQ_normal ?_) | (with_reducible refine thenQ_ret ?_) | (with_reducible refine thenQ_exit ?_) | (with_reducible refine blockQ_normal ?_) | (with_reducible refine blockQ_ret ?_) | (with_reducible refine blockQ_exit ?_) | ((with_reducible refine blockQ_out ?_ ?_); (focus decide)) | ((with_reducible refine AW.cond_id ?_); refine AW.condB rfl ?_; (first | (with_reducible refine condB_true ?_) | (with_reducible refine condB_false ?_))) | ((first | (with_reducible refine contG_id ?_) | (with_reducible refine contO_id ?_) | (with_reducible refine contV_id ?_) | (with_reducible refine bindO_id ?_) | (with_reducible refine bindV_id ?_) | (with_reducible refine runE_id ?_)); simp (config := { maxSteps := 1000000 }) (disch := refine Go.Av.hold_ ?_; first | (simp [h0, h1, h2, -List.getD_eq_getElem?_getD]; done) | omega | fail) [h0, h1, h2, -List.getD_eq_getElem?_getD]; try (with_reducible refine callK_id ?_)))
    (refine callK_p ?_; simp (config := { maxSteps := 1000000 }) (disch := refine Go.Av.hold_ ?_; first | (simp [-List.getD_eq_getElem?_getD]; done) | omega | fail) [-List.getD_eq_getElem?_getD]; refine callK1_of (Fn.ct k26 Try.call26) ?_; (try simp (config := { maxSteps := 1000000 }) (disch := refine Go.Av.hold_ ?_; first | (simp [-List.getD_eq_getElem?_getD]; done) | omega | fail) [-List.getD_eq_getElem?_getD]); first | refine callK_id ?_ | subst hK_)
    have w1 : IntKind.i64.wrap 1 = 1 := by decide
    have w2 : IntKind.i64.wrap 2 = 2 := by decide
    repeat (first | ((with_reducible refine AW.regSeqK fun K_ hK_ => ?_); (try simp (config := { maxSteps := 1000000 }) (disch := refine Go.Av.hold_ ?_; first | (simp [hR, hs, w1, -List.getD_eq_getElem?_getD]; done) | omega | fail) [hR, hs, w1, -List.getD_eq_getElem?_getD]); first | (with_reducible refine callK_id ?_) | subst hK_) | ((with_reducible refine AW.regK fun K_ hK_ => ?_); (try simp (config := { maxSteps := 1000000 }) (disch := refine Go.Av.hold_ ?_; first | (simp [hR, hs, w1, -List.getD_eq_getElem?_getD]; done) | omega | fail) [hR, hs, w1, -List.getD_eq_getElem?_getD]); first | (with_reducible refine callK_id ?_) | subst hK_) | ((with_reducible refine AW.drawSeqK ?_ ?_ fun K_ hK_ => ?_); (focus kernel_rfl); (focus kernel_rfl); (try simp (config := { maxSteps := 1000000 }) (disch := refine Go.Av.hold_ ?_; first | (simp [hR, hs, w1, -List.getD_eq_getElem?_getD]; done) | omega | fail) [hR, hs, w1, -List.getD_eq_getElem?_getD]); first | (with_reducible refine callK_id ?_) | subst hK_) | ((with_reducible refine AW.drawK ?_ ?_ fun K_ hK_ => ?_); (focus kernel_rfl); (focus kernel_rfl); (try simp (config := { maxSteps := 1000000 }) (disch := refine Go.Av.hold_ ?_; first | (simp [hR, hs, w1, -List.getD_eq_getElem?_getD]; done) | omega | fail) [hR, hs, w1, -List.getD_eq_getElem?_getD]); first | (with_reducible refine callK_id ?_) | subst hK_) | (with_reducible refine AW.seq ?_) | (with_reducible refine AW.block ?_) | (with_reducible refine AW.skip ?_) | (with_reducible refine AW.ret ?_) | (with_reducible refine AW.exit ?_) | (with_reducible refine AW.scope ?_) | (with_reducible refine scopeQ_normal ?_) | (with_reducible refine scopeQ_ret ?_) | (with_reducible refine scopeQ_exit ?_) | (with_reducible refine thenQ_normal ?_) | (with_reducible refine thenQ_ret ?_) | (with_reducible refine thenQ_exit ?_) | (with_reducible refine blockQ_normal ?_) | (with_reducible refine blockQ_ret ?_) | (with_reducible refine blockQ_exit ?_) | ((with_reducible refine blockQ_out ?_ ?_); (focus decide)) | ((with_reducible refine AW.cond_id ?_); refine AW.condB rfl ?_; (first | (with_reducible refine condB_true ?_) | (with_reducible refine condB_false ?_))) | ((first | (with_reducible refine contG_id ?_) | (with_reducible refine contO_id ?_) | (with_reducible refine contV_id ?_) | (with_reducible refine bindO_id ?_) | (with_reducible refine bindV_id ?_) | (with_reducible refine runE_id ?_)); simp (config := { maxSteps := 1000000 }) (disch := refine Go.Av.hold_ ?_; first | (simp [hR, hs, w1, -List.getD_eq_getElem?_getD]; done) | omega | fail) [hR, hs, w1, -List.getD_eq_getElem?_getD]; try (with_reducible refine callK_id ?_)))
    refine AW.iter (true :: false :: false :: false :: false :: false :: false :: true :: true :: true :: false :: false :: false :: false :: false :: false :: false :: false :: false :: false :: false :: false :: false :: false :: false :: false :: false :: false :: false :: false :: false :: false :: false :: false :: false :: false :: false :: false :: false :: false :: false :: false :: false :: false :: false :: false :: false :: false :: false :: false :: false :: false :: false :: false :: false :: false :: false :: false :: false :: false :: false :: false :: false :: false :: false :: false :: false :: false :: false :: false :: false :: false :: false :: false :: false :: false :: false :: false :: false :: false :: false :: false :: false :: false :: false :: false :: false :: false :: false :: false :: false :: false :: false :: false :: false :: false :: false :: false :: false :: false :: false :: false :: false :: false :: false :: false :: false :: false :: false :: false :: false :: false :: false :: false :: false :: false :: false :: false :: false :: false :: false :: false :: false :: false :: false :: false :: false :: false :: false :: false :: false :: false :: false :: false :: false :: false :: false :: false :: false :: false :: false :: false :: false :: false :: false :: false :: false :: false :: false :: false :: false :: false :: false :: false :: false :: false :: false :: false :: false :: false :: false :: false :: false :: false :: false :: false :: false :: false :: false :: false :: false :: false :: false :: false :: false :: false :: false :: false :: false :: false :: false :: false :: false :: false :: false :: false :: false :: []) 0 (fun k => ⟨(.p (.str (ByteArray.mk #[32, 9, 10, 13])) :: V.junk :: V.junk :: V.junk :: V.junk :: V.junk :: V.junk :: .p (.str R) :: .p (.int .i64 1) :: .p (.int .i64 1) :: V.junk :: V.junk :: V.junk :: V.junk :: V.junk :: V.junk :: V.junk :: V.junk :: V.junk :: V.junk :: V.junk :: V.junk :: V.junk :: V.junk :: V.junk :: V.junk :: V.junk :: V.junk :: V.junk :: V.junk :: V.junk :: V.junk :: V.junk :: V.junk :: V.junk :: V.junk :: V.junk :: V.junk :: V.junk :: V.junk :: V.junk :: V.junk :: V.junk :: V.junk :: V.junk :: V.junk :: V.junk :: V.junk :: V.junk :: V.junk :: V.junk :: V.junk :: V.junk :: V.junk :: V.junk :: V.junk :: V.junk :: V.junk :: V.junk :: V.junk :: V.junk :: V.junk :: V.junk :: V.junk :: V.junk :: V.junk :: V.junk :: V.junk :: V.junk :: V.junk :: V.junk :: V.junk :: V.junk :: V.junk :: V.junk :: V.junk :: V.junk :: V.junk :: V.junk :: V.junk :: V.junk :: V.junk :: V.junk :: V.junk :: V.junk :: V.junk :: V.junk :: V.junk :: V.junk :: V.junk :: V.junk :: V.junk :: V.junk :: V.junk :: V.junk :: V.junk :: V.junk :: V.junk :: V.junk :: V.junk :: V.junk :: V.junk :: V.junk :: V.junk :: V.junk :: V.junk :: V.junk :: V.junk :: V.junk :: V.junk :: V.junk :: V.junk :: V.junk :: V.junk :: V.junk :: V.junk :: V.junk :: V.junk :: V.junk :: V.junk :: V.junk :: V.junk :: V.junk :: V.junk :: V.junk :: V.junk :: V.junk :: V.junk :: V.junk :: V.junk :: V.junk :: V.junk :: V.junk :: V.junk :: V.junk :: V.junk :: V.junk :: V.junk :: V.junk :: V.junk :: V.junk :: V.junk :: V.junk :: V.junk :: V.junk :: V.junk :: V.junk :: V.junk :: V.junk :: V.junk :: V.junk :: V.junk :: V.junk :: V.junk :: V.junk :: V.junk :: V.junk :: V.junk :: V.junk :: V.junk :: V.junk :: V.junk :: V.junk :: V.junk :: V.junk :: V.junk :: V.junk :: V.junk :: V.junk :: V.junk :: V.junk :: V.junk :: V.junk :: V.junk :: V.junk :: V.junk :: V.junk :: V.junk :: V.junk :: V.junk :: V.junk :: V.junk :: V.junk :: V.junk :: V.junk :: V.junk :: V.junk :: []), ⟨[], []⟩⟩) ?_ ?_
    · simp (config := { maxSteps := 1000000 }) (disch := refine Go.Av.hold_ ?_; first | (simp [-List.getD_eq_getElem?_getD]; done) | omega | fail) [-List.getD_eq_getElem?_getD]
    intro k0 hk0
    repeat (first | ((with_reducible refine AW.regSeqK fun K_ hK_ => ?_); (try simp (config := { maxSteps := 1000000 }) (disch := refine Go.Av.hold_ ?_; first | (simp [hs, hsz, hg9, hy, hne, w2, hx, -List.getD_eq_getElem?_getD]; done) | omega | fail) [hs, hsz, hg9, hy, hne, w2, hx, -List.getD_eq_getElem?_getD]); first | (with_reducible refine callK_id ?_) | subst hK_) | ((with_reducible refine AW.regK fun K_ hK_ => ?_); (try simp (config := { maxSteps := 1000000 }) (disch := refine Go.Av.hold_ ?_; first | (simp [hs, hsz, hg9, hy, hne, w2, hx, -List.getD_eq_getElem?_getD]; done) | omega | fail) [hs, hsz, hg9, hy, hne, w2, hx, -List.getD_eq_getElem?_getD]); first | (with_reducible refine callK_id ?_) | subst hK_) | ((with_reducible refine AW.drawSeqK ?_ ?_ fun K_ hK_ => ?_); (focus kernel_rfl); (focus kernel_rfl); (try simp (config := { maxSteps := 1000000 }) (disch := refine Go.Av.hold_ ?_; first | (simp [hs, hsz, hg9, hy, hne, w2, hx, -List.getD_eq_getElem?_getD]; done) | omega | fail) [hs, hsz, hg9, hy, hne, w2, hx, -List.getD_eq_getElem?_getD]); first | (with_reducible refine callK_id ?_) | subst hK_) | ((with_reducible refine AW.drawK ?_ ?_ fun K_ hK_ => ?_); (focus kernel_rfl); (focus kernel_rfl); (try simp (config := { maxSteps := 1000000 }) (disch := refine Go.Av.hold_ ?_; first | (simp [hs, hsz, hg9, hy, hne, w2, hx, -List.getD_eq_getElem?_getD]; done) | omega | fail) [hs, hsz, hg9, hy, hne, w2, hx, -List.getD_eq_getElem?_getD]); first | (with_reducible refine callK_id ?_) | subst hK_) | (with_reducible refine AW.seq ?_) | (with_reducible refine AW.block ?_) | (with_reducible refine AW.skip ?_) | (with_reducible refine AW.ret ?_) | (with_reducible refine AW.exit ?_) | (with_reducible refine AW.scope ?_) | (with_reducible refine scopeQ_normal ?_) | (with_reducible refine scopeQ_ret ?_) | (with_reducible refine scopeQ_exit ?_) | (with_reducible refine thenQ_normal ?_) | (with_reducible refine thenQ_ret ?_) | (with_reducible refine thenQ_exit ?_) | (with_reducible refine blockQ_normal ?_) | (with_reducible refine blockQ_ret ?_) | (with_reducible refine blockQ_exit ?_) | ((with_reducible refine blockQ_out ?_ ?_); (focus decide)) | ((with_reducible refine AW.cond_id ?_); refine AW.condB rfl ?_; (first | (with_reducible refine condB_true ?_) | (with_reducible refine condB_false ?_))) | ((first | (with_reducible refine contG_id ?_) | (with_reducible refine contO_id ?_) | (with_reducible refine contV_id ?_) | (with_reducible refine bindO_id ?_) | (with_reducible refine bindV_id ?_) | (with_reducible refine runE_id ?_)); simp (config := { maxSteps := 1000000 }) (disch := refine Go.Av.hold_ ?_; first | (simp [hs, hsz, hg9, hy, hne, w2, hx, -List.getD_eq_getElem?_getD]; done) | omega | fail) [hs, hsz, hg9, hy, hne, w2, hx, -List.getD_eq_getElem?_getD]; try (with_reducible refine callK_id ?_)))
    (refine callK_p ?_; simp (config := { maxSteps := 1000000 }) (disch := refine Go.Av.hold_ ?_; first | (simp [hs, hsz, hg9, hy, hne, w2, hx, -List.getD_eq_getElem?_getD]; done) | omega | fail) [hs, hsz, hg9, hy, hne, w2, hx, -List.getD_eq_getElem?_getD]; refine callK1_of (Fn.ct k Try.call17) ?_; (try simp (config := { maxSteps := 1000000 }) (disch := refine Go.Av.hold_ ?_; first | (simp [hs, hsz, hg9, hy, hne, w2, hx, -List.getD_eq_getElem?_getD]; done) | omega | fail) [hs, hsz, hg9, hy, hne, w2, hx, -List.getD_eq_getElem?_getD]); first | refine callK_id ?_ | subst hK_)
    repeat (first | ((with_reducible refine AW.regSeqK fun K_ hK_ => ?_); (try simp (config := { maxSteps := 1000000 }) (disch := refine Go.Av.hold_ ?_; first | (simp [hs, hsz, hg9, hy, hne, w2, hx, -List.getD_eq_getElem?_getD]; done) | omega | fail) [hs, hsz, hg9, hy, hne, w2, hx, -List.getD_eq_getElem?_getD]); first | (with_reducible refine callK_id ?_) | subst hK_) | ((with_reducible refine AW.regK fun K_ hK_ => ?_); (try simp (config := { maxSteps := 1000000 }) (disch := refine Go.Av.hold_ ?_; first | (simp [hs, hsz, hg9, hy, hne, w2, hx, -List.getD_eq_getElem?_getD]; done) | omega | fail) [hs, hsz, hg9, hy, hne, w2, hx, -List.getD_eq_getElem?_getD]); first | (with_reducible refine callK_id ?_) | subst hK_) | ((with_reducible refine AW.drawSeqK ?_ ?_ fun K_ hK_ => ?_); (focus kernel_rfl); (focus kernel_rfl); (try simp (config := { maxSteps := 1000000 }) (disch := refine Go.Av.hold_ ?_; first | (simp [hs, hsz, hg9, hy, hne, w2, hx, -List.getD_eq_getElem?_getD]; done) | omega | fail) [hs, hsz, hg9, hy, hne, w2, hx, -List.getD_eq_getElem?_getD]); first | (with_reducible refine callK_id ?_) | subst hK_) | ((with_reducible refine AW.drawK ?_ ?_ fun K_ hK_ => ?_); (focus kernel_rfl); (focus kernel_rfl); (try simp (config := { maxSteps := 1000000 }) (disch := refine Go.Av.hold_ ?_; first | (simp [hs, hsz, hg9, hy, hne, w2, hx, -List.getD_eq_getElem?_getD]; done) | omega | fail) [hs, hsz, hg9, hy, hne, w2, hx, -List.getD_eq_getElem?_getD]); first | (with_reducible refine callK_id ?_) | subst hK_) | (with_reducible refine AW.seq ?_) | (with_reducible refine AW.block ?_) | (with_reducible refine AW.skip ?_) | (with_reducible refine AW.ret ?_) | (with_reducible refine AW.exit ?_) | (with_reducible refine AW.scope ?_) | (with_reducible refine scopeQ_normal ?_) | (with_reducible refine scopeQ_ret ?_) | (with_reducible refine scopeQ_exit ?_) | (with_reducible refine thenQ_normal ?_) | (with_reducible refine thenQ_ret ?_) | (with_reducible refine thenQ_exit ?_) | (with_reducible refine blockQ_normal ?_) | (with_reducible refine blockQ_ret ?_) | (with_reducible refine blockQ_exit ?_) | ((with_reducible refine blockQ_out ?_ ?_); (focus decide)) | ((with_reducible refine AW.cond_id ?_); refine AW.condB rfl ?_; (first | (with_reducible refine condB_true ?_) | (with_reducible refine condB_false ?_))) | ((first | (with_reducible refine contG_id ?_) | (with_reducible refine contO_id ?_) | (with_reducible refine contV_id ?_) | (with_reducible refine bindO_id ?_) | (with_reducible refine bindV_id ?_) | (with_reducible refine runE_id ?_)); simp (config := { maxSteps := 1000000 }) (disch := refine Go.Av.hold_ ?_; first | (simp [hs, hsz, hg9, hy, hne, w2, hx, -List.getD_eq_getElem?_getD]; done) | omega | fail) [hs, hsz, hg9, hy, hne, w2, hx, -List.getD_eq_getElem?_getD]; try (with_reducible refine callK_id ?_)))
    simp (config := { maxSteps := 1000000 }) (disch := refine Go.Av.hold_ ?_; first | (simp [-List.getD_eq_getElem?_getD]; done) | omega | fail) [-List.getD_eq_getElem?_getD]
theorem contains_ct (c : BitVec 8) : Fn Try.prog 21 [.str (ByteArray.mk #[32, 9, 10, 13]), .int .i32 (ub c)] [.p (.bool (blankB c))] := by
  have k := indexRune_ct c
  have e := idx_mem blkL c
  rw [show blankB c = blkL.contains c from rfl, ← e]
  generalize idxI blkL c = I at *
  refine Fn.of_body Try.func21 rfl ?_
  repeat (first | ((with_reducible refine AW.regSeqK fun K_ hK_ => ?_); (try simp (config := { maxSteps := 1000000 }) (disch := refine Go.Av.hold_ ?_; first | (simp [-List.getD_eq_getElem?_getD]; done) | omega | fail) [-List.getD_eq_getElem?_getD]); first | (with_reducible refine callK_id ?_) | subst hK_) | ((with_reducible refine AW.regK fun K_ hK_ => ?_); (try simp (config := { maxSteps := 1000000 }) (disch := refine Go.Av.hold_ ?_; first | (simp [-List.getD_eq_getElem?_getD]; done) | omega | fail) [-List.getD_eq_getElem?_getD]); first | (with_reducible refine callK_id ?_) | subst hK_) | ((with_reducible refine AW.drawSeqK ?_ ?_ fun K_ hK_ => ?_); (focus kernel_rfl); (focus kernel_rfl); (try simp (config := { maxSteps := 1000000 }) (disch := refine Go.Av.hold_ ?_; first | (simp [-List.getD_eq_getElem?_getD]; done) | omega | fail) [-List.getD_eq_getElem?_getD]); first | (with_reducible refine callK_id ?_) | subst hK_) | ((with_reducible refine AW.drawK ?_ ?_ fun K_ hK_ => ?_); (focus kernel_rfl); (focus kernel_rfl); (try simp (config := { maxSteps := 1000000 }) (disch := refine Go.Av.hold_ ?_; first | (simp [-List.getD_eq_getElem?_getD]; done) | omega | fail) [-List.getD_eq_getElem?_getD]); first | (with_reducible refine callK_id ?_) | subst hK_) | (with_reducible refine AW.seq ?_) | (with_reducible refine AW.block ?_) | (with_reducible refine AW.skip ?_) | (with_reducible refine AW.ret ?_) | (with_reducible refine AW.exit ?_) | (with_reducible refine AW.scope ?_) | (with_reducible refine scopeQ_normal ?_) | (with_reducible refine scopeQ_ret ?_) | (with_reducible refine scopeQ_exit ?_) | (with_reducible refine thenQ_normal ?_) | (with_reducible refine thenQ_ret ?_) | (with_reducible refine thenQ_exit ?_) | (with_reducible refine blockQ_normal ?_) | (with_reducible refine blockQ_ret ?_) | (with_reducible refine blockQ_exit ?_) | ((with_reducible refine blockQ_out ?_ ?_); (focus decide)) | ((with_reducible refine AW.cond_id ?_); refine AW.condB rfl ?_; (first | (with_reducible refine condB_true ?_) | (with_reducible refine condB_false ?_))) | ((first | (with_reducible refine contG_id ?_) | (with_reducible refine contO_id ?_) | (with_reducible refine contV_id ?_) | (with_reducible refine bindO_id ?_) | (with_reducible refine bindV_id ?_) | (with_reducible refine runE_id ?_)); simp (config := { maxSteps := 1000000 }) (disch := refine Go.Av.hold_ ?_; first | (simp [-List.getD_eq_getElem?_getD]; done) | omega | fail) [-List.getD_eq_getElem?_getD]; try (with_reducible refine callK_id ?_)))
  (refine callK_p ?_; simp (config := { maxSteps := 1000000 }) (disch := refine Go.Av.hold_ ?_; first | (simp [-List.getD_eq_getElem?_getD]; done) | omega | fail) [-List.getD_eq_getElem?_getD]; refine callK1_of (Fn.ct k Try.call24) ?_; (try simp (config := { maxSteps := 1000000 }) (disch := refine Go.Av.hold_ ?_; first | (simp [-List.getD_eq_getElem?_getD]; done) | omega | fail) [-List.getD_eq_getElem?_getD]); first | refine callK_id ?_ | subst hK_)
  repeat (first | ((with_reducible refine AW.regSeqK fun K_ hK_ => ?_); (try simp (config := { maxSteps := 1000000 }) (disch := refine Go.Av.hold_ ?_; first | (simp [-List.getD_eq_getElem?_getD]; done) | omega | fail) [-List.getD_eq_getElem?_getD]); first | (with_reducible refine callK_id ?_) | subst hK_) | ((with_reducible refine AW.regK fun K_ hK_ => ?_); (try simp (config := { maxSteps := 1000000 }) (disch := refine Go.Av.hold_ ?_; first | (simp [-List.getD_eq_getElem?_getD]; done) | omega | fail) [-List.getD_eq_getElem?_getD]); first | (with_reducible refine callK_id ?_) | subst hK_) | ((with_reducible refine AW.drawSeqK ?_ ?_ fun K_ hK_ => ?_); (focus kernel_rfl); (focus kernel_rfl); (try simp (config := { maxSteps := 1000000 }) (disch := refine Go.Av.hold_ ?_; first | (simp [-List.getD_eq_getElem?_getD]; done) | omega | fail) [-List.getD_eq_getElem?_getD]); first | (with_reducible refine callK_id ?_) | subst hK_) | ((with_reducible refine AW.drawK ?_ ?_ fun K_ hK_ => ?_); (focus kernel_rfl); (focus kernel_rfl); (try simp (config := { maxSteps := 1000000 }) (disch := refine Go.Av.hold_ ?_; first | (simp [-List.getD_eq_getElem?_getD]; done) | omega | fail) [-List.getD_eq_getElem?_getD]); first | (with_reducible refine callK_id ?_) | subst hK_) | (with_reducible refine AW.seq ?_) | (with_reducible refine AW.block ?_) | (with_reducible refine AW.skip ?_) | (with_reducible refine AW.ret ?_) | (with_reducible refine AW.exit ?_) | (with_reducible refine AW.scope ?_) | (with_reducible refine scopeQ_normal ?_) | (with_reducible refine scopeQ_ret ?_) | (with_reducible refine scopeQ_exit ?_) | (with_reducible refine thenQ_normal ?_) | (with_reducible refine thenQ_ret ?_) | (with_reducible refine thenQ_exit ?_) | (with_reducible refine blockQ_normal ?_) | (with_reducible refine blockQ_ret ?_) | (with_reducible refine blockQ_exit ?_) | ((with_reducible refine blockQ_out ?_ ?_); (focus decide)) | ((with_reducible refine AW.cond_id ?_); refine AW.condB rfl ?_; (first | (with_reducible refine condB_true ?_) | (with_reducible refine condB_false ?_))) | ((first | (with_reducible refine contG_id ?_) | (with_reducible refine contO_id ?_) | (with_reducible refine contV_id ?_) | (with_reducible refine bindO_id ?_) | (with_reducible refine bindV_id ?_) | (with_reducible refine runE_id ?_)); simp (config := { maxSteps := 1000000 }) (disch := refine Go.Av.hold_ ?_; first | (simp [-List.getD_eq_getElem?_getD]; done) | omega | fail) [-List.getD_eq_getElem?_getD]; try (with_reducible refine callK_id ?_)))
  simp (config := { maxSteps := 1000000 }) (disch := refine Go.Av.hold_ ?_; first | (simp [-List.getD_eq_getElem?_getD]; done) | omega | fail) [-List.getD_eq_getElem?_getD]
end Go.Av.Base
end

section
set_option linter.unusedSimpArgs false
set_option linter.unusedVariables false
open Go Go.Av Go.Proofs
namespace Go.Av.Base
/-! ## squeeze -/
def sq (l : List (BitVec 8)) : List (BitVec 8) := l.filter fun c => !blankB c
def sqSt (l : List (BitVec 8)) (k : Nat) : St := ⟨(.p (.str (txt l)) :: V.junk :: V.junk :: .ptr 3 0 0 :: V.junk :: V.junk :: .p (.int .i64 l.length) :: .p (.int .i64 k) :: V.junk :: V.junk :: V.junk :: V.junk :: V.junk :: V.junk :: V.junk :: V.junk :: V.junk :: V.junk :: V.junk :: V.junk :: V.junk :: V.junk :: []), ⟨[(3, (0, .cells [.adr 3 0 0 38 2, .brow 5 (bl (sq (l.take k))) 0 0 ((sq (l.take k)).length == 0)]))], [(0, 0)]⟩⟩
theorem sq_len (l : List (BitVec 8)) : (sq l).length ≤ l.length := List.length_filter_le _ _
theorem sq_succ (l : List (BitVec 8)) (k : Nat) (h : k < l.length) : sq (l.take (k + 1)) = if blankB (l.getD k 0) = true then sq (l.take k) else sq (l.take k) ++ [l.getD k 0] := by
  have e : l.take (k + 1) = l.take k ++ [l.getD k 0] := by
    rw [List.take_add_one, List.getElem?_eq_getElem h, List.getD_eq_getElem?_getD, List.getElem?_eq_getElem h]; rfl
  unfold sq
  rw [e, List.filter_append]
  cases hb : blankB (l.getD k 0) <;> simp only [List.filter_cons, hb, Bool.not_false, Bool.not_true, if_true, if_false, Bool.false_eq_true, List.filter_nil, List.append_nil]
set_option maxHeartbeats 8000000 in
theorem squeeze_ct (l : List (BitVec 8)) (hl : l.length ≤ 4000000) : Fn Try.prog 16 [.str (txt l)] [.p (.str (txt (sq l)))] := by
  have hsz := txt_size l
  have hE : txt (sq l) = txt (sq (l.take l.length)) := by rw [List.take_length]
  rw [hE]
  refine Fn.of_body Try.func16 rfl ?_
  repeat (first | ((with_reducible refine AW.regSeqK fun K_ hK_ => ?_); (try simp (config := { maxSteps := 1000000 }) (disch := refine Go.Av.hold_ ?_; first | (simp [-List.getD_eq_getElem?_getD]; done) | omega | fail) [-List.getD_eq_getElem?_getD]); first | (with_reducible refine callK_id ?_) | subst hK_) | ((with_reducible refine AW.regK fun K_ hK_ => ?_); (try simp (config := { maxSteps := 1000000 }) (disch := refine Go.Av.hold_ ?_; first | (simp [-List.getD_eq_getElem?_getD]; done) | omega | fail) [-List.getD_eq_getElem?_getD]); first | (with_reducible refine callK_id ?_) | subst hK_) | ((with_reducible refine AW.drawSeqK ?_ ?_ fun K_ hK_ => ?_); (focus kernel_rfl); (focus kernel_rfl); (try simp (config := { maxSteps := 1000000 }) (disch := refine Go.Av.hold_ ?_; first | (simp [-List.getD_eq_getElem?_getD]; done) | omega | fail) [-List.getD_eq_getElem?_getD]); first | (with_reducible refine callK_id ?_) | subst hK_) | ((with_reducible refine AW.drawK ?_ ?_ fun K_ hK_ => ?_); (focus kernel_rfl); (focus kernel_rfl); (try simp (config := { maxSteps := 1000000 }) (disch := refine Go.Av.hold_ ?_; first | (simp [-List.getD_eq_getElem?_getD]; done) | omega | fail) [-List.getD_eq_getElem?_getD]); first | (with_reducible refine callK_id ?_) | subst hK_) | (with_reducible refine AW.seq ?_) | (with_reducible refine AW.block ?_) | (with_reducible refine AW.skip ?_) | (with_reducible refine AW.ret ?_) | (with_reducible refine AW.exit ?_) | (with_reducible refine AW.scope ?_) | (with_reducible refine scopeQ_normal ?_) | (with_reducible refine scopeQ_ret ?_) | (with_reducible refine scopeQ_exit ?_) | (with_reducible refine thenQ_normal ?_) | (with_reducible refine thenQ_ret ?_) | (with_reducible refine thenQ_exit ?_) | (with_reducible refine blockQ_normal ?_) | (with_reducible refine blockQ_ret ?_) | (with_reducible refine blockQ_exit ?_) | ((with_reducible refine blockQ_out ?_ ?_); (focus decide)) | ((with_reducible refine AW.cond_id ?_); refine AW.condB rfl ?_; (first | (with_reducible refine condB_true ?_) | (with_reducible refine condB_false ?_))) | ((first | (with_reducible refine contG_id ?_) | (with_reducible refine contO_id ?_) | (with_reducible refine contV_id ?_) | (with_reducible refine bindO_id ?_) | (with_reducible refine bindV_id ?_) | (with_reducible refine runE_id ?_)); simp (config := { maxSteps := 1000000 }) (disch := refine Go.Av.hold_ ?_; first | (simp [-List.getD_eq_getElem?_getD]; done) | omega | fail) [-List.getD_eq_getElem?_getD]; try (with_reducible refine callK_id ?_)))
  refine AW.nilBuf 3 1 5 (bl []) 3 0 _ _ rfl rfl rfl ?_
  repeat (first | ((with_reducible refine AW.regSeqK fun K_ hK_ => ?_); (try simp (config := { maxSteps := 1000000 }) (disch := refine Go.Av.hold_ ?_; first | (simp [hsz, -List.getD_eq_getElem?_getD]; done) | omega | fail) [hsz, -List.getD_eq_getElem?_getD]); first | (with_reducible refine callK_id ?_) | subst hK_) | ((with_reducible refine AW.regK fun K_ hK_ => ?_); (try simp (config := { maxSteps := 1000000 }) (disch := refine Go.Av.hold_ ?_; first | (simp [hsz, -List.getD_eq_getElem?_getD]; done) | omega | fail) [hsz, -List.getD_eq_getElem?_getD]); first | (with_reducible refine callK_id ?_) | subst hK_) | ((with_reducible refine AW.drawSeqK ?_ ?_ fun K_ hK_ => ?_); (focus kernel_rfl); (focus kernel_rfl); (try simp (config := { maxSteps := 1000000 }) (disch := refine Go.Av.hold_ ?_; first | (simp [hsz, -List.getD_eq_getElem?_getD]; done) | omega | fail) [hsz, -List.getD_eq_getElem?_getD]); first | (with_reducible refine callK_id ?_) | subst hK_) | ((with_reducible refine AW.drawK ?_ ?_ fun K_ hK_ => ?_); (focus kernel_rfl); (focus kernel_rfl); (try simp (config := { maxSteps := 1000000 }) (disch := refine Go.Av.hold_ ?_; first | (simp [hsz, -List.getD_eq_getElem?_getD]; done) | omega | fail) [hsz, -List.getD_eq_getElem?_getD]); first | (with_reducible refine callK_id ?_) | subst hK_) | (with_reducible refine AW.seq ?_) | (with_reducible refine AW.block ?_) | (with_reducible refine AW.skip ?_) | (with_reducible refine AW.ret ?_) | (with_reducible refine AW.exit ?_) | (with_reducible refine AW.scope ?_) | (with_reducible refine scopeQ_normal ?_) | (with_reducible refine scopeQ_ret ?_) | (with_reducible refine scopeQ_exit ?_) | (with_reducible refine thenQ_normal ?_) | (with_reducible refine thenQ_ret ?_) | (with_reducible refine thenQ_exit ?_) | (with_reducible refine blockQ_normal ?_) | (with_reducible refine blockQ_ret ?_) | (with_reducible refine blockQ_exit ?_) | ((with_reducible refine blockQ_out ?_ ?_); (focus decide)) | ((with_reducible refine AW.cond_id ?_); refine AW.condB rfl ?_; (first | (with_reducible refine condB_true ?_) | (with_reducible refine condB_false ?_))) | ((first | (with_reducible refine contG_id ?_) | (with_reducible refine contO_id ?_) | (with_reducible refine contV_id ?_) | (with_reducible refine bindO_id ?_) | (with_reducible refine bindV_id ?_) | (with_reducible refine runE_id ?_)); simp (config := { maxSteps := 1000000 }) (disch := refine Go.Av.hold_ ?_; first | (simp [hsz, -List.getD_eq_getElem?_getD]; done) | omega | fail) [hsz, -List.getD_eq_getElem?_getD]; try (with_reducible refine callK_id ?_)))
  refine AW.iter (true :: false :: false :: true :: false :: false :: true :: true :: false :: false :: false :: false :: false :: false :: false :: false :: false :: false :: false :: false :: false :: false :: []) l.length (sqSt l) ?_ ?_
  · unfold sqSt
    simp (config := { maxSteps := 1000000 }) (disch := refine Go.Av.hold_ ?_; first | (simp [hsz, show sq [] = [] from rfl, -List.getD_eq_getElem?_getD]; done) | omega | fail) [hsz, show sq [] = [] from rfl, -List.getD_eq_getElem?_getD]
  intro k hk
  unfold sqSt
  have e1 : IntKind.i64.wrap ((k : Int) + 1) = k + 1 := wrap_i64 _ (by omega) (by omega)
  by_cases hkc : k < l.length
  · have hkz : (k : Int) < l.length := by omega
    have kx := contains_ct (l.getD k 0)
    have hs := sq_succ l k hkc
    have hlen := sq_len (l.take k)
    rw [List.length_take] at hlen
    have hg := txt_get l k
    have hw : IntKind.i32.wrap (ub (l.getD k 0)) = ub (l.getD k 0) := by
      have := (l.getD k 0).isLt
      have e : ub (l.getD k 0) = ((l.getD k 0).toNat : Int) := rfl
      exact wrap_i32 _ (by omega) (by omega)
    have kw := wb_ct (sq (l.take k)) ((sq (l.take k)).length == 0) (l.getD k 0) (by omega)
    generalize sq (l.take k) = A at *
    generalize sq (l.take (k + 1)) = B at *
    cases hb : blankB (l.getD k 0) with
    | true =>
      rw [hb] at kx hs
      simp only [if_true] at hs
      subst hs
      generalize l.getD k 0 = x at *
      repeat (first | ((with_reducible refine callK_at 21 ?_); refine callK_p ?_; simp (config := { maxSteps := 1000000 }) (disch := refine Go.Av.hold_ ?_; first | (simp [hkc, hkz, hsz, hg, hw, e1, -List.getD_eq_getElem?_getD]; done) | omega | fail) [hkc, hkz, hsz, hg, hw, e1, -List.getD_eq_getElem?_getD]; refine callK1_of (Fn.ct kx Try.call21) ?_; (try simp (config := { maxSteps := 1000000 }) (disch := refine Go.Av.hold_ ?_; first | (simp [hkc, hkz, hsz, hg, hw, e1, -List.getD_eq_getElem?_getD]; done) | omega | fail) [hkc, hkz, hsz, hg, hw, e1, -List.getD_eq_getElem?_getD]); first | (with_reducible refine callK_id ?_) | subst hK_) | ((with_reducible refine AW.regSeqK fun K_ hK_ => ?_); (try simp (config := { maxSteps := 1000000 }) (disch := refine Go.Av.hold_ ?_; first | (simp [hkc, hkz, hsz, hg, hw, e1, -List.getD_eq_getElem?_getD]; done) | omega | fail) [hkc, hkz, hsz, hg, hw, e1, -List.getD_eq_getElem?_getD]); first | (with_reducible refine callK_id ?_) | subst hK_) | ((with_reducible refine AW.regK fun K_ hK_ => ?_); (try simp (config := { maxSteps := 1000000 }) (disch := refine Go.Av.hold_ ?_; first | (simp [hkc, hkz, hsz, hg, hw, e1, -List.getD_eq_getElem?_getD]; done) | omega | fail) [hkc, hkz, hsz, hg, hw, e1, -List.getD_eq_getElem?_getD]); first | (with_reducible refine callK_id ?_) | subst hK_) | ((with_reducible refine AW.drawSeqK ?_ ?_ fun K_ hK_ => ?_); (focus kernel_rfl); (focus kernel_rfl); (try simp (config := { maxSteps := 1000000 }) (disch := refine Go.Av.hold_ ?_; first | (simp [hkc, hkz, hsz, hg, hw, e1, -List.getD_eq_getElem?_getD]; done) | omega | fail) [hkc, hkz, hsz, hg, hw, e1, -List.getD_eq_getElem?_getD]); first | (with_reducible refine callK_id ?_) | subst hK_) | ((with_reducible refine AW.drawK ?_ ?_ fun K_ hK_ => ?_); (focus kernel_rfl); (focus kernel_rfl); (try simp (config := { maxSteps := 1000000 }) (disch := refine Go.Av.hold_ ?_; first | (simp [hkc, hkz, hsz, hg, hw, e1, -List.getD_eq_getElem?_getD]; done) | omega | fail) [hkc, hkz, hsz, hg, hw, e1, -List.getD_eq_getElem?_getD]); first | (with_reducible refine callK_id ?_) | subst hK_) | (with_reducible refine AW.seq ?_) | (with_reducible refine AW.block ?_) | (with_reducible refine AW.skip ?_) | (with_reducible refine AW.ret ?_) | (with_reducible refine AW.exit ?_) | (with_reducible refine AW.scope ?_) | (with_reducible refine scopeQ_normal ?_) | (with_reducible refine scopeQ_ret ?_) | (with_reducible refine scopeQ_exit ?_) | (with_reducible refine thenQ_normal ?_) | (with_reducible refine thenQ_ret ?_) | (with_reducible refine thenQ_exit ?_) | (with_reducible refine blockQ_normal ?_) | (with_reducible refine blockQ_ret ?_) | (with_reducible refine blockQ_exit ?_) | ((with_reducible refine blockQ_out ?_ ?_); (focus decide)) | ((with_reducible refine AW.cond_id ?_); refine AW.condB rfl ?_; (first | (with_reducible refine condB_true ?_) | (with_reducible refine condB_false ?_))) | ((first | (with_reducible refine contG_id ?_) | (with_reducible refine contO_id ?_) | (with_reducible refine contV_id ?_) | (with_reducible refine bindO_id ?_) | (with_reducible refine bindV_id ?_) | (with_reducible refine runE_id ?_)); simp (config := { maxSteps := 1000000 }) (disch := refine Go.Av.hold_ ?_; first | (simp [hkc, hkz, hsz, hg, hw, e1, -List.getD_eq_getElem?_getD]; done) | omega | fail) [hkc, hkz, hsz, hg, hw, e1, -List.getD_eq_getElem?_getD]; try (with_reducible refine callK_id ?_)))
      refine ⟨hkc, ?_⟩
      simp (config := { maxSteps := 1000000 }) (disch := refine Go.Av.hold_ ?_; first | (simp [-List.getD_eq_getElem?_getD]; done) | omega | fail) [-List.getD_eq_getElem?_getD]
    | false =>
      rw [hb] at kx hs
      simp only [Bool.false_eq_true, if_false] at hs
      subst hs
      generalize l.getD k 0 = x at *
      repeat (first | ((with_reducible refine callK_at 21 ?_); refine callK_p ?_; simp (config := { maxSteps := 1000000 }) (disch := refine Go.Av.hold_ ?_; first | (simp [hkc, hkz, hsz, hg, hw, e1, -List.getD_eq_getElem?_getD]; done) | omega | fail) [hkc, hkz, hsz, hg, hw, e1, -List.getD_eq_getElem?_getD]; refine callK1_of (Fn.ct kx Try.call21) ?_; (try simp (config := { maxSteps := 1000000 }) (disch := refine Go.Av.hold_ ?_; first | (simp [hkc, hkz, hsz, hg, hw, e1, -List.getD_eq_getElem?_getD]; done) | omega | fail) [hkc, hkz, hsz, hg, hw, e1, -List.getD_eq_getElem?_getD]); first | (with_reducible refine callK_id ?_) | subst hK_) | ((with_reducible refine callK_at 14 ?_); refine callK_o (by decide) ?_; simp (config := { maxSteps := 1000000 }) (disch := refine Go.Av.hold_ ?_; first | (simp [hkc, hkz, hsz, hg, hw, e1, -List.getD_eq_getElem?_getD]; done) | omega | fail) [hkc, hkz, hsz, hg, hw, e1, -List.getD_eq_getElem?_getD]; refine callK3_of (FnG.ct kw Try.call14) ?_; (try simp (config := { maxSteps := 1000000 }) (disch := refine Go.Av.hold_ ?_; first | (simp [hkc, hkz, hsz, hg, hw, e1, -List.getD_eq_getElem?_getD]; done) | omega | fail) [hkc, hkz, hsz, hg, hw, e1, -List.getD_eq_getElem?_getD]); first | (with_reducible refine callK_id ?_) | subst hK_) | ((with_reducible refine AW.regSeqK fun K_ hK_ => ?_); (try simp (config := { maxSteps := 1000000 }) (disch := refine Go.Av.hold_ ?_; first | (simp [hkc, hkz, hsz, hg, hw, e1, -List.getD_eq_getElem?_getD]; done) | omega | fail) [hkc, hkz, hsz, hg, hw, e1, -List.getD_eq_getElem?_getD]); first | (with_reducible refine callK_id ?_) | subst hK_) | ((with_reducible refine AW.regK fun K_ hK_ => ?_); (try simp (config := { maxSteps := 1000000 }) (disch := refine Go.Av.hold_ ?_; first | (simp [hkc, hkz, hsz, hg, hw, e1, -List.getD_eq_getElem?_getD]; done) | omega | fail) [hkc, hkz, hsz, hg, hw, e1, -List.getD_eq_getElem?_getD]); first | (with_reducible refine callK_id ?_) | subst hK_) | ((with_reducible refine AW.drawSeqK ?_ ?_ fun K_ hK_ => ?_); (focus kernel_rfl); (focus kernel_rfl); (try simp (config := { maxSteps := 1000000 }) (disch := refine Go.Av.hold_ ?_; first | (simp [hkc, hkz, hsz, hg, hw, e1, -List.getD_eq_getElem?_getD]; done) | omega | fail) [hkc, hkz, hsz, hg, hw, e1, -List.getD_eq_getElem?_getD]); first | (with_reducible refine callK_id ?_) | subst hK_) | ((with_reducible refine AW.drawK ?_ ?_ fun K_ hK_ => ?_); (focus kernel_rfl); (focus kernel_rfl); (try simp (config := { maxSteps := 1000000 }) (disch := refine Go.Av.hold_ ?_; first | (simp [hkc, hkz, hsz, hg, hw, e1, -List.getD_eq_getElem?_getD]; done) | omega | fail) [hkc, hkz, hsz, hg, hw, e1, -List.getD_eq_getElem?_getD]); first | (with_reducible refine callK_id ?_) | subst hK_) | (with_reducible refine AW.seq ?_) | (with_reducible refine AW.block ?_) | (with_reducible refine AW.skip ?_) | (with_reducible refine AW.ret ?_) | (with_reducible refine AW.exit ?_) | (with_reducible refine AW.scope ?_) | (with_reducible refine scopeQ_normal ?_) | (with_reducible refine scopeQ_ret ?_) | (with_reducible refine scopeQ_exit ?_) | (with_reducible refine thenQ_normal ?_) | (with_reducible refine thenQ_ret ?_) | (with_reducible refine thenQ_exit ?_) | (with_reducible refine blockQ_normal ?_) | (with_reducible refine blockQ_ret ?_) | (with_reducible refine blockQ_exit ?_) | ((with_reducible refine blockQ_out ?_ ?_); (focus decide)) | ((with_reducible refine AW.cond_id ?_); refine AW.condB rfl ?_; (first | (with_reducible refine condB_true ?_) | (with_reducible refine condB_false ?_))) | ((first | (with_reducible refine contG_id ?_) | (with_reducible refine contO_id ?_) | (with_reducible refine contV_id ?_) | (with_reducible refine bindO_id ?_) | (with_reducible refine bindV_id ?_) | (with_reducible refine runE_id ?_)); simp (config := { maxSteps := 1000000 }) (disch := refine Go.Av.hold_ ?_; first | (simp [hkc, hkz, hsz, hg, hw, e1, -List.getD_eq_getElem?_getD]; done) | omega | fail) [hkc, hkz, hsz, hg, hw, e1, -List.getD_eq_getElem?_getD]; try (with_reducible refine callK_id ?_)))
      refine ⟨hkc, ?_⟩
      simp (config := { maxSteps := 1000000 }) (disch := refine Go.Av.hold_ ?_; first | (simp [-List.getD_eq_getElem?_getD]; done) | omega | fail) [-List.getD_eq_getElem?_getD]
  · obtain rfl : k = l.length := by omega
    have hkz : ¬ (l.length : Int) < l.length := by omega
    have hlen := sq_len (l.take l.length)
    rw [List.length_take] at hlen
    generalize sq (l.take l.length) = A at *
    repeat (first | ((with_reducible refine AW.regSeqK fun K_ hK_ => ?_); (try simp (config := { maxSteps := 1000000 }) (disch := refine Go.Av.hold_ ?_; first | (simp [hkz, -List.getD_eq_getElem?_getD]; done) | omega | fail) [hkz, -List.getD_eq_getElem?_getD]); first | (with_reducible refine callK_id ?_) | subst hK_) | ((with_reducible refine AW.regK fun K_ hK_ => ?_); (try simp (config := { maxSteps := 1000000 }) (disch := refine Go.Av.hold_ ?_; first | (simp [hkz, -List.getD_eq_getElem?_getD]; done) | omega | fail) [hkz, -List.getD_eq_getElem?_getD]); first | (with_reducible refine callK_id ?_) | subst hK_) | ((with_reducible refine AW.drawSeqK ?_ ?_ fun K_ hK_ => ?_); (focus kernel_rfl); (focus kernel_rfl); (try simp (config := { maxSteps := 1000000 }) (disch := refine Go.Av.hold_ ?_; first | (simp [hkz, -List.getD_eq_getElem?_getD]; done) | omega | fail) [hkz, -List.getD_eq_getElem?_getD]); first | (with_reducible refine callK_id ?_) | subst hK_) | ((with_reducible refine AW.drawK ?_ ?_ fun K_ hK_ => ?_); (focus kernel_rfl); (focus kernel_rfl); (try simp (config := { maxSteps := 1000000 }) (disch := refine Go.Av.hold_ ?_; first | (simp [hkz, -List.getD_eq_getElem?_getD]; done) | omega | fail) [hkz, -List.getD_eq_getElem?_getD]); first | (with_reducible refine callK_id ?_) | subst hK_) | (with_reducible refine AW.seq ?_) | (with_reducible refine AW.block ?_) | (with_reducible refine AW.skip ?_) | (with_reducible refine AW.ret ?_) | (with_reducible refine AW.exit ?_) | (with_reducible refine AW.scope ?_) | (with_reducible refine scopeQ_normal ?_) | (with_reducible refine scopeQ_ret ?_) | (with_reducible refine scopeQ_exit ?_) | (with_reducible refine thenQ_normal ?_) | (with_reducible refine thenQ_ret ?_) | (with_reducible refine thenQ_exit ?_) | (with_reducible refine blockQ_normal ?_) | (with_reducible refine blockQ_ret ?_) | (with_reducible refine blockQ_exit ?_) | ((with_reducible refine blockQ_out ?_ ?_); (focus decide)) | ((with_reducible refine AW.cond_id ?_); refine AW.condB rfl ?_; (first | (with_reducible refine condB_true ?_) | (with_reducible refine condB_false ?_))) | ((first | (with_reducible refine contG_id ?_) | (with_reducible refine contO_id ?_) | (with_reducible refine contV_id ?_) | (with_reducible refine bindO_id ?_) | (with_reducible refine bindV_id ?_) | (with_reducible refine runE_id ?_)); simp (config := { maxSteps := 1000000 }) (disch := refine Go.Av.hold_ ?_; first | (simp [hkz, -List.getD_eq_getElem?_getD]; done) | omega | fail) [hkz, -List.getD_eq_getElem?_getD]; try (with_reducible refine callK_id ?_)))
    refine callK_str (by decide) str_ok rfl rfl rfl (by omega) rfl ?_
    subst hK_
    repeat (first | ((with_reducible refine AW.regSeqK fun K_ hK_ => ?_); (try simp (config := { maxSteps := 1000000 }) (disch := refine Go.Av.hold_ ?_; first | (simp [-List.getD_eq_getElem?_getD]; done) | omega | fail) [-List.getD_eq_getElem?_getD]); first | (with_reducible refine callK_id ?_) | subst hK_) | ((with_reducible refine AW.regK fun K_ hK_ => ?_); (try simp (config := { maxSteps := 1000000 }) (disch := refine Go.Av.hold_ ?_; first | (simp [-List.getD_eq_getElem?_getD]; done) | omega | fail) [-List.getD_eq_getElem?_getD]); first | (with_reducible refine callK_id ?_) | subst hK_) | ((with_reducible refine AW.drawSeqK ?_ ?_ fun K_ hK_ => ?_); (focus kernel_rfl); (focus kernel_rfl); (try simp (config := { maxSteps := 1000000 }) (disch := refine Go.Av.hold_ ?_; first | (simp [-List.getD_eq_getElem?_getD]; done) | omega | fail) [-List.getD_eq_getElem?_getD]); first | (with_reducible refine callK_id ?_) | subst hK_) | ((with_reducible refine AW.drawK ?_ ?_ fun K_ hK_ => ?_); (focus kernel_rfl); (focus kernel_rfl); (try simp (config := { maxSteps := 1000000 }) (disch := refine Go.Av.hold_ ?_; first | (simp [-List.getD_eq_getElem?_getD]; done) | omega | fail) [-List.getD_eq_getElem?_getD]); first | (with_reducible refine callK_id ?_) | subst hK_) | (with_reducible refine AW.seq ?_) | (with_reducible refine AW.block ?_) | (with_reducible refine AW.skip ?_) | (with_reducible refine AW.ret ?_) | (with_reducible refine AW.exit ?_) | (with_reducible refine AW.scope ?_) | (with_reducible refine scopeQ_normal ?_) | (with_reducible refine scopeQ_ret ?_) | (with_reducible refine scopeQ_exit ?_) | (with_reducible refine thenQ_normal ?_) | (with_reducible refine thenQ_ret ?_) | (with_reducible refine thenQ_exit ?_) | (with_reducible refine blockQ_normal ?_) | (with_reducible refine blockQ_ret ?_) | (with_reducible refine blockQ_exit ?_) | ((with_reducible refine blockQ_out ?_ ?_); (focus decide)) | ((with_reducible refine AW.cond_id ?_); refine AW.condB rfl ?_; (first | (with_reducible refine condB_true ?_) | (with_reducible refine condB_false ?_))) | ((first | (with_reducible refine contG_id ?_) | (with_reducible refine contO_id ?_) | (with_reducible refine contV_id ?_) | (with_reducible refine bindO_id ?_) | (with_reducible refine bindV_id ?_) | (with_reducible refine runE_id ?_)); simp (config := { maxSteps := 1000000 }) (disch := refine Go.Av.hold_ ?_; first | (simp [-List.getD_eq_getElem?_getD]; done) | omega | fail) [-List.getD_eq_getElem?_getD]; try (with_reducible refine callK_id ?_)))
    simp (config := { maxSteps := 1000000 }) (disch := refine Go.Av.hold_ ?_; first | (simp [-List.getD_eq_getElem?_getD]; done) | omega | fail) [-List.getD_eq_getElem?_getD]
end Go.Av.Base
end
