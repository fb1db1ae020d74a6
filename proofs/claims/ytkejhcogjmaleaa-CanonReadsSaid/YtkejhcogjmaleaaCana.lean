/- The walks of this seat's functions, and what is known of what they reckon (Cana). Conditions: those that each theorem names. -/
import Derived.Test.YtkejhcogjmaleaaAv5
import Derived.Test.YtkejhcogjmaleaaProg
import Derived.KernelRfl
import Derived.WalkKit
import Derived.Shelf.Strings.Count

section
namespace Go.Av.Can
open Go Go.Av Go.Proofs
set_option linter.unusedVariables false
@[simp] theorem x2_u : udesc Try.prog 2 = some (.int .i64) := nr (by kernel_rfl)
@[simp] theorem x2_isSlice : isSlice Try.prog 2 = false := nr (by kernel_rfl)
@[simp] theorem x2_isString : isString Try.prog 2 = false := nr (by kernel_rfl)
@[simp] theorem x2_arrLen : arrLen Try.prog 2 = none := nr (by kernel_rfl)
@[simp] theorem x2_esz : esz Try.prog 2 = none := nr (by kernel_rfl)
@[simp] theorem x2_isAggT : isAggT Try.prog 2 = some false := nr (by kernel_rfl)
@[simp] theorem x2_tsize : tsize Try.prog 2 = some 1 := nr (by kernel_rfl)
@[simp] theorem x2_notInt : notInt Try.prog 2 = false := nr (by kernel_rfl)
@[simp] theorem x2_isBytes : isBytes Try.prog 2 = false := nr (by kernel_rfl)
@[simp] theorem x2_alloc (H : List (Nat × (Nat × HB))) (d : Nat) : aalloc Try.prog H d 2 = some (.ptr d (nextVer H d) 0, upd H d (nextVer H d, .row (.ints .i64 [0]))) := nr (by kernel_rfl)
@[simp] theorem x3_u : udesc Try.prog 3 = some (.int .i64) := nr (by kernel_rfl)
@[simp] theorem x3_isSlice : isSlice Try.prog 3 = false := nr (by kernel_rfl)
@[simp] theorem x3_isString : isString Try.prog 3 = false := nr (by kernel_rfl)
@[simp] theorem x3_arrLen : arrLen Try.prog 3 = none := nr (by kernel_rfl)
@[simp] theorem x3_esz : esz Try.prog 3 = none := nr (by kernel_rfl)
@[simp] theorem x3_isAggT : isAggT Try.prog 3 = some false := nr (by kernel_rfl)
@[simp] theorem x3_tsize : tsize Try.prog 3 = some 1 := nr (by kernel_rfl)
@[simp] theorem x3_notInt : notInt Try.prog 3 = false := nr (by kernel_rfl)
@[simp] theorem x3_isBytes : isBytes Try.prog 3 = false := nr (by kernel_rfl)
@[simp] theorem x3_alloc (H : List (Nat × (Nat × HB))) (d : Nat) : aalloc Try.prog H d 3 = some (.ptr d (nextVer H d) 0, upd H d (nextVer H d, .row (.ints .i64 [0]))) := nr (by kernel_rfl)
@[simp] theorem x4_u : udesc Try.prog 4 = some .bool := nr (by kernel_rfl)
@[simp] theorem x4_eq (a b : Bool) : eqNil Try.prog 4 (.p (.bool a)) (.p (.bool b)) = some (a == b) := eqNil_bool (by kernel_rfl) a b
@[simp] theorem x4_isSlice : isSlice Try.prog 4 = false := nr (by kernel_rfl)
@[simp] theorem x4_isString : isString Try.prog 4 = false := nr (by kernel_rfl)
@[simp] theorem x4_arrLen : arrLen Try.prog 4 = none := nr (by kernel_rfl)
@[simp] theorem x4_esz : esz Try.prog 4 = none := nr (by kernel_rfl)
@[simp] theorem x4_isAggT : isAggT Try.prog 4 = some false := nr (by kernel_rfl)
@[simp] theorem x4_tsize : tsize Try.prog 4 = some 1 := nr (by kernel_rfl)
@[simp] theorem x4_notInt : notInt Try.prog 4 = true := nr (by kernel_rfl)
@[simp] theorem x4_isBytes : isBytes Try.prog 4 = false := nr (by kernel_rfl)
@[simp] theorem x4_alloc (H : List (Nat × (Nat × HB))) (d : Nat) : aalloc Try.prog H d 4 = some (.ptr d (nextVer H d) 0, upd H d (nextVer H d, .cells [.p (.bool false)])) := nr (by kernel_rfl)
@[simp] theorem x5_u : udesc Try.prog 5 = some (.int .u8) := nr (by kernel_rfl)
@[simp] theorem x5_isSlice : isSlice Try.prog 5 = false := nr (by kernel_rfl)
@[simp] theorem x5_isString : isString Try.prog 5 = false := nr (by kernel_rfl)
@[simp] theorem x5_arrLen : arrLen Try.prog 5 = none := nr (by kernel_rfl)
@[simp] theorem x5_esz : esz Try.prog 5 = none := nr (by kernel_rfl)
@[simp] theorem x5_isAggT : isAggT Try.prog 5 = some false := nr (by kernel_rfl)
@[simp] theorem x5_tsize : tsize Try.prog 5 = some 1 := nr (by kernel_rfl)
@[simp] theorem x5_notInt : notInt Try.prog 5 = false := nr (by kernel_rfl)
@[simp] theorem x5_isBytes : isBytes Try.prog 5 = false := nr (by kernel_rfl)
@[simp] theorem x5_alloc (H : List (Nat × (Nat × HB))) (d : Nat) : aalloc Try.prog H d 5 = some (.ptr d (nextVer H d) 0, upd H d (nextVer H d, .row (.ints .u8 [0]))) := nr (by kernel_rfl)
@[simp] theorem x9_u : udesc Try.prog 9 = some .string := nr (by kernel_rfl)
@[simp] theorem x9_isSlice : isSlice Try.prog 9 = false := nr (by kernel_rfl)
@[simp] theorem x9_isString : isString Try.prog 9 = true := nr (by kernel_rfl)
@[simp] theorem x9_arrLen : arrLen Try.prog 9 = none := nr (by kernel_rfl)
@[simp] theorem x9_esz : esz Try.prog 9 = none := nr (by kernel_rfl)
@[simp] theorem x9_isAggT : isAggT Try.prog 9 = some false := nr (by kernel_rfl)
@[simp] theorem x9_tsize : tsize Try.prog 9 = some 1 := nr (by kernel_rfl)
@[simp] theorem x9_notInt : notInt Try.prog 9 = true := nr (by kernel_rfl)
@[simp] theorem x9_isBytes : isBytes Try.prog 9 = false := nr (by kernel_rfl)
@[simp] theorem x9_alloc (H : List (Nat × (Nat × HB))) (d : Nat) : aalloc Try.prog H d 9 = some (.ptr d (nextVer H d) 0, upd H d (nextVer H d, .cells [.p (.str ByteArray.empty)])) := nr (by kernel_rfl)
@[simp] theorem x12_u : udesc Try.prog 12 = some (.int .u64) := nr (by kernel_rfl)
@[simp] theorem x12_isSlice : isSlice Try.prog 12 = false := nr (by kernel_rfl)
@[simp] theorem x12_isString : isString Try.prog 12 = false := nr (by kernel_rfl)
@[simp] theorem x12_arrLen : arrLen Try.prog 12 = none := nr (by kernel_rfl)
@[simp] theorem x12_esz : esz Try.prog 12 = none := nr (by kernel_rfl)
@[simp] theorem x12_isAggT : isAggT Try.prog 12 = some false := nr (by kernel_rfl)
@[simp] theorem x12_tsize : tsize Try.prog 12 = some 1 := nr (by kernel_rfl)
@[simp] theorem x12_notInt : notInt Try.prog 12 = false := nr (by kernel_rfl)
@[simp] theorem x12_isBytes : isBytes Try.prog 12 = false := nr (by kernel_rfl)
@[simp] theorem x12_alloc (H : List (Nat × (Nat × HB))) (d : Nat) : aalloc Try.prog H d 12 = some (.ptr d (nextVer H d) 0, upd H d (nextVer H d, .row (.ints .u64 [0]))) := nr (by kernel_rfl)
@[simp] theorem x21_u : udesc Try.prog 21 = some (.int .i32) := nr (by kernel_rfl)
@[simp] theorem x21_isSlice : isSlice Try.prog 21 = false := nr (by kernel_rfl)
@[simp] theorem x21_isString : isString Try.prog 21 = false := nr (by kernel_rfl)
@[simp] theorem x21_arrLen : arrLen Try.prog 21 = none := nr (by kernel_rfl)
@[simp] theorem x21_esz : esz Try.prog 21 = none := nr (by kernel_rfl)
@[simp] theorem x21_isAggT : isAggT Try.prog 21 = some false := nr (by kernel_rfl)
@[simp] theorem x21_tsize : tsize Try.prog 21 = some 1 := nr (by kernel_rfl)
@[simp] theorem x21_notInt : notInt Try.prog 21 = false := nr (by kernel_rfl)
@[simp] theorem x21_isBytes : isBytes Try.prog 21 = false := nr (by kernel_rfl)
@[simp] theorem x21_alloc (H : List (Nat × (Nat × HB))) (d : Nat) : aalloc Try.prog H d 21 = some (.ptr d (nextVer H d) 0, upd H d (nextVer H d, .row (.ints .i32 [0]))) := nr (by kernel_rfl)
@[simp] theorem x24_us : udesc Try.prog 24 = some (.slice 5) := nr (by kernel_rfl)
@[simp] theorem x24_eq (x y : V) : eqNil Try.prog 24 x y = eqSl x y := eqNil_sl (e := 5) (by kernel_rfl) x y
@[simp] theorem x24_isSlice : isSlice Try.prog 24 = true := nr (by kernel_rfl)
@[simp] theorem x24_isString : isString Try.prog 24 = false := nr (by kernel_rfl)
@[simp] theorem x24_arrLen : arrLen Try.prog 24 = none := nr (by kernel_rfl)
@[simp] theorem x24_esz : esz Try.prog 24 = some 1 := nr (by kernel_rfl)
@[simp] theorem x24_isAggT : isAggT Try.prog 24 = some false := nr (by kernel_rfl)
@[simp] theorem x24_tsize : tsize Try.prog 24 = some 1 := nr (by kernel_rfl)
@[simp] theorem x24_notInt : notInt Try.prog 24 = true := nr (by kernel_rfl)
@[simp] theorem x24_isBytes : isBytes Try.prog 24 = true := nr (by kernel_rfl)
@[simp] theorem x24_row (T : List (Nat × Nat)) (d len : Nat) (ps : List (Nat × V)) : arowSlice Try.prog T d 24 len ps = if len * 1 ≤ 16777216 then rowFill (bl []) 1 len d T (fillV (fun k => some (k * 1, 1)) [] (zrep len [.p (.int .u8 0)]) ps) else none := arowSlice_eq (P := Try.prog) (t := 24) (s := 1) (zl := [.p (.int .u8 0)]) (e := 5) (b := 1) (z := .int .u8 0) (by kernel_rfl) (by kernel_rfl) (by kernel_rfl) rfl T d len ps
@[simp] theorem x24_own (H : List (Nat × (Nat × HB))) (d len : Nat) (ps : List (Nat × V)) : abuildSlice Try.prog H d 24 len ps = if len * 1 ≤ 16777216 then (fillV (fun k => some (k * 1, 1)) H (zrep len [.p (.int .u8 0)]) ps).map fun l => (.own d (nextVer H d) 0 len len, upd H d (nextVer H d, mkHB l)) else none := abuildSlice_eq (P := Try.prog) (t := 24) (s := 1) (zl := [.p (.int .u8 0)]) (e := 5) (b := 1) (z := .int .u8 0) (by kernel_rfl) (by kernel_rfl) (by kernel_rfl) rfl H d len ps
@[simp] theorem x24_copy (H : List (Nat × (Nat × HB))) (id ver off len cap : Nat) (y : V) : acopy Try.prog H 24 (.own id ver off len cap) y = copyR ver off len 1 H id (look H id) (srcV H 1 y) := acopy_eq (e := 5) (b := 1) (z := .int .u8 0) (by kernel_rfl) H id ver off len cap y
@[simp] theorem x24_make (H : List (Nat × (Nat × HB))) (d : Nat) (k k' : IntKind) (n m : Int) (h0 : 0 ≤ n) (h1 : n ≤ m) (h2 : m ≤ 281474976710656) : amakeSlice Try.prog H d 24 (.p (.int k n)) (.p (.int k' m)) = some (.own d (nextVer H d) 0 n.toNat m.toNat, upd H d (nextVer H d, .row (bl (List.replicate m.toNat 0#8)))) := amake_bytes (e := 5) (by kernel_rfl) H d k k' n m h0 h1 h2
@[simp] theorem x24_elem : elemInfo Try.prog 24 = some (5, 1, 1, .int .u8 0) := nr (by kernel_rfl)
@[simp] theorem x24_alloc (H : List (Nat × (Nat × HB))) (d : Nat) : aalloc Try.prog H d 24 = some (.ptr d (nextVer H d) 0, upd H d (nextVer H d, .cells [.p (.sl (.vals 1 []) true)])) := nr (by kernel_rfl)
@[simp] theorem x30_eqs (r s : Row PV) : eqNil Try.prog 30 (.p (.agg r)) (.p (.agg s)) = eqAts r s [(0, 1), (1, 1)] := eqNil_struct (by kernel_rfl) r s
@[simp] theorem x30_isSlice : isSlice Try.prog 30 = false := nr (by kernel_rfl)
@[simp] theorem x30_isString : isString Try.prog 30 = false := nr (by kernel_rfl)
@[simp] theorem x30_arrLen : arrLen Try.prog 30 = none := nr (by kernel_rfl)
@[simp] theorem x30_esz : esz Try.prog 30 = none := nr (by kernel_rfl)
@[simp] theorem x30_isAggT : isAggT Try.prog 30 = some true := nr (by kernel_rfl)
@[simp] theorem x30_tsize : tsize Try.prog 30 = some 2 := nr (by kernel_rfl)
@[simp] theorem x30_notInt : notInt Try.prog 30 = true := nr (by kernel_rfl)
@[simp] theorem x30_isBytes : isBytes Try.prog 30 = false := nr (by kernel_rfl)
@[simp] theorem x30_alloc (H : List (Nat × (Nat × HB))) (d : Nat) : aalloc Try.prog H d 30 = some (.ptr d (nextVer H d) 0, upd H d (nextVer H d, .cells [.p (.str ByteArray.empty), .p (.str ByteArray.empty)])) := nr (by kernel_rfl)
@[simp] theorem x30_build (H : List (Nat × (Nat × HB))) (ps : List (Nat × V)) : abuild Try.prog H 30 ps = (fillV (fun k => lookN [(0, 1), (1, 1)] k) H [.p (.str ByteArray.empty), .p (.str ByteArray.empty)] ps).map mkAgg := nr (by kernel_rfl)
@[simp] theorem x30_f0 (x : V) : afield Try.prog 30 x 0 = fieldV false 0 1 x := nr (by kernel_rfl)
@[simp] theorem x30_fa0 (id ver off : Nat) : afieldAddr Try.prog 30 (.ptr id ver off) 0 = some (.ptr id ver (off + 0)) := nr (by kernel_rfl)
@[simp] theorem x30_fe0 (r : Row PV) (i j : Nat) : afieldAddr Try.prog 30 (.p (.eptr r i j)) 0 = some (.p (.eptr r i (j + 0))) := nr (by kernel_rfl)
@[simp] theorem x30_f1 (x : V) : afield Try.prog 30 x 1 = fieldV false 1 1 x := nr (by kernel_rfl)
@[simp] theorem x30_fa1 (id ver off : Nat) : afieldAddr Try.prog 30 (.ptr id ver off) 1 = some (.ptr id ver (off + 1)) := nr (by kernel_rfl)
@[simp] theorem x30_fe1 (r : Row PV) (i j : Nat) : afieldAddr Try.prog 30 (.p (.eptr r i j)) 1 = some (.p (.eptr r i (j + 1))) := nr (by kernel_rfl)
@[simp] theorem x31_eqs (r s : Row PV) : eqNil Try.prog 31 (.p (.agg r)) (.p (.agg s)) = eqAts r s [(0, 1), (1, 1)] := eqNil_struct (by kernel_rfl) r s
@[simp] theorem x31_isSlice : isSlice Try.prog 31 = false := nr (by kernel_rfl)
@[simp] theorem x31_isString : isString Try.prog 31 = false := nr (by kernel_rfl)
@[simp] theorem x31_arrLen : arrLen Try.prog 31 = none := nr (by kernel_rfl)
@[simp] theorem x31_esz : esz Try.prog 31 = none := nr (by kernel_rfl)
@[simp] theorem x31_isAggT : isAggT Try.prog 31 = some true := nr (by kernel_rfl)
@[simp] theorem x31_tsize : tsize Try.prog 31 = some 2 := nr (by kernel_rfl)
@[simp] theorem x31_notInt : notInt Try.prog 31 = true := nr (by kernel_rfl)
@[simp] theorem x31_isBytes : isBytes Try.prog 31 = false := nr (by kernel_rfl)
@[simp] theorem x31_alloc (H : List (Nat × (Nat × HB))) (d : Nat) : aalloc Try.prog H d 31 = some (.ptr d (nextVer H d) 0, upd H d (nextVer H d, .cells [.p (.str ByteArray.empty), .p (.str ByteArray.empty)])) := nr (by kernel_rfl)
@[simp] theorem x31_build (H : List (Nat × (Nat × HB))) (ps : List (Nat × V)) : abuild Try.prog H 31 ps = (fillV (fun k => lookN [(0, 1), (1, 1)] k) H [.p (.str ByteArray.empty), .p (.str ByteArray.empty)] ps).map mkAgg := nr (by kernel_rfl)
@[simp] theorem x31_f0 (x : V) : afield Try.prog 31 x 0 = fieldV false 0 1 x := nr (by kernel_rfl)
@[simp] theorem x31_fa0 (id ver off : Nat) : afieldAddr Try.prog 31 (.ptr id ver off) 0 = some (.ptr id ver (off + 0)) := nr (by kernel_rfl)
@[simp] theorem x31_fe0 (r : Row PV) (i j : Nat) : afieldAddr Try.prog 31 (.p (.eptr r i j)) 0 = some (.p (.eptr r i (j + 0))) := nr (by kernel_rfl)
@[simp] theorem x31_f1 (x : V) : afield Try.prog 31 x 1 = fieldV false 1 1 x := nr (by kernel_rfl)
@[simp] theorem x31_fa1 (id ver off : Nat) : afieldAddr Try.prog 31 (.ptr id ver off) 1 = some (.ptr id ver (off + 1)) := nr (by kernel_rfl)
@[simp] theorem x31_fe1 (r : Row PV) (i j : Nat) : afieldAddr Try.prog 31 (.p (.eptr r i j)) 1 = some (.p (.eptr r i (j + 1))) := nr (by kernel_rfl)
@[simp] theorem x32_eqs (r s : Row PV) : eqNil Try.prog 32 (.p (.agg r)) (.p (.agg s)) = eqAts r s [(0, 1), (1, 1), (2, 1), (3, 1)] := eqNil_struct (by kernel_rfl) r s
@[simp] theorem x32_isSlice : isSlice Try.prog 32 = false := nr (by kernel_rfl)
@[simp] theorem x32_isString : isString Try.prog 32 = false := nr (by kernel_rfl)
@[simp] theorem x32_arrLen : arrLen Try.prog 32 = none := nr (by kernel_rfl)
@[simp] theorem x32_esz : esz Try.prog 32 = none := nr (by kernel_rfl)
@[simp] theorem x32_isAggT : isAggT Try.prog 32 = some true := nr (by kernel_rfl)
@[simp] theorem x32_tsize : tsize Try.prog 32 = some 4 := nr (by kernel_rfl)
@[simp] theorem x32_notInt : notInt Try.prog 32 = true := nr (by kernel_rfl)
@[simp] theorem x32_isBytes : isBytes Try.prog 32 = false := nr (by kernel_rfl)
@[simp] theorem x32_alloc (H : List (Nat × (Nat × HB))) (d : Nat) : aalloc Try.prog H d 32 = some (.ptr d (nextVer H d) 0, upd H d (nextVer H d, .cells [.p (.str ByteArray.empty), .p (.str ByteArray.empty), .p (.str ByteArray.empty), .p (.str ByteArray.empty)])) := nr (by kernel_rfl)
@[simp] theorem x32_build (H : List (Nat × (Nat × HB))) (ps : List (Nat × V)) : abuild Try.prog H 32 ps = (fillV (fun k => lookN [(0, 1), (1, 1), (2, 1), (3, 1)] k) H [.p (.str ByteArray.empty), .p (.str ByteArray.empty), .p (.str ByteArray.empty), .p (.str ByteArray.empty)] ps).map mkAgg := nr (by kernel_rfl)
@[simp] theorem x32_f0 (x : V) : afield Try.prog 32 x 0 = fieldV false 0 1 x := nr (by kernel_rfl)
@[simp] theorem x32_fa0 (id ver off : Nat) : afieldAddr Try.prog 32 (.ptr id ver off) 0 = some (.ptr id ver (off + 0)) := nr (by kernel_rfl)
@[simp] theorem x32_fe0 (r : Row PV) (i j : Nat) : afieldAddr Try.prog 32 (.p (.eptr r i j)) 0 = some (.p (.eptr r i (j + 0))) := nr (by kernel_rfl)
@[simp] theorem x32_f1 (x : V) : afield Try.prog 32 x 1 = fieldV false 1 1 x := nr (by kernel_rfl)
@[simp] theorem x32_fa1 (id ver off : Nat) : afieldAddr Try.prog 32 (.ptr id ver off) 1 = some (.ptr id ver (off + 1)) := nr (by kernel_rfl)
@[simp] theorem x32_fe1 (r : Row PV) (i j : Nat) : afieldAddr Try.prog 32 (.p (.eptr r i j)) 1 = some (.p (.eptr r i (j + 1))) := nr (by kernel_rfl)
@[simp] theorem x32_f2 (x : V) : afield Try.prog 32 x 2 = fieldV false 2 1 x := nr (by kernel_rfl)
@[simp] theorem x32_fa2 (id ver off : Nat) : afieldAddr Try.prog 32 (.ptr id ver off) 2 = some (.ptr id ver (off + 2)) := nr (by kernel_rfl)
@[simp] theorem x32_fe2 (r : Row PV) (i j : Nat) : afieldAddr Try.prog 32 (.p (.eptr r i j)) 2 = some (.p (.eptr r i (j + 2))) := nr (by kernel_rfl)
@[simp] theorem x32_f3 (x : V) : afield Try.prog 32 x 3 = fieldV false 3 1 x := nr (by kernel_rfl)
@[simp] theorem x32_fa3 (id ver off : Nat) : afieldAddr Try.prog 32 (.ptr id ver off) 3 = some (.ptr id ver (off + 3)) := nr (by kernel_rfl)
@[simp] theorem x32_fe3 (r : Row PV) (i j : Nat) : afieldAddr Try.prog 32 (.p (.eptr r i j)) 3 = some (.p (.eptr r i (j + 3))) := nr (by kernel_rfl)
@[simp] theorem x33_eqs (r s : Row PV) : eqNil Try.prog 33 (.p (.agg r)) (.p (.agg s)) = eqAts r s [(0, 1), (1, 1), (2, 1), (3, 1)] := eqNil_struct (by kernel_rfl) r s
@[simp] theorem x33_isSlice : isSlice Try.prog 33 = false := nr (by kernel_rfl)
@[simp] theorem x33_isString : isString Try.prog 33 = false := nr (by kernel_rfl)
@[simp] theorem x33_arrLen : arrLen Try.prog 33 = none := nr (by kernel_rfl)
@[simp] theorem x33_esz : esz Try.prog 33 = none := nr (by kernel_rfl)
@[simp] theorem x33_isAggT : isAggT Try.prog 33 = some true := nr (by kernel_rfl)
@[simp] theorem x33_tsize : tsize Try.prog 33 = some 4 := nr (by kernel_rfl)
@[simp] theorem x33_notInt : notInt Try.prog 33 = true := nr (by kernel_rfl)
@[simp] theorem x33_isBytes : isBytes Try.prog 33 = false := nr (by kernel_rfl)
@[simp] theorem x33_alloc (H : List (Nat × (Nat × HB))) (d : Nat) : aalloc Try.prog H d 33 = some (.ptr d (nextVer H d) 0, upd H d (nextVer H d, .cells [.p (.str ByteArray.empty), .p (.str ByteArray.empty), .p (.str ByteArray.empty), .p (.str ByteArray.empty)])) := nr (by kernel_rfl)
@[simp] theorem x33_build (H : List (Nat × (Nat × HB))) (ps : List (Nat × V)) : abuild Try.prog H 33 ps = (fillV (fun k => lookN [(0, 1), (1, 1), (2, 1), (3, 1)] k) H [.p (.str ByteArray.empty), .p (.str ByteArray.empty), .p (.str ByteArray.empty), .p (.str ByteArray.empty)] ps).map mkAgg := nr (by kernel_rfl)
@[simp] theorem x33_f0 (x : V) : afield Try.prog 33 x 0 = fieldV false 0 1 x := nr (by kernel_rfl)
@[simp] theorem x33_fa0 (id ver off : Nat) : afieldAddr Try.prog 33 (.ptr id ver off) 0 = some (.ptr id ver (off + 0)) := nr (by kernel_rfl)
@[simp] theorem x33_fe0 (r : Row PV) (i j : Nat) : afieldAddr Try.prog 33 (.p (.eptr r i j)) 0 = some (.p (.eptr r i (j + 0))) := nr (by kernel_rfl)
@[simp] theorem x33_f1 (x : V) : afield Try.prog 33 x 1 = fieldV false 1 1 x := nr (by kernel_rfl)
@[simp] theorem x33_fa1 (id ver off : Nat) : afieldAddr Try.prog 33 (.ptr id ver off) 1 = some (.ptr id ver (off + 1)) := nr (by kernel_rfl)
@[simp] theorem x33_fe1 (r : Row PV) (i j : Nat) : afieldAddr Try.prog 33 (.p (.eptr r i j)) 1 = some (.p (.eptr r i (j + 1))) := nr (by kernel_rfl)
@[simp] theorem x33_f2 (x : V) : afield Try.prog 33 x 2 = fieldV false 2 1 x := nr (by kernel_rfl)
@[simp] theorem x33_fa2 (id ver off : Nat) : afieldAddr Try.prog 33 (.ptr id ver off) 2 = some (.ptr id ver (off + 2)) := nr (by kernel_rfl)
@[simp] theorem x33_fe2 (r : Row PV) (i j : Nat) : afieldAddr Try.prog 33 (.p (.eptr r i j)) 2 = some (.p (.eptr r i (j + 2))) := nr (by kernel_rfl)
@[simp] theorem x33_f3 (x : V) : afield Try.prog 33 x 3 = fieldV false 3 1 x := nr (by kernel_rfl)
@[simp] theorem x33_fa3 (id ver off : Nat) : afieldAddr Try.prog 33 (.ptr id ver off) 3 = some (.ptr id ver (off + 3)) := nr (by kernel_rfl)
@[simp] theorem x33_fe3 (r : Row PV) (i j : Nat) : afieldAddr Try.prog 33 (.p (.eptr r i j)) 3 = some (.p (.eptr r i (j + 3))) := nr (by kernel_rfl)
@[simp] theorem x38_us : udesc Try.prog 38 = some (.slice 31) := nr (by kernel_rfl)
@[simp] theorem x38_eq (x y : V) : eqNil Try.prog 38 x y = eqSl x y := eqNil_sl (e := 31) (by kernel_rfl) x y
@[simp] theorem x38_isSlice : isSlice Try.prog 38 = true := nr (by kernel_rfl)
@[simp] theorem x38_isString : isString Try.prog 38 = false := nr (by kernel_rfl)
@[simp] theorem x38_arrLen : arrLen Try.prog 38 = none := nr (by kernel_rfl)
@[simp] theorem x38_esz : esz Try.prog 38 = some 2 := nr (by kernel_rfl)
@[simp] theorem x38_isAggT : isAggT Try.prog 38 = some false := nr (by kernel_rfl)
@[simp] theorem x38_tsize : tsize Try.prog 38 = some 1 := nr (by kernel_rfl)
@[simp] theorem x38_notInt : notInt Try.prog 38 = true := nr (by kernel_rfl)
@[simp] theorem x38_isBytes : isBytes Try.prog 38 = false := nr (by kernel_rfl)
@[simp] theorem x38_row (T : List (Nat × Nat)) (d len : Nat) (ps : List (Nat × V)) : arowSlice Try.prog T d 38 len ps = if len * 2 ≤ 16777216 then rowFill (.vals 2 []) 2 len d T (fillV (fun k => some (k * 2, 2)) [] (zrep len [.p (.str ByteArray.empty), .p (.str ByteArray.empty)]) ps) else none := arowSlice_eq (P := Try.prog) (t := 38) (s := 2) (zl := [.p (.str ByteArray.empty), .p (.str ByteArray.empty)]) (e := 31) (b := 32) (z := .agg #[.string ByteArray.empty, .string ByteArray.empty]) (by kernel_rfl) (by kernel_rfl) (by kernel_rfl) rfl T d len ps
@[simp] theorem x38_own (H : List (Nat × (Nat × HB))) (d len : Nat) (ps : List (Nat × V)) : abuildSlice Try.prog H d 38 len ps = if len * 2 ≤ 16777216 then (fillV (fun k => some (k * 2, 2)) H (zrep len [.p (.str ByteArray.empty), .p (.str ByteArray.empty)]) ps).map fun l => (.own d (nextVer H d) 0 len len, upd H d (nextVer H d, mkHB l)) else none := abuildSlice_eq (P := Try.prog) (t := 38) (s := 2) (zl := [.p (.str ByteArray.empty), .p (.str ByteArray.empty)]) (e := 31) (b := 32) (z := .agg #[.string ByteArray.empty, .string ByteArray.empty]) (by kernel_rfl) (by kernel_rfl) (by kernel_rfl) rfl H d len ps
@[simp] theorem x38_copy (H : List (Nat × (Nat × HB))) (id ver off len cap : Nat) (y : V) : acopy Try.prog H 38 (.own id ver off len cap) y = copyR ver off len 2 H id (look H id) (srcV H 2 y) := acopy_eq (e := 31) (b := 32) (z := .agg #[.string ByteArray.empty, .string ByteArray.empty]) (by kernel_rfl) H id ver off len cap y
@[simp] theorem x38_elem : elemInfo Try.prog 38 = some (31, 2, 32, .agg #[.string ByteArray.empty, .string ByteArray.empty]) := nr (by kernel_rfl)
@[simp] theorem x38_alloc (H : List (Nat × (Nat × HB))) (d : Nat) : aalloc Try.prog H d 38 = some (.ptr d (nextVer H d) 0, upd H d (nextVer H d, .cells [.p (.sl (.vals 1 []) true)])) := nr (by kernel_rfl)
@[simp] theorem x39_us : udesc Try.prog 39 = some (.slice 33) := nr (by kernel_rfl)
@[simp] theorem x39_eq (x y : V) : eqNil Try.prog 39 x y = eqSl x y := eqNil_sl (e := 33) (by kernel_rfl) x y
@[simp] theorem x39_isSlice : isSlice Try.prog 39 = true := nr (by kernel_rfl)
@[simp] theorem x39_isString : isString Try.prog 39 = false := nr (by kernel_rfl)
@[simp] theorem x39_arrLen : arrLen Try.prog 39 = none := nr (by kernel_rfl)
@[simp] theorem x39_esz : esz Try.prog 39 = some 4 := nr (by kernel_rfl)
@[simp] theorem x39_isAggT : isAggT Try.prog 39 = some false := nr (by kernel_rfl)
@[simp] theorem x39_tsize : tsize Try.prog 39 = some 1 := nr (by kernel_rfl)
@[simp] theorem x39_notInt : notInt Try.prog 39 = true := nr (by kernel_rfl)
@[simp] theorem x39_isBytes : isBytes Try.prog 39 = false := nr (by kernel_rfl)
@[simp] theorem x39_row (T : List (Nat × Nat)) (d len : Nat) (ps : List (Nat × V)) : arowSlice Try.prog T d 39 len ps = if len * 4 ≤ 16777216 then rowFill (.vals 4 []) 4 len d T (fillV (fun k => some (k * 4, 4)) [] (zrep len [.p (.str ByteArray.empty), .p (.str ByteArray.empty), .p (.str ByteArray.empty), .p (.str ByteArray.empty)]) ps) else none := arowSlice_eq (P := Try.prog) (t := 39) (s := 4) (zl := [.p (.str ByteArray.empty), .p (.str ByteArray.empty), .p (.str ByteArray.empty), .p (.str ByteArray.empty)]) (e := 33) (b := 64) (z := .agg #[.string ByteArray.empty, .string ByteArray.empty, .string ByteArray.empty, .string ByteArray.empty]) (by kernel_rfl) (by kernel_rfl) (by kernel_rfl) rfl T d len ps
@[simp] theorem x39_own (H : List (Nat × (Nat × HB))) (d len : Nat) (ps : List (Nat × V)) : abuildSlice Try.prog H d 39 len ps = if len * 4 ≤ 16777216 then (fillV (fun k => some (k * 4, 4)) H (zrep len [.p (.str ByteArray.empty), .p (.str ByteArray.empty), .p (.str ByteArray.empty), .p (.str ByteArray.empty)]) ps).map fun l => (.own d (nextVer H d) 0 len len, upd H d (nextVer H d, mkHB l)) else none := abuildSlice_eq (P := Try.prog) (t := 39) (s := 4) (zl := [.p (.str ByteArray.empty), .p (.str ByteArray.empty), .p (.str ByteArray.empty), .p (.str ByteArray.empty)]) (e := 33) (b := 64) (z := .agg #[.string ByteArray.empty, .string ByteArray.empty, .string ByteArray.empty, .string ByteArray.empty]) (by kernel_rfl) (by kernel_rfl) (by kernel_rfl) rfl H d len ps
@[simp] theorem x39_copy (H : List (Nat × (Nat × HB))) (id ver off len cap : Nat) (y : V) : acopy Try.prog H 39 (.own id ver off len cap) y = copyR ver off len 4 H id (look H id) (srcV H 4 y) := acopy_eq (e := 33) (b := 64) (z := .agg #[.string ByteArray.empty, .string ByteArray.empty, .string ByteArray.empty, .string ByteArray.empty]) (by kernel_rfl) H id ver off len cap y
@[simp] theorem x39_elem : elemInfo Try.prog 39 = some (33, 4, 64, .agg #[.string ByteArray.empty, .string ByteArray.empty, .string ByteArray.empty, .string ByteArray.empty]) := nr (by kernel_rfl)
@[simp] theorem x39_alloc (H : List (Nat × (Nat × HB))) (d : Nat) : aalloc Try.prog H d 39 = some (.ptr d (nextVer H d) 0, upd H d (nextVer H d, .cells [.p (.sl (.vals 1 []) true)])) := nr (by kernel_rfl)
@[simp] theorem x40_isSlice : isSlice Try.prog 40 = false := nr (by kernel_rfl)
@[simp] theorem x40_isString : isString Try.prog 40 = false := nr (by kernel_rfl)
@[simp] theorem x40_arrLen : arrLen Try.prog 40 = none := nr (by kernel_rfl)
@[simp] theorem x40_esz : esz Try.prog 40 = none := nr (by kernel_rfl)
@[simp] theorem x40_isAggT : isAggT Try.prog 40 = some true := nr (by kernel_rfl)
@[simp] theorem x40_tsize : tsize Try.prog 40 = some 8 := nr (by kernel_rfl)
@[simp] theorem x40_notInt : notInt Try.prog 40 = true := nr (by kernel_rfl)
@[simp] theorem x40_isBytes : isBytes Try.prog 40 = false := nr (by kernel_rfl)
@[simp] theorem x40_alloc (H : List (Nat × (Nat × HB))) (d : Nat) : aalloc Try.prog H d 40 = some (.ptr d (nextVer H d) 0, upd H d (nextVer H d, .cells [.p (.int .i64 0), .p (.int .i64 0), .p (.str ByteArray.empty), .p (.str ByteArray.empty), .p (.str ByteArray.empty), .p (.str ByteArray.empty), .p (.sl (.vals 1 []) true), .p (.sl (.vals 1 []) true)])) := nr (by kernel_rfl)
@[simp] theorem x40_build (H : List (Nat × (Nat × HB))) (ps : List (Nat × V)) : abuild Try.prog H 40 ps = (fillV (fun k => lookN [(0, 1), (1, 1), (2, 1), (3, 1), (4, 1), (5, 1), (6, 1), (7, 1)] k) H [.p (.int .i64 0), .p (.int .i64 0), .p (.str ByteArray.empty), .p (.str ByteArray.empty), .p (.str ByteArray.empty), .p (.str ByteArray.empty), .p (.sl (.vals 1 []) true), .p (.sl (.vals 1 []) true)] ps).map mkAgg := nr (by kernel_rfl)
@[simp] theorem x40_f0 (x : V) : afield Try.prog 40 x 0 = fieldV false 0 1 x := nr (by kernel_rfl)
@[simp] theorem x40_fa0 (id ver off : Nat) : afieldAddr Try.prog 40 (.ptr id ver off) 0 = some (.ptr id ver (off + 0)) := nr (by kernel_rfl)
@[simp] theorem x40_fe0 (r : Row PV) (i j : Nat) : afieldAddr Try.prog 40 (.p (.eptr r i j)) 0 = some (.p (.eptr r i (j + 0))) := nr (by kernel_rfl)
@[simp] theorem x40_f1 (x : V) : afield Try.prog 40 x 1 = fieldV false 1 1 x := nr (by kernel_rfl)
@[simp] theorem x40_fa1 (id ver off : Nat) : afieldAddr Try.prog 40 (.ptr id ver off) 1 = some (.ptr id ver (off + 1)) := nr (by kernel_rfl)
@[simp] theorem x40_fe1 (r : Row PV) (i j : Nat) : afieldAddr Try.prog 40 (.p (.eptr r i j)) 1 = some (.p (.eptr r i (j + 1))) := nr (by kernel_rfl)
@[simp] theorem x40_f2 (x : V) : afield Try.prog 40 x 2 = fieldV false 2 1 x := nr (by kernel_rfl)
@[simp] theorem x40_fa2 (id ver off : Nat) : afieldAddr Try.prog 40 (.ptr id ver off) 2 = some (.ptr id ver (off + 2)) := nr (by kernel_rfl)
@[simp] theorem x40_fe2 (r : Row PV) (i j : Nat) : afieldAddr Try.prog 40 (.p (.eptr r i j)) 2 = some (.p (.eptr r i (j + 2))) := nr (by kernel_rfl)
@[simp] theorem x40_f3 (x : V) : afield Try.prog 40 x 3 = fieldV false 3 1 x := nr (by kernel_rfl)
@[simp] theorem x40_fa3 (id ver off : Nat) : afieldAddr Try.prog 40 (.ptr id ver off) 3 = some (.ptr id ver (off + 3)) := nr (by kernel_rfl)
@[simp] theorem x40_fe3 (r : Row PV) (i j : Nat) : afieldAddr Try.prog 40 (.p (.eptr r i j)) 3 = some (.p (.eptr r i (j + 3))) := nr (by kernel_rfl)
@[simp] theorem x40_f4 (x : V) : afield Try.prog 40 x 4 = fieldV false 4 1 x := nr (by kernel_rfl)
@[simp] theorem x40_fa4 (id ver off : Nat) : afieldAddr Try.prog 40 (.ptr id ver off) 4 = some (.ptr id ver (off + 4)) := nr (by kernel_rfl)
@[simp] theorem x40_fe4 (r : Row PV) (i j : Nat) : afieldAddr Try.prog 40 (.p (.eptr r i j)) 4 = some (.p (.eptr r i (j + 4))) := nr (by kernel_rfl)
@[simp] theorem x40_f5 (x : V) : afield Try.prog 40 x 5 = fieldV false 5 1 x := nr (by kernel_rfl)
@[simp] theorem x40_fa5 (id ver off : Nat) : afieldAddr Try.prog 40 (.ptr id ver off) 5 = some (.ptr id ver (off + 5)) := nr (by kernel_rfl)
@[simp] theorem x40_fe5 (r : Row PV) (i j : Nat) : afieldAddr Try.prog 40 (.p (.eptr r i j)) 5 = some (.p (.eptr r i (j + 5))) := nr (by kernel_rfl)
@[simp] theorem x40_f6 (x : V) : afield Try.prog 40 x 6 = fieldV false 6 1 x := nr (by kernel_rfl)
@[simp] theorem x40_fa6 (id ver off : Nat) : afieldAddr Try.prog 40 (.ptr id ver off) 6 = some (.ptr id ver (off + 6)) := nr (by kernel_rfl)
@[simp] theorem x40_fe6 (r : Row PV) (i j : Nat) : afieldAddr Try.prog 40 (.p (.eptr r i j)) 6 = some (.p (.eptr r i (j + 6))) := nr (by kernel_rfl)
@[simp] theorem x40_f7 (x : V) : afield Try.prog 40 x 7 = fieldV false 7 1 x := nr (by kernel_rfl)
@[simp] theorem x40_fa7 (id ver off : Nat) : afieldAddr Try.prog 40 (.ptr id ver off) 7 = some (.ptr id ver (off + 7)) := nr (by kernel_rfl)
@[simp] theorem x40_fe7 (r : Row PV) (i j : Nat) : afieldAddr Try.prog 40 (.p (.eptr r i j)) 7 = some (.p (.eptr r i (j + 7))) := nr (by kernel_rfl)
@[simp] theorem x41_isSlice : isSlice Try.prog 41 = false := nr (by kernel_rfl)
@[simp] theorem x41_isString : isString Try.prog 41 = false := nr (by kernel_rfl)
@[simp] theorem x41_arrLen : arrLen Try.prog 41 = none := nr (by kernel_rfl)
@[simp] theorem x41_esz : esz Try.prog 41 = none := nr (by kernel_rfl)
@[simp] theorem x41_isAggT : isAggT Try.prog 41 = some true := nr (by kernel_rfl)
@[simp] theorem x41_tsize : tsize Try.prog 41 = some 8 := nr (by kernel_rfl)
@[simp] theorem x41_notInt : notInt Try.prog 41 = true := nr (by kernel_rfl)
@[simp] theorem x41_isBytes : isBytes Try.prog 41 = false := nr (by kernel_rfl)
@[simp] theorem x41_alloc (H : List (Nat × (Nat × HB))) (d : Nat) : aalloc Try.prog H d 41 = some (.ptr d (nextVer H d) 0, upd H d (nextVer H d, .cells [.p (.int .i64 0), .p (.int .i64 0), .p (.str ByteArray.empty), .p (.str ByteArray.empty), .p (.str ByteArray.empty), .p (.str ByteArray.empty), .p (.sl (.vals 1 []) true), .p (.sl (.vals 1 []) true)])) := nr (by kernel_rfl)
@[simp] theorem x41_build (H : List (Nat × (Nat × HB))) (ps : List (Nat × V)) : abuild Try.prog H 41 ps = (fillV (fun k => lookN [(0, 1), (1, 1), (2, 1), (3, 1), (4, 1), (5, 1), (6, 1), (7, 1)] k) H [.p (.int .i64 0), .p (.int .i64 0), .p (.str ByteArray.empty), .p (.str ByteArray.empty), .p (.str ByteArray.empty), .p (.str ByteArray.empty), .p (.sl (.vals 1 []) true), .p (.sl (.vals 1 []) true)] ps).map mkAgg := nr (by kernel_rfl)
@[simp] theorem x41_f0 (x : V) : afield Try.prog 41 x 0 = fieldV false 0 1 x := nr (by kernel_rfl)
@[simp] theorem x41_fa0 (id ver off : Nat) : afieldAddr Try.prog 41 (.ptr id ver off) 0 = some (.ptr id ver (off + 0)) := nr (by kernel_rfl)
@[simp] theorem x41_fe0 (r : Row PV) (i j : Nat) : afieldAddr Try.prog 41 (.p (.eptr r i j)) 0 = some (.p (.eptr r i (j + 0))) := nr (by kernel_rfl)
@[simp] theorem x41_f1 (x : V) : afield Try.prog 41 x 1 = fieldV false 1 1 x := nr (by kernel_rfl)
@[simp] theorem x41_fa1 (id ver off : Nat) : afieldAddr Try.prog 41 (.ptr id ver off) 1 = some (.ptr id ver (off + 1)) := nr (by kernel_rfl)
@[simp] theorem x41_fe1 (r : Row PV) (i j : Nat) : afieldAddr Try.prog 41 (.p (.eptr r i j)) 1 = some (.p (.eptr r i (j + 1))) := nr (by kernel_rfl)
@[simp] theorem x41_f2 (x : V) : afield Try.prog 41 x 2 = fieldV false 2 1 x := nr (by kernel_rfl)
@[simp] theorem x41_fa2 (id ver off : Nat) : afieldAddr Try.prog 41 (.ptr id ver off) 2 = some (.ptr id ver (off + 2)) := nr (by kernel_rfl)
@[simp] theorem x41_fe2 (r : Row PV) (i j : Nat) : afieldAddr Try.prog 41 (.p (.eptr r i j)) 2 = some (.p (.eptr r i (j + 2))) := nr (by kernel_rfl)
@[simp] theorem x41_f3 (x : V) : afield Try.prog 41 x 3 = fieldV false 3 1 x := nr (by kernel_rfl)
@[simp] theorem x41_fa3 (id ver off : Nat) : afieldAddr Try.prog 41 (.ptr id ver off) 3 = some (.ptr id ver (off + 3)) := nr (by kernel_rfl)
@[simp] theorem x41_fe3 (r : Row PV) (i j : Nat) : afieldAddr Try.prog 41 (.p (.eptr r i j)) 3 = some (.p (.eptr r i (j + 3))) := nr (by kernel_rfl)
@[simp] theorem x41_f4 (x : V) : afield Try.prog 41 x 4 = fieldV false 4 1 x := nr (by kernel_rfl)
@[simp] theorem x41_fa4 (id ver off : Nat) : afieldAddr Try.prog 41 (.ptr id ver off) 4 = some (.ptr id ver (off + 4)) := nr (by kernel_rfl)
@[simp] theorem x41_fe4 (r : Row PV) (i j : Nat) : afieldAddr Try.prog 41 (.p (.eptr r i j)) 4 = some (.p (.eptr r i (j + 4))) := nr (by kernel_rfl)
@[simp] theorem x41_f5 (x : V) : afield Try.prog 41 x 5 = fieldV false 5 1 x := nr (by kernel_rfl)
@[simp] theorem x41_fa5 (id ver off : Nat) : afieldAddr Try.prog 41 (.ptr id ver off) 5 = some (.ptr id ver (off + 5)) := nr (by kernel_rfl)
@[simp] theorem x41_fe5 (r : Row PV) (i j : Nat) : afieldAddr Try.prog 41 (.p (.eptr r i j)) 5 = some (.p (.eptr r i (j + 5))) := nr (by kernel_rfl)
@[simp] theorem x41_f6 (x : V) : afield Try.prog 41 x 6 = fieldV false 6 1 x := nr (by kernel_rfl)
@[simp] theorem x41_fa6 (id ver off : Nat) : afieldAddr Try.prog 41 (.ptr id ver off) 6 = some (.ptr id ver (off + 6)) := nr (by kernel_rfl)
@[simp] theorem x41_fe6 (r : Row PV) (i j : Nat) : afieldAddr Try.prog 41 (.p (.eptr r i j)) 6 = some (.p (.eptr r i (j + 6))) := nr (by kernel_rfl)
@[simp] theorem x41_f7 (x : V) : afield Try.prog 41 x 7 = fieldV false 7 1 x := nr (by kernel_rfl)
@[simp] theorem x41_fa7 (id ver off : Nat) : afieldAddr Try.prog 41 (.ptr id ver off) 7 = some (.ptr id ver (off + 7)) := nr (by kernel_rfl)
@[simp] theorem x41_fe7 (r : Row PV) (i j : Nat) : afieldAddr Try.prog 41 (.p (.eptr r i j)) 7 = some (.p (.eptr r i (j + 7))) := nr (by kernel_rfl)
@[simp] theorem x48_us : udesc Try.prog 48 = some (.slice 21) := nr (by kernel_rfl)
@[simp] theorem x48_eq (x y : V) : eqNil Try.prog 48 x y = eqSl x y := eqNil_sl (e := 21) (by kernel_rfl) x y
@[simp] theorem x48_isSlice : isSlice Try.prog 48 = true := nr (by kernel_rfl)
@[simp] theorem x48_isString : isString Try.prog 48 = false := nr (by kernel_rfl)
@[simp] theorem x48_arrLen : arrLen Try.prog 48 = none := nr (by kernel_rfl)
@[simp] theorem x48_esz : esz Try.prog 48 = some 1 := nr (by kernel_rfl)
@[simp] theorem x48_isAggT : isAggT Try.prog 48 = some false := nr (by kernel_rfl)
@[simp] theorem x48_tsize : tsize Try.prog 48 = some 1 := nr (by kernel_rfl)
@[simp] theorem x48_notInt : notInt Try.prog 48 = true := nr (by kernel_rfl)
@[simp] theorem x48_isBytes : isBytes Try.prog 48 = false := nr (by kernel_rfl)
@[simp] theorem x48_row (T : List (Nat × Nat)) (d len : Nat) (ps : List (Nat × V)) : arowSlice Try.prog T d 48 len ps = if len * 1 ≤ 16777216 then rowFill (.ints .i32 []) 1 len d T (fillV (fun k => some (k * 1, 1)) [] (zrep len [.p (.int .i32 0)]) ps) else none := arowSlice_eq (P := Try.prog) (t := 48) (s := 1) (zl := [.p (.int .i32 0)]) (e := 21) (b := 4) (z := .int .i32 0) (by kernel_rfl) (by kernel_rfl) (by kernel_rfl) rfl T d len ps
@[simp] theorem x48_own (H : List (Nat × (Nat × HB))) (d len : Nat) (ps : List (Nat × V)) : abuildSlice Try.prog H d 48 len ps = if len * 1 ≤ 16777216 then (fillV (fun k => some (k * 1, 1)) H (zrep len [.p (.int .i32 0)]) ps).map fun l => (.own d (nextVer H d) 0 len len, upd H d (nextVer H d, mkHB l)) else none := abuildSlice_eq (P := Try.prog) (t := 48) (s := 1) (zl := [.p (.int .i32 0)]) (e := 21) (b := 4) (z := .int .i32 0) (by kernel_rfl) (by kernel_rfl) (by kernel_rfl) rfl H d len ps
@[simp] theorem x48_copy (H : List (Nat × (Nat × HB))) (id ver off len cap : Nat) (y : V) : acopy Try.prog H 48 (.own id ver off len cap) y = copyR ver off len 1 H id (look H id) (srcV H 1 y) := acopy_eq (e := 21) (b := 4) (z := .int .i32 0) (by kernel_rfl) H id ver off len cap y
@[simp] theorem x48_elem : elemInfo Try.prog 48 = some (21, 1, 4, .int .i32 0) := nr (by kernel_rfl)
@[simp] theorem x48_alloc (H : List (Nat × (Nat × HB))) (d : Nat) : aalloc Try.prog H d 48 = some (.ptr d (nextVer H d) 0, upd H d (nextVer H d, .cells [.p (.sl (.vals 1 []) true)])) := nr (by kernel_rfl)
@[simp] theorem x53_up : udesc Try.prog 53 = some (.pointer 78) := nr (by kernel_rfl)
@[simp] theorem x53_eq (x y : V) : eqNil Try.prog 53 x y = eqPt x y := eqNil_pt (e := 78) (by kernel_rfl) x y
@[simp] theorem x53_isSlice : isSlice Try.prog 53 = false := nr (by kernel_rfl)
@[simp] theorem x53_isString : isString Try.prog 53 = false := nr (by kernel_rfl)
@[simp] theorem x53_arrLen : arrLen Try.prog 53 = none := nr (by kernel_rfl)
@[simp] theorem x53_esz : esz Try.prog 53 = none := nr (by kernel_rfl)
@[simp] theorem x53_isAggT : isAggT Try.prog 53 = some false := nr (by kernel_rfl)
@[simp] theorem x53_tsize : tsize Try.prog 53 = some 1 := nr (by kernel_rfl)
@[simp] theorem x53_notInt : notInt Try.prog 53 = true := nr (by kernel_rfl)
@[simp] theorem x53_isBytes : isBytes Try.prog 53 = false := nr (by kernel_rfl)
@[simp] theorem x53_alloc (H : List (Nat × (Nat × HB))) (d : Nat) : aalloc Try.prog H d 53 = some (.ptr d (nextVer H d) 0, upd H d (nextVer H d, .cells [.p .ptr0])) := nr (by kernel_rfl)
@[simp] theorem x62_us : udesc Try.prog 62 = some (.slice 9) := nr (by kernel_rfl)
@[simp] theorem x62_eq (x y : V) : eqNil Try.prog 62 x y = eqSl x y := eqNil_sl (e := 9) (by kernel_rfl) x y
@[simp] theorem x62_isSlice : isSlice Try.prog 62 = true := nr (by kernel_rfl)
@[simp] theorem x62_isString : isString Try.prog 62 = false := nr (by kernel_rfl)
@[simp] theorem x62_arrLen : arrLen Try.prog 62 = none := nr (by kernel_rfl)
@[simp] theorem x62_esz : esz Try.prog 62 = some 1 := nr (by kernel_rfl)
@[simp] theorem x62_isAggT : isAggT Try.prog 62 = some false := nr (by kernel_rfl)
@[simp] theorem x62_tsize : tsize Try.prog 62 = some 1 := nr (by kernel_rfl)
@[simp] theorem x62_notInt : notInt Try.prog 62 = true := nr (by kernel_rfl)
@[simp] theorem x62_isBytes : isBytes Try.prog 62 = false := nr (by kernel_rfl)
@[simp] theorem x62_row (T : List (Nat × Nat)) (d len : Nat) (ps : List (Nat × V)) : arowSlice Try.prog T d 62 len ps = if len * 1 ≤ 16777216 then rowFill (.strs []) 1 len d T (fillV (fun k => some (k * 1, 1)) [] (zrep len [.p (.str ByteArray.empty)]) ps) else none := arowSlice_eq (P := Try.prog) (t := 62) (s := 1) (zl := [.p (.str ByteArray.empty)]) (e := 9) (b := 16) (z := .string ByteArray.empty) (by kernel_rfl) (by kernel_rfl) (by kernel_rfl) rfl T d len ps
@[simp] theorem x62_own (H : List (Nat × (Nat × HB))) (d len : Nat) (ps : List (Nat × V)) : abuildSlice Try.prog H d 62 len ps = if len * 1 ≤ 16777216 then (fillV (fun k => some (k * 1, 1)) H (zrep len [.p (.str ByteArray.empty)]) ps).map fun l => (.own d (nextVer H d) 0 len len, upd H d (nextVer H d, mkHB l)) else none := abuildSlice_eq (P := Try.prog) (t := 62) (s := 1) (zl := [.p (.str ByteArray.empty)]) (e := 9) (b := 16) (z := .string ByteArray.empty) (by kernel_rfl) (by kernel_rfl) (by kernel_rfl) rfl H d len ps
@[simp] theorem x62_copy (H : List (Nat × (Nat × HB))) (id ver off len cap : Nat) (y : V) : acopy Try.prog H 62 (.own id ver off len cap) y = copyR ver off len 1 H id (look H id) (srcV H 1 y) := acopy_eq (e := 9) (b := 16) (z := .string ByteArray.empty) (by kernel_rfl) H id ver off len cap y
@[simp] theorem x62_elem : elemInfo Try.prog 62 = some (9, 1, 16, .string ByteArray.empty) := nr (by kernel_rfl)
@[simp] theorem x62_alloc (H : List (Nat × (Nat × HB))) (d : Nat) : aalloc Try.prog H d 62 = some (.ptr d (nextVer H d) 0, upd H d (nextVer H d, .cells [.p (.sl (.vals 1 []) true)])) := nr (by kernel_rfl)
@[simp] theorem x63_isSlice : isSlice Try.prog 63 = false := nr (by kernel_rfl)
@[simp] theorem x63_isString : isString Try.prog 63 = false := nr (by kernel_rfl)
@[simp] theorem x63_arrLen : arrLen Try.prog 63 = none := nr (by kernel_rfl)
@[simp] theorem x63_esz : esz Try.prog 63 = none := nr (by kernel_rfl)
@[simp] theorem x63_isAggT : isAggT Try.prog 63 = some true := nr (by kernel_rfl)
@[simp] theorem x63_tsize : tsize Try.prog 63 = some 0 := nr (by kernel_rfl)
@[simp] theorem x63_notInt : notInt Try.prog 63 = true := nr (by kernel_rfl)
@[simp] theorem x63_isBytes : isBytes Try.prog 63 = false := nr (by kernel_rfl)
@[simp] theorem x64_isSlice : isSlice Try.prog 64 = false := nr (by kernel_rfl)
@[simp] theorem x64_isString : isString Try.prog 64 = false := nr (by kernel_rfl)
@[simp] theorem x64_arrLen : arrLen Try.prog 64 = none := nr (by kernel_rfl)
@[simp] theorem x64_esz : esz Try.prog 64 = none := nr (by kernel_rfl)
@[simp] theorem x64_isAggT : isAggT Try.prog 64 = some true := nr (by kernel_rfl)
@[simp] theorem x64_tsize : tsize Try.prog 64 = some 0 := nr (by kernel_rfl)
@[simp] theorem x64_notInt : notInt Try.prog 64 = true := nr (by kernel_rfl)
@[simp] theorem x64_isBytes : isBytes Try.prog 64 = false := nr (by kernel_rfl)
@[simp] theorem x65_isSlice : isSlice Try.prog 65 = false := nr (by kernel_rfl)
@[simp] theorem x65_isString : isString Try.prog 65 = false := nr (by kernel_rfl)
@[simp] theorem x65_arrLen : arrLen Try.prog 65 = none := nr (by kernel_rfl)
@[simp] theorem x65_esz : esz Try.prog 65 = none := nr (by kernel_rfl)
@[simp] theorem x65_isAggT : isAggT Try.prog 65 = some true := nr (by kernel_rfl)
@[simp] theorem x65_tsize : tsize Try.prog 65 = some 0 := nr (by kernel_rfl)
@[simp] theorem x65_notInt : notInt Try.prog 65 = true := nr (by kernel_rfl)
@[simp] theorem x65_isBytes : isBytes Try.prog 65 = false := nr (by kernel_rfl)
@[simp] theorem x66_u : udesc Try.prog 66 = some (.int .u32) := nr (by kernel_rfl)
@[simp] theorem x66_isSlice : isSlice Try.prog 66 = false := nr (by kernel_rfl)
@[simp] theorem x66_isString : isString Try.prog 66 = false := nr (by kernel_rfl)
@[simp] theorem x66_arrLen : arrLen Try.prog 66 = none := nr (by kernel_rfl)
@[simp] theorem x66_esz : esz Try.prog 66 = none := nr (by kernel_rfl)
@[simp] theorem x66_isAggT : isAggT Try.prog 66 = some false := nr (by kernel_rfl)
@[simp] theorem x66_tsize : tsize Try.prog 66 = some 1 := nr (by kernel_rfl)
@[simp] theorem x66_notInt : notInt Try.prog 66 = false := nr (by kernel_rfl)
@[simp] theorem x66_isBytes : isBytes Try.prog 66 = false := nr (by kernel_rfl)
@[simp] theorem x66_alloc (H : List (Nat × (Nat × HB))) (d : Nat) : aalloc Try.prog H d 66 = some (.ptr d (nextVer H d) 0, upd H d (nextVer H d, .row (.ints .u32 [0]))) := nr (by kernel_rfl)
@[simp] theorem x67_isSlice : isSlice Try.prog 67 = false := nr (by kernel_rfl)
@[simp] theorem x67_isString : isString Try.prog 67 = false := nr (by kernel_rfl)
@[simp] theorem x67_arrLen : arrLen Try.prog 67 = none := nr (by kernel_rfl)
@[simp] theorem x67_esz : esz Try.prog 67 = none := nr (by kernel_rfl)
@[simp] theorem x67_isAggT : isAggT Try.prog 67 = some true := nr (by kernel_rfl)
@[simp] theorem x67_tsize : tsize Try.prog 67 = some 1 := nr (by kernel_rfl)
@[simp] theorem x67_notInt : notInt Try.prog 67 = true := nr (by kernel_rfl)
@[simp] theorem x67_isBytes : isBytes Try.prog 67 = false := nr (by kernel_rfl)
@[simp] theorem x67_alloc (H : List (Nat × (Nat × HB))) (d : Nat) : aalloc Try.prog H d 67 = some (.ptr d (nextVer H d) 0, upd H d (nextVer H d, .row (.ints .u32 [0]))) := nr (by kernel_rfl)
@[simp] theorem x67_build (H : List (Nat × (Nat × HB))) (ps : List (Nat × V)) : abuild Try.prog H 67 ps = (fillV (fun k => lookN [(0, 0), (0, 1)] k) H [.p (.int .u32 0)] ps).map mkAgg := nr (by kernel_rfl)
@[simp] theorem x67_f1 (x : V) : afield Try.prog 67 x 1 = fieldV false 0 1 x := nr (by kernel_rfl)
@[simp] theorem x67_fa1 (id ver off : Nat) : afieldAddr Try.prog 67 (.ptr id ver off) 1 = some (.ptr id ver (off + 0)) := nr (by kernel_rfl)
@[simp] theorem x67_fe1 (r : Row PV) (i j : Nat) : afieldAddr Try.prog 67 (.p (.eptr r i j)) 1 = some (.p (.eptr r i (j + 0))) := nr (by kernel_rfl)
@[simp] theorem x68_isSlice : isSlice Try.prog 68 = false := nr (by kernel_rfl)
@[simp] theorem x68_isString : isString Try.prog 68 = false := nr (by kernel_rfl)
@[simp] theorem x68_arrLen : arrLen Try.prog 68 = none := nr (by kernel_rfl)
@[simp] theorem x68_esz : esz Try.prog 68 = none := nr (by kernel_rfl)
@[simp] theorem x68_isAggT : isAggT Try.prog 68 = some true := nr (by kernel_rfl)
@[simp] theorem x68_tsize : tsize Try.prog 68 = some 1 := nr (by kernel_rfl)
@[simp] theorem x68_notInt : notInt Try.prog 68 = true := nr (by kernel_rfl)
@[simp] theorem x68_isBytes : isBytes Try.prog 68 = false := nr (by kernel_rfl)
@[simp] theorem x68_alloc (H : List (Nat × (Nat × HB))) (d : Nat) : aalloc Try.prog H d 68 = some (.ptr d (nextVer H d) 0, upd H d (nextVer H d, .row (.ints .u32 [0]))) := nr (by kernel_rfl)
@[simp] theorem x68_build (H : List (Nat × (Nat × HB))) (ps : List (Nat × V)) : abuild Try.prog H 68 ps = (fillV (fun k => lookN [(0, 0), (0, 1)] k) H [.p (.int .u32 0)] ps).map mkAgg := nr (by kernel_rfl)
@[simp] theorem x68_f1 (x : V) : afield Try.prog 68 x 1 = fieldV false 0 1 x := nr (by kernel_rfl)
@[simp] theorem x68_fa1 (id ver off : Nat) : afieldAddr Try.prog 68 (.ptr id ver off) 1 = some (.ptr id ver (off + 0)) := nr (by kernel_rfl)
@[simp] theorem x68_fe1 (r : Row PV) (i j : Nat) : afieldAddr Try.prog 68 (.p (.eptr r i j)) 1 = some (.p (.eptr r i (j + 0))) := nr (by kernel_rfl)
@[simp] theorem x69_eqs (r s : Row PV) : eqNil Try.prog 69 (.p (.agg r)) (.p (.agg s)) = eqAts r s [(0, 0), (1, 0)] := eqNil_struct (by kernel_rfl) r s
@[simp] theorem x69_isSlice : isSlice Try.prog 69 = false := nr (by kernel_rfl)
@[simp] theorem x69_isString : isString Try.prog 69 = false := nr (by kernel_rfl)
@[simp] theorem x69_arrLen : arrLen Try.prog 69 = none := nr (by kernel_rfl)
@[simp] theorem x69_esz : esz Try.prog 69 = none := nr (by kernel_rfl)
@[simp] theorem x69_isAggT : isAggT Try.prog 69 = some true := nr (by kernel_rfl)
@[simp] theorem x69_tsize : tsize Try.prog 69 = some 2 := nr (by kernel_rfl)
@[simp] theorem x69_notInt : notInt Try.prog 69 = true := nr (by kernel_rfl)
@[simp] theorem x69_isBytes : isBytes Try.prog 69 = false := nr (by kernel_rfl)
@[simp] theorem x69_alloc (H : List (Nat × (Nat × HB))) (d : Nat) : aalloc Try.prog H d 69 = some (.ptr d (nextVer H d) 0, upd H d (nextVer H d, .cells [.p (.int .i32 0), .p (.int .u32 0)])) := nr (by kernel_rfl)
@[simp] theorem x69_build (H : List (Nat × (Nat × HB))) (ps : List (Nat × V)) : abuild Try.prog H 69 ps = (fillV (fun k => lookN [(0, 1), (1, 1)] k) H [.p (.int .i32 0), .p (.int .u32 0)] ps).map mkAgg := nr (by kernel_rfl)
@[simp] theorem x69_f0 (x : V) : afield Try.prog 69 x 0 = fieldV false 0 1 x := nr (by kernel_rfl)
@[simp] theorem x69_fa0 (id ver off : Nat) : afieldAddr Try.prog 69 (.ptr id ver off) 0 = some (.ptr id ver (off + 0)) := nr (by kernel_rfl)
@[simp] theorem x69_fe0 (r : Row PV) (i j : Nat) : afieldAddr Try.prog 69 (.p (.eptr r i j)) 0 = some (.p (.eptr r i (j + 0))) := nr (by kernel_rfl)
@[simp] theorem x69_f1 (x : V) : afield Try.prog 69 x 1 = fieldV false 1 1 x := nr (by kernel_rfl)
@[simp] theorem x69_fa1 (id ver off : Nat) : afieldAddr Try.prog 69 (.ptr id ver off) 1 = some (.ptr id ver (off + 1)) := nr (by kernel_rfl)
@[simp] theorem x69_fe1 (r : Row PV) (i j : Nat) : afieldAddr Try.prog 69 (.p (.eptr r i j)) 1 = some (.p (.eptr r i (j + 1))) := nr (by kernel_rfl)
@[simp] theorem x70_eqs (r s : Row PV) : eqNil Try.prog 70 (.p (.agg r)) (.p (.agg s)) = eqAts r s [(0, 0), (1, 0)] := eqNil_struct (by kernel_rfl) r s
@[simp] theorem x70_isSlice : isSlice Try.prog 70 = false := nr (by kernel_rfl)
@[simp] theorem x70_isString : isString Try.prog 70 = false := nr (by kernel_rfl)
@[simp] theorem x70_arrLen : arrLen Try.prog 70 = none := nr (by kernel_rfl)
@[simp] theorem x70_esz : esz Try.prog 70 = none := nr (by kernel_rfl)
@[simp] theorem x70_isAggT : isAggT Try.prog 70 = some true := nr (by kernel_rfl)
@[simp] theorem x70_tsize : tsize Try.prog 70 = some 2 := nr (by kernel_rfl)
@[simp] theorem x70_notInt : notInt Try.prog 70 = true := nr (by kernel_rfl)
@[simp] theorem x70_isBytes : isBytes Try.prog 70 = false := nr (by kernel_rfl)
@[simp] theorem x70_alloc (H : List (Nat × (Nat × HB))) (d : Nat) : aalloc Try.prog H d 70 = some (.ptr d (nextVer H d) 0, upd H d (nextVer H d, .cells [.p (.int .i32 0), .p (.int .u32 0)])) := nr (by kernel_rfl)
@[simp] theorem x70_build (H : List (Nat × (Nat × HB))) (ps : List (Nat × V)) : abuild Try.prog H 70 ps = (fillV (fun k => lookN [(0, 1), (1, 1)] k) H [.p (.int .i32 0), .p (.int .u32 0)] ps).map mkAgg := nr (by kernel_rfl)
@[simp] theorem x70_f0 (x : V) : afield Try.prog 70 x 0 = fieldV false 0 1 x := nr (by kernel_rfl)
@[simp] theorem x70_fa0 (id ver off : Nat) : afieldAddr Try.prog 70 (.ptr id ver off) 0 = some (.ptr id ver (off + 0)) := nr (by kernel_rfl)
@[simp] theorem x70_fe0 (r : Row PV) (i j : Nat) : afieldAddr Try.prog 70 (.p (.eptr r i j)) 0 = some (.p (.eptr r i (j + 0))) := nr (by kernel_rfl)
@[simp] theorem x70_f1 (x : V) : afield Try.prog 70 x 1 = fieldV false 1 1 x := nr (by kernel_rfl)
@[simp] theorem x70_fa1 (id ver off : Nat) : afieldAddr Try.prog 70 (.ptr id ver off) 1 = some (.ptr id ver (off + 1)) := nr (by kernel_rfl)
@[simp] theorem x70_fe1 (r : Row PV) (i j : Nat) : afieldAddr Try.prog 70 (.p (.eptr r i j)) 1 = some (.p (.eptr r i (j + 1))) := nr (by kernel_rfl)
@[simp] theorem x71_isSlice : isSlice Try.prog 71 = false := nr (by kernel_rfl)
@[simp] theorem x71_isString : isString Try.prog 71 = false := nr (by kernel_rfl)
@[simp] theorem x71_arrLen : arrLen Try.prog 71 = none := nr (by kernel_rfl)
@[simp] theorem x71_esz : esz Try.prog 71 = none := nr (by kernel_rfl)
@[simp] theorem x71_isAggT : isAggT Try.prog 71 = some true := nr (by kernel_rfl)
@[simp] theorem x71_tsize : tsize Try.prog 71 = some 2 := nr (by kernel_rfl)
@[simp] theorem x71_notInt : notInt Try.prog 71 = true := nr (by kernel_rfl)
@[simp] theorem x71_isBytes : isBytes Try.prog 71 = false := nr (by kernel_rfl)
@[simp] theorem x71_alloc (H : List (Nat × (Nat × HB))) (d : Nat) : aalloc Try.prog H d 71 = some (.ptr d (nextVer H d) 0, upd H d (nextVer H d, .cells [.p (.int .i32 0), .p (.int .u32 0)])) := nr (by kernel_rfl)
@[simp] theorem x71_build (H : List (Nat × (Nat × HB))) (ps : List (Nat × V)) : abuild Try.prog H 71 ps = (fillV (fun k => lookN [(0, 0), (0, 2)] k) H [.p (.int .i32 0), .p (.int .u32 0)] ps).map mkAgg := nr (by kernel_rfl)
@[simp] theorem x71_f1 (x : V) : afield Try.prog 71 x 1 = fieldV true 0 2 x := nr (by kernel_rfl)
@[simp] theorem x71_fa1 (id ver off : Nat) : afieldAddr Try.prog 71 (.ptr id ver off) 1 = some (.ptr id ver (off + 0)) := nr (by kernel_rfl)
@[simp] theorem x71_fe1 (r : Row PV) (i j : Nat) : afieldAddr Try.prog 71 (.p (.eptr r i j)) 1 = some (.p (.eptr r i (j + 0))) := nr (by kernel_rfl)
@[simp] theorem x72_isSlice : isSlice Try.prog 72 = false := nr (by kernel_rfl)
@[simp] theorem x72_isString : isString Try.prog 72 = false := nr (by kernel_rfl)
@[simp] theorem x72_arrLen : arrLen Try.prog 72 = none := nr (by kernel_rfl)
@[simp] theorem x72_esz : esz Try.prog 72 = none := nr (by kernel_rfl)
@[simp] theorem x72_isAggT : isAggT Try.prog 72 = some true := nr (by kernel_rfl)
@[simp] theorem x72_tsize : tsize Try.prog 72 = some 2 := nr (by kernel_rfl)
@[simp] theorem x72_notInt : notInt Try.prog 72 = true := nr (by kernel_rfl)
@[simp] theorem x72_isBytes : isBytes Try.prog 72 = false := nr (by kernel_rfl)
@[simp] theorem x72_alloc (H : List (Nat × (Nat × HB))) (d : Nat) : aalloc Try.prog H d 72 = some (.ptr d (nextVer H d) 0, upd H d (nextVer H d, .cells [.p (.int .i32 0), .p (.int .u32 0)])) := nr (by kernel_rfl)
@[simp] theorem x72_build (H : List (Nat × (Nat × HB))) (ps : List (Nat × V)) : abuild Try.prog H 72 ps = (fillV (fun k => lookN [(0, 0), (0, 2)] k) H [.p (.int .i32 0), .p (.int .u32 0)] ps).map mkAgg := nr (by kernel_rfl)
@[simp] theorem x72_f1 (x : V) : afield Try.prog 72 x 1 = fieldV true 0 2 x := nr (by kernel_rfl)
@[simp] theorem x72_fa1 (id ver off : Nat) : afieldAddr Try.prog 72 (.ptr id ver off) 1 = some (.ptr id ver (off + 0)) := nr (by kernel_rfl)
@[simp] theorem x72_fe1 (r : Row PV) (i j : Nat) : afieldAddr Try.prog 72 (.p (.eptr r i j)) 1 = some (.p (.eptr r i (j + 0))) := nr (by kernel_rfl)
@[simp] theorem x73_isSlice : isSlice Try.prog 73 = false := nr (by kernel_rfl)
@[simp] theorem x73_isString : isString Try.prog 73 = false := nr (by kernel_rfl)
@[simp] theorem x73_arrLen : arrLen Try.prog 73 = none := nr (by kernel_rfl)
@[simp] theorem x73_esz : esz Try.prog 73 = none := nr (by kernel_rfl)
@[simp] theorem x73_isAggT : isAggT Try.prog 73 = some true := nr (by kernel_rfl)
@[simp] theorem x73_tsize : tsize Try.prog 73 = some 3 := nr (by kernel_rfl)
@[simp] theorem x73_notInt : notInt Try.prog 73 = true := nr (by kernel_rfl)
@[simp] theorem x73_isBytes : isBytes Try.prog 73 = false := nr (by kernel_rfl)
@[simp] theorem x73_alloc (H : List (Nat × (Nat × HB))) (d : Nat) : aalloc Try.prog H d 73 = some (.ptr d (nextVer H d) 0, upd H d (nextVer H d, .cells [.p (.int .u32 0), .p (.int .i32 0), .p (.int .u32 0)])) := nr (by kernel_rfl)
@[simp] theorem x73_build (H : List (Nat × (Nat × HB))) (ps : List (Nat × V)) : abuild Try.prog H 73 ps = (fillV (fun k => lookN [(0, 0), (0, 1), (1, 2)] k) H [.p (.int .u32 0), .p (.int .i32 0), .p (.int .u32 0)] ps).map mkAgg := nr (by kernel_rfl)
@[simp] theorem x73_f1 (x : V) : afield Try.prog 73 x 1 = fieldV true 0 1 x := nr (by kernel_rfl)
@[simp] theorem x73_fa1 (id ver off : Nat) : afieldAddr Try.prog 73 (.ptr id ver off) 1 = some (.ptr id ver (off + 0)) := nr (by kernel_rfl)
@[simp] theorem x73_fe1 (r : Row PV) (i j : Nat) : afieldAddr Try.prog 73 (.p (.eptr r i j)) 1 = some (.p (.eptr r i (j + 0))) := nr (by kernel_rfl)
@[simp] theorem x73_f2 (x : V) : afield Try.prog 73 x 2 = fieldV true 1 2 x := nr (by kernel_rfl)
@[simp] theorem x73_fa2 (id ver off : Nat) : afieldAddr Try.prog 73 (.ptr id ver off) 2 = some (.ptr id ver (off + 1)) := nr (by kernel_rfl)
@[simp] theorem x73_fe2 (r : Row PV) (i j : Nat) : afieldAddr Try.prog 73 (.p (.eptr r i j)) 2 = some (.p (.eptr r i (j + 1))) := nr (by kernel_rfl)
@[simp] theorem x74_isSlice : isSlice Try.prog 74 = false := nr (by kernel_rfl)
@[simp] theorem x74_isString : isString Try.prog 74 = false := nr (by kernel_rfl)
@[simp] theorem x74_arrLen : arrLen Try.prog 74 = none := nr (by kernel_rfl)
@[simp] theorem x74_esz : esz Try.prog 74 = none := nr (by kernel_rfl)
@[simp] theorem x74_isAggT : isAggT Try.prog 74 = some true := nr (by kernel_rfl)
@[simp] theorem x74_tsize : tsize Try.prog 74 = some 3 := nr (by kernel_rfl)
@[simp] theorem x74_notInt : notInt Try.prog 74 = true := nr (by kernel_rfl)
@[simp] theorem x74_isBytes : isBytes Try.prog 74 = false := nr (by kernel_rfl)
@[simp] theorem x74_alloc (H : List (Nat × (Nat × HB))) (d : Nat) : aalloc Try.prog H d 74 = some (.ptr d (nextVer H d) 0, upd H d (nextVer H d, .cells [.p (.int .u32 0), .p (.int .i32 0), .p (.int .u32 0)])) := nr (by kernel_rfl)
@[simp] theorem x74_build (H : List (Nat × (Nat × HB))) (ps : List (Nat × V)) : abuild Try.prog H 74 ps = (fillV (fun k => lookN [(0, 0), (0, 1), (1, 2)] k) H [.p (.int .u32 0), .p (.int .i32 0), .p (.int .u32 0)] ps).map mkAgg := nr (by kernel_rfl)
@[simp] theorem x74_f1 (x : V) : afield Try.prog 74 x 1 = fieldV true 0 1 x := nr (by kernel_rfl)
@[simp] theorem x74_fa1 (id ver off : Nat) : afieldAddr Try.prog 74 (.ptr id ver off) 1 = some (.ptr id ver (off + 0)) := nr (by kernel_rfl)
@[simp] theorem x74_fe1 (r : Row PV) (i j : Nat) : afieldAddr Try.prog 74 (.p (.eptr r i j)) 1 = some (.p (.eptr r i (j + 0))) := nr (by kernel_rfl)
@[simp] theorem x74_f2 (x : V) : afield Try.prog 74 x 2 = fieldV true 1 2 x := nr (by kernel_rfl)
@[simp] theorem x74_fa2 (id ver off : Nat) : afieldAddr Try.prog 74 (.ptr id ver off) 2 = some (.ptr id ver (off + 1)) := nr (by kernel_rfl)
@[simp] theorem x74_fe2 (r : Row PV) (i j : Nat) : afieldAddr Try.prog 74 (.p (.eptr r i j)) 2 = some (.p (.eptr r i (j + 1))) := nr (by kernel_rfl)
@[simp] theorem x77_isSlice : isSlice Try.prog 77 = false := nr (by kernel_rfl)
@[simp] theorem x77_isString : isString Try.prog 77 = false := nr (by kernel_rfl)
@[simp] theorem x77_arrLen : arrLen Try.prog 77 = none := nr (by kernel_rfl)
@[simp] theorem x77_esz : esz Try.prog 77 = none := nr (by kernel_rfl)
@[simp] theorem x77_isAggT : isAggT Try.prog 77 = some true := nr (by kernel_rfl)
@[simp] theorem x77_tsize : tsize Try.prog 77 = some 5 := nr (by kernel_rfl)
@[simp] theorem x77_notInt : notInt Try.prog 77 = true := nr (by kernel_rfl)
@[simp] theorem x77_isBytes : isBytes Try.prog 77 = false := nr (by kernel_rfl)
@[simp] theorem x77_alloc (H : List (Nat × (Nat × HB))) (d : Nat) : aalloc Try.prog H d 77 = some (.ptr d (nextVer H d) 0, upd H d (nextVer H d, .cells [.p (.int .u32 0), .p (.int .i32 0), .p (.int .u32 0), .p .iface0, .p (.sl (.vals 1 []) true)])) := nr (by kernel_rfl)
@[simp] theorem x77_build (H : List (Nat × (Nat × HB))) (ps : List (Nat × V)) : abuild Try.prog H 77 ps = (fillV (fun k => lookN [(0, 3), (3, 1), (4, 1)] k) H [.p (.int .u32 0), .p (.int .i32 0), .p (.int .u32 0), .p .iface0, .p (.sl (.vals 1 []) true)] ps).map mkAgg := nr (by kernel_rfl)
@[simp] theorem x77_f0 (x : V) : afield Try.prog 77 x 0 = fieldV true 0 3 x := nr (by kernel_rfl)
@[simp] theorem x77_fa0 (id ver off : Nat) : afieldAddr Try.prog 77 (.ptr id ver off) 0 = some (.ptr id ver (off + 0)) := nr (by kernel_rfl)
@[simp] theorem x77_fe0 (r : Row PV) (i j : Nat) : afieldAddr Try.prog 77 (.p (.eptr r i j)) 0 = some (.p (.eptr r i (j + 0))) := nr (by kernel_rfl)
@[simp] theorem x77_f1 (x : V) : afield Try.prog 77 x 1 = fieldV false 3 1 x := nr (by kernel_rfl)
@[simp] theorem x77_fa1 (id ver off : Nat) : afieldAddr Try.prog 77 (.ptr id ver off) 1 = some (.ptr id ver (off + 3)) := nr (by kernel_rfl)
@[simp] theorem x77_fe1 (r : Row PV) (i j : Nat) : afieldAddr Try.prog 77 (.p (.eptr r i j)) 1 = some (.p (.eptr r i (j + 3))) := nr (by kernel_rfl)
@[simp] theorem x77_f2 (x : V) : afield Try.prog 77 x 2 = fieldV false 4 1 x := nr (by kernel_rfl)
@[simp] theorem x77_fa2 (id ver off : Nat) : afieldAddr Try.prog 77 (.ptr id ver off) 2 = some (.ptr id ver (off + 4)) := nr (by kernel_rfl)
@[simp] theorem x77_fe2 (r : Row PV) (i j : Nat) : afieldAddr Try.prog 77 (.p (.eptr r i j)) 2 = some (.p (.eptr r i (j + 4))) := nr (by kernel_rfl)
@[simp] theorem x78_isSlice : isSlice Try.prog 78 = false := nr (by kernel_rfl)
@[simp] theorem x78_isString : isString Try.prog 78 = false := nr (by kernel_rfl)
@[simp] theorem x78_arrLen : arrLen Try.prog 78 = none := nr (by kernel_rfl)
@[simp] theorem x78_esz : esz Try.prog 78 = none := nr (by kernel_rfl)
@[simp] theorem x78_isAggT : isAggT Try.prog 78 = some true := nr (by kernel_rfl)
@[simp] theorem x78_tsize : tsize Try.prog 78 = some 5 := nr (by kernel_rfl)
@[simp] theorem x78_notInt : notInt Try.prog 78 = true := nr (by kernel_rfl)
@[simp] theorem x78_isBytes : isBytes Try.prog 78 = false := nr (by kernel_rfl)
@[simp] theorem x78_alloc (H : List (Nat × (Nat × HB))) (d : Nat) : aalloc Try.prog H d 78 = some (.ptr d (nextVer H d) 0, upd H d (nextVer H d, .cells [.p (.int .u32 0), .p (.int .i32 0), .p (.int .u32 0), .p .iface0, .p (.sl (.vals 1 []) true)])) := nr (by kernel_rfl)
@[simp] theorem x78_build (H : List (Nat × (Nat × HB))) (ps : List (Nat × V)) : abuild Try.prog H 78 ps = (fillV (fun k => lookN [(0, 3), (3, 1), (4, 1)] k) H [.p (.int .u32 0), .p (.int .i32 0), .p (.int .u32 0), .p .iface0, .p (.sl (.vals 1 []) true)] ps).map mkAgg := nr (by kernel_rfl)
@[simp] theorem x78_f0 (x : V) : afield Try.prog 78 x 0 = fieldV true 0 3 x := nr (by kernel_rfl)
@[simp] theorem x78_fa0 (id ver off : Nat) : afieldAddr Try.prog 78 (.ptr id ver off) 0 = some (.ptr id ver (off + 0)) := nr (by kernel_rfl)
@[simp] theorem x78_fe0 (r : Row PV) (i j : Nat) : afieldAddr Try.prog 78 (.p (.eptr r i j)) 0 = some (.p (.eptr r i (j + 0))) := nr (by kernel_rfl)
@[simp] theorem x78_f1 (x : V) : afield Try.prog 78 x 1 = fieldV false 3 1 x := nr (by kernel_rfl)
@[simp] theorem x78_fa1 (id ver off : Nat) : afieldAddr Try.prog 78 (.ptr id ver off) 1 = some (.ptr id ver (off + 3)) := nr (by kernel_rfl)
@[simp] theorem x78_fe1 (r : Row PV) (i j : Nat) : afieldAddr Try.prog 78 (.p (.eptr r i j)) 1 = some (.p (.eptr r i (j + 3))) := nr (by kernel_rfl)
@[simp] theorem x78_f2 (x : V) : afield Try.prog 78 x 2 = fieldV false 4 1 x := nr (by kernel_rfl)
@[simp] theorem x78_fa2 (id ver off : Nat) : afieldAddr Try.prog 78 (.ptr id ver off) 2 = some (.ptr id ver (off + 4)) := nr (by kernel_rfl)
@[simp] theorem x78_fe2 (r : Row PV) (i j : Nat) : afieldAddr Try.prog 78 (.p (.eptr r i j)) 2 = some (.p (.eptr r i (j + 4))) := nr (by kernel_rfl)
@[simp] theorem x81_us : udesc Try.prog 81 = some (.slice 3) := nr (by kernel_rfl)
@[simp] theorem x81_eq (x y : V) : eqNil Try.prog 81 x y = eqSl x y := eqNil_sl (e := 3) (by kernel_rfl) x y
@[simp] theorem x81_isSlice : isSlice Try.prog 81 = true := nr (by kernel_rfl)
@[simp] theorem x81_isString : isString Try.prog 81 = false := nr (by kernel_rfl)
@[simp] theorem x81_arrLen : arrLen Try.prog 81 = none := nr (by kernel_rfl)
@[simp] theorem x81_esz : esz Try.prog 81 = some 1 := nr (by kernel_rfl)
@[simp] theorem x81_isAggT : isAggT Try.prog 81 = some false := nr (by kernel_rfl)
@[simp] theorem x81_tsize : tsize Try.prog 81 = some 1 := nr (by kernel_rfl)
@[simp] theorem x81_notInt : notInt Try.prog 81 = true := nr (by kernel_rfl)
@[simp] theorem x81_isBytes : isBytes Try.prog 81 = false := nr (by kernel_rfl)
@[simp] theorem x81_row (T : List (Nat × Nat)) (d len : Nat) (ps : List (Nat × V)) : arowSlice Try.prog T d 81 len ps = if len * 1 ≤ 16777216 then rowFill (.ints .i64 []) 1 len d T (fillV (fun k => some (k * 1, 1)) [] (zrep len [.p (.int .i64 0)]) ps) else none := arowSlice_eq (P := Try.prog) (t := 81) (s := 1) (zl := [.p (.int .i64 0)]) (e := 3) (b := 8) (z := .int .i64 0) (by kernel_rfl) (by kernel_rfl) (by kernel_rfl) rfl T d len ps
@[simp] theorem x81_own (H : List (Nat × (Nat × HB))) (d len : Nat) (ps : List (Nat × V)) : abuildSlice Try.prog H d 81 len ps = if len * 1 ≤ 16777216 then (fillV (fun k => some (k * 1, 1)) H (zrep len [.p (.int .i64 0)]) ps).map fun l => (.own d (nextVer H d) 0 len len, upd H d (nextVer H d, mkHB l)) else none := abuildSlice_eq (P := Try.prog) (t := 81) (s := 1) (zl := [.p (.int .i64 0)]) (e := 3) (b := 8) (z := .int .i64 0) (by kernel_rfl) (by kernel_rfl) (by kernel_rfl) rfl H d len ps
@[simp] theorem x81_copy (H : List (Nat × (Nat × HB))) (id ver off len cap : Nat) (y : V) : acopy Try.prog H 81 (.own id ver off len cap) y = copyR ver off len 1 H id (look H id) (srcV H 1 y) := acopy_eq (e := 3) (b := 8) (z := .int .i64 0) (by kernel_rfl) H id ver off len cap y
@[simp] theorem x81_elem : elemInfo Try.prog 81 = some (3, 1, 8, .int .i64 0) := nr (by kernel_rfl)
@[simp] theorem x81_alloc (H : List (Nat × (Nat × HB))) (d : Nat) : aalloc Try.prog H d 81 = some (.ptr d (nextVer H d) 0, upd H d (nextVer H d, .cells [.p (.sl (.vals 1 []) true)])) := nr (by kernel_rfl)
@[simp] theorem x85_up : udesc Try.prog 85 = some (.pointer 74) := nr (by kernel_rfl)
@[simp] theorem x85_eq (x y : V) : eqNil Try.prog 85 x y = eqPt x y := eqNil_pt (e := 74) (by kernel_rfl) x y
@[simp] theorem x85_isSlice : isSlice Try.prog 85 = false := nr (by kernel_rfl)
@[simp] theorem x85_isString : isString Try.prog 85 = false := nr (by kernel_rfl)
@[simp] theorem x85_arrLen : arrLen Try.prog 85 = none := nr (by kernel_rfl)
@[simp] theorem x85_esz : esz Try.prog 85 = none := nr (by kernel_rfl)
@[simp] theorem x85_isAggT : isAggT Try.prog 85 = some false := nr (by kernel_rfl)
@[simp] theorem x85_tsize : tsize Try.prog 85 = some 1 := nr (by kernel_rfl)
@[simp] theorem x85_notInt : notInt Try.prog 85 = true := nr (by kernel_rfl)
@[simp] theorem x85_isBytes : isBytes Try.prog 85 = false := nr (by kernel_rfl)
@[simp] theorem x85_alloc (H : List (Nat × (Nat × HB))) (d : Nat) : aalloc Try.prog H d 85 = some (.ptr d (nextVer H d) 0, upd H d (nextVer H d, .cells [.p .ptr0])) := nr (by kernel_rfl)
@[simp] theorem x89_up : udesc Try.prog 89 = some (.pointer 68) := nr (by kernel_rfl)
@[simp] theorem x89_eq (x y : V) : eqNil Try.prog 89 x y = eqPt x y := eqNil_pt (e := 68) (by kernel_rfl) x y
@[simp] theorem x89_isSlice : isSlice Try.prog 89 = false := nr (by kernel_rfl)
@[simp] theorem x89_isString : isString Try.prog 89 = false := nr (by kernel_rfl)
@[simp] theorem x89_arrLen : arrLen Try.prog 89 = none := nr (by kernel_rfl)
@[simp] theorem x89_esz : esz Try.prog 89 = none := nr (by kernel_rfl)
@[simp] theorem x89_isAggT : isAggT Try.prog 89 = some false := nr (by kernel_rfl)
@[simp] theorem x89_tsize : tsize Try.prog 89 = some 1 := nr (by kernel_rfl)
@[simp] theorem x89_notInt : notInt Try.prog 89 = true := nr (by kernel_rfl)
@[simp] theorem x89_isBytes : isBytes Try.prog 89 = false := nr (by kernel_rfl)
@[simp] theorem x89_alloc (H : List (Nat × (Nat × HB))) (d : Nat) : aalloc Try.prog H d 89 = some (.ptr d (nextVer H d) 0, upd H d (nextVer H d, .cells [.p .ptr0])) := nr (by kernel_rfl)
@[simp] theorem x91_up : udesc Try.prog 91 = some (.pointer 66) := nr (by kernel_rfl)
@[simp] theorem x91_eq (x y : V) : eqNil Try.prog 91 x y = eqPt x y := eqNil_pt (e := 66) (by kernel_rfl) x y
@[simp] theorem x91_isSlice : isSlice Try.prog 91 = false := nr (by kernel_rfl)
@[simp] theorem x91_isString : isString Try.prog 91 = false := nr (by kernel_rfl)
@[simp] theorem x91_arrLen : arrLen Try.prog 91 = none := nr (by kernel_rfl)
@[simp] theorem x91_esz : esz Try.prog 91 = none := nr (by kernel_rfl)
@[simp] theorem x91_isAggT : isAggT Try.prog 91 = some false := nr (by kernel_rfl)
@[simp] theorem x91_tsize : tsize Try.prog 91 = some 1 := nr (by kernel_rfl)
@[simp] theorem x91_notInt : notInt Try.prog 91 = true := nr (by kernel_rfl)
@[simp] theorem x91_isBytes : isBytes Try.prog 91 = false := nr (by kernel_rfl)
@[simp] theorem x91_alloc (H : List (Nat × (Nat × HB))) (d : Nat) : aalloc Try.prog H d 91 = some (.ptr d (nextVer H d) 0, upd H d (nextVer H d, .cells [.p .ptr0])) := nr (by kernel_rfl)
@[simp] theorem x93_up : udesc Try.prog 93 = some (.pointer 111) := nr (by kernel_rfl)
@[simp] theorem x93_eq (x y : V) : eqNil Try.prog 93 x y = eqPt x y := eqNil_pt (e := 111) (by kernel_rfl) x y
@[simp] theorem x93_isSlice : isSlice Try.prog 93 = false := nr (by kernel_rfl)
@[simp] theorem x93_isString : isString Try.prog 93 = false := nr (by kernel_rfl)
@[simp] theorem x93_arrLen : arrLen Try.prog 93 = none := nr (by kernel_rfl)
@[simp] theorem x93_esz : esz Try.prog 93 = none := nr (by kernel_rfl)
@[simp] theorem x93_isAggT : isAggT Try.prog 93 = some false := nr (by kernel_rfl)
@[simp] theorem x93_tsize : tsize Try.prog 93 = some 1 := nr (by kernel_rfl)
@[simp] theorem x93_notInt : notInt Try.prog 93 = true := nr (by kernel_rfl)
@[simp] theorem x93_isBytes : isBytes Try.prog 93 = false := nr (by kernel_rfl)
@[simp] theorem x93_alloc (H : List (Nat × (Nat × HB))) (d : Nat) : aalloc Try.prog H d 93 = some (.ptr d (nextVer H d) 0, upd H d (nextVer H d, .cells [.p .ptr0])) := nr (by kernel_rfl)
@[simp] theorem x95_up : udesc Try.prog 95 = some (.pointer 117) := nr (by kernel_rfl)
@[simp] theorem x95_eq (x y : V) : eqNil Try.prog 95 x y = eqPt x y := eqNil_pt (e := 117) (by kernel_rfl) x y
@[simp] theorem x95_isSlice : isSlice Try.prog 95 = false := nr (by kernel_rfl)
@[simp] theorem x95_isString : isString Try.prog 95 = false := nr (by kernel_rfl)
@[simp] theorem x95_arrLen : arrLen Try.prog 95 = none := nr (by kernel_rfl)
@[simp] theorem x95_esz : esz Try.prog 95 = none := nr (by kernel_rfl)
@[simp] theorem x95_isAggT : isAggT Try.prog 95 = some false := nr (by kernel_rfl)
@[simp] theorem x95_tsize : tsize Try.prog 95 = some 1 := nr (by kernel_rfl)
@[simp] theorem x95_notInt : notInt Try.prog 95 = true := nr (by kernel_rfl)
@[simp] theorem x95_isBytes : isBytes Try.prog 95 = false := nr (by kernel_rfl)
@[simp] theorem x95_alloc (H : List (Nat × (Nat × HB))) (d : Nat) : aalloc Try.prog H d 95 = some (.ptr d (nextVer H d) 0, upd H d (nextVer H d, .cells [.p .ptr0])) := nr (by kernel_rfl)
@[simp] theorem x97_eq (a b : List Int) (ha : a.length = 256) (hb : b.length = 256) : eqNil Try.prog 97 (.p (.agg (.ints .u8 a))) (.p (.agg (.ints .u8 b))) = some (a == b) := eqNil_arr (n := 256) (e := 5) (by kernel_rfl) (by kernel_rfl) (by kernel_rfl) (by kernel_rfl) a b ha hb
@[simp] theorem x97_eqb (a b : List (BitVec 8)) (ha : a.length = 256) (hb : b.length = 256) : eqNil Try.prog 97 (.p (.agg (bl a))) (.p (.agg (bl b))) = some (a == b) := eqNil_bytes (n := 256) (e := 5) (by kernel_rfl) (by kernel_rfl) (by kernel_rfl) (by kernel_rfl) a b ha hb
@[simp] theorem x97_isSlice : isSlice Try.prog 97 = false := nr (by kernel_rfl)
@[simp] theorem x97_isString : isString Try.prog 97 = false := nr (by kernel_rfl)
@[simp] theorem x97_arrLen : arrLen Try.prog 97 = some 256 := nr (by kernel_rfl)
@[simp] theorem x97_esz : esz Try.prog 97 = some 1 := nr (by kernel_rfl)
@[simp] theorem x97_isAggT : isAggT Try.prog 97 = some true := nr (by kernel_rfl)
@[simp] theorem x97_tsize : tsize Try.prog 97 = some 256 := nr (by kernel_rfl)
@[simp] theorem x97_notInt : notInt Try.prog 97 = true := nr (by kernel_rfl)
@[simp] theorem x97_isBytes : isBytes Try.prog 97 = false := nr (by kernel_rfl)
@[simp] theorem x97_arrElem : arrElem Try.prog 97 = some 256 := nr (by kernel_rfl)
@[simp] theorem x98_eq (a b : List Int) (ha : a.length = 256) (hb : b.length = 256) : eqNil Try.prog 98 (.p (.agg (.ints .u8 a))) (.p (.agg (.ints .u8 b))) = some (a == b) := eqNil_arr (n := 256) (e := 5) (by kernel_rfl) (by kernel_rfl) (by kernel_rfl) (by kernel_rfl) a b ha hb
@[simp] theorem x98_eqb (a b : List (BitVec 8)) (ha : a.length = 256) (hb : b.length = 256) : eqNil Try.prog 98 (.p (.agg (bl a))) (.p (.agg (bl b))) = some (a == b) := eqNil_bytes (n := 256) (e := 5) (by kernel_rfl) (by kernel_rfl) (by kernel_rfl) (by kernel_rfl) a b ha hb
@[simp] theorem x98_isSlice : isSlice Try.prog 98 = false := nr (by kernel_rfl)
@[simp] theorem x98_isString : isString Try.prog 98 = false := nr (by kernel_rfl)
@[simp] theorem x98_arrLen : arrLen Try.prog 98 = some 256 := nr (by kernel_rfl)
@[simp] theorem x98_esz : esz Try.prog 98 = some 1 := nr (by kernel_rfl)
@[simp] theorem x98_isAggT : isAggT Try.prog 98 = some true := nr (by kernel_rfl)
@[simp] theorem x98_tsize : tsize Try.prog 98 = some 256 := nr (by kernel_rfl)
@[simp] theorem x98_notInt : notInt Try.prog 98 = true := nr (by kernel_rfl)
@[simp] theorem x98_isBytes : isBytes Try.prog 98 = false := nr (by kernel_rfl)
@[simp] theorem x98_arrElem : arrElem Try.prog 98 = some 256 := nr (by kernel_rfl)
@[simp] theorem x99_up : udesc Try.prog 99 = some (.pointer 98) := nr (by kernel_rfl)
@[simp] theorem x99_eq (x y : V) : eqNil Try.prog 99 x y = eqPt x y := eqNil_pt (e := 98) (by kernel_rfl) x y
@[simp] theorem x99_isSlice : isSlice Try.prog 99 = false := nr (by kernel_rfl)
@[simp] theorem x99_isString : isString Try.prog 99 = false := nr (by kernel_rfl)
@[simp] theorem x99_arrLen : arrLen Try.prog 99 = none := nr (by kernel_rfl)
@[simp] theorem x99_esz : esz Try.prog 99 = none := nr (by kernel_rfl)
@[simp] theorem x99_isAggT : isAggT Try.prog 99 = some false := nr (by kernel_rfl)
@[simp] theorem x99_tsize : tsize Try.prog 99 = some 1 := nr (by kernel_rfl)
@[simp] theorem x99_notInt : notInt Try.prog 99 = true := nr (by kernel_rfl)
@[simp] theorem x99_isBytes : isBytes Try.prog 99 = false := nr (by kernel_rfl)
@[simp] theorem x99_alloc (H : List (Nat × (Nat × HB))) (d : Nat) : aalloc Try.prog H d 99 = some (.ptr d (nextVer H d) 0, upd H d (nextVer H d, .cells [.p .ptr0])) := nr (by kernel_rfl)
@[simp] theorem x100_isSlice : isSlice Try.prog 100 = false := nr (by kernel_rfl)
@[simp] theorem x100_isString : isString Try.prog 100 = false := nr (by kernel_rfl)
@[simp] theorem x100_arrLen : arrLen Try.prog 100 = some 256 := nr (by kernel_rfl)
@[simp] theorem x100_esz : esz Try.prog 100 = some 1 := nr (by kernel_rfl)
@[simp] theorem x100_isAggT : isAggT Try.prog 100 = some true := nr (by kernel_rfl)
@[simp] theorem x100_tsize : tsize Try.prog 100 = some 256 := nr (by kernel_rfl)
@[simp] theorem x100_notInt : notInt Try.prog 100 = true := nr (by kernel_rfl)
@[simp] theorem x100_isBytes : isBytes Try.prog 100 = false := nr (by kernel_rfl)
@[simp] theorem x100_arrElem : arrElem Try.prog 100 = some 256 := nr (by kernel_rfl)
@[simp] theorem x101_isSlice : isSlice Try.prog 101 = false := nr (by kernel_rfl)
@[simp] theorem x101_isString : isString Try.prog 101 = false := nr (by kernel_rfl)
@[simp] theorem x101_arrLen : arrLen Try.prog 101 = none := nr (by kernel_rfl)
@[simp] theorem x101_esz : esz Try.prog 101 = none := nr (by kernel_rfl)
@[simp] theorem x101_isAggT : isAggT Try.prog 101 = some true := nr (by kernel_rfl)
@[simp] theorem x101_tsize : tsize Try.prog 101 = some 257 := nr (by kernel_rfl)
@[simp] theorem x101_notInt : notInt Try.prog 101 = true := nr (by kernel_rfl)
@[simp] theorem x101_isBytes : isBytes Try.prog 101 = false := nr (by kernel_rfl)
@[simp] theorem x101_f0 (x : V) : afield Try.prog 101 x 0 = fieldV true 0 256 x := nr (by kernel_rfl)
@[simp] theorem x101_fa0 (id ver off : Nat) : afieldAddr Try.prog 101 (.ptr id ver off) 0 = some (.ptr id ver (off + 0)) := nr (by kernel_rfl)
@[simp] theorem x101_fe0 (r : Row PV) (i j : Nat) : afieldAddr Try.prog 101 (.p (.eptr r i j)) 0 = some (.p (.eptr r i (j + 0))) := nr (by kernel_rfl)
@[simp] theorem x101_f1 (x : V) : afield Try.prog 101 x 1 = fieldV false 256 1 x := nr (by kernel_rfl)
@[simp] theorem x101_fa1 (id ver off : Nat) : afieldAddr Try.prog 101 (.ptr id ver off) 1 = some (.ptr id ver (off + 256)) := nr (by kernel_rfl)
@[simp] theorem x101_fe1 (r : Row PV) (i j : Nat) : afieldAddr Try.prog 101 (.p (.eptr r i j)) 1 = some (.p (.eptr r i (j + 256))) := nr (by kernel_rfl)
@[simp] theorem x102_isSlice : isSlice Try.prog 102 = false := nr (by kernel_rfl)
@[simp] theorem x102_isString : isString Try.prog 102 = false := nr (by kernel_rfl)
@[simp] theorem x102_arrLen : arrLen Try.prog 102 = none := nr (by kernel_rfl)
@[simp] theorem x102_esz : esz Try.prog 102 = none := nr (by kernel_rfl)
@[simp] theorem x102_isAggT : isAggT Try.prog 102 = some true := nr (by kernel_rfl)
@[simp] theorem x102_tsize : tsize Try.prog 102 = some 257 := nr (by kernel_rfl)
@[simp] theorem x102_notInt : notInt Try.prog 102 = true := nr (by kernel_rfl)
@[simp] theorem x102_isBytes : isBytes Try.prog 102 = false := nr (by kernel_rfl)
@[simp] theorem x102_f0 (x : V) : afield Try.prog 102 x 0 = fieldV true 0 256 x := nr (by kernel_rfl)
@[simp] theorem x102_fa0 (id ver off : Nat) : afieldAddr Try.prog 102 (.ptr id ver off) 0 = some (.ptr id ver (off + 0)) := nr (by kernel_rfl)
@[simp] theorem x102_fe0 (r : Row PV) (i j : Nat) : afieldAddr Try.prog 102 (.p (.eptr r i j)) 0 = some (.p (.eptr r i (j + 0))) := nr (by kernel_rfl)
@[simp] theorem x102_f1 (x : V) : afield Try.prog 102 x 1 = fieldV false 256 1 x := nr (by kernel_rfl)
@[simp] theorem x102_fa1 (id ver off : Nat) : afieldAddr Try.prog 102 (.ptr id ver off) 1 = some (.ptr id ver (off + 256)) := nr (by kernel_rfl)
@[simp] theorem x102_fe1 (r : Row PV) (i j : Nat) : afieldAddr Try.prog 102 (.p (.eptr r i j)) 1 = some (.p (.eptr r i (j + 256))) := nr (by kernel_rfl)
@[simp] theorem x103_up : udesc Try.prog 103 = some (.pointer 102) := nr (by kernel_rfl)
@[simp] theorem x103_eq (x y : V) : eqNil Try.prog 103 x y = eqPt x y := eqNil_pt (e := 102) (by kernel_rfl) x y
@[simp] theorem x103_isSlice : isSlice Try.prog 103 = false := nr (by kernel_rfl)
@[simp] theorem x103_isString : isString Try.prog 103 = false := nr (by kernel_rfl)
@[simp] theorem x103_arrLen : arrLen Try.prog 103 = none := nr (by kernel_rfl)
@[simp] theorem x103_esz : esz Try.prog 103 = none := nr (by kernel_rfl)
@[simp] theorem x103_isAggT : isAggT Try.prog 103 = some false := nr (by kernel_rfl)
@[simp] theorem x103_tsize : tsize Try.prog 103 = some 1 := nr (by kernel_rfl)
@[simp] theorem x103_notInt : notInt Try.prog 103 = true := nr (by kernel_rfl)
@[simp] theorem x103_isBytes : isBytes Try.prog 103 = false := nr (by kernel_rfl)
@[simp] theorem x103_alloc (H : List (Nat × (Nat × HB))) (d : Nat) : aalloc Try.prog H d 103 = some (.ptr d (nextVer H d) 0, upd H d (nextVer H d, .cells [.p .ptr0])) := nr (by kernel_rfl)
@[simp] theorem x104_u : udesc Try.prog 104 = some (.int .u64) := nr (by kernel_rfl)
@[simp] theorem x104_isSlice : isSlice Try.prog 104 = false := nr (by kernel_rfl)
@[simp] theorem x104_isString : isString Try.prog 104 = false := nr (by kernel_rfl)
@[simp] theorem x104_arrLen : arrLen Try.prog 104 = none := nr (by kernel_rfl)
@[simp] theorem x104_esz : esz Try.prog 104 = none := nr (by kernel_rfl)
@[simp] theorem x104_isAggT : isAggT Try.prog 104 = some false := nr (by kernel_rfl)
@[simp] theorem x104_tsize : tsize Try.prog 104 = some 1 := nr (by kernel_rfl)
@[simp] theorem x104_notInt : notInt Try.prog 104 = false := nr (by kernel_rfl)
@[simp] theorem x104_isBytes : isBytes Try.prog 104 = false := nr (by kernel_rfl)
@[simp] theorem x104_alloc (H : List (Nat × (Nat × HB))) (d : Nat) : aalloc Try.prog H d 104 = some (.ptr d (nextVer H d) 0, upd H d (nextVer H d, .row (.ints .u64 [0]))) := nr (by kernel_rfl)
@[simp] theorem x105_up : udesc Try.prog 105 = some (.pointer 72) := nr (by kernel_rfl)
@[simp] theorem x105_eq (x y : V) : eqNil Try.prog 105 x y = eqPt x y := eqNil_pt (e := 72) (by kernel_rfl) x y
@[simp] theorem x105_isSlice : isSlice Try.prog 105 = false := nr (by kernel_rfl)
@[simp] theorem x105_isString : isString Try.prog 105 = false := nr (by kernel_rfl)
@[simp] theorem x105_arrLen : arrLen Try.prog 105 = none := nr (by kernel_rfl)
@[simp] theorem x105_esz : esz Try.prog 105 = none := nr (by kernel_rfl)
@[simp] theorem x105_isAggT : isAggT Try.prog 105 = some false := nr (by kernel_rfl)
@[simp] theorem x105_tsize : tsize Try.prog 105 = some 1 := nr (by kernel_rfl)
@[simp] theorem x105_notInt : notInt Try.prog 105 = true := nr (by kernel_rfl)
@[simp] theorem x105_isBytes : isBytes Try.prog 105 = false := nr (by kernel_rfl)
@[simp] theorem x105_alloc (H : List (Nat × (Nat × HB))) (d : Nat) : aalloc Try.prog H d 105 = some (.ptr d (nextVer H d) 0, upd H d (nextVer H d, .cells [.p .ptr0])) := nr (by kernel_rfl)
@[simp] theorem x108_up : udesc Try.prog 108 = some (.pointer 128) := nr (by kernel_rfl)
@[simp] theorem x108_eq (x y : V) : eqNil Try.prog 108 x y = eqPt x y := eqNil_pt (e := 128) (by kernel_rfl) x y
@[simp] theorem x108_isSlice : isSlice Try.prog 108 = false := nr (by kernel_rfl)
@[simp] theorem x108_isString : isString Try.prog 108 = false := nr (by kernel_rfl)
@[simp] theorem x108_arrLen : arrLen Try.prog 108 = none := nr (by kernel_rfl)
@[simp] theorem x108_esz : esz Try.prog 108 = none := nr (by kernel_rfl)
@[simp] theorem x108_isAggT : isAggT Try.prog 108 = some false := nr (by kernel_rfl)
@[simp] theorem x108_tsize : tsize Try.prog 108 = some 1 := nr (by kernel_rfl)
@[simp] theorem x108_notInt : notInt Try.prog 108 = true := nr (by kernel_rfl)
@[simp] theorem x108_isBytes : isBytes Try.prog 108 = false := nr (by kernel_rfl)
@[simp] theorem x108_alloc (H : List (Nat × (Nat × HB))) (d : Nat) : aalloc Try.prog H d 108 = some (.ptr d (nextVer H d) 0, upd H d (nextVer H d, .cells [.p .ptr0])) := nr (by kernel_rfl)
@[simp] theorem x110_isSlice : isSlice Try.prog 110 = false := nr (by kernel_rfl)
@[simp] theorem x110_isString : isString Try.prog 110 = false := nr (by kernel_rfl)
@[simp] theorem x110_arrLen : arrLen Try.prog 110 = none := nr (by kernel_rfl)
@[simp] theorem x110_esz : esz Try.prog 110 = none := nr (by kernel_rfl)
@[simp] theorem x110_isAggT : isAggT Try.prog 110 = some true := nr (by kernel_rfl)
@[simp] theorem x110_tsize : tsize Try.prog 110 = some 2 := nr (by kernel_rfl)
@[simp] theorem x110_notInt : notInt Try.prog 110 = true := nr (by kernel_rfl)
@[simp] theorem x110_isBytes : isBytes Try.prog 110 = false := nr (by kernel_rfl)
@[simp] theorem x110_alloc (H : List (Nat × (Nat × HB))) (d : Nat) : aalloc Try.prog H d 110 = some (.ptr d (nextVer H d) 0, upd H d (nextVer H d, .cells [.p .ptr0, .p (.str ByteArray.empty)])) := nr (by kernel_rfl)
@[simp] theorem x110_build (H : List (Nat × (Nat × HB))) (ps : List (Nat × V)) : abuild Try.prog H 110 ps = (fillV (fun k => lookN [(0, 1), (1, 1)] k) H [.p .ptr0, .p (.str ByteArray.empty)] ps).map mkAgg := nr (by kernel_rfl)
@[simp] theorem x110_f0 (x : V) : afield Try.prog 110 x 0 = fieldV false 0 1 x := nr (by kernel_rfl)
@[simp] theorem x110_fa0 (id ver off : Nat) : afieldAddr Try.prog 110 (.ptr id ver off) 0 = some (.ptr id ver (off + 0)) := nr (by kernel_rfl)
@[simp] theorem x110_fe0 (r : Row PV) (i j : Nat) : afieldAddr Try.prog 110 (.p (.eptr r i j)) 0 = some (.p (.eptr r i (j + 0))) := nr (by kernel_rfl)
@[simp] theorem x110_f1 (x : V) : afield Try.prog 110 x 1 = fieldV false 1 1 x := nr (by kernel_rfl)
@[simp] theorem x110_fa1 (id ver off : Nat) : afieldAddr Try.prog 110 (.ptr id ver off) 1 = some (.ptr id ver (off + 1)) := nr (by kernel_rfl)
@[simp] theorem x110_fe1 (r : Row PV) (i j : Nat) : afieldAddr Try.prog 110 (.p (.eptr r i j)) 1 = some (.p (.eptr r i (j + 1))) := nr (by kernel_rfl)
@[simp] theorem x111_isSlice : isSlice Try.prog 111 = false := nr (by kernel_rfl)
@[simp] theorem x111_isString : isString Try.prog 111 = false := nr (by kernel_rfl)
@[simp] theorem x111_arrLen : arrLen Try.prog 111 = none := nr (by kernel_rfl)
@[simp] theorem x111_esz : esz Try.prog 111 = none := nr (by kernel_rfl)
@[simp] theorem x111_isAggT : isAggT Try.prog 111 = some true := nr (by kernel_rfl)
@[simp] theorem x111_tsize : tsize Try.prog 111 = some 2 := nr (by kernel_rfl)
@[simp] theorem x111_notInt : notInt Try.prog 111 = true := nr (by kernel_rfl)
@[simp] theorem x111_isBytes : isBytes Try.prog 111 = false := nr (by kernel_rfl)
@[simp] theorem x111_alloc (H : List (Nat × (Nat × HB))) (d : Nat) : aalloc Try.prog H d 111 = some (.ptr d (nextVer H d) 0, upd H d (nextVer H d, .cells [.p .ptr0, .p (.str ByteArray.empty)])) := nr (by kernel_rfl)
@[simp] theorem x111_build (H : List (Nat × (Nat × HB))) (ps : List (Nat × V)) : abuild Try.prog H 111 ps = (fillV (fun k => lookN [(0, 1), (1, 1)] k) H [.p .ptr0, .p (.str ByteArray.empty)] ps).map mkAgg := nr (by kernel_rfl)
@[simp] theorem x111_f0 (x : V) : afield Try.prog 111 x 0 = fieldV false 0 1 x := nr (by kernel_rfl)
@[simp] theorem x111_fa0 (id ver off : Nat) : afieldAddr Try.prog 111 (.ptr id ver off) 0 = some (.ptr id ver (off + 0)) := nr (by kernel_rfl)
@[simp] theorem x111_fe0 (r : Row PV) (i j : Nat) : afieldAddr Try.prog 111 (.p (.eptr r i j)) 0 = some (.p (.eptr r i (j + 0))) := nr (by kernel_rfl)
@[simp] theorem x111_f1 (x : V) : afield Try.prog 111 x 1 = fieldV false 1 1 x := nr (by kernel_rfl)
@[simp] theorem x111_fa1 (id ver off : Nat) : afieldAddr Try.prog 111 (.ptr id ver off) 1 = some (.ptr id ver (off + 1)) := nr (by kernel_rfl)
@[simp] theorem x111_fe1 (r : Row PV) (i j : Nat) : afieldAddr Try.prog 111 (.p (.eptr r i j)) 1 = some (.p (.eptr r i (j + 1))) := nr (by kernel_rfl)
@[simp] theorem x112_up : udesc Try.prog 112 = some (.pointer 115) := nr (by kernel_rfl)
@[simp] theorem x112_eq (x y : V) : eqNil Try.prog 112 x y = eqPt x y := eqNil_pt (e := 115) (by kernel_rfl) x y
@[simp] theorem x112_isSlice : isSlice Try.prog 112 = false := nr (by kernel_rfl)
@[simp] theorem x112_isString : isString Try.prog 112 = false := nr (by kernel_rfl)
@[simp] theorem x112_arrLen : arrLen Try.prog 112 = none := nr (by kernel_rfl)
@[simp] theorem x112_esz : esz Try.prog 112 = none := nr (by kernel_rfl)
@[simp] theorem x112_isAggT : isAggT Try.prog 112 = some false := nr (by kernel_rfl)
@[simp] theorem x112_tsize : tsize Try.prog 112 = some 1 := nr (by kernel_rfl)
@[simp] theorem x112_notInt : notInt Try.prog 112 = true := nr (by kernel_rfl)
@[simp] theorem x112_isBytes : isBytes Try.prog 112 = false := nr (by kernel_rfl)
@[simp] theorem x112_alloc (H : List (Nat × (Nat × HB))) (d : Nat) : aalloc Try.prog H d 112 = some (.ptr d (nextVer H d) 0, upd H d (nextVer H d, .cells [.p .ptr0])) := nr (by kernel_rfl)
@[simp] theorem x113_us : udesc Try.prog 113 = some (.slice 112) := nr (by kernel_rfl)
@[simp] theorem x113_eq (x y : V) : eqNil Try.prog 113 x y = eqSl x y := eqNil_sl (e := 112) (by kernel_rfl) x y
@[simp] theorem x113_isSlice : isSlice Try.prog 113 = true := nr (by kernel_rfl)
@[simp] theorem x113_isString : isString Try.prog 113 = false := nr (by kernel_rfl)
@[simp] theorem x113_arrLen : arrLen Try.prog 113 = none := nr (by kernel_rfl)
@[simp] theorem x113_esz : esz Try.prog 113 = some 1 := nr (by kernel_rfl)
@[simp] theorem x113_isAggT : isAggT Try.prog 113 = some false := nr (by kernel_rfl)
@[simp] theorem x113_tsize : tsize Try.prog 113 = some 1 := nr (by kernel_rfl)
@[simp] theorem x113_notInt : notInt Try.prog 113 = true := nr (by kernel_rfl)
@[simp] theorem x113_isBytes : isBytes Try.prog 113 = false := nr (by kernel_rfl)
@[simp] theorem x113_row (T : List (Nat × Nat)) (d len : Nat) (ps : List (Nat × V)) : arowSlice Try.prog T d 113 len ps = if len * 1 ≤ 16777216 then rowFill (.vals 1 []) 1 len d T (fillV (fun k => some (k * 1, 1)) [] (zrep len [.p .ptr0]) ps) else none := arowSlice_eq (P := Try.prog) (t := 113) (s := 1) (zl := [.p .ptr0]) (e := 112) (b := 8) (z := .pointer none) (by kernel_rfl) (by kernel_rfl) (by kernel_rfl) rfl T d len ps
@[simp] theorem x113_own (H : List (Nat × (Nat × HB))) (d len : Nat) (ps : List (Nat × V)) : abuildSlice Try.prog H d 113 len ps = if len * 1 ≤ 16777216 then (fillV (fun k => some (k * 1, 1)) H (zrep len [.p .ptr0]) ps).map fun l => (.own d (nextVer H d) 0 len len, upd H d (nextVer H d, mkHB l)) else none := abuildSlice_eq (P := Try.prog) (t := 113) (s := 1) (zl := [.p .ptr0]) (e := 112) (b := 8) (z := .pointer none) (by kernel_rfl) (by kernel_rfl) (by kernel_rfl) rfl H d len ps
@[simp] theorem x113_copy (H : List (Nat × (Nat × HB))) (id ver off len cap : Nat) (y : V) : acopy Try.prog H 113 (.own id ver off len cap) y = copyR ver off len 1 H id (look H id) (srcV H 1 y) := acopy_eq (e := 112) (b := 8) (z := .pointer none) (by kernel_rfl) H id ver off len cap y
@[simp] theorem x113_elem : elemInfo Try.prog 113 = some (112, 1, 8, .pointer none) := nr (by kernel_rfl)
@[simp] theorem x113_alloc (H : List (Nat × (Nat × HB))) (d : Nat) : aalloc Try.prog H d 113 = some (.ptr d (nextVer H d) 0, upd H d (nextVer H d, .cells [.p (.sl (.vals 1 []) true)])) := nr (by kernel_rfl)
@[simp] theorem x114_isSlice : isSlice Try.prog 114 = false := nr (by kernel_rfl)
@[simp] theorem x114_isString : isString Try.prog 114 = false := nr (by kernel_rfl)
@[simp] theorem x114_arrLen : arrLen Try.prog 114 = none := nr (by kernel_rfl)
@[simp] theorem x114_esz : esz Try.prog 114 = none := nr (by kernel_rfl)
@[simp] theorem x114_isAggT : isAggT Try.prog 114 = some true := nr (by kernel_rfl)
@[simp] theorem x114_tsize : tsize Try.prog 114 = some 5 := nr (by kernel_rfl)
@[simp] theorem x114_notInt : notInt Try.prog 114 = true := nr (by kernel_rfl)
@[simp] theorem x114_isBytes : isBytes Try.prog 114 = false := nr (by kernel_rfl)
@[simp] theorem x114_alloc (H : List (Nat × (Nat × HB))) (d : Nat) : aalloc Try.prog H d 114 = some (.ptr d (nextVer H d) 0, upd H d (nextVer H d, .cells [.p (.str ByteArray.empty), .p (.int .i64 0), .p (.str ByteArray.empty), .p .ptr0, .p (.sl (.vals 1 []) true)])) := nr (by kernel_rfl)
@[simp] theorem x114_build (H : List (Nat × (Nat × HB))) (ps : List (Nat × V)) : abuild Try.prog H 114 ps = (fillV (fun k => lookN [(0, 1), (1, 1), (2, 1), (3, 1), (4, 1)] k) H [.p (.str ByteArray.empty), .p (.int .i64 0), .p (.str ByteArray.empty), .p .ptr0, .p (.sl (.vals 1 []) true)] ps).map mkAgg := nr (by kernel_rfl)
@[simp] theorem x114_f0 (x : V) : afield Try.prog 114 x 0 = fieldV false 0 1 x := nr (by kernel_rfl)
@[simp] theorem x114_fa0 (id ver off : Nat) : afieldAddr Try.prog 114 (.ptr id ver off) 0 = some (.ptr id ver (off + 0)) := nr (by kernel_rfl)
@[simp] theorem x114_fe0 (r : Row PV) (i j : Nat) : afieldAddr Try.prog 114 (.p (.eptr r i j)) 0 = some (.p (.eptr r i (j + 0))) := nr (by kernel_rfl)
@[simp] theorem x114_f1 (x : V) : afield Try.prog 114 x 1 = fieldV false 1 1 x := nr (by kernel_rfl)
@[simp] theorem x114_fa1 (id ver off : Nat) : afieldAddr Try.prog 114 (.ptr id ver off) 1 = some (.ptr id ver (off + 1)) := nr (by kernel_rfl)
@[simp] theorem x114_fe1 (r : Row PV) (i j : Nat) : afieldAddr Try.prog 114 (.p (.eptr r i j)) 1 = some (.p (.eptr r i (j + 1))) := nr (by kernel_rfl)
@[simp] theorem x114_f2 (x : V) : afield Try.prog 114 x 2 = fieldV false 2 1 x := nr (by kernel_rfl)
@[simp] theorem x114_fa2 (id ver off : Nat) : afieldAddr Try.prog 114 (.ptr id ver off) 2 = some (.ptr id ver (off + 2)) := nr (by kernel_rfl)
@[simp] theorem x114_fe2 (r : Row PV) (i j : Nat) : afieldAddr Try.prog 114 (.p (.eptr r i j)) 2 = some (.p (.eptr r i (j + 2))) := nr (by kernel_rfl)
@[simp] theorem x114_f3 (x : V) : afield Try.prog 114 x 3 = fieldV false 3 1 x := nr (by kernel_rfl)
@[simp] theorem x114_fa3 (id ver off : Nat) : afieldAddr Try.prog 114 (.ptr id ver off) 3 = some (.ptr id ver (off + 3)) := nr (by kernel_rfl)
@[simp] theorem x114_fe3 (r : Row PV) (i j : Nat) : afieldAddr Try.prog 114 (.p (.eptr r i j)) 3 = some (.p (.eptr r i (j + 3))) := nr (by kernel_rfl)
@[simp] theorem x114_f4 (x : V) : afield Try.prog 114 x 4 = fieldV false 4 1 x := nr (by kernel_rfl)
@[simp] theorem x114_fa4 (id ver off : Nat) : afieldAddr Try.prog 114 (.ptr id ver off) 4 = some (.ptr id ver (off + 4)) := nr (by kernel_rfl)
@[simp] theorem x114_fe4 (r : Row PV) (i j : Nat) : afieldAddr Try.prog 114 (.p (.eptr r i j)) 4 = some (.p (.eptr r i (j + 4))) := nr (by kernel_rfl)
@[simp] theorem x115_isSlice : isSlice Try.prog 115 = false := nr (by kernel_rfl)
@[simp] theorem x115_isString : isString Try.prog 115 = false := nr (by kernel_rfl)
@[simp] theorem x115_arrLen : arrLen Try.prog 115 = none := nr (by kernel_rfl)
@[simp] theorem x115_esz : esz Try.prog 115 = none := nr (by kernel_rfl)
@[simp] theorem x115_isAggT : isAggT Try.prog 115 = some true := nr (by kernel_rfl)
@[simp] theorem x115_tsize : tsize Try.prog 115 = some 5 := nr (by kernel_rfl)
@[simp] theorem x115_notInt : notInt Try.prog 115 = true := nr (by kernel_rfl)
@[simp] theorem x115_isBytes : isBytes Try.prog 115 = false := nr (by kernel_rfl)
@[simp] theorem x115_alloc (H : List (Nat × (Nat × HB))) (d : Nat) : aalloc Try.prog H d 115 = some (.ptr d (nextVer H d) 0, upd H d (nextVer H d, .cells [.p (.str ByteArray.empty), .p (.int .i64 0), .p (.str ByteArray.empty), .p .ptr0, .p (.sl (.vals 1 []) true)])) := nr (by kernel_rfl)
@[simp] theorem x115_build (H : List (Nat × (Nat × HB))) (ps : List (Nat × V)) : abuild Try.prog H 115 ps = (fillV (fun k => lookN [(0, 1), (1, 1), (2, 1), (3, 1), (4, 1)] k) H [.p (.str ByteArray.empty), .p (.int .i64 0), .p (.str ByteArray.empty), .p .ptr0, .p (.sl (.vals 1 []) true)] ps).map mkAgg := nr (by kernel_rfl)
@[simp] theorem x115_f0 (x : V) : afield Try.prog 115 x 0 = fieldV false 0 1 x := nr (by kernel_rfl)
@[simp] theorem x115_fa0 (id ver off : Nat) : afieldAddr Try.prog 115 (.ptr id ver off) 0 = some (.ptr id ver (off + 0)) := nr (by kernel_rfl)
@[simp] theorem x115_fe0 (r : Row PV) (i j : Nat) : afieldAddr Try.prog 115 (.p (.eptr r i j)) 0 = some (.p (.eptr r i (j + 0))) := nr (by kernel_rfl)
@[simp] theorem x115_f1 (x : V) : afield Try.prog 115 x 1 = fieldV false 1 1 x := nr (by kernel_rfl)
@[simp] theorem x115_fa1 (id ver off : Nat) : afieldAddr Try.prog 115 (.ptr id ver off) 1 = some (.ptr id ver (off + 1)) := nr (by kernel_rfl)
@[simp] theorem x115_fe1 (r : Row PV) (i j : Nat) : afieldAddr Try.prog 115 (.p (.eptr r i j)) 1 = some (.p (.eptr r i (j + 1))) := nr (by kernel_rfl)
@[simp] theorem x115_f2 (x : V) : afield Try.prog 115 x 2 = fieldV false 2 1 x := nr (by kernel_rfl)
@[simp] theorem x115_fa2 (id ver off : Nat) : afieldAddr Try.prog 115 (.ptr id ver off) 2 = some (.ptr id ver (off + 2)) := nr (by kernel_rfl)
@[simp] theorem x115_fe2 (r : Row PV) (i j : Nat) : afieldAddr Try.prog 115 (.p (.eptr r i j)) 2 = some (.p (.eptr r i (j + 2))) := nr (by kernel_rfl)
@[simp] theorem x115_f3 (x : V) : afield Try.prog 115 x 3 = fieldV false 3 1 x := nr (by kernel_rfl)
@[simp] theorem x115_fa3 (id ver off : Nat) : afieldAddr Try.prog 115 (.ptr id ver off) 3 = some (.ptr id ver (off + 3)) := nr (by kernel_rfl)
@[simp] theorem x115_fe3 (r : Row PV) (i j : Nat) : afieldAddr Try.prog 115 (.p (.eptr r i j)) 3 = some (.p (.eptr r i (j + 3))) := nr (by kernel_rfl)
@[simp] theorem x115_f4 (x : V) : afield Try.prog 115 x 4 = fieldV false 4 1 x := nr (by kernel_rfl)
@[simp] theorem x115_fa4 (id ver off : Nat) : afieldAddr Try.prog 115 (.ptr id ver off) 4 = some (.ptr id ver (off + 4)) := nr (by kernel_rfl)
@[simp] theorem x115_fe4 (r : Row PV) (i j : Nat) : afieldAddr Try.prog 115 (.p (.eptr r i j)) 4 = some (.p (.eptr r i (j + 4))) := nr (by kernel_rfl)
@[simp] theorem x116_isSlice : isSlice Try.prog 116 = false := nr (by kernel_rfl)
@[simp] theorem x116_isString : isString Try.prog 116 = false := nr (by kernel_rfl)
@[simp] theorem x116_arrLen : arrLen Try.prog 116 = none := nr (by kernel_rfl)
@[simp] theorem x116_esz : esz Try.prog 116 = none := nr (by kernel_rfl)
@[simp] theorem x116_isAggT : isAggT Try.prog 116 = some true := nr (by kernel_rfl)
@[simp] theorem x116_tsize : tsize Try.prog 116 = some 262 := nr (by kernel_rfl)
@[simp] theorem x116_notInt : notInt Try.prog 116 = true := nr (by kernel_rfl)
@[simp] theorem x116_isBytes : isBytes Try.prog 116 = false := nr (by kernel_rfl)
@[simp] theorem x116_f0 (x : V) : afield Try.prog 116 x 0 = fieldV true 0 5 x := nr (by kernel_rfl)
@[simp] theorem x116_fa0 (id ver off : Nat) : afieldAddr Try.prog 116 (.ptr id ver off) 0 = some (.ptr id ver (off + 0)) := nr (by kernel_rfl)
@[simp] theorem x116_fe0 (r : Row PV) (i j : Nat) : afieldAddr Try.prog 116 (.p (.eptr r i j)) 0 = some (.p (.eptr r i (j + 0))) := nr (by kernel_rfl)
@[simp] theorem x116_f1 (x : V) : afield Try.prog 116 x 1 = fieldV false 5 1 x := nr (by kernel_rfl)
@[simp] theorem x116_fa1 (id ver off : Nat) : afieldAddr Try.prog 116 (.ptr id ver off) 1 = some (.ptr id ver (off + 5)) := nr (by kernel_rfl)
@[simp] theorem x116_fe1 (r : Row PV) (i j : Nat) : afieldAddr Try.prog 116 (.p (.eptr r i j)) 1 = some (.p (.eptr r i (j + 5))) := nr (by kernel_rfl)
@[simp] theorem x116_f2 (x : V) : afield Try.prog 116 x 2 = fieldV true 6 256 x := nr (by kernel_rfl)
@[simp] theorem x116_fa2 (id ver off : Nat) : afieldAddr Try.prog 116 (.ptr id ver off) 2 = some (.ptr id ver (off + 6)) := nr (by kernel_rfl)
@[simp] theorem x116_fe2 (r : Row PV) (i j : Nat) : afieldAddr Try.prog 116 (.p (.eptr r i j)) 2 = some (.p (.eptr r i (j + 6))) := nr (by kernel_rfl)
@[simp] theorem x117_isSlice : isSlice Try.prog 117 = false := nr (by kernel_rfl)
@[simp] theorem x117_isString : isString Try.prog 117 = false := nr (by kernel_rfl)
@[simp] theorem x117_arrLen : arrLen Try.prog 117 = none := nr (by kernel_rfl)
@[simp] theorem x117_esz : esz Try.prog 117 = none := nr (by kernel_rfl)
@[simp] theorem x117_isAggT : isAggT Try.prog 117 = some true := nr (by kernel_rfl)
@[simp] theorem x117_tsize : tsize Try.prog 117 = some 262 := nr (by kernel_rfl)
@[simp] theorem x117_notInt : notInt Try.prog 117 = true := nr (by kernel_rfl)
@[simp] theorem x117_isBytes : isBytes Try.prog 117 = false := nr (by kernel_rfl)
@[simp] theorem x117_f0 (x : V) : afield Try.prog 117 x 0 = fieldV true 0 5 x := nr (by kernel_rfl)
@[simp] theorem x117_fa0 (id ver off : Nat) : afieldAddr Try.prog 117 (.ptr id ver off) 0 = some (.ptr id ver (off + 0)) := nr (by kernel_rfl)
@[simp] theorem x117_fe0 (r : Row PV) (i j : Nat) : afieldAddr Try.prog 117 (.p (.eptr r i j)) 0 = some (.p (.eptr r i (j + 0))) := nr (by kernel_rfl)
@[simp] theorem x117_f1 (x : V) : afield Try.prog 117 x 1 = fieldV false 5 1 x := nr (by kernel_rfl)
@[simp] theorem x117_fa1 (id ver off : Nat) : afieldAddr Try.prog 117 (.ptr id ver off) 1 = some (.ptr id ver (off + 5)) := nr (by kernel_rfl)
@[simp] theorem x117_fe1 (r : Row PV) (i j : Nat) : afieldAddr Try.prog 117 (.p (.eptr r i j)) 1 = some (.p (.eptr r i (j + 5))) := nr (by kernel_rfl)
@[simp] theorem x117_f2 (x : V) : afield Try.prog 117 x 2 = fieldV true 6 256 x := nr (by kernel_rfl)
@[simp] theorem x117_fa2 (id ver off : Nat) : afieldAddr Try.prog 117 (.ptr id ver off) 2 = some (.ptr id ver (off + 6)) := nr (by kernel_rfl)
@[simp] theorem x117_fe2 (r : Row PV) (i j : Nat) : afieldAddr Try.prog 117 (.p (.eptr r i j)) 2 = some (.p (.eptr r i (j + 6))) := nr (by kernel_rfl)
@[simp] theorem x119_up : udesc Try.prog 119 = some (.pointer 70) := nr (by kernel_rfl)
@[simp] theorem x119_eq (x y : V) : eqNil Try.prog 119 x y = eqPt x y := eqNil_pt (e := 70) (by kernel_rfl) x y
@[simp] theorem x119_isSlice : isSlice Try.prog 119 = false := nr (by kernel_rfl)
@[simp] theorem x119_isString : isString Try.prog 119 = false := nr (by kernel_rfl)
@[simp] theorem x119_arrLen : arrLen Try.prog 119 = none := nr (by kernel_rfl)
@[simp] theorem x119_esz : esz Try.prog 119 = none := nr (by kernel_rfl)
@[simp] theorem x119_isAggT : isAggT Try.prog 119 = some false := nr (by kernel_rfl)
@[simp] theorem x119_tsize : tsize Try.prog 119 = some 1 := nr (by kernel_rfl)
@[simp] theorem x119_notInt : notInt Try.prog 119 = true := nr (by kernel_rfl)
@[simp] theorem x119_isBytes : isBytes Try.prog 119 = false := nr (by kernel_rfl)
@[simp] theorem x119_alloc (H : List (Nat × (Nat × HB))) (d : Nat) : aalloc Try.prog H d 119 = some (.ptr d (nextVer H d) 0, upd H d (nextVer H d, .cells [.p .ptr0])) := nr (by kernel_rfl)
@[simp] theorem x121_up : udesc Try.prog 121 = some (.pointer 21) := nr (by kernel_rfl)
@[simp] theorem x121_eq (x y : V) : eqNil Try.prog 121 x y = eqPt x y := eqNil_pt (e := 21) (by kernel_rfl) x y
@[simp] theorem x121_isSlice : isSlice Try.prog 121 = false := nr (by kernel_rfl)
@[simp] theorem x121_isString : isString Try.prog 121 = false := nr (by kernel_rfl)
@[simp] theorem x121_arrLen : arrLen Try.prog 121 = none := nr (by kernel_rfl)
@[simp] theorem x121_esz : esz Try.prog 121 = none := nr (by kernel_rfl)
@[simp] theorem x121_isAggT : isAggT Try.prog 121 = some false := nr (by kernel_rfl)
@[simp] theorem x121_tsize : tsize Try.prog 121 = some 1 := nr (by kernel_rfl)
@[simp] theorem x121_notInt : notInt Try.prog 121 = true := nr (by kernel_rfl)
@[simp] theorem x121_isBytes : isBytes Try.prog 121 = false := nr (by kernel_rfl)
@[simp] theorem x121_alloc (H : List (Nat × (Nat × HB))) (d : Nat) : aalloc Try.prog H d 121 = some (.ptr d (nextVer H d) 0, upd H d (nextVer H d, .cells [.p .ptr0])) := nr (by kernel_rfl)
@[simp] theorem x126_eq (a b : List Int) (ha : a.length = 256) (hb : b.length = 256) : eqNil Try.prog 126 (.p (.agg (.ints .i64 a))) (.p (.agg (.ints .i64 b))) = some (a == b) := eqNil_arr (n := 256) (e := 3) (by kernel_rfl) (by kernel_rfl) (by kernel_rfl) (by kernel_rfl) a b ha hb
@[simp] theorem x126_isSlice : isSlice Try.prog 126 = false := nr (by kernel_rfl)
@[simp] theorem x126_isString : isString Try.prog 126 = false := nr (by kernel_rfl)
@[simp] theorem x126_arrLen : arrLen Try.prog 126 = some 256 := nr (by kernel_rfl)
@[simp] theorem x126_esz : esz Try.prog 126 = some 1 := nr (by kernel_rfl)
@[simp] theorem x126_isAggT : isAggT Try.prog 126 = some true := nr (by kernel_rfl)
@[simp] theorem x126_tsize : tsize Try.prog 126 = some 256 := nr (by kernel_rfl)
@[simp] theorem x126_notInt : notInt Try.prog 126 = true := nr (by kernel_rfl)
@[simp] theorem x126_isBytes : isBytes Try.prog 126 = false := nr (by kernel_rfl)
@[simp] theorem x126_arrElem : arrElem Try.prog 126 = some 256 := nr (by kernel_rfl)
@[simp] theorem x127_isSlice : isSlice Try.prog 127 = false := nr (by kernel_rfl)
@[simp] theorem x127_isString : isString Try.prog 127 = false := nr (by kernel_rfl)
@[simp] theorem x127_arrLen : arrLen Try.prog 127 = none := nr (by kernel_rfl)
@[simp] theorem x127_esz : esz Try.prog 127 = none := nr (by kernel_rfl)
@[simp] theorem x127_isAggT : isAggT Try.prog 127 = some true := nr (by kernel_rfl)
@[simp] theorem x127_tsize : tsize Try.prog 127 = some 258 := nr (by kernel_rfl)
@[simp] theorem x127_notInt : notInt Try.prog 127 = true := nr (by kernel_rfl)
@[simp] theorem x127_isBytes : isBytes Try.prog 127 = false := nr (by kernel_rfl)
@[simp] theorem x127_f0 (x : V) : afield Try.prog 127 x 0 = fieldV false 0 1 x := nr (by kernel_rfl)
@[simp] theorem x127_fa0 (id ver off : Nat) : afieldAddr Try.prog 127 (.ptr id ver off) 0 = some (.ptr id ver (off + 0)) := nr (by kernel_rfl)
@[simp] theorem x127_fe0 (r : Row PV) (i j : Nat) : afieldAddr Try.prog 127 (.p (.eptr r i j)) 0 = some (.p (.eptr r i (j + 0))) := nr (by kernel_rfl)
@[simp] theorem x127_f1 (x : V) : afield Try.prog 127 x 1 = fieldV true 1 256 x := nr (by kernel_rfl)
@[simp] theorem x127_fa1 (id ver off : Nat) : afieldAddr Try.prog 127 (.ptr id ver off) 1 = some (.ptr id ver (off + 1)) := nr (by kernel_rfl)
@[simp] theorem x127_fe1 (r : Row PV) (i j : Nat) : afieldAddr Try.prog 127 (.p (.eptr r i j)) 1 = some (.p (.eptr r i (j + 1))) := nr (by kernel_rfl)
@[simp] theorem x127_f2 (x : V) : afield Try.prog 127 x 2 = fieldV false 257 1 x := nr (by kernel_rfl)
@[simp] theorem x127_fa2 (id ver off : Nat) : afieldAddr Try.prog 127 (.ptr id ver off) 2 = some (.ptr id ver (off + 257)) := nr (by kernel_rfl)
@[simp] theorem x127_fe2 (r : Row PV) (i j : Nat) : afieldAddr Try.prog 127 (.p (.eptr r i j)) 2 = some (.p (.eptr r i (j + 257))) := nr (by kernel_rfl)
@[simp] theorem x128_isSlice : isSlice Try.prog 128 = false := nr (by kernel_rfl)
@[simp] theorem x128_isString : isString Try.prog 128 = false := nr (by kernel_rfl)
@[simp] theorem x128_arrLen : arrLen Try.prog 128 = none := nr (by kernel_rfl)
@[simp] theorem x128_esz : esz Try.prog 128 = none := nr (by kernel_rfl)
@[simp] theorem x128_isAggT : isAggT Try.prog 128 = some true := nr (by kernel_rfl)
@[simp] theorem x128_tsize : tsize Try.prog 128 = some 258 := nr (by kernel_rfl)
@[simp] theorem x128_notInt : notInt Try.prog 128 = true := nr (by kernel_rfl)
@[simp] theorem x128_isBytes : isBytes Try.prog 128 = false := nr (by kernel_rfl)
@[simp] theorem x128_f0 (x : V) : afield Try.prog 128 x 0 = fieldV false 0 1 x := nr (by kernel_rfl)
@[simp] theorem x128_fa0 (id ver off : Nat) : afieldAddr Try.prog 128 (.ptr id ver off) 0 = some (.ptr id ver (off + 0)) := nr (by kernel_rfl)
@[simp] theorem x128_fe0 (r : Row PV) (i j : Nat) : afieldAddr Try.prog 128 (.p (.eptr r i j)) 0 = some (.p (.eptr r i (j + 0))) := nr (by kernel_rfl)
@[simp] theorem x128_f1 (x : V) : afield Try.prog 128 x 1 = fieldV true 1 256 x := nr (by kernel_rfl)
@[simp] theorem x128_fa1 (id ver off : Nat) : afieldAddr Try.prog 128 (.ptr id ver off) 1 = some (.ptr id ver (off + 1)) := nr (by kernel_rfl)
@[simp] theorem x128_fe1 (r : Row PV) (i j : Nat) : afieldAddr Try.prog 128 (.p (.eptr r i j)) 1 = some (.p (.eptr r i (j + 1))) := nr (by kernel_rfl)
@[simp] theorem x128_f2 (x : V) : afield Try.prog 128 x 2 = fieldV false 257 1 x := nr (by kernel_rfl)
@[simp] theorem x128_fa2 (id ver off : Nat) : afieldAddr Try.prog 128 (.ptr id ver off) 2 = some (.ptr id ver (off + 257)) := nr (by kernel_rfl)
@[simp] theorem x128_fe2 (r : Row PV) (i j : Nat) : afieldAddr Try.prog 128 (.p (.eptr r i j)) 2 = some (.p (.eptr r i (j + 257))) := nr (by kernel_rfl)
@[simp] theorem x143_up : udesc Try.prog 143 = some (.pointer 5) := nr (by kernel_rfl)
@[simp] theorem x143_eq (x y : V) : eqNil Try.prog 143 x y = eqPt x y := eqNil_pt (e := 5) (by kernel_rfl) x y
@[simp] theorem x143_isSlice : isSlice Try.prog 143 = false := nr (by kernel_rfl)
@[simp] theorem x143_isString : isString Try.prog 143 = false := nr (by kernel_rfl)
@[simp] theorem x143_arrLen : arrLen Try.prog 143 = none := nr (by kernel_rfl)
@[simp] theorem x143_esz : esz Try.prog 143 = none := nr (by kernel_rfl)
@[simp] theorem x143_isAggT : isAggT Try.prog 143 = some false := nr (by kernel_rfl)
@[simp] theorem x143_tsize : tsize Try.prog 143 = some 1 := nr (by kernel_rfl)
@[simp] theorem x143_notInt : notInt Try.prog 143 = true := nr (by kernel_rfl)
@[simp] theorem x143_isBytes : isBytes Try.prog 143 = false := nr (by kernel_rfl)
@[simp] theorem x143_alloc (H : List (Nat × (Nat × HB))) (d : Nat) : aalloc Try.prog H d 143 = some (.ptr d (nextVer H d) 0, upd H d (nextVer H d, .cells [.p .ptr0])) := nr (by kernel_rfl)
@[simp] theorem x149_up : udesc Try.prog 149 = some (.pointer 151) := nr (by kernel_rfl)
@[simp] theorem x149_eq (x y : V) : eqNil Try.prog 149 x y = eqPt x y := eqNil_pt (e := 151) (by kernel_rfl) x y
@[simp] theorem x149_isSlice : isSlice Try.prog 149 = false := nr (by kernel_rfl)
@[simp] theorem x149_isString : isString Try.prog 149 = false := nr (by kernel_rfl)
@[simp] theorem x149_arrLen : arrLen Try.prog 149 = none := nr (by kernel_rfl)
@[simp] theorem x149_esz : esz Try.prog 149 = none := nr (by kernel_rfl)
@[simp] theorem x149_isAggT : isAggT Try.prog 149 = some false := nr (by kernel_rfl)
@[simp] theorem x149_tsize : tsize Try.prog 149 = some 1 := nr (by kernel_rfl)
@[simp] theorem x149_notInt : notInt Try.prog 149 = true := nr (by kernel_rfl)
@[simp] theorem x149_isBytes : isBytes Try.prog 149 = false := nr (by kernel_rfl)
@[simp] theorem x149_alloc (H : List (Nat × (Nat × HB))) (d : Nat) : aalloc Try.prog H d 149 = some (.ptr d (nextVer H d) 0, upd H d (nextVer H d, .cells [.p .ptr0])) := nr (by kernel_rfl)
@[simp] theorem x150_isSlice : isSlice Try.prog 150 = false := nr (by kernel_rfl)
@[simp] theorem x150_isString : isString Try.prog 150 = false := nr (by kernel_rfl)
@[simp] theorem x150_arrLen : arrLen Try.prog 150 = none := nr (by kernel_rfl)
@[simp] theorem x150_esz : esz Try.prog 150 = none := nr (by kernel_rfl)
@[simp] theorem x150_isAggT : isAggT Try.prog 150 = some true := nr (by kernel_rfl)
@[simp] theorem x150_tsize : tsize Try.prog 150 = some 2 := nr (by kernel_rfl)
@[simp] theorem x150_notInt : notInt Try.prog 150 = true := nr (by kernel_rfl)
@[simp] theorem x150_isBytes : isBytes Try.prog 150 = false := nr (by kernel_rfl)
@[simp] theorem x150_alloc (H : List (Nat × (Nat × HB))) (d : Nat) : aalloc Try.prog H d 150 = some (.ptr d (nextVer H d) 0, upd H d (nextVer H d, .cells [.p .ptr0, .p (.sl (.vals 1 []) true)])) := nr (by kernel_rfl)
@[simp] theorem x150_build (H : List (Nat × (Nat × HB))) (ps : List (Nat × V)) : abuild Try.prog H 150 ps = (fillV (fun k => lookN [(0, 1), (1, 1)] k) H [.p .ptr0, .p (.sl (.vals 1 []) true)] ps).map mkAgg := nr (by kernel_rfl)
@[simp] theorem x150_f0 (x : V) : afield Try.prog 150 x 0 = fieldV false 0 1 x := nr (by kernel_rfl)
@[simp] theorem x150_fa0 (id ver off : Nat) : afieldAddr Try.prog 150 (.ptr id ver off) 0 = some (.ptr id ver (off + 0)) := nr (by kernel_rfl)
@[simp] theorem x150_fe0 (r : Row PV) (i j : Nat) : afieldAddr Try.prog 150 (.p (.eptr r i j)) 0 = some (.p (.eptr r i (j + 0))) := nr (by kernel_rfl)
@[simp] theorem x150_f1 (x : V) : afield Try.prog 150 x 1 = fieldV false 1 1 x := nr (by kernel_rfl)
@[simp] theorem x150_fa1 (id ver off : Nat) : afieldAddr Try.prog 150 (.ptr id ver off) 1 = some (.ptr id ver (off + 1)) := nr (by kernel_rfl)
@[simp] theorem x150_fe1 (r : Row PV) (i j : Nat) : afieldAddr Try.prog 150 (.p (.eptr r i j)) 1 = some (.p (.eptr r i (j + 1))) := nr (by kernel_rfl)
@[simp] theorem x151_isSlice : isSlice Try.prog 151 = false := nr (by kernel_rfl)
@[simp] theorem x151_isString : isString Try.prog 151 = false := nr (by kernel_rfl)
@[simp] theorem x151_arrLen : arrLen Try.prog 151 = none := nr (by kernel_rfl)
@[simp] theorem x151_esz : esz Try.prog 151 = none := nr (by kernel_rfl)
@[simp] theorem x151_isAggT : isAggT Try.prog 151 = some true := nr (by kernel_rfl)
@[simp] theorem x151_tsize : tsize Try.prog 151 = some 2 := nr (by kernel_rfl)
@[simp] theorem x151_notInt : notInt Try.prog 151 = true := nr (by kernel_rfl)
@[simp] theorem x151_isBytes : isBytes Try.prog 151 = false := nr (by kernel_rfl)
@[simp] theorem x151_alloc (H : List (Nat × (Nat × HB))) (d : Nat) : aalloc Try.prog H d 151 = some (.ptr d (nextVer H d) 0, upd H d (nextVer H d, .cells [.adr d (nextVer H d) 0 151 2, .p (.sl (.vals 1 []) true)])) := nr (by kernel_rfl)
@[simp] theorem x151_build (H : List (Nat × (Nat × HB))) (ps : List (Nat × V)) : abuild Try.prog H 151 ps = (fillV (fun k => lookN [(0, 1), (1, 1)] k) H [.p .ptr0, .p (.sl (.vals 1 []) true)] ps).map mkAgg := nr (by kernel_rfl)
@[simp] theorem x151_f0 (x : V) : afield Try.prog 151 x 0 = fieldV false 0 1 x := nr (by kernel_rfl)
@[simp] theorem x151_fa0 (id ver off : Nat) : afieldAddr Try.prog 151 (.ptr id ver off) 0 = some (.ptr id ver (off + 0)) := nr (by kernel_rfl)
@[simp] theorem x151_fe0 (r : Row PV) (i j : Nat) : afieldAddr Try.prog 151 (.p (.eptr r i j)) 0 = some (.p (.eptr r i (j + 0))) := nr (by kernel_rfl)
@[simp] theorem x151_f1 (x : V) : afield Try.prog 151 x 1 = fieldV false 1 1 x := nr (by kernel_rfl)
@[simp] theorem x151_fa1 (id ver off : Nat) : afieldAddr Try.prog 151 (.ptr id ver off) 1 = some (.ptr id ver (off + 1)) := nr (by kernel_rfl)
@[simp] theorem x151_fe1 (r : Row PV) (i j : Nat) : afieldAddr Try.prog 151 (.p (.eptr r i j)) 1 = some (.p (.eptr r i (j + 1))) := nr (by kernel_rfl)
@[simp] theorem x160_us : udesc Try.prog 160 = some (.slice 5) := nr (by kernel_rfl)
@[simp] theorem x160_eq (x y : V) : eqNil Try.prog 160 x y = eqSl x y := eqNil_sl (e := 5) (by kernel_rfl) x y
@[simp] theorem x160_isSlice : isSlice Try.prog 160 = true := nr (by kernel_rfl)
@[simp] theorem x160_isString : isString Try.prog 160 = false := nr (by kernel_rfl)
@[simp] theorem x160_arrLen : arrLen Try.prog 160 = none := nr (by kernel_rfl)
@[simp] theorem x160_esz : esz Try.prog 160 = some 1 := nr (by kernel_rfl)
@[simp] theorem x160_isAggT : isAggT Try.prog 160 = some false := nr (by kernel_rfl)
@[simp] theorem x160_tsize : tsize Try.prog 160 = some 1 := nr (by kernel_rfl)
@[simp] theorem x160_notInt : notInt Try.prog 160 = true := nr (by kernel_rfl)
@[simp] theorem x160_isBytes : isBytes Try.prog 160 = true := nr (by kernel_rfl)
@[simp] theorem x160_row (T : List (Nat × Nat)) (d len : Nat) (ps : List (Nat × V)) : arowSlice Try.prog T d 160 len ps = if len * 1 ≤ 16777216 then rowFill (bl []) 1 len d T (fillV (fun k => some (k * 1, 1)) [] (zrep len [.p (.int .u8 0)]) ps) else none := arowSlice_eq (P := Try.prog) (t := 160) (s := 1) (zl := [.p (.int .u8 0)]) (e := 5) (b := 1) (z := .int .u8 0) (by kernel_rfl) (by kernel_rfl) (by kernel_rfl) rfl T d len ps
@[simp] theorem x160_own (H : List (Nat × (Nat × HB))) (d len : Nat) (ps : List (Nat × V)) : abuildSlice Try.prog H d 160 len ps = if len * 1 ≤ 16777216 then (fillV (fun k => some (k * 1, 1)) H (zrep len [.p (.int .u8 0)]) ps).map fun l => (.own d (nextVer H d) 0 len len, upd H d (nextVer H d, mkHB l)) else none := abuildSlice_eq (P := Try.prog) (t := 160) (s := 1) (zl := [.p (.int .u8 0)]) (e := 5) (b := 1) (z := .int .u8 0) (by kernel_rfl) (by kernel_rfl) (by kernel_rfl) rfl H d len ps
@[simp] theorem x160_copy (H : List (Nat × (Nat × HB))) (id ver off len cap : Nat) (y : V) : acopy Try.prog H 160 (.own id ver off len cap) y = copyR ver off len 1 H id (look H id) (srcV H 1 y) := acopy_eq (e := 5) (b := 1) (z := .int .u8 0) (by kernel_rfl) H id ver off len cap y
@[simp] theorem x160_make (H : List (Nat × (Nat × HB))) (d : Nat) (k k' : IntKind) (n m : Int) (h0 : 0 ≤ n) (h1 : n ≤ m) (h2 : m ≤ 281474976710656) : amakeSlice Try.prog H d 160 (.p (.int k n)) (.p (.int k' m)) = some (.own d (nextVer H d) 0 n.toNat m.toNat, upd H d (nextVer H d, .row (bl (List.replicate m.toNat 0#8)))) := amake_bytes (e := 5) (by kernel_rfl) H d k k' n m h0 h1 h2
@[simp] theorem x160_elem : elemInfo Try.prog 160 = some (5, 1, 1, .int .u8 0) := nr (by kernel_rfl)
@[simp] theorem x160_alloc (H : List (Nat × (Nat × HB))) (d : Nat) : aalloc Try.prog H d 160 = some (.ptr d (nextVer H d) 0, upd H d (nextVer H d, .cells [.p (.sl (.vals 1 []) true)])) := nr (by kernel_rfl)
@[simp] theorem x161_up : udesc Try.prog 161 = some (.pointer 160) := nr (by kernel_rfl)
@[simp] theorem x161_eq (x y : V) : eqNil Try.prog 161 x y = eqPt x y := eqNil_pt (e := 160) (by kernel_rfl) x y
@[simp] theorem x161_isSlice : isSlice Try.prog 161 = false := nr (by kernel_rfl)
@[simp] theorem x161_isString : isString Try.prog 161 = false := nr (by kernel_rfl)
@[simp] theorem x161_arrLen : arrLen Try.prog 161 = none := nr (by kernel_rfl)
@[simp] theorem x161_esz : esz Try.prog 161 = none := nr (by kernel_rfl)
@[simp] theorem x161_isAggT : isAggT Try.prog 161 = some false := nr (by kernel_rfl)
@[simp] theorem x161_tsize : tsize Try.prog 161 = some 1 := nr (by kernel_rfl)
@[simp] theorem x161_notInt : notInt Try.prog 161 = true := nr (by kernel_rfl)
@[simp] theorem x161_isBytes : isBytes Try.prog 161 = false := nr (by kernel_rfl)
@[simp] theorem x161_alloc (H : List (Nat × (Nat × HB))) (d : Nat) : aalloc Try.prog H d 161 = some (.ptr d (nextVer H d) 0, upd H d (nextVer H d, .cells [.p .ptr0])) := nr (by kernel_rfl)
@[simp] theorem x170_isSlice : isSlice Try.prog 170 = false := nr (by kernel_rfl)
@[simp] theorem x170_isString : isString Try.prog 170 = false := nr (by kernel_rfl)
@[simp] theorem x170_arrLen : arrLen Try.prog 170 = none := nr (by kernel_rfl)
@[simp] theorem x170_esz : esz Try.prog 170 = none := nr (by kernel_rfl)
@[simp] theorem x170_isAggT : isAggT Try.prog 170 = some true := nr (by kernel_rfl)
@[simp] theorem x170_tsize : tsize Try.prog 170 = some 1 := nr (by kernel_rfl)
@[simp] theorem x170_notInt : notInt Try.prog 170 = true := nr (by kernel_rfl)
@[simp] theorem x170_isBytes : isBytes Try.prog 170 = false := nr (by kernel_rfl)
@[simp] theorem x170_alloc (H : List (Nat × (Nat × HB))) (d : Nat) : aalloc Try.prog H d 170 = some (.ptr d (nextVer H d) 0, upd H d (nextVer H d, .cells [.p .iface0])) := nr (by kernel_rfl)
@[simp] theorem x170_build (H : List (Nat × (Nat × HB))) (ps : List (Nat × V)) : abuild Try.prog H 170 ps = (fillV (fun k => lookN [(0, 1)] k) H [.p .iface0] ps).map mkAgg := nr (by kernel_rfl)
@[simp] theorem x170_f0 (x : V) : afield Try.prog 170 x 0 = fieldV false 0 1 x := nr (by kernel_rfl)
@[simp] theorem x170_fa0 (id ver off : Nat) : afieldAddr Try.prog 170 (.ptr id ver off) 0 = some (.ptr id ver (off + 0)) := nr (by kernel_rfl)
@[simp] theorem x170_fe0 (r : Row PV) (i j : Nat) : afieldAddr Try.prog 170 (.p (.eptr r i j)) 0 = some (.p (.eptr r i (j + 0))) := nr (by kernel_rfl)
@[simp] theorem x171_isSlice : isSlice Try.prog 171 = false := nr (by kernel_rfl)
@[simp] theorem x171_isString : isString Try.prog 171 = false := nr (by kernel_rfl)
@[simp] theorem x171_arrLen : arrLen Try.prog 171 = none := nr (by kernel_rfl)
@[simp] theorem x171_esz : esz Try.prog 171 = none := nr (by kernel_rfl)
@[simp] theorem x171_isAggT : isAggT Try.prog 171 = some true := nr (by kernel_rfl)
@[simp] theorem x171_tsize : tsize Try.prog 171 = some 1 := nr (by kernel_rfl)
@[simp] theorem x171_notInt : notInt Try.prog 171 = true := nr (by kernel_rfl)
@[simp] theorem x171_isBytes : isBytes Try.prog 171 = false := nr (by kernel_rfl)
@[simp] theorem x171_alloc (H : List (Nat × (Nat × HB))) (d : Nat) : aalloc Try.prog H d 171 = some (.ptr d (nextVer H d) 0, upd H d (nextVer H d, .cells [.p .iface0])) := nr (by kernel_rfl)
@[simp] theorem x171_build (H : List (Nat × (Nat × HB))) (ps : List (Nat × V)) : abuild Try.prog H 171 ps = (fillV (fun k => lookN [(0, 1)] k) H [.p .iface0] ps).map mkAgg := nr (by kernel_rfl)
@[simp] theorem x171_f0 (x : V) : afield Try.prog 171 x 0 = fieldV false 0 1 x := nr (by kernel_rfl)
@[simp] theorem x171_fa0 (id ver off : Nat) : afieldAddr Try.prog 171 (.ptr id ver off) 0 = some (.ptr id ver (off + 0)) := nr (by kernel_rfl)
@[simp] theorem x171_fe0 (r : Row PV) (i j : Nat) : afieldAddr Try.prog 171 (.p (.eptr r i j)) 0 = some (.p (.eptr r i (j + 0))) := nr (by kernel_rfl)
theorem mixed : Try.prog.follows .mixedOrders = true := by kernel_rfl
end Go.Av.Can
end

section
namespace Go.Av.Can
open Go Go.Av Go.Proofs
/-- NewReplacer and (*Replacer).Replace work on a Replacer of the caller's own; build fills one of its own. -/
instance : Tables := ⟨fun _ => none, fun f => if f = 30 ∨ f = 31 ∨ f = 51 then 2 else 0⟩
end Go.Av.Can
end

section
set_option linter.unusedSimpArgs false
set_option linter.unusedVariables false
open Go Go.Av Go.Proofs
namespace Go.Av.Can
/-! ### strings.Count of one byte -/
set_option maxHeartbeats 4000000 in
set_option maxRecDepth 100000 in
theorem cnt_run (s : ByteArray) (c : UInt8) (w : World) :
    Calls Try.prog 119 #[.string s, .string ⟨#[c]⟩] w fun e w' => e = .returned (.int .i64 (Lib.countByte s.data.toList c)) ∧ w' = w := by
  have t3 := Try.underlying3; have t4 := Try.underlying4; have t5 := Try.underlying5; have t9 := Try.underlying9
  have a3 := fun w => run_isAgg (P := Try.prog) (t := 3) (b := false) (by kernel_rfl) w; have a4 := fun w => run_isAgg (P := Try.prog) (t := 4) (b := false) (by kernel_rfl) w
  have a5 := fun w => run_isAgg (P := Try.prog) (t := 5) (b := false) (by kernel_rfl) w; have a9 := fun w => run_isAgg (P := Try.prog) (t := 9) (b := false) (by kernel_rfl) w
  have z3 := fun w => tsize_run (P := Try.prog) (t := 3) (n := 1) (by kernel_rfl) w; have z4 := fun w => tsize_run (P := Try.prog) (t := 4) (n := 1) (by kernel_rfl) w
  have z5 := fun w => tsize_run (P := Try.prog) (t := 5) (n := 1) (by kernel_rfl) w; have z9 := fun w => tsize_run (P := Try.prog) (t := 9) (n := 1) (by kernel_rfl) w
  have mixed : Try.prog.follows .mixedOrders = true := by kernel_rfl
  go_enter Try.func119, Try.ntmps119
  go_wp2
  rw [run_callFunc_extern Try.func121 (by kernel_rfl) (by kernel_rfl) (by kernel_rfl) (e := Extern.BytealgCount.count) (by kernel_rfl), Lib.run_countString]
  simp only [Result.andThen]
  rw [Oper.upon_value]
  go_wp2
  go_ret
  exact ⟨rfl, rfl⟩
theorem count_txt (l : List (BitVec 8)) (b : BitVec 8) : Lib.countByte (txt l).data.toList (UInt8.ofBitVec b) = l.count b := by
  rw [txt_list]
  unfold Lib.countByte
  induction l with
  | nil => rfl
  | cons x l ih =>
    rw [List.map_cons, List.count_cons, List.count_cons, ih]
    have e : (UInt8.ofBitVec x == UInt8.ofBitVec b) = (x == b) := by
      rw [Bool.eq_iff_iff, beq_iff_eq, beq_iff_eq]
      constructor
      · intro h
        have := congrArg (fun z : UInt8 => z.toBitVec) h
        simpa using this
      · rintro rfl; rfl
    rw [e]
theorem cnt_ct (l : List (BitVec 8)) (b : BitVec 8) : Fn Try.prog 119 [.str (txt l), .str (txt [b])] [.p (.int .i64 (l.count b : Nat))] := by
  intro G w vs g
  have hl := g.len
  match vs, hl with
  | [x, y], _ =>
    have h0 := g.args 0 (by simp)
    have h1 := g.args 1 (by simp)
    simp only [List.map_cons, List.map_nil, List.getD_cons_zero, List.getD_cons_succ] at h0 h1
    obtain rfl := h0.str
    obtain rfl := h1.str
    have e : txt [b] = ⟨#[UInt8.ofBitVec b]⟩ := by
      have h := txt_list [b]
      apply ByteArray.ext
      apply Array.ext'
      rw [h]; rfl
    rw [e]
    refine (cnt_run (txt l) (UInt8.ofBitVec b) w).mono ?_
    rintro e w' ⟨rfl, rfl⟩
    refine ⟨_, rfl, rfl, G, Ext.refl G w', g.wf, fun i hi => by simp at hi, ?_⟩
    rw [count_txt]
    exact .p (.int _ _)
/-! ### what a table of replacements makes of a text -/
abbrev Tab := BitVec 8 → Option (List (BitVec 8))
def repB (g : Tab) (b : BitVec 8) : List (BitVec 8) := (g b).getD [b]
def replL (g : Tab) (l : List (BitVec 8)) : List (BitVec 8) := l.flatMap (repB g)
theorem replL_nil (g : Tab) : replL g [] = [] := rfl
theorem replL_cons (g : Tab) (b : BitVec 8) (l : List (BitVec 8)) : replL g (b :: l) = repB g b ++ replL g l := rfl
theorem replL_app (g : Tab) (a b : List (BitVec 8)) : replL g (a ++ b) = replL g a ++ replL g b := List.flatMap_append
theorem replL_take (g : Tab) (l : List (BitVec 8)) (k : Nat) (h : k < l.length) : replL g (l.take (k + 1)) = replL g (l.take k) ++ repB g (l.getD k 0#8) := by
  rw [List.take_succ_eq_append_getElem h, replL_app]
  simp [replL, List.getD_eq_getElem?_getD, h]
theorem replL_none (g : Tab) (l : List (BitVec 8)) (h : ∀ b ∈ l, g b = none) : replL g l = l := by
  induction l with
  | nil => rfl
  | cons b l ih =>
    rw [replL_cons, ih fun x hx => h x (List.mem_cons_of_mem _ hx)]
    simp [repB, h b (List.mem_cons_self ..)]
/-- A table whose replacements are short, with the list of what is replaced. -/
structure TabOk (g : Tab) (ts : List (BitVec 8)) : Prop where
  ne : ∀ b x, g b = some x → 1 ≤ x.length ∧ x.length ≤ 16
  mem : ∀ b, b ∈ ts ↔ (g b).isSome = true
  nodup : ts.Nodup
def extra (g : Tab) (b : BitVec 8) : Nat := (repB g b).length - 1
theorem rep_len {g : Tab} {ts : List (BitVec 8)} (h : TabOk g ts) (b : BitVec 8) : (repB g b).length = extra g b + 1 ∧ extra g b ≤ 15 := by
  unfold extra repB
  cases hb : g b with
  | none => simp
  | some x => have := h.ne b x hb; simp; omega
/-- What the counting of the first k gives. -/
def szA (g : Tab) (l : List (BitVec 8)) (ts : List (BitVec 8)) (k : Nat) : Nat := l.length + ((ts.take k).map fun b => l.count b * extra g b).sum
theorem szA_zero (g : Tab) (l ts : List (BitVec 8)) : szA g l ts 0 = l.length := by simp [szA]
theorem szA_succ (g : Tab) (l ts : List (BitVec 8)) (k : Nat) (h : k < ts.length) : szA g l ts (k + 1) = szA g l ts k + l.count (ts.getD k 0#8) * extra g (ts.getD k 0#8) := by
  unfold szA
  have e : ts.getD k 0#8 = ts[k] := by simp [List.getD_eq_getElem?_getD, h]
  rw [List.take_succ_eq_append_getElem h, List.map_append, List.sum_append, e]
  simp only [List.map_cons, List.map_nil, List.sum_cons, List.sum_nil]
  omega
theorem szA_le {g : Tab} {ts : List (BitVec 8)} (h : TabOk g ts) (l : List (BitVec 8)) (k : Nat) (hk : k ≤ ts.length) : szA g l ts k ≤ l.length + k * (l.length * 15) := by
  induction k with
  | zero => rw [szA_zero]; omega
  | succ k ih =>
    rw [szA_succ g l ts k (by omega)]
    have h1 := ih (by omega)
    have h2 : l.count (ts.getD k 0#8) ≤ l.length := List.count_le_length
    have h3 := (rep_len h (ts.getD k 0#8)).2
    have h4 := Nat.mul_le_mul h2 h3
    have h5 : (k + 1) * (l.length * 15) = k * (l.length * 15) + l.length * 15 := Nat.succ_mul _ _
    omega
theorem sum_count {g : Tab} {ts : List (BitVec 8)} (h : TabOk g ts) : ∀ l : List (BitVec 8), (ts.map fun b => l.count b * extra g b).sum = (l.map (extra g)).sum := by
  intro l
  induction l with
  | nil =>
    have : ∀ us : List (BitVec 8), (us.map fun b => ([] : List (BitVec 8)).count b * extra g b).sum = 0 := by
      intro us
      induction us with
      | nil => rfl
      | cons u us ih => rw [List.map_cons, List.sum_cons, ih]; simp
    rw [this]; rfl
  | cons c l ih =>
    have key : ∀ (us : List (BitVec 8)), us.Nodup → (us.map fun b => (c :: l).count b * extra g b).sum = (us.map fun b => l.count b * extra g b).sum + if c ∈ us then extra g c else 0 := by
      intro us
      induction us with
      | nil => simp
      | cons u us ih2 =>
        intro hn
        obtain ⟨h1, h2⟩ := List.nodup_cons.1 hn
        have hcu2 : (c :: l).count u = l.count u + if c == u then 1 else 0 := List.count_cons
        rw [List.map_cons, List.sum_cons, ih2 h2, List.map_cons, List.sum_cons, hcu2]
        by_cases hcu : c = u
        · subst hcu
          simp [h1, Nat.add_mul]; omega
        · have : (c == u) = false := by simpa using hcu
          simp only [this, Bool.false_eq_true, if_false, Nat.add_zero, List.mem_cons, hcu, false_or]; omega
    rw [key ts h.nodup, ih]
    simp only [List.map_cons, List.sum_cons]
    split
    · omega
    · rename_i hc
      have : g c = none := by
        cases hg : g c with
        | none => rfl
        | some x => exact absurd ((h.mem c).2 (by rw [hg]; rfl)) hc
      have : extra g c = 0 := by simp [extra, repB, this]
      omega
theorem len_sum {g : Tab} {ts : List (BitVec 8)} (h : TabOk g ts) (l : List (BitVec 8)) : (replL g l).length = l.length + (l.map (extra g)).sum := by
  induction l with
  | nil => rfl
  | cons b l ih =>
    rw [replL_cons, List.length_append, ih, (rep_len h b).1]
    simp; omega
theorem szA_end {g : Tab} {ts : List (BitVec 8)} (h : TabOk g ts) (l : List (BitVec 8)) : szA g l ts ts.length = (replL g l).length := by
  rw [len_sum h]; unfold szA; rw [List.take_length, sum_count h]
/-- Whether there is one of the first k. -/
def anyA (l ts : List (BitVec 8)) (k : Nat) : Bool := (ts.take k).any fun b => l.count b != 0
theorem anyA_succ (l ts : List (BitVec 8)) (k : Nat) (h : k < ts.length) : anyA l ts (k + 1) = (anyA l ts k || l.count (ts.getD k 0#8) != 0) := by
  unfold anyA
  rw [List.take_succ_eq_append_getElem h, List.any_append]
  simp [List.getD_eq_getElem?_getD, h]
def anyB (g : Tab) (l : List (BitVec 8)) (k : Nat) : Bool := (l.take k).any fun b => (g b).isSome
theorem anyB_succ (g : Tab) (l : List (BitVec 8)) (k : Nat) (h : k < l.length) : anyB g l (k + 1) = (anyB g l k || (g (l.getD k 0#8)).isSome) := by
  unfold anyB
  rw [List.take_succ_eq_append_getElem h, List.any_append]
  simp [List.getD_eq_getElem?_getD, h]
theorem anyB_false (g : Tab) (l : List (BitVec 8)) (h : anyB g l l.length = false) : replL g l = l := by
  unfold anyB at h
  rw [List.take_length] at h
  refine replL_none g l fun b hb => ?_
  have := List.any_eq_false.1 h b hb
  simpa using this
theorem anyA_false {g : Tab} {ts : List (BitVec 8)} (hok : TabOk g ts) (l : List (BitVec 8)) (h : anyA l ts ts.length = false) : replL g l = l := by
  unfold anyA at h
  rw [List.take_length] at h
  refine replL_none g l fun b hb => ?_
  cases hg : g b with
  | none => rfl
  | some x =>
    have := List.any_eq_false.1 h b ((hok.mem b).2 (by rw [hg]; rfl))
    simp only [bne_iff_ne, ne_eq, Decidable.not_not] at this
    exact absurd hb (List.count_eq_zero.1 this)
/-! ### the replacer's cells -/
def slO : Option (List (BitVec 8)) → PV
  | some l => .sl (bl l) false
  | none => .sl (.vals 1 []) true
def rcells (g : Tab) (ts : List (BitVec 8)) : List PV := (List.range 256).map (fun n => slO (g (BitVec.ofNat 8 n))) ++ [.sl (.strs (ts.map fun b => txt [b])) false]
theorem rcells_len (g : Tab) (ts : List (BitVec 8)) : (rcells g ts).length = 257 := by simp [rcells]
theorem rcells_get (g : Tab) (ts : List (BitVec 8)) (b : BitVec 8) : (rcells g ts).getD b.toNat .ptr0 = slO (g b) := by
  have h := b.isLt
  unfold rcells
  rw [List.getD_eq_getElem?_getD, List.getElem?_append_left (by simp; omega)]
  simp [h]
theorem rcells_end (g : Tab) (ts : List (BitVec 8)) : (rcells g ts).getD 256 .ptr0 = .sl (.strs (ts.map fun b => txt [b])) false := by
  unfold rcells
  rw [List.getD_eq_getElem?_getD, List.getElem?_append_right (by simp)]
  simp
def rRow (g : Tab) (ts : List (BitVec 8)) : Row PV := .vals 257 [.agg (.vals 1 (rcells g ts))]
end Go.Av.Can
end

section
set_option linter.unusedSimpArgs false
set_option linter.unusedVariables false
open Go Go.Av Go.Proofs
namespace Go.Av.Can
@[simp] theorem ub_nat (x : BitVec 8) : (ub x).toNat = x.toNat := by unfold ub; simp
theorem ts_get (ts : List (BitVec 8)) (k : Nat) (h : k < ts.length) : (ts.map fun b => txt [b]).getD k ByteArray.empty = txt [ts.getD k 0#8] := by
  simp [List.getD_eq_getElem?_getD, h]
/-- What is filled, with noughts up to the end. -/
def zrow (N : Nat) (P : List (BitVec 8)) : List (BitVec 8) := P ++ List.replicate (N - P.length) 0#8
theorem zrow_len (N : Nat) (P : List (BitVec 8)) (h : P.length ≤ N) : (zrow N P).length = N := by simp [zrow]; omega
theorem zrow_nil (N : Nat) : zrow N [] = List.replicate N 0#8 := by simp [zrow]
theorem zrow_full (P : List (BitVec 8)) : zrow P.length P = P := by simp [zrow]
theorem zrow_splice (N : Nat) (P x : List (BitVec 8)) (h : P.length + x.length ≤ N) : (zrow N P).take P.length ++ (x ++ (zrow N P).drop (P.length + x.length)) = zrow N (P ++ x) := by
  unfold zrow
  rw [List.take_left, List.append_assoc]
  congr 2
  rw [← List.drop_drop, List.drop_left, List.drop_replicate]
  congr 1; (simp <;> omega)
theorem zrow_set (N : Nat) (P : List (BitVec 8)) (b : BitVec 8) (h : P.length < N) : (zrow N P).set P.length b = zrow N (P ++ [b]) := by
  unfold zrow
  rw [List.set_append_right _ _ (Nat.le_refl _), Nat.sub_self, List.append_assoc]
  congr 1
  obtain ⟨m, hm⟩ : ∃ m, N - P.length = m + 1 := ⟨N - P.length - 1, by omega⟩
  rw [hm, List.replicate_succ, List.set_cons_zero, show N - (P ++ [b]).length = m by simp; omega]; rfl
def szB (g : Tab) (l : List (BitVec 8)) (k : Nat) : Nat := (replL g (l.take k)).length + (l.length - k)
theorem szB_zero (g : Tab) (l : List (BitVec 8)) : szB g l 0 = l.length := by simp [szB, replL_nil]
theorem szB_end (g : Tab) (l : List (BitVec 8)) : szB g l l.length = (replL g l).length := by simp [szB]
theorem szB_succ {g : Tab} {ts : List (BitVec 8)} (h : TabOk g ts) (l : List (BitVec 8)) (k : Nat) (hk : k < l.length) : szB g l (k + 1) = szB g l k + extra g (l.getD k 0#8) := by
  unfold szB
  rw [replL_take g l k hk, List.length_append, (rep_len h _).1]; omega
theorem repl_le (g : Tab) (l : List (BitVec 8)) (i : Nat) (h : i < l.length) : (replL g (l.take i)).length + (repB g (l.getD i 0#8)).length ≤ (replL g l).length := by
  have e : replL g l = replL g (l.take i) ++ repB g (l.getD i 0#8) ++ replL g (l.drop (i + 1)) := by
    rw [← replL_take g l i h, ← replL_app, List.take_append_drop]
  rw [e]; (simp <;> omega)
set_option maxRecDepth 100000 in
set_option maxHeartbeats 20000000 in
theorem bsr_ct (g : Tab) (ts : List (BitVec 8)) (h : TabOk g ts) (hts : ts.length ≤ 100) (l : List (BitVec 8)) (hl : l.length ≤ 4000000) :
    Fn Try.prog 117 [.eptr (rRow g ts) 0 0, .str (txt l)] [.p (.str (txt (replL g l)))] := by
  refine Fn.of_body Try.func117 rfl ?_
  have hC := rcells_len g ts
  have hG := rcells_get g ts
  have hE := rcells_end g ts
  have hT := txt_size l
  unfold rRow
  generalize hcs : rcells g ts = cs at *
  by_cases h1 : (ts.length : Int) * 8 ≤ (l.length : Int)
  · have e1 : IntKind.i64.wrap ((ts.length : Int) * 8) = ts.length * 8 := wrap_i64 _ (by omega) (by omega)
    have hb0 := szA_le h l
    repeat (first | ((first | (with_reducible first | refine zP fun K_ hK_ => ?_ | refine zQ fun K_ hK_ => ?_ | refine zT ?_ | refine zU ?_ | refine zV ?_ | refine zW ?_ | refine zX ?_ | refine zY ?_) | ((with_reducible first | refine zR ?_ ?_ fun K_ hK_ => ?_ | refine zS ?_ ?_ fun K_ hK_ => ?_); (focus kernel_rfl); (focus kernel_rfl))); first | (simp (maxSteps := 1000000) (disch := refine hold_ ?_; first | (simp [hC, hE, hT, e1, h1, -List.getD_eq_getElem?_getD]; done) | omega) [hC, hE, hT, e1, h1, -List.getD_eq_getElem?_getD]; try first | (with_reducible refine zZ ?_) | subst hK_) | subst hK_) | (with_reducible first | refine zA ?_ | refine zB ?_ | refine zC ?_ | refine zD ?_ | refine zE ?_ | refine zF ?_ | refine zG ?_ | refine zH ?_ | refine zI ?_ | refine zJ ?_ | refine zK ?_ | refine zL ?_ | refine zM ?_ | refine zN ?_ | refine zO ?_) | ((with_reducible refine yG ?_ ?_); (focus decide)) | ((with_reducible refine yA ?_); refine yB rfl ?_; (with_reducible first | refine yC ?_ | refine yD ?_)))
    refine AW.iter (true :: true :: false :: false :: false :: true :: true :: false :: false :: false :: false :: false :: false :: false :: false :: false :: false :: false :: false :: false :: false :: false :: false :: false :: false :: false :: false :: false :: false :: false :: true :: true :: true :: false :: false :: false :: false :: false :: false :: false :: false :: false :: false :: false :: false :: false :: false :: false :: false :: false :: false :: false :: false :: false :: false :: false :: false :: false :: false :: false :: false :: false :: false :: false :: false :: false :: false :: false :: false :: false :: false :: false :: false :: false :: false :: false :: false :: false :: false :: false :: false :: false :: false :: false :: false :: false :: false :: false :: false :: false :: false :: false :: false :: false :: false :: false :: false :: false :: false :: false :: false :: false :: false :: false :: false :: false :: false :: false :: false :: false :: false :: false :: false :: false :: false :: false :: false :: false :: false :: false :: false :: false :: []) ts.length (fun k => ⟨(.p (.eptr (.vals 257 [.agg (.vals 1 cs)]) 0 0) :: .p (.str (txt l)) :: V.junk :: V.junk :: V.junk :: .p (.int .i64 (szA g l ts k : Nat)) :: .p (.bool (anyA l ts k)) :: V.junk :: V.junk :: V.junk :: V.junk :: V.junk :: V.junk :: V.junk :: V.junk :: V.junk :: V.junk :: V.junk :: V.junk :: V.junk :: V.junk :: V.junk :: V.junk :: V.junk :: V.junk :: V.junk :: V.junk :: V.junk :: V.junk :: V.junk :: .p (.sl (.strs (ts.map fun b => txt [b])) false) :: .p (.int .i64 ts.length) :: .p (.int .i64 k) :: V.junk :: V.junk :: V.junk :: V.junk :: V.junk :: V.junk :: V.junk :: V.junk :: V.junk :: V.junk :: V.junk :: V.junk :: V.junk :: V.junk :: V.junk :: V.junk :: V.junk :: V.junk :: V.junk :: V.junk :: V.junk :: V.junk :: V.junk :: V.junk :: V.junk :: V.junk :: V.junk :: V.junk :: V.junk :: V.junk :: V.junk :: V.junk :: V.junk :: V.junk :: V.junk :: V.junk :: V.junk :: V.junk :: V.junk :: V.junk :: V.junk :: V.junk :: V.junk :: V.junk :: V.junk :: V.junk :: V.junk :: V.junk :: V.junk :: V.junk :: V.junk :: V.junk :: V.junk :: V.junk :: V.junk :: V.junk :: V.junk :: V.junk :: V.junk :: V.junk :: V.junk :: V.junk :: V.junk :: V.junk :: V.junk :: V.junk :: V.junk :: V.junk :: V.junk :: V.junk :: V.junk :: V.junk :: V.junk :: V.junk :: V.junk :: V.junk :: V.junk :: V.junk :: V.junk :: V.junk :: V.junk :: V.junk :: V.junk :: V.junk :: V.junk :: V.junk :: V.junk :: V.junk :: V.junk :: []), ⟨[], []⟩⟩) ?_ ?_
    · simp (maxSteps := 1000000) (disch := refine hold_ ?_; first | (simp [szA_zero, anyA, -List.getD_eq_getElem?_getD]; done) | omega) [szA_zero, anyA, -List.getD_eq_getElem?_getD]
    intro k hk
    have e0 : IntKind.i64.wrap ((k : Int) + 1) = k + 1 := wrap_i64 _ (by omega) (by omega)
    repeat (first | ((first | (with_reducible first | refine zP fun K_ hK_ => ?_ | refine zQ fun K_ hK_ => ?_ | refine zT ?_ | refine zU ?_ | refine zV ?_ | refine zW ?_ | refine zX ?_ | refine zY ?_) | ((with_reducible first | refine zR ?_ ?_ fun K_ hK_ => ?_ | refine zS ?_ ?_ fun K_ hK_ => ?_); (focus kernel_rfl); (focus kernel_rfl))); first | (simp (maxSteps := 1000000) (disch := refine hold_ ?_; first | (simp [-List.getD_eq_getElem?_getD]; done) | omega) [-List.getD_eq_getElem?_getD]; try first | (with_reducible refine zZ ?_) | subst hK_) | subst hK_) | (with_reducible first | refine zA ?_ | refine zB ?_ | refine zC ?_ | refine zD ?_ | refine zE ?_ | refine zF ?_ | refine zG ?_ | refine zH ?_ | refine zI ?_ | refine zJ ?_ | refine zK ?_ | refine zL ?_ | refine zM ?_ | refine zN ?_ | refine zO ?_) | ((with_reducible refine yG ?_ ?_); (focus decide)) | ((with_reducible refine yA ?_); refine yB rfl ?_; (with_reducible first | refine yC ?_ | refine yD ?_)))
    first | refine AW.condD rfl (fun hc => ?_) (fun hc => ?_) | refine AW.cond rfl (fun hc => ?_) (fun hc => ?_)
    · have hk2 : k < ts.length := by omega
      have hts1 := ts_get ts k hk2
      have hs1 := szA_succ g l ts k hk2
      have ha1 := anyA_succ l ts k hk2
      have hb1 := hb0 (k + 1) (by omega)
      have hb2 : (k + 1) * (l.length * 15) ≤ 100 * (l.length * 15) := Nat.mul_le_mul_right _ (by omega)
      have hmem : ts.getD k 0#8 ∈ ts := by rw [List.getD_eq_getElem?_getD, List.getElem?_eq_getElem hk2]; exact List.getElem_mem hk2
      have hsome := (h.mem _).1 hmem
      have hrl := rep_len h (ts.getD k 0#8)
      have hct := cnt_ct l (ts.getD k 0#8)
      have hcl : l.count (ts.getD k 0#8) ≤ l.length := List.count_le_length
      have hgt := hG (ts.getD k 0#8)
      generalize ts.getD k 0#8 = t at *
      obtain ⟨x, hx⟩ := Option.isSome_iff_exists.1 hsome
      have hxr : repB g t = x := by unfold repB; rw [hx]; rfl
      rw [hxr] at hrl
      rw [hx] at hgt
      simp only [slO] at hgt
      have hex := hrl.1
      have hmul : l.count t * extra g t ≤ l.length * 15 := Nat.mul_le_mul hcl hrl.2
      generalize hcn : l.count t = cn at *
      generalize extra g t = ex at *
      have f1 : IntKind.i64.wrap ((x.length : Int) - 1) = ex := (wrap_i64 _ (by omega) (by omega)).trans (by omega)
      have f2 : IntKind.i64.wrap ((cn : Int) * (ex : Int)) = ((cn * ex : Nat) : Int) := by
        have : (cn : Int) * (ex : Int) = ((cn * ex : Nat) : Int) := by simp
        rw [this]; exact wrap_i64 _ (by omega) (by omega)
      have f3 : IntKind.i64.wrap ((szA g l ts k : Int) + ((cn * ex : Nat) : Int)) = (szA g l ts (k + 1) : Nat) := (wrap_i64 _ (by omega) (by omega)).trans (by omega)
      have hT1 := txt_size [t]
      have hT2 := txt_get [t] 0
      have hu := ub_lt t
      have hu1 := hu.1
      have hu2 := hu.2
      by_cases hc0 : cn = 0
      · have hs2 : szA g l ts (k + 1) = szA g l ts k := by rw [hs1, hc0]; simp
        have ha2 : anyA l ts (k + 1) = anyA l ts k := by rw [ha1, hc0]; simp
        repeat (first | ((with_reducible first | refine callK_at 119 ?_); refine callK_p ?_; simp (maxSteps := 1000000) (disch := refine hold_ ?_; first | (simp [hts1, hk2, hc0, e0, -List.getD_eq_getElem?_getD]; done) | omega) [hts1, hk2, hc0, e0, -List.getD_eq_getElem?_getD]; (first | refine callK1_of (Fn.ct hct Try.call119) ?_); (try simp (maxSteps := 1000000) (disch := refine hold_ ?_; first | (simp [hts1, hk2, hc0, e0, -List.getD_eq_getElem?_getD]; done) | omega) [hts1, hk2, hc0, e0, -List.getD_eq_getElem?_getD]); try first | (with_reducible refine zZ ?_) | subst hK_) | ((first | (with_reducible first | refine zP fun K_ hK_ => ?_ | refine zQ fun K_ hK_ => ?_ | refine zT ?_ | refine zU ?_ | refine zV ?_ | refine zW ?_ | refine zX ?_ | refine zY ?_) | ((with_reducible first | refine zR ?_ ?_ fun K_ hK_ => ?_ | refine zS ?_ ?_ fun K_ hK_ => ?_); (focus kernel_rfl); (focus kernel_rfl))); first | (simp (maxSteps := 1000000) (disch := refine hold_ ?_; first | (simp [hts1, hk2, hc0, e0, -List.getD_eq_getElem?_getD]; done) | omega) [hts1, hk2, hc0, e0, -List.getD_eq_getElem?_getD]; try first | (with_reducible refine zZ ?_) | subst hK_) | subst hK_) | (with_reducible first | refine zA ?_ | refine zB ?_ | refine zC ?_ | refine zD ?_ | refine zE ?_ | refine zF ?_ | refine zG ?_ | refine zH ?_ | refine zI ?_ | refine zJ ?_ | refine zK ?_ | refine zL ?_ | refine zM ?_ | refine zN ?_ | refine zO ?_) | ((with_reducible refine yG ?_ ?_); (focus decide)) | ((with_reducible refine yA ?_); refine yB rfl ?_; (with_reducible first | refine yC ?_ | refine yD ?_)))
        refine ⟨hk2, ?_⟩
        simp (maxSteps := 1000000) (disch := refine hold_ ?_; first | (simp [hs2, ha2, -List.getD_eq_getElem?_getD]; done) | omega) [hs2, ha2, -List.getD_eq_getElem?_getD]
      · have ha2 : anyA l ts (k + 1) = true := by rw [ha1]; simp [hc0]
        have hc1 : ((cn : Int) != 0) = true := by simp; omega
        generalize cn * ex = ce at *
        repeat (first | ((with_reducible first | refine callK_at 119 ?_); refine callK_p ?_; simp (maxSteps := 1000000) (disch := refine hold_ ?_; first | (simp [hts1, hk2, hc1, e0, hgt, f1, f2, f3, hT1, hT2, hC, hu1, hu2, -List.getD_eq_getElem?_getD]; done) | omega) [hts1, hk2, hc1, e0, hgt, f1, f2, f3, hT1, hT2, hC, hu1, hu2, -List.getD_eq_getElem?_getD]; (first | refine callK1_of (Fn.ct hct Try.call119) ?_); (try simp (maxSteps := 1000000) (disch := refine hold_ ?_; first | (simp [hts1, hk2, hc1, e0, hgt, f1, f2, f3, hT1, hT2, hC, hu1, hu2, -List.getD_eq_getElem?_getD]; done) | omega) [hts1, hk2, hc1, e0, hgt, f1, f2, f3, hT1, hT2, hC, hu1, hu2, -List.getD_eq_getElem?_getD]); try first | (with_reducible refine zZ ?_) | subst hK_) | ((first | (with_reducible first | refine zP fun K_ hK_ => ?_ | refine zQ fun K_ hK_ => ?_ | refine zT ?_ | refine zU ?_ | refine zV ?_ | refine zW ?_ | refine zX ?_ | refine zY ?_) | ((with_reducible first | refine zR ?_ ?_ fun K_ hK_ => ?_ | refine zS ?_ ?_ fun K_ hK_ => ?_); (focus kernel_rfl); (focus kernel_rfl))); first | (simp (maxSteps := 1000000) (disch := refine hold_ ?_; first | (simp [hts1, hk2, hc1, e0, hgt, f1, f2, f3, hT1, hT2, hC, hu1, hu2, -List.getD_eq_getElem?_getD]; done) | omega) [hts1, hk2, hc1, e0, hgt, f1, f2, f3, hT1, hT2, hC, hu1, hu2, -List.getD_eq_getElem?_getD]; try first | (with_reducible refine zZ ?_) | subst hK_) | subst hK_) | (with_reducible first | refine zA ?_ | refine zB ?_ | refine zC ?_ | refine zD ?_ | refine zE ?_ | refine zF ?_ | refine zG ?_ | refine zH ?_ | refine zI ?_ | refine zJ ?_ | refine zK ?_ | refine zL ?_ | refine zM ?_ | refine zN ?_ | refine zO ?_) | ((with_reducible refine yG ?_ ?_); (focus decide)) | ((with_reducible refine yA ?_); refine yB rfl ?_; (with_reducible first | refine yC ?_ | refine yD ?_)))
        refine ⟨hk2, ?_⟩
        simp (maxSteps := 1000000) (disch := refine hold_ ?_; first | (simp [ha2, -List.getD_eq_getElem?_getD]; done) | omega) [ha2, -List.getD_eq_getElem?_getD]
    · have hk2 : k = ts.length := by omega
      subst hk2
      have hN := szA_end h l
      have hA := anyA_false h l
      rw [hN]
      generalize anyA l ts ts.length = an at *
      have hNle : (replL g l).length ≤ 100000000000 := by rw [← hN]; have := hb0 ts.length (Nat.le_refl _); have h5 : ts.length * (l.length * 15) ≤ 100 * (l.length * 15) := Nat.mul_le_mul_right _ hts; omega
      have hrl := repl_le g l
      have hrt := replL_take g l
      have hfull := zrow_full (replL g l)
      have hll : replL g (l.take l.length) = replL g l := by rw [List.take_length]
      cases an with
      | false =>
        have hA2 := hA rfl
        repeat (first | ((first | (with_reducible first | refine zP fun K_ hK_ => ?_ | refine zQ fun K_ hK_ => ?_ | refine zT ?_ | refine zU ?_ | refine zV ?_ | refine zW ?_ | refine zX ?_ | refine zY ?_) | ((with_reducible first | refine zR ?_ ?_ fun K_ hK_ => ?_ | refine zS ?_ ?_ fun K_ hK_ => ?_); (focus kernel_rfl); (focus kernel_rfl))); first | (simp (maxSteps := 1000000) (disch := refine hold_ ?_; first | (simp [-List.getD_eq_getElem?_getD]; done) | omega) [-List.getD_eq_getElem?_getD]; try first | (with_reducible refine zZ ?_) | subst hK_) | subst hK_) | (with_reducible first | refine zA ?_ | refine zB ?_ | refine zC ?_ | refine zD ?_ | refine zE ?_ | refine zF ?_ | refine zG ?_ | refine zH ?_ | refine zI ?_ | refine zJ ?_ | refine zK ?_ | refine zL ?_ | refine zM ?_ | refine zN ?_ | refine zO ?_) | ((with_reducible refine yG ?_ ?_); (focus decide)) | ((with_reducible refine yA ?_); refine yB rfl ?_; (with_reducible first | refine yC ?_ | refine yD ?_)))
        simp (maxSteps := 1000000) (disch := refine hold_ ?_; first | (simp [hA2, -List.getD_eq_getElem?_getD]; done) | omega) [hA2, -List.getD_eq_getElem?_getD]
      | true =>
      clear hA hN hb0
      have hN0 : 0 ≤ ((replL g l).length : Int) := by omega
      have hN1 : ((replL g l).length : Int) ≤ 281474976710656 := by omega
      generalize hNN : (replL g l).length = N at *
      repeat (first | ((first | (with_reducible first | refine zP fun K_ hK_ => ?_ | refine zQ fun K_ hK_ => ?_ | refine zT ?_ | refine zU ?_ | refine zV ?_ | refine zW ?_ | refine zX ?_ | refine zY ?_) | ((with_reducible first | refine zR ?_ ?_ fun K_ hK_ => ?_ | refine zS ?_ ?_ fun K_ hK_ => ?_); (focus kernel_rfl); (focus kernel_rfl))); first | (simp (maxSteps := 1000000) (disch := refine hold_ ?_; first | (simp [hN0, hN1, -List.getD_eq_getElem?_getD]; done) | omega) [hN0, hN1, -List.getD_eq_getElem?_getD]; try first | (with_reducible refine zZ ?_) | subst hK_) | subst hK_) | (with_reducible first | refine zA ?_ | refine zB ?_ | refine zC ?_ | refine zD ?_ | refine zE ?_ | refine zF ?_ | refine zG ?_ | refine zH ?_ | refine zI ?_ | refine zJ ?_ | refine zK ?_ | refine zL ?_ | refine zM ?_ | refine zN ?_ | refine zO ?_) | ((with_reducible refine yG ?_ ?_); (focus decide)) | ((with_reducible refine yA ?_); refine yB rfl ?_; (with_reducible first | refine yC ?_ | refine yD ?_)))
      refine AW.iter (true :: true :: false :: false :: false :: false :: false :: false :: false :: false :: false :: false :: true :: true :: true :: false :: false :: false :: false :: false :: false :: false :: false :: false :: false :: false :: false :: false :: false :: false :: false :: false :: false :: false :: false :: false :: false :: false :: false :: false :: false :: false :: false :: false :: false :: false :: false :: false :: false :: false :: false :: false :: false :: false :: false :: false :: false :: false :: false :: false :: false :: false :: false :: false :: false :: false :: false :: false :: false :: false :: false :: false :: false :: false :: false :: false :: false :: false :: false :: false :: false :: false :: false :: false :: false :: false :: false :: false :: false :: false :: false :: false :: false :: false :: false :: false :: false :: false :: false :: false :: false :: false :: false :: false :: false :: false :: false :: false :: false :: false :: false :: false :: false :: false :: false :: false :: false :: false :: false :: false :: false :: false :: []) l.length (fun i => ⟨(.p (.eptr (.vals 257 [.agg (.vals 1 cs)]) 0 0) :: .p (.str (txt l)) :: V.junk :: V.junk :: V.junk :: V.junk :: V.junk :: V.junk :: V.junk :: V.junk :: V.junk :: V.junk :: .own 85 0 0 N N :: .p (.int .i64 (replL g (l.take i)).length) :: .p (.int .i64 i) :: V.junk :: V.junk :: V.junk :: V.junk :: V.junk :: V.junk :: V.junk :: V.junk :: V.junk :: V.junk :: V.junk :: V.junk :: V.junk :: V.junk :: V.junk :: V.junk :: V.junk :: V.junk :: V.junk :: V.junk :: V.junk :: V.junk :: V.junk :: V.junk :: V.junk :: V.junk :: V.junk :: V.junk :: V.junk :: V.junk :: V.junk :: V.junk :: V.junk :: V.junk :: V.junk :: V.junk :: V.junk :: V.junk :: V.junk :: V.junk :: V.junk :: V.junk :: V.junk :: V.junk :: V.junk :: V.junk :: V.junk :: V.junk :: V.junk :: V.junk :: V.junk :: V.junk :: V.junk :: V.junk :: V.junk :: V.junk :: V.junk :: V.junk :: V.junk :: V.junk :: V.junk :: V.junk :: V.junk :: V.junk :: V.junk :: V.junk :: V.junk :: V.junk :: V.junk :: V.junk :: V.junk :: V.junk :: V.junk :: V.junk :: V.junk :: V.junk :: V.junk :: V.junk :: V.junk :: V.junk :: V.junk :: V.junk :: V.junk :: V.junk :: V.junk :: V.junk :: V.junk :: V.junk :: V.junk :: V.junk :: V.junk :: V.junk :: V.junk :: V.junk :: V.junk :: V.junk :: V.junk :: V.junk :: V.junk :: V.junk :: V.junk :: V.junk :: V.junk :: V.junk :: V.junk :: V.junk :: V.junk :: []), ⟨[(85, 0, .row (bl (zrow N (replL g (l.take i)))))], []⟩⟩) ?_ ?_
      · simp (maxSteps := 1000000) (disch := refine hold_ ?_; first | (simp [zrow_nil, replL_nil, -List.getD_eq_getElem?_getD]; done) | omega) [zrow_nil, replL_nil, -List.getD_eq_getElem?_getD]
      intro i hi
      have e0 : IntKind.i64.wrap ((i : Int) + 1) = i + 1 := wrap_i64 _ (by omega) (by omega)
      repeat (first | ((first | (with_reducible first | refine zP fun K_ hK_ => ?_ | refine zQ fun K_ hK_ => ?_ | refine zT ?_ | refine zU ?_ | refine zV ?_ | refine zW ?_ | refine zX ?_ | refine zY ?_) | ((with_reducible first | refine zR ?_ ?_ fun K_ hK_ => ?_ | refine zS ?_ ?_ fun K_ hK_ => ?_); (focus kernel_rfl); (focus kernel_rfl))); first | (simp (maxSteps := 1000000) (disch := refine hold_ ?_; first | (simp [hT, -List.getD_eq_getElem?_getD]; done) | omega) [hT, -List.getD_eq_getElem?_getD]; try first | (with_reducible refine zZ ?_) | subst hK_) | subst hK_) | (with_reducible first | refine zA ?_ | refine zB ?_ | refine zC ?_ | refine zD ?_ | refine zE ?_ | refine zF ?_ | refine zG ?_ | refine zH ?_ | refine zI ?_ | refine zJ ?_ | refine zK ?_ | refine zL ?_ | refine zM ?_ | refine zN ?_ | refine zO ?_) | ((with_reducible refine yG ?_ ?_); (focus decide)) | ((with_reducible refine yA ?_); refine yB rfl ?_; (with_reducible first | refine yC ?_ | refine yD ?_)))
      first | refine AW.condD rfl (fun hc => ?_) (fun hc => ?_) | refine AW.cond rfl (fun hc => ?_) (fun hc => ?_)
      · have hi2 : i < l.length := by omega
        have hle := hrl i hi2
        have hnx := hrt i hi2
        have hgt := hG (l.getD i 0#8)
        have hu := ub_lt (l.getD i 0#8)
        have hu1 := hu.1
        have hu2 := hu.2
        have hi3 : (i : Int) < l.length := by omega
        have hTg := txt_get l i
        generalize l.getD i 0#8 = b at *
        generalize replL g (l.take (i + 1)) = P2 at *
        generalize replL g (l.take i) = P at *
        subst hnx
        cases hgb : g b with
        | some x =>
          have hxr : repB g b = x := by unfold repB; rw [hgb]; rfl
          have hx1 := (h.ne b x hgb).1
          rw [hgb] at hgt
          simp only [slO] at hgt
          rw [hxr] at hle ⊢
          have g1 := zrow_splice N P x hle
          have g2 := zrow_len N P (by omega)
          have g3 : ¬ N = P.length := by omega
          have g4 : x.take (N - P.length) = x := List.take_of_length_le (by omega)
          have g5 : min x.length (N - P.length) = x.length := by omega
          have g6 : IntKind.i64.wrap ((P.length : Int) + x.length) = P.length + x.length := wrap_i64 _ (by omega) (by omega)
          have g7 : P.length ≤ N := by omega
          have g8 : (P.length : Int) ≤ N := by omega
          repeat (first | ((first | (with_reducible first | refine zP fun K_ hK_ => ?_ | refine zQ fun K_ hK_ => ?_ | refine zT ?_ | refine zU ?_ | refine zV ?_ | refine zW ?_ | refine zX ?_ | refine zY ?_) | ((with_reducible first | refine zR ?_ ?_ fun K_ hK_ => ?_ | refine zS ?_ ?_ fun K_ hK_ => ?_); (focus kernel_rfl); (focus kernel_rfl))); first | (simp (maxSteps := 1000000) (disch := refine hold_ ?_; first | (simp [e0, hi2, hi3, hT, hTg, hgt, hC, hu1, hu2, g1, g2, g3, g4, g5, g6, g7, g8, -List.getD_eq_getElem?_getD]; done) | omega) [e0, hi2, hi3, hT, hTg, hgt, hC, hu1, hu2, g1, g2, g3, g4, g5, g6, g7, g8, -List.getD_eq_getElem?_getD]; try first | (with_reducible refine zZ ?_) | subst hK_) | subst hK_) | (with_reducible first | refine zA ?_ | refine zB ?_ | refine zC ?_ | refine zD ?_ | refine zE ?_ | refine zF ?_ | refine zG ?_ | refine zH ?_ | refine zI ?_ | refine zJ ?_ | refine zK ?_ | refine zL ?_ | refine zM ?_ | refine zN ?_ | refine zO ?_) | ((with_reducible refine yG ?_ ?_); (focus decide)) | ((with_reducible refine yA ?_); refine yB rfl ?_; (with_reducible first | refine yC ?_ | refine yD ?_)))
          refine ⟨hi2, ?_⟩
          simp (maxSteps := 1000000) (disch := refine hold_ ?_; first | (simp [g1, g2, -List.getD_eq_getElem?_getD]; done) | omega) [g1, g2, -List.getD_eq_getElem?_getD]
        | none =>
          have hxr : repB g b = [b] := by unfold repB; rw [hgb]; rfl
          rw [hgb] at hgt
          simp only [slO] at hgt
          rw [hxr] at hle ⊢
          have g1 := zrow_set N P b (by simp at hle; omega)
          have g2 := zrow_len N P (by simp at hle; omega)
          have g6 : IntKind.i64.wrap ((P.length : Int) + 1) = P.length + 1 := wrap_i64 _ (by omega) (by simp at hle; omega)
          have g7 : P.length < N := by simp at hle; omega
          have g8 : (P.length : Int) < N := by omega
          repeat (first | ((first | (with_reducible first | refine zP fun K_ hK_ => ?_ | refine zQ fun K_ hK_ => ?_ | refine zT ?_ | refine zU ?_ | refine zV ?_ | refine zW ?_ | refine zX ?_ | refine zY ?_) | ((with_reducible first | refine zR ?_ ?_ fun K_ hK_ => ?_ | refine zS ?_ ?_ fun K_ hK_ => ?_); (focus kernel_rfl); (focus kernel_rfl))); first | (simp (maxSteps := 1000000) (disch := refine hold_ ?_; first | (simp [e0, hi2, hi3, hT, hTg, hgt, hC, hu1, hu2, g1, g2, g6, g7, g8, -List.getD_eq_getElem?_getD]; done) | omega) [e0, hi2, hi3, hT, hTg, hgt, hC, hu1, hu2, g1, g2, g6, g7, g8, -List.getD_eq_getElem?_getD]; try first | (with_reducible refine zZ ?_) | subst hK_) | subst hK_) | (with_reducible first | refine zA ?_ | refine zB ?_ | refine zC ?_ | refine zD ?_ | refine zE ?_ | refine zF ?_ | refine zG ?_ | refine zH ?_ | refine zI ?_ | refine zJ ?_ | refine zK ?_ | refine zL ?_ | refine zM ?_ | refine zN ?_ | refine zO ?_) | ((with_reducible refine yG ?_ ?_); (focus decide)) | ((with_reducible refine yA ?_); refine yB rfl ?_; (with_reducible first | refine yC ?_ | refine yD ?_)))
          refine ⟨hi2, ?_⟩
          simp (maxSteps := 1000000) (disch := refine hold_ ?_; first | (simp [g1, g2, -List.getD_eq_getElem?_getD]; done) | omega) [g1, g2, -List.getD_eq_getElem?_getD]
      · have hi2 : i = l.length := by omega
        subst hi2
        rw [hll]
        rw [hfull]
        generalize replL g l = R at *
        have g9 : R.take N = R := List.take_of_length_le (by omega)
        repeat (first | ((first | (with_reducible first | refine zP fun K_ hK_ => ?_ | refine zQ fun K_ hK_ => ?_ | refine zT ?_ | refine zU ?_ | refine zV ?_ | refine zW ?_ | refine zX ?_ | refine zY ?_) | ((with_reducible first | refine zR ?_ ?_ fun K_ hK_ => ?_ | refine zS ?_ ?_ fun K_ hK_ => ?_); (focus kernel_rfl); (focus kernel_rfl))); first | (simp (maxSteps := 1000000) (disch := refine hold_ ?_; first | (simp [hT, hNN, g9, -List.getD_eq_getElem?_getD]; done) | omega) [hT, hNN, g9, -List.getD_eq_getElem?_getD]; try first | (with_reducible refine zZ ?_) | subst hK_) | subst hK_) | (with_reducible first | refine zA ?_ | refine zB ?_ | refine zC ?_ | refine zD ?_ | refine zE ?_ | refine zF ?_ | refine zG ?_ | refine zH ?_ | refine zI ?_ | refine zJ ?_ | refine zK ?_ | refine zL ?_ | refine zM ?_ | refine zN ?_ | refine zO ?_) | ((with_reducible refine yG ?_ ?_); (focus decide)) | ((with_reducible refine yA ?_); refine yB rfl ?_; (with_reducible first | refine yC ?_ | refine yD ?_)))
        simp (maxSteps := 1000000) (disch := refine hold_ ?_; first | (simp [hNN, g9, txt, -List.getD_eq_getElem?_getD]; done) | omega) [hNN, g9, txt, -List.getD_eq_getElem?_getD]
  · have e1 : IntKind.i64.wrap ((ts.length : Int) * 8) = ts.length * 8 := wrap_i64 _ (by omega) (by omega)
    have hNle : ∀ k, szB g l k ≤ 17 * l.length := by
      intro k
      have : ∀ m : List (BitVec 8), (replL g m).length ≤ 16 * m.length := by
        intro m
        induction m with
        | nil => simp [replL_nil]
        | cons b m ih => rw [replL_cons, List.length_append]; have := rep_len h b; simp; omega
      have := this (l.take k)
      unfold szB
      simp at this; omega
    repeat (first | ((first | (with_reducible first | refine zP fun K_ hK_ => ?_ | refine zQ fun K_ hK_ => ?_ | refine zT ?_ | refine zU ?_ | refine zV ?_ | refine zW ?_ | refine zX ?_ | refine zY ?_) | ((with_reducible first | refine zR ?_ ?_ fun K_ hK_ => ?_ | refine zS ?_ ?_ fun K_ hK_ => ?_); (focus kernel_rfl); (focus kernel_rfl))); first | (simp (maxSteps := 1000000) (disch := refine hold_ ?_; first | (simp [hC, hE, hT, e1, h1, -List.getD_eq_getElem?_getD]; done) | omega) [hC, hE, hT, e1, h1, -List.getD_eq_getElem?_getD]; try first | (with_reducible refine zZ ?_) | subst hK_) | subst hK_) | (with_reducible first | refine zA ?_ | refine zB ?_ | refine zC ?_ | refine zD ?_ | refine zE ?_ | refine zF ?_ | refine zG ?_ | refine zH ?_ | refine zI ?_ | refine zJ ?_ | refine zK ?_ | refine zL ?_ | refine zM ?_ | refine zN ?_ | refine zO ?_) | ((with_reducible refine yG ?_ ?_); (focus decide)) | ((with_reducible refine yA ?_); refine yB rfl ?_; (with_reducible first | refine yC ?_ | refine yD ?_)))
    refine AW.iter (true :: true :: false :: false :: false :: true :: true :: false :: false :: false :: true :: false :: false :: false :: false :: false :: false :: false :: false :: false :: false :: false :: false :: false :: false :: false :: false :: false :: false :: false :: false :: false :: false :: false :: false :: false :: false :: false :: false :: false :: false :: false :: false :: false :: false :: false :: false :: false :: false :: false :: false :: false :: false :: false :: false :: false :: false :: false :: false :: false :: false :: false :: false :: false :: false :: false :: false :: false :: false :: false :: false :: false :: false :: false :: false :: false :: false :: false :: false :: false :: false :: false :: false :: false :: false :: false :: false :: false :: false :: false :: false :: false :: false :: false :: false :: false :: false :: false :: false :: false :: false :: false :: false :: false :: false :: false :: false :: false :: false :: false :: false :: false :: false :: false :: false :: false :: false :: false :: false :: false :: false :: false :: []) l.length (fun k => ⟨(.p (.eptr (.vals 257 [.agg (.vals 1 cs)]) 0 0) :: .p (.str (txt l)) :: V.junk :: V.junk :: V.junk :: .p (.int .i64 (szB g l k : Nat)) :: .p (.bool (anyB g l k)) :: V.junk :: V.junk :: V.junk :: .p (.int .i64 k) :: V.junk :: V.junk :: V.junk :: V.junk :: V.junk :: V.junk :: V.junk :: V.junk :: V.junk :: V.junk :: V.junk :: V.junk :: V.junk :: V.junk :: V.junk :: V.junk :: V.junk :: V.junk :: V.junk :: V.junk :: V.junk :: V.junk :: V.junk :: V.junk :: V.junk :: V.junk :: V.junk :: V.junk :: V.junk :: V.junk :: V.junk :: V.junk :: V.junk :: V.junk :: V.junk :: V.junk :: V.junk :: V.junk :: V.junk :: V.junk :: V.junk :: V.junk :: V.junk :: V.junk :: V.junk :: V.junk :: V.junk :: V.junk :: V.junk :: V.junk :: V.junk :: V.junk :: V.junk :: V.junk :: V.junk :: V.junk :: V.junk :: V.junk :: V.junk :: V.junk :: V.junk :: V.junk :: V.junk :: V.junk :: V.junk :: V.junk :: V.junk :: V.junk :: V.junk :: V.junk :: V.junk :: V.junk :: V.junk :: V.junk :: V.junk :: V.junk :: V.junk :: V.junk :: V.junk :: V.junk :: V.junk :: V.junk :: V.junk :: V.junk :: V.junk :: V.junk :: V.junk :: V.junk :: V.junk :: V.junk :: V.junk :: V.junk :: V.junk :: V.junk :: V.junk :: V.junk :: V.junk :: V.junk :: V.junk :: V.junk :: V.junk :: V.junk :: V.junk :: V.junk :: V.junk :: V.junk :: V.junk :: V.junk :: V.junk :: V.junk :: V.junk :: []), ⟨[], []⟩⟩) ?_ ?_
    · simp (maxSteps := 1000000) (disch := refine hold_ ?_; first | (simp [szB_zero, anyB, -List.getD_eq_getElem?_getD]; done) | omega) [szB_zero, anyB, -List.getD_eq_getElem?_getD]
    intro k hk
    have e0 : IntKind.i64.wrap ((k : Int) + 1) = k + 1 := wrap_i64 _ (by omega) (by omega)
    repeat (first | ((first | (with_reducible first | refine zP fun K_ hK_ => ?_ | refine zQ fun K_ hK_ => ?_ | refine zT ?_ | refine zU ?_ | refine zV ?_ | refine zW ?_ | refine zX ?_ | refine zY ?_) | ((with_reducible first | refine zR ?_ ?_ fun K_ hK_ => ?_ | refine zS ?_ ?_ fun K_ hK_ => ?_); (focus kernel_rfl); (focus kernel_rfl))); first | (simp (maxSteps := 1000000) (disch := refine hold_ ?_; first | (simp [hT, -List.getD_eq_getElem?_getD]; done) | omega) [hT, -List.getD_eq_getElem?_getD]; try first | (with_reducible refine zZ ?_) | subst hK_) | subst hK_) | (with_reducible first | refine zA ?_ | refine zB ?_ | refine zC ?_ | refine zD ?_ | refine zE ?_ | refine zF ?_ | refine zG ?_ | refine zH ?_ | refine zI ?_ | refine zJ ?_ | refine zK ?_ | refine zL ?_ | refine zM ?_ | refine zN ?_ | refine zO ?_) | ((with_reducible refine yG ?_ ?_); (focus decide)) | ((with_reducible refine yA ?_); refine yB rfl ?_; (with_reducible first | refine yC ?_ | refine yD ?_)))
    first | refine AW.condD rfl (fun hc => ?_) (fun hc => ?_) | refine AW.cond rfl (fun hc => ?_) (fun hc => ?_)
    · have hk2 : k < l.length := by omega
      have hk3 : (k : Int) < l.length := by omega
      have hTg := txt_get l k
      have ha1 := anyB_succ g l k hk2
      have hs1 := szB_succ h l k hk2
      have hb1 := hNle k
      have hb2 := hNle (k + 1)
      have hgt := hG (l.getD k 0#8)
      have hu := ub_lt (l.getD k 0#8)
      have hu1 := hu.1
      have hu2 := hu.2
      have hrl := rep_len h (l.getD k 0#8)
      generalize l.getD k 0#8 = b at *
      generalize szB g l (k + 1) = n2 at *
      generalize szB g l k = n1 at *
      cases hgb : g b with
      | some x =>
        have hxr : repB g b = x := by unfold repB; rw [hgb]; rfl
        rw [hgb] at hgt ha1
        simp only [slO] at hgt
        rw [hxr] at hrl
        have ha2 : anyB g l (k + 1) = true := by rw [ha1]; simp
        generalize hex : extra g b = ex at *
        have f1 : IntKind.i64.wrap ((x.length : Int) - 1) = ex := (wrap_i64 _ (by omega) (by omega)).trans (by omega)
        have f3 : IntKind.i64.wrap ((n1 : Int) + (ex : Int)) = (n2 : Int) := (wrap_i64 _ (by omega) (by omega)).trans (by omega)
        repeat (first | ((first | (with_reducible first | refine zP fun K_ hK_ => ?_ | refine zQ fun K_ hK_ => ?_ | refine zT ?_ | refine zU ?_ | refine zV ?_ | refine zW ?_ | refine zX ?_ | refine zY ?_) | ((with_reducible first | refine zR ?_ ?_ fun K_ hK_ => ?_ | refine zS ?_ ?_ fun K_ hK_ => ?_); (focus kernel_rfl); (focus kernel_rfl))); first | (simp (maxSteps := 1000000) (disch := refine hold_ ?_; first | (simp [e0, hk2, hk3, hT, hTg, hgt, hC, hu1, hu2, f1, f3, -List.getD_eq_getElem?_getD]; done) | omega) [e0, hk2, hk3, hT, hTg, hgt, hC, hu1, hu2, f1, f3, -List.getD_eq_getElem?_getD]; try first | (with_reducible refine zZ ?_) | subst hK_) | subst hK_) | (with_reducible first | refine zA ?_ | refine zB ?_ | refine zC ?_ | refine zD ?_ | refine zE ?_ | refine zF ?_ | refine zG ?_ | refine zH ?_ | refine zI ?_ | refine zJ ?_ | refine zK ?_ | refine zL ?_ | refine zM ?_ | refine zN ?_ | refine zO ?_) | ((with_reducible refine yG ?_ ?_); (focus decide)) | ((with_reducible refine yA ?_); refine yB rfl ?_; (with_reducible first | refine yC ?_ | refine yD ?_)))
        refine ⟨hk2, ?_⟩
        simp (maxSteps := 1000000) (disch := refine hold_ ?_; first | (simp [ha2, -List.getD_eq_getElem?_getD]; done) | omega) [ha2, -List.getD_eq_getElem?_getD]
      | none =>
        have hxr : repB g b = [b] := by unfold repB; rw [hgb]; rfl
        have hx0 : extra g b = 0 := by unfold extra; rw [hxr]; rfl
        rw [hgb] at hgt ha1
        simp only [slO] at hgt
        have ha2 : anyB g l (k + 1) = anyB g l k := by rw [ha1]; simp
        have f3 : n2 = n1 := by omega
        repeat (first | ((first | (with_reducible first | refine zP fun K_ hK_ => ?_ | refine zQ fun K_ hK_ => ?_ | refine zT ?_ | refine zU ?_ | refine zV ?_ | refine zW ?_ | refine zX ?_ | refine zY ?_) | ((with_reducible first | refine zR ?_ ?_ fun K_ hK_ => ?_ | refine zS ?_ ?_ fun K_ hK_ => ?_); (focus kernel_rfl); (focus kernel_rfl))); first | (simp (maxSteps := 1000000) (disch := refine hold_ ?_; first | (simp [e0, hk2, hk3, hT, hTg, hgt, hC, hu1, hu2, -List.getD_eq_getElem?_getD]; done) | omega) [e0, hk2, hk3, hT, hTg, hgt, hC, hu1, hu2, -List.getD_eq_getElem?_getD]; try first | (with_reducible refine zZ ?_) | subst hK_) | subst hK_) | (with_reducible first | refine zA ?_ | refine zB ?_ | refine zC ?_ | refine zD ?_ | refine zE ?_ | refine zF ?_ | refine zG ?_ | refine zH ?_ | refine zI ?_ | refine zJ ?_ | refine zK ?_ | refine zL ?_ | refine zM ?_ | refine zN ?_ | refine zO ?_) | ((with_reducible refine yG ?_ ?_); (focus decide)) | ((with_reducible refine yA ?_); refine yB rfl ?_; (with_reducible first | refine yC ?_ | refine yD ?_)))
        refine ⟨hk2, ?_⟩
        simp (maxSteps := 1000000) (disch := refine hold_ ?_; first | (simp [ha2, f3, -List.getD_eq_getElem?_getD]; done) | omega) [ha2, f3, -List.getD_eq_getElem?_getD]
    · have hk2 : k = l.length := by omega
      rw [hk2]
      rw [hk2] at hc
      clear hk hk2 e0
      have hA := anyB_false g l
      have hN := szB_end g l
      have hb0 := hNle l.length
      rw [hN] at hb0 ⊢
      clear hNle
      generalize anyB g l l.length = an at *
      have hNle : (replL g l).length ≤ 100000000000 := by omega
      have hrl := repl_le g l
      have hrt := replL_take g l
      have hfull := zrow_full (replL g l)
      have hll : replL g (l.take l.length) = replL g l := by rw [List.take_length]
      cases an with
      | false =>
        have hA2 := hA rfl
        repeat (first | ((first | (with_reducible first | refine zP fun K_ hK_ => ?_ | refine zQ fun K_ hK_ => ?_ | refine zT ?_ | refine zU ?_ | refine zV ?_ | refine zW ?_ | refine zX ?_ | refine zY ?_) | ((with_reducible first | refine zR ?_ ?_ fun K_ hK_ => ?_ | refine zS ?_ ?_ fun K_ hK_ => ?_); (focus kernel_rfl); (focus kernel_rfl))); first | (simp (maxSteps := 1000000) (disch := refine hold_ ?_; first | (simp [-List.getD_eq_getElem?_getD]; done) | omega) [-List.getD_eq_getElem?_getD]; try first | (with_reducible refine zZ ?_) | subst hK_) | subst hK_) | (with_reducible first | refine zA ?_ | refine zB ?_ | refine zC ?_ | refine zD ?_ | refine zE ?_ | refine zF ?_ | refine zG ?_ | refine zH ?_ | refine zI ?_ | refine zJ ?_ | refine zK ?_ | refine zL ?_ | refine zM ?_ | refine zN ?_ | refine zO ?_) | ((with_reducible refine yG ?_ ?_); (focus decide)) | ((with_reducible refine yA ?_); refine yB rfl ?_; (with_reducible first | refine yC ?_ | refine yD ?_)))
        simp (maxSteps := 1000000) (disch := refine hold_ ?_; first | (simp [hA2, -List.getD_eq_getElem?_getD]; done) | omega) [hA2, -List.getD_eq_getElem?_getD]
      | true =>
      clear hA hN hb0
      have hN0 : 0 ≤ ((replL g l).length : Int) := by omega
      have hN1 : ((replL g l).length : Int) ≤ 281474976710656 := by omega
      generalize hNN : (replL g l).length = N at *
      repeat (first | ((first | (with_reducible first | refine zP fun K_ hK_ => ?_ | refine zQ fun K_ hK_ => ?_ | refine zT ?_ | refine zU ?_ | refine zV ?_ | refine zW ?_ | refine zX ?_ | refine zY ?_) | ((with_reducible first | refine zR ?_ ?_ fun K_ hK_ => ?_ | refine zS ?_ ?_ fun K_ hK_ => ?_); (focus kernel_rfl); (focus kernel_rfl))); first | (simp (maxSteps := 1000000) (disch := refine hold_ ?_; first | (simp [hN0, hN1, -List.getD_eq_getElem?_getD]; done) | omega) [hN0, hN1, -List.getD_eq_getElem?_getD]; try first | (with_reducible refine zZ ?_) | subst hK_) | subst hK_) | (with_reducible first | refine zA ?_ | refine zB ?_ | refine zC ?_ | refine zD ?_ | refine zE ?_ | refine zF ?_ | refine zG ?_ | refine zH ?_ | refine zI ?_ | refine zJ ?_ | refine zK ?_ | refine zL ?_ | refine zM ?_ | refine zN ?_ | refine zO ?_) | ((with_reducible refine yG ?_ ?_); (focus decide)) | ((with_reducible refine yA ?_); refine yB rfl ?_; (with_reducible first | refine yC ?_ | refine yD ?_)))
      refine AW.iter (true :: true :: false :: false :: false :: false :: false :: false :: false :: false :: false :: false :: true :: true :: true :: false :: false :: false :: false :: false :: false :: false :: false :: false :: false :: false :: false :: false :: false :: false :: false :: false :: false :: false :: false :: false :: false :: false :: false :: false :: false :: false :: false :: false :: false :: false :: false :: false :: false :: false :: false :: false :: false :: false :: false :: false :: false :: false :: false :: false :: false :: false :: false :: false :: false :: false :: false :: false :: false :: false :: false :: false :: false :: false :: false :: false :: false :: false :: false :: false :: false :: false :: false :: false :: false :: false :: false :: false :: false :: false :: false :: false :: false :: false :: false :: false :: false :: false :: false :: false :: false :: false :: false :: false :: false :: false :: false :: false :: false :: false :: false :: false :: false :: false :: false :: false :: false :: false :: false :: false :: false :: false :: []) l.length (fun i => ⟨(.p (.eptr (.vals 257 [.agg (.vals 1 cs)]) 0 0) :: .p (.str (txt l)) :: V.junk :: V.junk :: V.junk :: V.junk :: V.junk :: V.junk :: V.junk :: V.junk :: V.junk :: V.junk :: .own 85 0 0 N N :: .p (.int .i64 (replL g (l.take i)).length) :: .p (.int .i64 i) :: V.junk :: V.junk :: V.junk :: V.junk :: V.junk :: V.junk :: V.junk :: V.junk :: V.junk :: V.junk :: V.junk :: V.junk :: V.junk :: V.junk :: V.junk :: V.junk :: V.junk :: V.junk :: V.junk :: V.junk :: V.junk :: V.junk :: V.junk :: V.junk :: V.junk :: V.junk :: V.junk :: V.junk :: V.junk :: V.junk :: V.junk :: V.junk :: V.junk :: V.junk :: V.junk :: V.junk :: V.junk :: V.junk :: V.junk :: V.junk :: V.junk :: V.junk :: V.junk :: V.junk :: V.junk :: V.junk :: V.junk :: V.junk :: V.junk :: V.junk :: V.junk :: V.junk :: V.junk :: V.junk :: V.junk :: V.junk :: V.junk :: V.junk :: V.junk :: V.junk :: V.junk :: V.junk :: V.junk :: V.junk :: V.junk :: V.junk :: V.junk :: V.junk :: V.junk :: V.junk :: V.junk :: V.junk :: V.junk :: V.junk :: V.junk :: V.junk :: V.junk :: V.junk :: V.junk :: V.junk :: V.junk :: V.junk :: V.junk :: V.junk :: V.junk :: V.junk :: V.junk :: V.junk :: V.junk :: V.junk :: V.junk :: V.junk :: V.junk :: V.junk :: V.junk :: V.junk :: V.junk :: V.junk :: V.junk :: V.junk :: V.junk :: V.junk :: V.junk :: V.junk :: V.junk :: V.junk :: V.junk :: []), ⟨[(85, 0, .row (bl (zrow N (replL g (l.take i)))))], []⟩⟩) ?_ ?_
      · simp (maxSteps := 1000000) (disch := refine hold_ ?_; first | (simp [zrow_nil, replL_nil, -List.getD_eq_getElem?_getD]; done) | omega) [zrow_nil, replL_nil, -List.getD_eq_getElem?_getD]
      intro i hi
      have e0 : IntKind.i64.wrap ((i : Int) + 1) = i + 1 := wrap_i64 _ (by omega) (by omega)
      repeat (first | ((first | (with_reducible first | refine zP fun K_ hK_ => ?_ | refine zQ fun K_ hK_ => ?_ | refine zT ?_ | refine zU ?_ | refine zV ?_ | refine zW ?_ | refine zX ?_ | refine zY ?_) | ((with_reducible first | refine zR ?_ ?_ fun K_ hK_ => ?_ | refine zS ?_ ?_ fun K_ hK_ => ?_); (focus kernel_rfl); (focus kernel_rfl))); first | (simp (maxSteps := 1000000) (disch := refine hold_ ?_; first | (simp [hT, -List.getD_eq_getElem?_getD]; done) | omega) [hT, -List.getD_eq_getElem?_getD]; try first | (with_reducible refine zZ ?_) | subst hK_) | subst hK_) | (with_reducible first | refine zA ?_ | refine zB ?_ | refine zC ?_ | refine zD ?_ | refine zE ?_ | refine zF ?_ | refine zG ?_ | refine zH ?_ | refine zI ?_ | refine zJ ?_ | refine zK ?_ | refine zL ?_ | refine zM ?_ | refine zN ?_ | refine zO ?_) | ((with_reducible refine yG ?_ ?_); (focus decide)) | ((with_reducible refine yA ?_); refine yB rfl ?_; (with_reducible first | refine yC ?_ | refine yD ?_)))
      first | refine AW.condD rfl (fun hc => ?_) (fun hc => ?_) | refine AW.cond rfl (fun hc => ?_) (fun hc => ?_)
      · have hi2 : i < l.length := by omega
        have hle := hrl i hi2
        have hnx := hrt i hi2
        have hgt := hG (l.getD i 0#8)
        have hu := ub_lt (l.getD i 0#8)
        have hu1 := hu.1
        have hu2 := hu.2
        have hi3 : (i : Int) < l.length := by omega
        have hTg := txt_get l i
        generalize l.getD i 0#8 = b at *
        generalize replL g (l.take (i + 1)) = P2 at *
        generalize replL g (l.take i) = P at *
        subst hnx
        cases hgb : g b with
        | some x =>
          have hxr : repB g b = x := by unfold repB; rw [hgb]; rfl
          have hx1 := (h.ne b x hgb).1
          rw [hgb] at hgt
          simp only [slO] at hgt
          rw [hxr] at hle ⊢
          have g1 := zrow_splice N P x hle
          have g2 := zrow_len N P (by omega)
          have g3 : ¬ N = P.length := by omega
          have g4 : x.take (N - P.length) = x := List.take_of_length_le (by omega)
          have g5 : min x.length (N - P.length) = x.length := by omega
          have g6 : IntKind.i64.wrap ((P.length : Int) + x.length) = P.length + x.length := wrap_i64 _ (by omega) (by omega)
          have g7 : P.length ≤ N := by omega
          have g8 : (P.length : Int) ≤ N := by omega
          repeat (first | ((first | (with_reducible first | refine zP fun K_ hK_ => ?_ | refine zQ fun K_ hK_ => ?_ | refine zT ?_ | refine zU ?_ | refine zV ?_ | refine zW ?_ | refine zX ?_ | refine zY ?_) | ((with_reducible first | refine zR ?_ ?_ fun K_ hK_ => ?_ | refine zS ?_ ?_ fun K_ hK_ => ?_); (focus kernel_rfl); (focus kernel_rfl))); first | (simp (maxSteps := 1000000) (disch := refine hold_ ?_; first | (simp [e0, hi2, hi3, hT, hTg, hgt, hC, hu1, hu2, g1, g2, g3, g4, g5, g6, g7, g8, -List.getD_eq_getElem?_getD]; done) | omega) [e0, hi2, hi3, hT, hTg, hgt, hC, hu1, hu2, g1, g2, g3, g4, g5, g6, g7, g8, -List.getD_eq_getElem?_getD]; try first | (with_reducible refine zZ ?_) | subst hK_) | subst hK_) | (with_reducible first | refine zA ?_ | refine zB ?_ | refine zC ?_ | refine zD ?_ | refine zE ?_ | refine zF ?_ | refine zG ?_ | refine zH ?_ | refine zI ?_ | refine zJ ?_ | refine zK ?_ | refine zL ?_ | refine zM ?_ | refine zN ?_ | refine zO ?_) | ((with_reducible refine yG ?_ ?_); (focus decide)) | ((with_reducible refine yA ?_); refine yB rfl ?_; (with_reducible first | refine yC ?_ | refine yD ?_)))
          refine ⟨hi2, ?_⟩
          simp (maxSteps := 1000000) (disch := refine hold_ ?_; first | (simp [g1, g2, -List.getD_eq_getElem?_getD]; done) | omega) [g1, g2, -List.getD_eq_getElem?_getD]
        | none =>
          have hxr : repB g b = [b] := by unfold repB; rw [hgb]; rfl
          rw [hgb] at hgt
          simp only [slO] at hgt
          rw [hxr] at hle ⊢
          have g1 := zrow_set N P b (by simp at hle; omega)
          have g2 := zrow_len N P (by simp at hle; omega)
          have g6 : IntKind.i64.wrap ((P.length : Int) + 1) = P.length + 1 := wrap_i64 _ (by omega) (by simp at hle; omega)
          have g7 : P.length < N := by simp at hle; omega
          have g8 : (P.length : Int) < N := by omega
          repeat (first | ((first | (with_reducible first | refine zP fun K_ hK_ => ?_ | refine zQ fun K_ hK_ => ?_ | refine zT ?_ | refine zU ?_ | refine zV ?_ | refine zW ?_ | refine zX ?_ | refine zY ?_) | ((with_reducible first | refine zR ?_ ?_ fun K_ hK_ => ?_ | refine zS ?_ ?_ fun K_ hK_ => ?_); (focus kernel_rfl); (focus kernel_rfl))); first | (simp (maxSteps := 1000000) (disch := refine hold_ ?_; first | (simp [e0, hi2, hi3, hT, hTg, hgt, hC, hu1, hu2, g1, g2, g6, g7, g8, -List.getD_eq_getElem?_getD]; done) | omega) [e0, hi2, hi3, hT, hTg, hgt, hC, hu1, hu2, g1, g2, g6, g7, g8, -List.getD_eq_getElem?_getD]; try first | (with_reducible refine zZ ?_) | subst hK_) | subst hK_) | (with_reducible first | refine zA ?_ | refine zB ?_ | refine zC ?_ | refine zD ?_ | refine zE ?_ | refine zF ?_ | refine zG ?_ | refine zH ?_ | refine zI ?_ | refine zJ ?_ | refine zK ?_ | refine zL ?_ | refine zM ?_ | refine zN ?_ | refine zO ?_) | ((with_reducible refine yG ?_ ?_); (focus decide)) | ((with_reducible refine yA ?_); refine yB rfl ?_; (with_reducible first | refine yC ?_ | refine yD ?_)))
          refine ⟨hi2, ?_⟩
          simp (maxSteps := 1000000) (disch := refine hold_ ?_; first | (simp [g1, g2, -List.getD_eq_getElem?_getD]; done) | omega) [g1, g2, -List.getD_eq_getElem?_getD]
      · have hi2 : i = l.length := by omega
        subst hi2
        rw [hll]
        rw [hfull]
        generalize replL g l = R at *
        have g9 : R.take N = R := List.take_of_length_le (by omega)
        repeat (first | ((first | (with_reducible first | refine zP fun K_ hK_ => ?_ | refine zQ fun K_ hK_ => ?_ | refine zT ?_ | refine zU ?_ | refine zV ?_ | refine zW ?_ | refine zX ?_ | refine zY ?_) | ((with_reducible first | refine zR ?_ ?_ fun K_ hK_ => ?_ | refine zS ?_ ?_ fun K_ hK_ => ?_); (focus kernel_rfl); (focus kernel_rfl))); first | (simp (maxSteps := 1000000) (disch := refine hold_ ?_; first | (simp [hT, hNN, g9, -List.getD_eq_getElem?_getD]; done) | omega) [hT, hNN, g9, -List.getD_eq_getElem?_getD]; try first | (with_reducible refine zZ ?_) | subst hK_) | subst hK_) | (with_reducible first | refine zA ?_ | refine zB ?_ | refine zC ?_ | refine zD ?_ | refine zE ?_ | refine zF ?_ | refine zG ?_ | refine zH ?_ | refine zI ?_ | refine zJ ?_ | refine zK ?_ | refine zL ?_ | refine zM ?_ | refine zN ?_ | refine zO ?_) | ((with_reducible refine yG ?_ ?_); (focus decide)) | ((with_reducible refine yA ?_); refine yB rfl ?_; (with_reducible first | refine yC ?_ | refine yD ?_)))
        simp (maxSteps := 1000000) (disch := refine hold_ ?_; first | (simp [hNN, g9, txt, -List.getD_eq_getElem?_getD]; done) | omega) [hNN, g9, txt, -List.getD_eq_getElem?_getD]
end Go.Av.Can
end
