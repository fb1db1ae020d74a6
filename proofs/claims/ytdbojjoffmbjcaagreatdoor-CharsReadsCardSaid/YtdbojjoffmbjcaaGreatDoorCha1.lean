/- The walks of this seat's functions, and what is known of what they reckon (Cha1). Conditions: those that each theorem names. -/
import Derived.Test.YtdbojjoffmbjcaaGreatDoorAv5
import Derived.Test.YtdbojjoffmbjcaaGreatDoorProg
import Derived.KernelRfl
import Derived.Lib.Bytealg
section
namespace Go.Av.Cha
open Go Go.Av Go.Proofs
set_option linter.unusedVariables false
@[simp] theorem x2_u : udesc Tryz.prog 2 = some (.int .i64) := nr (by kernel_rfl)
@[simp] theorem x2_isSlice : isSlice Tryz.prog 2 = false := nr (by kernel_rfl)
@[simp] theorem x2_isString : isString Tryz.prog 2 = false := nr (by kernel_rfl)
@[simp] theorem x2_arrLen : arrLen Tryz.prog 2 = none := nr (by kernel_rfl)
@[simp] theorem x2_esz : esz Tryz.prog 2 = none := nr (by kernel_rfl)
@[simp] theorem x2_isAggT : isAggT Tryz.prog 2 = some false := nr (by kernel_rfl)
@[simp] theorem x2_tsize : tsize Tryz.prog 2 = some 1 := nr (by kernel_rfl)
@[simp] theorem x2_notInt : notInt Tryz.prog 2 = false := nr (by kernel_rfl)
@[simp] theorem x2_isBytes : isBytes Tryz.prog 2 = false := nr (by kernel_rfl)
@[simp] theorem x2_alloc (H : List (Nat × (Nat × HB))) (d : Nat) : aalloc Tryz.prog H d 2 = some (.ptr d (nextVer H d) 0, upd H d (nextVer H d, .row (.ints .i64 [0]))) := nr (by kernel_rfl)
@[simp] theorem x3_u : udesc Tryz.prog 3 = some (.int .i64) := nr (by kernel_rfl)
@[simp] theorem x3_isSlice : isSlice Tryz.prog 3 = false := nr (by kernel_rfl)
@[simp] theorem x3_isString : isString Tryz.prog 3 = false := nr (by kernel_rfl)
@[simp] theorem x3_arrLen : arrLen Tryz.prog 3 = none := nr (by kernel_rfl)
@[simp] theorem x3_esz : esz Tryz.prog 3 = none := nr (by kernel_rfl)
@[simp] theorem x3_isAggT : isAggT Tryz.prog 3 = some false := nr (by kernel_rfl)
@[simp] theorem x3_tsize : tsize Tryz.prog 3 = some 1 := nr (by kernel_rfl)
@[simp] theorem x3_notInt : notInt Tryz.prog 3 = false := nr (by kernel_rfl)
@[simp] theorem x3_isBytes : isBytes Tryz.prog 3 = false := nr (by kernel_rfl)
@[simp] theorem x3_alloc (H : List (Nat × (Nat × HB))) (d : Nat) : aalloc Tryz.prog H d 3 = some (.ptr d (nextVer H d) 0, upd H d (nextVer H d, .row (.ints .i64 [0]))) := nr (by kernel_rfl)
@[simp] theorem x4_u : udesc Tryz.prog 4 = some .bool := nr (by kernel_rfl)
@[simp] theorem x4_eq (a b : Bool) : eqNil Tryz.prog 4 (.p (.bool a)) (.p (.bool b)) = some (a == b) := eqNil_bool (by kernel_rfl) a b
@[simp] theorem x4_isSlice : isSlice Tryz.prog 4 = false := nr (by kernel_rfl)
@[simp] theorem x4_isString : isString Tryz.prog 4 = false := nr (by kernel_rfl)
@[simp] theorem x4_arrLen : arrLen Tryz.prog 4 = none := nr (by kernel_rfl)
@[simp] theorem x4_esz : esz Tryz.prog 4 = none := nr (by kernel_rfl)
@[simp] theorem x4_isAggT : isAggT Tryz.prog 4 = some false := nr (by kernel_rfl)
@[simp] theorem x4_tsize : tsize Tryz.prog 4 = some 1 := nr (by kernel_rfl)
@[simp] theorem x4_notInt : notInt Tryz.prog 4 = true := nr (by kernel_rfl)
@[simp] theorem x4_isBytes : isBytes Tryz.prog 4 = false := nr (by kernel_rfl)
@[simp] theorem x4_alloc (H : List (Nat × (Nat × HB))) (d : Nat) : aalloc Tryz.prog H d 4 = some (.ptr d (nextVer H d) 0, upd H d (nextVer H d, .cells [.p (.bool false)])) := nr (by kernel_rfl)
@[simp] theorem x5_u : udesc Tryz.prog 5 = some (.int .u8) := nr (by kernel_rfl)
@[simp] theorem x5_isSlice : isSlice Tryz.prog 5 = false := nr (by kernel_rfl)
@[simp] theorem x5_isString : isString Tryz.prog 5 = false := nr (by kernel_rfl)
@[simp] theorem x5_arrLen : arrLen Tryz.prog 5 = none := nr (by kernel_rfl)
@[simp] theorem x5_esz : esz Tryz.prog 5 = none := nr (by kernel_rfl)
@[simp] theorem x5_isAggT : isAggT Tryz.prog 5 = some false := nr (by kernel_rfl)
@[simp] theorem x5_tsize : tsize Tryz.prog 5 = some 1 := nr (by kernel_rfl)
@[simp] theorem x5_notInt : notInt Tryz.prog 5 = false := nr (by kernel_rfl)
@[simp] theorem x5_isBytes : isBytes Tryz.prog 5 = false := nr (by kernel_rfl)
@[simp] theorem x5_alloc (H : List (Nat × (Nat × HB))) (d : Nat) : aalloc Tryz.prog H d 5 = some (.ptr d (nextVer H d) 0, upd H d (nextVer H d, .row (.ints .u8 [0]))) := nr (by kernel_rfl)
@[simp] theorem x9_u : udesc Tryz.prog 9 = some .string := nr (by kernel_rfl)
@[simp] theorem x9_isSlice : isSlice Tryz.prog 9 = false := nr (by kernel_rfl)
@[simp] theorem x9_isString : isString Tryz.prog 9 = true := nr (by kernel_rfl)
@[simp] theorem x9_arrLen : arrLen Tryz.prog 9 = none := nr (by kernel_rfl)
@[simp] theorem x9_esz : esz Tryz.prog 9 = none := nr (by kernel_rfl)
@[simp] theorem x9_isAggT : isAggT Tryz.prog 9 = some false := nr (by kernel_rfl)
@[simp] theorem x9_tsize : tsize Tryz.prog 9 = some 1 := nr (by kernel_rfl)
@[simp] theorem x9_notInt : notInt Tryz.prog 9 = true := nr (by kernel_rfl)
@[simp] theorem x9_isBytes : isBytes Tryz.prog 9 = false := nr (by kernel_rfl)
@[simp] theorem x9_alloc (H : List (Nat × (Nat × HB))) (d : Nat) : aalloc Tryz.prog H d 9 = some (.ptr d (nextVer H d) 0, upd H d (nextVer H d, .cells [.p (.str ByteArray.empty)])) := nr (by kernel_rfl)
@[simp] theorem x12_u : udesc Tryz.prog 12 = some (.int .u64) := nr (by kernel_rfl)
@[simp] theorem x12_isSlice : isSlice Tryz.prog 12 = false := nr (by kernel_rfl)
@[simp] theorem x12_isString : isString Tryz.prog 12 = false := nr (by kernel_rfl)
@[simp] theorem x12_arrLen : arrLen Tryz.prog 12 = none := nr (by kernel_rfl)
@[simp] theorem x12_esz : esz Tryz.prog 12 = none := nr (by kernel_rfl)
@[simp] theorem x12_isAggT : isAggT Tryz.prog 12 = some false := nr (by kernel_rfl)
@[simp] theorem x12_tsize : tsize Tryz.prog 12 = some 1 := nr (by kernel_rfl)
@[simp] theorem x12_notInt : notInt Tryz.prog 12 = false := nr (by kernel_rfl)
@[simp] theorem x12_isBytes : isBytes Tryz.prog 12 = false := nr (by kernel_rfl)
@[simp] theorem x12_alloc (H : List (Nat × (Nat × HB))) (d : Nat) : aalloc Tryz.prog H d 12 = some (.ptr d (nextVer H d) 0, upd H d (nextVer H d, .row (.ints .u64 [0]))) := nr (by kernel_rfl)
@[simp] theorem x21_u : udesc Tryz.prog 21 = some (.int .i32) := nr (by kernel_rfl)
@[simp] theorem x21_isSlice : isSlice Tryz.prog 21 = false := nr (by kernel_rfl)
@[simp] theorem x21_isString : isString Tryz.prog 21 = false := nr (by kernel_rfl)
@[simp] theorem x21_arrLen : arrLen Tryz.prog 21 = none := nr (by kernel_rfl)
@[simp] theorem x21_esz : esz Tryz.prog 21 = none := nr (by kernel_rfl)
@[simp] theorem x21_isAggT : isAggT Tryz.prog 21 = some false := nr (by kernel_rfl)
@[simp] theorem x21_tsize : tsize Tryz.prog 21 = some 1 := nr (by kernel_rfl)
@[simp] theorem x21_notInt : notInt Tryz.prog 21 = false := nr (by kernel_rfl)
@[simp] theorem x21_isBytes : isBytes Tryz.prog 21 = false := nr (by kernel_rfl)
@[simp] theorem x21_alloc (H : List (Nat × (Nat × HB))) (d : Nat) : aalloc Tryz.prog H d 21 = some (.ptr d (nextVer H d) 0, upd H d (nextVer H d, .row (.ints .i32 [0]))) := nr (by kernel_rfl)
@[simp] theorem x27_us : udesc Tryz.prog 27 = some (.slice 5) := nr (by kernel_rfl)
@[simp] theorem x27_eq (x y : V) : eqNil Tryz.prog 27 x y = eqSl x y := eqNil_sl (e := 5) (by kernel_rfl) x y
@[simp] theorem x27_isSlice : isSlice Tryz.prog 27 = true := nr (by kernel_rfl)
@[simp] theorem x27_isString : isString Tryz.prog 27 = false := nr (by kernel_rfl)
@[simp] theorem x27_arrLen : arrLen Tryz.prog 27 = none := nr (by kernel_rfl)
@[simp] theorem x27_esz : esz Tryz.prog 27 = some 1 := nr (by kernel_rfl)
@[simp] theorem x27_isAggT : isAggT Tryz.prog 27 = some false := nr (by kernel_rfl)
@[simp] theorem x27_tsize : tsize Tryz.prog 27 = some 1 := nr (by kernel_rfl)
@[simp] theorem x27_notInt : notInt Tryz.prog 27 = true := nr (by kernel_rfl)
@[simp] theorem x27_isBytes : isBytes Tryz.prog 27 = true := nr (by kernel_rfl)
@[simp] theorem x27_row (T : List (Nat × Nat)) (d len : Nat) (ps : List (Nat × V)) : arowSlice Tryz.prog T d 27 len ps = if len * 1 ≤ 16777216 then rowFill (bl []) 1 len d T (fillV (fun k => some (k * 1, 1)) [] (zrep len [.p (.int .u8 0)]) ps) else none := arowSlice_eq (P := Tryz.prog) (t := 27) (s := 1) (zl := [.p (.int .u8 0)]) (e := 5) (b := 1) (z := .int .u8 0) (by kernel_rfl) (by kernel_rfl) (by kernel_rfl) rfl T d len ps
@[simp] theorem x27_own (H : List (Nat × (Nat × HB))) (d len : Nat) (ps : List (Nat × V)) : abuildSlice Tryz.prog H d 27 len ps = if len * 1 ≤ 16777216 then (fillV (fun k => some (k * 1, 1)) H (zrep len [.p (.int .u8 0)]) ps).map fun l => (.own d (nextVer H d) 0 len len, upd H d (nextVer H d, mkHB l)) else none := abuildSlice_eq (P := Tryz.prog) (t := 27) (s := 1) (zl := [.p (.int .u8 0)]) (e := 5) (b := 1) (z := .int .u8 0) (by kernel_rfl) (by kernel_rfl) (by kernel_rfl) rfl H d len ps
@[simp] theorem x27_copy (H : List (Nat × (Nat × HB))) (id ver off len cap : Nat) (y : V) : acopy Tryz.prog H 27 (.own id ver off len cap) y = copyR ver off len 1 H id (look H id) (srcV H 1 y) := acopy_eq (e := 5) (b := 1) (z := .int .u8 0) (by kernel_rfl) H id ver off len cap y
@[simp] theorem x27_make (H : List (Nat × (Nat × HB))) (d : Nat) (k k' : IntKind) (n m : Int) (h0 : 0 ≤ n) (h1 : n ≤ m) (h2 : m ≤ 281474976710656) : amakeSlice Tryz.prog H d 27 (.p (.int k n)) (.p (.int k' m)) = some (.own d (nextVer H d) 0 n.toNat m.toNat, upd H d (nextVer H d, .row (bl (List.replicate m.toNat 0#8)))) := amake_bytes (e := 5) (by kernel_rfl) H d k k' n m h0 h1 h2
@[simp] theorem x27_elem : elemInfo Tryz.prog 27 = some (5, 1, 1, .int .u8 0) := nr (by kernel_rfl)
@[simp] theorem x27_alloc (H : List (Nat × (Nat × HB))) (d : Nat) : aalloc Tryz.prog H d 27 = some (.ptr d (nextVer H d) 0, upd H d (nextVer H d, .cells [.p (.sl (.vals 1 []) true)])) := nr (by kernel_rfl)
@[simp] theorem x33_up : udesc Tryz.prog 33 = some (.pointer 65) := nr (by kernel_rfl)
@[simp] theorem x33_eq (x y : V) : eqNil Tryz.prog 33 x y = eqPt x y := eqNil_pt (e := 65) (by kernel_rfl) x y
@[simp] theorem x33_isSlice : isSlice Tryz.prog 33 = false := nr (by kernel_rfl)
@[simp] theorem x33_isString : isString Tryz.prog 33 = false := nr (by kernel_rfl)
@[simp] theorem x33_arrLen : arrLen Tryz.prog 33 = none := nr (by kernel_rfl)
@[simp] theorem x33_esz : esz Tryz.prog 33 = none := nr (by kernel_rfl)
@[simp] theorem x33_isAggT : isAggT Tryz.prog 33 = some false := nr (by kernel_rfl)
@[simp] theorem x33_tsize : tsize Tryz.prog 33 = some 1 := nr (by kernel_rfl)
@[simp] theorem x33_notInt : notInt Tryz.prog 33 = true := nr (by kernel_rfl)
@[simp] theorem x33_isBytes : isBytes Tryz.prog 33 = false := nr (by kernel_rfl)
@[simp] theorem x33_alloc (H : List (Nat × (Nat × HB))) (d : Nat) : aalloc Tryz.prog H d 33 = some (.ptr d (nextVer H d) 0, upd H d (nextVer H d, .cells [.p .ptr0])) := nr (by kernel_rfl)
@[simp] theorem x36_u : udesc Tryz.prog 36 = some (.int .u32) := nr (by kernel_rfl)
@[simp] theorem x36_isSlice : isSlice Tryz.prog 36 = false := nr (by kernel_rfl)
@[simp] theorem x36_isString : isString Tryz.prog 36 = false := nr (by kernel_rfl)
@[simp] theorem x36_arrLen : arrLen Tryz.prog 36 = none := nr (by kernel_rfl)
@[simp] theorem x36_esz : esz Tryz.prog 36 = none := nr (by kernel_rfl)
@[simp] theorem x36_isAggT : isAggT Tryz.prog 36 = some false := nr (by kernel_rfl)
@[simp] theorem x36_tsize : tsize Tryz.prog 36 = some 1 := nr (by kernel_rfl)
@[simp] theorem x36_notInt : notInt Tryz.prog 36 = false := nr (by kernel_rfl)
@[simp] theorem x36_isBytes : isBytes Tryz.prog 36 = false := nr (by kernel_rfl)
@[simp] theorem x36_alloc (H : List (Nat × (Nat × HB))) (d : Nat) : aalloc Tryz.prog H d 36 = some (.ptr d (nextVer H d) 0, upd H d (nextVer H d, .row (.ints .u32 [0]))) := nr (by kernel_rfl)
@[simp] theorem x40_up : udesc Tryz.prog 40 = some (.pointer 42) := nr (by kernel_rfl)
@[simp] theorem x40_eq (x y : V) : eqNil Tryz.prog 40 x y = eqPt x y := eqNil_pt (e := 42) (by kernel_rfl) x y
@[simp] theorem x40_isSlice : isSlice Tryz.prog 40 = false := nr (by kernel_rfl)
@[simp] theorem x40_isString : isString Tryz.prog 40 = false := nr (by kernel_rfl)
@[simp] theorem x40_arrLen : arrLen Tryz.prog 40 = none := nr (by kernel_rfl)
@[simp] theorem x40_esz : esz Tryz.prog 40 = none := nr (by kernel_rfl)
@[simp] theorem x40_isAggT : isAggT Tryz.prog 40 = some false := nr (by kernel_rfl)
@[simp] theorem x40_tsize : tsize Tryz.prog 40 = some 1 := nr (by kernel_rfl)
@[simp] theorem x40_notInt : notInt Tryz.prog 40 = true := nr (by kernel_rfl)
@[simp] theorem x40_isBytes : isBytes Tryz.prog 40 = false := nr (by kernel_rfl)
@[simp] theorem x40_alloc (H : List (Nat × (Nat × HB))) (d : Nat) : aalloc Tryz.prog H d 40 = some (.ptr d (nextVer H d) 0, upd H d (nextVer H d, .cells [.p .ptr0])) := nr (by kernel_rfl)
@[simp] theorem x41_isSlice : isSlice Tryz.prog 41 = false := nr (by kernel_rfl)
@[simp] theorem x41_isString : isString Tryz.prog 41 = false := nr (by kernel_rfl)
@[simp] theorem x41_arrLen : arrLen Tryz.prog 41 = none := nr (by kernel_rfl)
@[simp] theorem x41_esz : esz Tryz.prog 41 = none := nr (by kernel_rfl)
@[simp] theorem x41_isAggT : isAggT Tryz.prog 41 = some true := nr (by kernel_rfl)
@[simp] theorem x41_tsize : tsize Tryz.prog 41 = some 2 := nr (by kernel_rfl)
@[simp] theorem x41_notInt : notInt Tryz.prog 41 = true := nr (by kernel_rfl)
@[simp] theorem x41_isBytes : isBytes Tryz.prog 41 = false := nr (by kernel_rfl)
@[simp] theorem x41_alloc (H : List (Nat × (Nat × HB))) (d : Nat) : aalloc Tryz.prog H d 41 = some (.ptr d (nextVer H d) 0, upd H d (nextVer H d, .cells [.p .ptr0, .p (.sl (.vals 1 []) true)])) := nr (by kernel_rfl)
@[simp] theorem x41_build (H : List (Nat × (Nat × HB))) (ps : List (Nat × V)) : abuild Tryz.prog H 41 ps = (fillV (fun k => lookN [(0, 1), (1, 1)] k) H [.p .ptr0, .p (.sl (.vals 1 []) true)] ps).map mkAgg := nr (by kernel_rfl)
@[simp] theorem x41_f0 (x : V) : afield Tryz.prog 41 x 0 = fieldV false 0 1 x := nr (by kernel_rfl)
@[simp] theorem x41_fa0 (id ver off : Nat) : afieldAddr Tryz.prog 41 (.ptr id ver off) 0 = some (.ptr id ver (off + 0)) := nr (by kernel_rfl)
@[simp] theorem x41_fe0 (r : Row PV) (i j : Nat) : afieldAddr Tryz.prog 41 (.p (.eptr r i j)) 0 = some (.p (.eptr r i (j + 0))) := nr (by kernel_rfl)
@[simp] theorem x41_f1 (x : V) : afield Tryz.prog 41 x 1 = fieldV false 1 1 x := nr (by kernel_rfl)
@[simp] theorem x41_fa1 (id ver off : Nat) : afieldAddr Tryz.prog 41 (.ptr id ver off) 1 = some (.ptr id ver (off + 1)) := nr (by kernel_rfl)
@[simp] theorem x41_fe1 (r : Row PV) (i j : Nat) : afieldAddr Tryz.prog 41 (.p (.eptr r i j)) 1 = some (.p (.eptr r i (j + 1))) := nr (by kernel_rfl)
@[simp] theorem x42_isSlice : isSlice Tryz.prog 42 = false := nr (by kernel_rfl)
@[simp] theorem x42_isString : isString Tryz.prog 42 = false := nr (by kernel_rfl)
@[simp] theorem x42_arrLen : arrLen Tryz.prog 42 = none := nr (by kernel_rfl)
@[simp] theorem x42_esz : esz Tryz.prog 42 = none := nr (by kernel_rfl)
@[simp] theorem x42_isAggT : isAggT Tryz.prog 42 = some true := nr (by kernel_rfl)
@[simp] theorem x42_tsize : tsize Tryz.prog 42 = some 2 := nr (by kernel_rfl)
@[simp] theorem x42_notInt : notInt Tryz.prog 42 = true := nr (by kernel_rfl)
@[simp] theorem x42_isBytes : isBytes Tryz.prog 42 = false := nr (by kernel_rfl)
@[simp] theorem x42_alloc (H : List (Nat × (Nat × HB))) (d : Nat) : aalloc Tryz.prog H d 42 = some (.ptr d (nextVer H d) 0, upd H d (nextVer H d, .cells [.adr d (nextVer H d) 0 42 2, .p (.sl (.vals 1 []) true)])) := nr (by kernel_rfl)
@[simp] theorem x42_build (H : List (Nat × (Nat × HB))) (ps : List (Nat × V)) : abuild Tryz.prog H 42 ps = (fillV (fun k => lookN [(0, 1), (1, 1)] k) H [.p .ptr0, .p (.sl (.vals 1 []) true)] ps).map mkAgg := nr (by kernel_rfl)
@[simp] theorem x42_f0 (x : V) : afield Tryz.prog 42 x 0 = fieldV false 0 1 x := nr (by kernel_rfl)
@[simp] theorem x42_fa0 (id ver off : Nat) : afieldAddr Tryz.prog 42 (.ptr id ver off) 0 = some (.ptr id ver (off + 0)) := nr (by kernel_rfl)
@[simp] theorem x42_fe0 (r : Row PV) (i j : Nat) : afieldAddr Tryz.prog 42 (.p (.eptr r i j)) 0 = some (.p (.eptr r i (j + 0))) := nr (by kernel_rfl)
@[simp] theorem x42_f1 (x : V) : afield Tryz.prog 42 x 1 = fieldV false 1 1 x := nr (by kernel_rfl)
@[simp] theorem x42_fa1 (id ver off : Nat) : afieldAddr Tryz.prog 42 (.ptr id ver off) 1 = some (.ptr id ver (off + 1)) := nr (by kernel_rfl)
@[simp] theorem x42_fe1 (r : Row PV) (i j : Nat) : afieldAddr Tryz.prog 42 (.p (.eptr r i j)) 1 = some (.p (.eptr r i (j + 1))) := nr (by kernel_rfl)
@[simp] theorem x50_us : udesc Tryz.prog 50 = some (.slice 9) := nr (by kernel_rfl)
@[simp] theorem x50_eq (x y : V) : eqNil Tryz.prog 50 x y = eqSl x y := eqNil_sl (e := 9) (by kernel_rfl) x y
@[simp] theorem x50_isSlice : isSlice Tryz.prog 50 = true := nr (by kernel_rfl)
@[simp] theorem x50_isString : isString Tryz.prog 50 = false := nr (by kernel_rfl)
@[simp] theorem x50_arrLen : arrLen Tryz.prog 50 = none := nr (by kernel_rfl)
@[simp] theorem x50_esz : esz Tryz.prog 50 = some 1 := nr (by kernel_rfl)
@[simp] theorem x50_isAggT : isAggT Tryz.prog 50 = some false := nr (by kernel_rfl)
@[simp] theorem x50_tsize : tsize Tryz.prog 50 = some 1 := nr (by kernel_rfl)
@[simp] theorem x50_notInt : notInt Tryz.prog 50 = true := nr (by kernel_rfl)
@[simp] theorem x50_isBytes : isBytes Tryz.prog 50 = false := nr (by kernel_rfl)
@[simp] theorem x50_row (T : List (Nat × Nat)) (d len : Nat) (ps : List (Nat × V)) : arowSlice Tryz.prog T d 50 len ps = if len * 1 ≤ 16777216 then rowFill (.strs []) 1 len d T (fillV (fun k => some (k * 1, 1)) [] (zrep len [.p (.str ByteArray.empty)]) ps) else none := arowSlice_eq (P := Tryz.prog) (t := 50) (s := 1) (zl := [.p (.str ByteArray.empty)]) (e := 9) (b := 16) (z := .string ByteArray.empty) (by kernel_rfl) (by kernel_rfl) (by kernel_rfl) rfl T d len ps
@[simp] theorem x50_own (H : List (Nat × (Nat × HB))) (d len : Nat) (ps : List (Nat × V)) : abuildSlice Tryz.prog H d 50 len ps = if len * 1 ≤ 16777216 then (fillV (fun k => some (k * 1, 1)) H (zrep len [.p (.str ByteArray.empty)]) ps).map fun l => (.own d (nextVer H d) 0 len len, upd H d (nextVer H d, mkHB l)) else none := abuildSlice_eq (P := Tryz.prog) (t := 50) (s := 1) (zl := [.p (.str ByteArray.empty)]) (e := 9) (b := 16) (z := .string ByteArray.empty) (by kernel_rfl) (by kernel_rfl) (by kernel_rfl) rfl H d len ps
@[simp] theorem x50_copy (H : List (Nat × (Nat × HB))) (id ver off len cap : Nat) (y : V) : acopy Tryz.prog H 50 (.own id ver off len cap) y = copyR ver off len 1 H id (look H id) (srcV H 1 y) := acopy_eq (e := 9) (b := 16) (z := .string ByteArray.empty) (by kernel_rfl) H id ver off len cap y
@[simp] theorem x50_elem : elemInfo Tryz.prog 50 = some (9, 1, 16, .string ByteArray.empty) := nr (by kernel_rfl)
@[simp] theorem x50_alloc (H : List (Nat × (Nat × HB))) (d : Nat) : aalloc Tryz.prog H d 50 = some (.ptr d (nextVer H d) 0, upd H d (nextVer H d, .cells [.p (.sl (.vals 1 []) true)])) := nr (by kernel_rfl)
@[simp] theorem x51_isSlice : isSlice Tryz.prog 51 = false := nr (by kernel_rfl)
@[simp] theorem x51_isString : isString Tryz.prog 51 = false := nr (by kernel_rfl)
@[simp] theorem x51_arrLen : arrLen Tryz.prog 51 = none := nr (by kernel_rfl)
@[simp] theorem x51_esz : esz Tryz.prog 51 = none := nr (by kernel_rfl)
@[simp] theorem x51_isAggT : isAggT Tryz.prog 51 = some true := nr (by kernel_rfl)
@[simp] theorem x51_tsize : tsize Tryz.prog 51 = some 0 := nr (by kernel_rfl)
@[simp] theorem x51_notInt : notInt Tryz.prog 51 = true := nr (by kernel_rfl)
@[simp] theorem x51_isBytes : isBytes Tryz.prog 51 = false := nr (by kernel_rfl)
@[simp] theorem x52_isSlice : isSlice Tryz.prog 52 = false := nr (by kernel_rfl)
@[simp] theorem x52_isString : isString Tryz.prog 52 = false := nr (by kernel_rfl)
@[simp] theorem x52_arrLen : arrLen Tryz.prog 52 = none := nr (by kernel_rfl)
@[simp] theorem x52_esz : esz Tryz.prog 52 = none := nr (by kernel_rfl)
@[simp] theorem x52_isAggT : isAggT Tryz.prog 52 = some true := nr (by kernel_rfl)
@[simp] theorem x52_tsize : tsize Tryz.prog 52 = some 0 := nr (by kernel_rfl)
@[simp] theorem x52_notInt : notInt Tryz.prog 52 = true := nr (by kernel_rfl)
@[simp] theorem x52_isBytes : isBytes Tryz.prog 52 = false := nr (by kernel_rfl)
@[simp] theorem x53_isSlice : isSlice Tryz.prog 53 = false := nr (by kernel_rfl)
@[simp] theorem x53_isString : isString Tryz.prog 53 = false := nr (by kernel_rfl)
@[simp] theorem x53_arrLen : arrLen Tryz.prog 53 = none := nr (by kernel_rfl)
@[simp] theorem x53_esz : esz Tryz.prog 53 = none := nr (by kernel_rfl)
@[simp] theorem x53_isAggT : isAggT Tryz.prog 53 = some true := nr (by kernel_rfl)
@[simp] theorem x53_tsize : tsize Tryz.prog 53 = some 0 := nr (by kernel_rfl)
@[simp] theorem x53_notInt : notInt Tryz.prog 53 = true := nr (by kernel_rfl)
@[simp] theorem x53_isBytes : isBytes Tryz.prog 53 = false := nr (by kernel_rfl)
@[simp] theorem x54_isSlice : isSlice Tryz.prog 54 = false := nr (by kernel_rfl)
@[simp] theorem x54_isString : isString Tryz.prog 54 = false := nr (by kernel_rfl)
@[simp] theorem x54_arrLen : arrLen Tryz.prog 54 = none := nr (by kernel_rfl)
@[simp] theorem x54_esz : esz Tryz.prog 54 = none := nr (by kernel_rfl)
@[simp] theorem x54_isAggT : isAggT Tryz.prog 54 = some true := nr (by kernel_rfl)
@[simp] theorem x54_tsize : tsize Tryz.prog 54 = some 1 := nr (by kernel_rfl)
@[simp] theorem x54_notInt : notInt Tryz.prog 54 = true := nr (by kernel_rfl)
@[simp] theorem x54_isBytes : isBytes Tryz.prog 54 = false := nr (by kernel_rfl)
@[simp] theorem x54_alloc (H : List (Nat × (Nat × HB))) (d : Nat) : aalloc Tryz.prog H d 54 = some (.ptr d (nextVer H d) 0, upd H d (nextVer H d, .row (.ints .u32 [0]))) := nr (by kernel_rfl)
@[simp] theorem x54_build (H : List (Nat × (Nat × HB))) (ps : List (Nat × V)) : abuild Tryz.prog H 54 ps = (fillV (fun k => lookN [(0, 0), (0, 1)] k) H [.p (.int .u32 0)] ps).map mkAgg := nr (by kernel_rfl)
@[simp] theorem x54_f1 (x : V) : afield Tryz.prog 54 x 1 = fieldV false 0 1 x := nr (by kernel_rfl)
@[simp] theorem x54_fa1 (id ver off : Nat) : afieldAddr Tryz.prog 54 (.ptr id ver off) 1 = some (.ptr id ver (off + 0)) := nr (by kernel_rfl)
@[simp] theorem x54_fe1 (r : Row PV) (i j : Nat) : afieldAddr Tryz.prog 54 (.p (.eptr r i j)) 1 = some (.p (.eptr r i (j + 0))) := nr (by kernel_rfl)
@[simp] theorem x55_isSlice : isSlice Tryz.prog 55 = false := nr (by kernel_rfl)
@[simp] theorem x55_isString : isString Tryz.prog 55 = false := nr (by kernel_rfl)
@[simp] theorem x55_arrLen : arrLen Tryz.prog 55 = none := nr (by kernel_rfl)
@[simp] theorem x55_esz : esz Tryz.prog 55 = none := nr (by kernel_rfl)
@[simp] theorem x55_isAggT : isAggT Tryz.prog 55 = some true := nr (by kernel_rfl)
@[simp] theorem x55_tsize : tsize Tryz.prog 55 = some 1 := nr (by kernel_rfl)
@[simp] theorem x55_notInt : notInt Tryz.prog 55 = true := nr (by kernel_rfl)
@[simp] theorem x55_isBytes : isBytes Tryz.prog 55 = false := nr (by kernel_rfl)
@[simp] theorem x55_alloc (H : List (Nat × (Nat × HB))) (d : Nat) : aalloc Tryz.prog H d 55 = some (.ptr d (nextVer H d) 0, upd H d (nextVer H d, .row (.ints .u32 [0]))) := nr (by kernel_rfl)
@[simp] theorem x55_build (H : List (Nat × (Nat × HB))) (ps : List (Nat × V)) : abuild Tryz.prog H 55 ps = (fillV (fun k => lookN [(0, 0), (0, 1)] k) H [.p (.int .u32 0)] ps).map mkAgg := nr (by kernel_rfl)
@[simp] theorem x55_f1 (x : V) : afield Tryz.prog 55 x 1 = fieldV false 0 1 x := nr (by kernel_rfl)
@[simp] theorem x55_fa1 (id ver off : Nat) : afieldAddr Tryz.prog 55 (.ptr id ver off) 1 = some (.ptr id ver (off + 0)) := nr (by kernel_rfl)
@[simp] theorem x55_fe1 (r : Row PV) (i j : Nat) : afieldAddr Tryz.prog 55 (.p (.eptr r i j)) 1 = some (.p (.eptr r i (j + 0))) := nr (by kernel_rfl)
@[simp] theorem x56_eqs (r s : Row PV) : eqNil Tryz.prog 56 (.p (.agg r)) (.p (.agg s)) = eqAts r s [(0, 0), (1, 0)] := eqNil_struct (by kernel_rfl) r s
@[simp] theorem x56_isSlice : isSlice Tryz.prog 56 = false := nr (by kernel_rfl)
@[simp] theorem x56_isString : isString Tryz.prog 56 = false := nr (by kernel_rfl)
@[simp] theorem x56_arrLen : arrLen Tryz.prog 56 = none := nr (by kernel_rfl)
@[simp] theorem x56_esz : esz Tryz.prog 56 = none := nr (by kernel_rfl)
@[simp] theorem x56_isAggT : isAggT Tryz.prog 56 = some true := nr (by kernel_rfl)
@[simp] theorem x56_tsize : tsize Tryz.prog 56 = some 2 := nr (by kernel_rfl)
@[simp] theorem x56_notInt : notInt Tryz.prog 56 = true := nr (by kernel_rfl)
@[simp] theorem x56_isBytes : isBytes Tryz.prog 56 = false := nr (by kernel_rfl)
@[simp] theorem x56_alloc (H : List (Nat × (Nat × HB))) (d : Nat) : aalloc Tryz.prog H d 56 = some (.ptr d (nextVer H d) 0, upd H d (nextVer H d, .cells [.p (.int .i32 0), .p (.int .u32 0)])) := nr (by kernel_rfl)
@[simp] theorem x56_build (H : List (Nat × (Nat × HB))) (ps : List (Nat × V)) : abuild Tryz.prog H 56 ps = (fillV (fun k => lookN [(0, 1), (1, 1)] k) H [.p (.int .i32 0), .p (.int .u32 0)] ps).map mkAgg := nr (by kernel_rfl)
@[simp] theorem x56_f0 (x : V) : afield Tryz.prog 56 x 0 = fieldV false 0 1 x := nr (by kernel_rfl)
@[simp] theorem x56_fa0 (id ver off : Nat) : afieldAddr Tryz.prog 56 (.ptr id ver off) 0 = some (.ptr id ver (off + 0)) := nr (by kernel_rfl)
@[simp] theorem x56_fe0 (r : Row PV) (i j : Nat) : afieldAddr Tryz.prog 56 (.p (.eptr r i j)) 0 = some (.p (.eptr r i (j + 0))) := nr (by kernel_rfl)
@[simp] theorem x56_f1 (x : V) : afield Tryz.prog 56 x 1 = fieldV false 1 1 x := nr (by kernel_rfl)
@[simp] theorem x56_fa1 (id ver off : Nat) : afieldAddr Tryz.prog 56 (.ptr id ver off) 1 = some (.ptr id ver (off + 1)) := nr (by kernel_rfl)
@[simp] theorem x56_fe1 (r : Row PV) (i j : Nat) : afieldAddr Tryz.prog 56 (.p (.eptr r i j)) 1 = some (.p (.eptr r i (j + 1))) := nr (by kernel_rfl)
@[simp] theorem x57_eqs (r s : Row PV) : eqNil Tryz.prog 57 (.p (.agg r)) (.p (.agg s)) = eqAts r s [(0, 0), (1, 0)] := eqNil_struct (by kernel_rfl) r s
@[simp] theorem x57_isSlice : isSlice Tryz.prog 57 = false := nr (by kernel_rfl)
@[simp] theorem x57_isString : isString Tryz.prog 57 = false := nr (by kernel_rfl)
@[simp] theorem x57_arrLen : arrLen Tryz.prog 57 = none := nr (by kernel_rfl)
@[simp] theorem x57_esz : esz Tryz.prog 57 = none := nr (by kernel_rfl)
@[simp] theorem x57_isAggT : isAggT Tryz.prog 57 = some true := nr (by kernel_rfl)
@[simp] theorem x57_tsize : tsize Tryz.prog 57 = some 2 := nr (by kernel_rfl)
@[simp] theorem x57_notInt : notInt Tryz.prog 57 = true := nr (by kernel_rfl)
@[simp] theorem x57_isBytes : isBytes Tryz.prog 57 = false := nr (by kernel_rfl)
@[simp] theorem x57_alloc (H : List (Nat × (Nat × HB))) (d : Nat) : aalloc Tryz.prog H d 57 = some (.ptr d (nextVer H d) 0, upd H d (nextVer H d, .cells [.p (.int .i32 0), .p (.int .u32 0)])) := nr (by kernel_rfl)
@[simp] theorem x57_build (H : List (Nat × (Nat × HB))) (ps : List (Nat × V)) : abuild Tryz.prog H 57 ps = (fillV (fun k => lookN [(0, 1), (1, 1)] k) H [.p (.int .i32 0), .p (.int .u32 0)] ps).map mkAgg := nr (by kernel_rfl)
@[simp] theorem x57_f0 (x : V) : afield Tryz.prog 57 x 0 = fieldV false 0 1 x := nr (by kernel_rfl)
@[simp] theorem x57_fa0 (id ver off : Nat) : afieldAddr Tryz.prog 57 (.ptr id ver off) 0 = some (.ptr id ver (off + 0)) := nr (by kernel_rfl)
@[simp] theorem x57_fe0 (r : Row PV) (i j : Nat) : afieldAddr Tryz.prog 57 (.p (.eptr r i j)) 0 = some (.p (.eptr r i (j + 0))) := nr (by kernel_rfl)
@[simp] theorem x57_f1 (x : V) : afield Tryz.prog 57 x 1 = fieldV false 1 1 x := nr (by kernel_rfl)
@[simp] theorem x57_fa1 (id ver off : Nat) : afieldAddr Tryz.prog 57 (.ptr id ver off) 1 = some (.ptr id ver (off + 1)) := nr (by kernel_rfl)
@[simp] theorem x57_fe1 (r : Row PV) (i j : Nat) : afieldAddr Tryz.prog 57 (.p (.eptr r i j)) 1 = some (.p (.eptr r i (j + 1))) := nr (by kernel_rfl)
@[simp] theorem x58_isSlice : isSlice Tryz.prog 58 = false := nr (by kernel_rfl)
@[simp] theorem x58_isString : isString Tryz.prog 58 = false := nr (by kernel_rfl)
@[simp] theorem x58_arrLen : arrLen Tryz.prog 58 = none := nr (by kernel_rfl)
@[simp] theorem x58_esz : esz Tryz.prog 58 = none := nr (by kernel_rfl)
@[simp] theorem x58_isAggT : isAggT Tryz.prog 58 = some true := nr (by kernel_rfl)
@[simp] theorem x58_tsize : tsize Tryz.prog 58 = some 2 := nr (by kernel_rfl)
@[simp] theorem x58_notInt : notInt Tryz.prog 58 = true := nr (by kernel_rfl)
@[simp] theorem x58_isBytes : isBytes Tryz.prog 58 = false := nr (by kernel_rfl)
@[simp] theorem x58_alloc (H : List (Nat × (Nat × HB))) (d : Nat) : aalloc Tryz.prog H d 58 = some (.ptr d (nextVer H d) 0, upd H d (nextVer H d, .cells [.p (.int .i32 0), .p (.int .u32 0)])) := nr (by kernel_rfl)
@[simp] theorem x58_build (H : List (Nat × (Nat × HB))) (ps : List (Nat × V)) : abuild Tryz.prog H 58 ps = (fillV (fun k => lookN [(0, 0), (0, 2)] k) H [.p (.int .i32 0), .p (.int .u32 0)] ps).map mkAgg := nr (by kernel_rfl)
@[simp] theorem x58_f1 (x : V) : afield Tryz.prog 58 x 1 = fieldV true 0 2 x := nr (by kernel_rfl)
@[simp] theorem x58_fa1 (id ver off : Nat) : afieldAddr Tryz.prog 58 (.ptr id ver off) 1 = some (.ptr id ver (off + 0)) := nr (by kernel_rfl)
@[simp] theorem x58_fe1 (r : Row PV) (i j : Nat) : afieldAddr Tryz.prog 58 (.p (.eptr r i j)) 1 = some (.p (.eptr r i (j + 0))) := nr (by kernel_rfl)
@[simp] theorem x59_isSlice : isSlice Tryz.prog 59 = false := nr (by kernel_rfl)
@[simp] theorem x59_isString : isString Tryz.prog 59 = false := nr (by kernel_rfl)
@[simp] theorem x59_arrLen : arrLen Tryz.prog 59 = none := nr (by kernel_rfl)
@[simp] theorem x59_esz : esz Tryz.prog 59 = none := nr (by kernel_rfl)
@[simp] theorem x59_isAggT : isAggT Tryz.prog 59 = some true := nr (by kernel_rfl)
@[simp] theorem x59_tsize : tsize Tryz.prog 59 = some 2 := nr (by kernel_rfl)
@[simp] theorem x59_notInt : notInt Tryz.prog 59 = true := nr (by kernel_rfl)
@[simp] theorem x59_isBytes : isBytes Tryz.prog 59 = false := nr (by kernel_rfl)
@[simp] theorem x59_alloc (H : List (Nat × (Nat × HB))) (d : Nat) : aalloc Tryz.prog H d 59 = some (.ptr d (nextVer H d) 0, upd H d (nextVer H d, .cells [.p (.int .i32 0), .p (.int .u32 0)])) := nr (by kernel_rfl)
@[simp] theorem x59_build (H : List (Nat × (Nat × HB))) (ps : List (Nat × V)) : abuild Tryz.prog H 59 ps = (fillV (fun k => lookN [(0, 0), (0, 2)] k) H [.p (.int .i32 0), .p (.int .u32 0)] ps).map mkAgg := nr (by kernel_rfl)
@[simp] theorem x59_f1 (x : V) : afield Tryz.prog 59 x 1 = fieldV true 0 2 x := nr (by kernel_rfl)
@[simp] theorem x59_fa1 (id ver off : Nat) : afieldAddr Tryz.prog 59 (.ptr id ver off) 1 = some (.ptr id ver (off + 0)) := nr (by kernel_rfl)
@[simp] theorem x59_fe1 (r : Row PV) (i j : Nat) : afieldAddr Tryz.prog 59 (.p (.eptr r i j)) 1 = some (.p (.eptr r i (j + 0))) := nr (by kernel_rfl)
@[simp] theorem x60_isSlice : isSlice Tryz.prog 60 = false := nr (by kernel_rfl)
@[simp] theorem x60_isString : isString Tryz.prog 60 = false := nr (by kernel_rfl)
@[simp] theorem x60_arrLen : arrLen Tryz.prog 60 = none := nr (by kernel_rfl)
@[simp] theorem x60_esz : esz Tryz.prog 60 = none := nr (by kernel_rfl)
@[simp] theorem x60_isAggT : isAggT Tryz.prog 60 = some true := nr (by kernel_rfl)
@[simp] theorem x60_tsize : tsize Tryz.prog 60 = some 3 := nr (by kernel_rfl)
@[simp] theorem x60_notInt : notInt Tryz.prog 60 = true := nr (by kernel_rfl)
@[simp] theorem x60_isBytes : isBytes Tryz.prog 60 = false := nr (by kernel_rfl)
@[simp] theorem x60_alloc (H : List (Nat × (Nat × HB))) (d : Nat) : aalloc Tryz.prog H d 60 = some (.ptr d (nextVer H d) 0, upd H d (nextVer H d, .cells [.p (.int .u32 0), .p (.int .i32 0), .p (.int .u32 0)])) := nr (by kernel_rfl)
@[simp] theorem x60_build (H : List (Nat × (Nat × HB))) (ps : List (Nat × V)) : abuild Tryz.prog H 60 ps = (fillV (fun k => lookN [(0, 0), (0, 1), (1, 2)] k) H [.p (.int .u32 0), .p (.int .i32 0), .p (.int .u32 0)] ps).map mkAgg := nr (by kernel_rfl)
@[simp] theorem x60_f1 (x : V) : afield Tryz.prog 60 x 1 = fieldV true 0 1 x := nr (by kernel_rfl)
@[simp] theorem x60_fa1 (id ver off : Nat) : afieldAddr Tryz.prog 60 (.ptr id ver off) 1 = some (.ptr id ver (off + 0)) := nr (by kernel_rfl)
@[simp] theorem x60_fe1 (r : Row PV) (i j : Nat) : afieldAddr Tryz.prog 60 (.p (.eptr r i j)) 1 = some (.p (.eptr r i (j + 0))) := nr (by kernel_rfl)
@[simp] theorem x60_f2 (x : V) : afield Tryz.prog 60 x 2 = fieldV true 1 2 x := nr (by kernel_rfl)
@[simp] theorem x60_fa2 (id ver off : Nat) : afieldAddr Tryz.prog 60 (.ptr id ver off) 2 = some (.ptr id ver (off + 1)) := nr (by kernel_rfl)
@[simp] theorem x60_fe2 (r : Row PV) (i j : Nat) : afieldAddr Tryz.prog 60 (.p (.eptr r i j)) 2 = some (.p (.eptr r i (j + 1))) := nr (by kernel_rfl)
@[simp] theorem x61_isSlice : isSlice Tryz.prog 61 = false := nr (by kernel_rfl)
@[simp] theorem x61_isString : isString Tryz.prog 61 = false := nr (by kernel_rfl)
@[simp] theorem x61_arrLen : arrLen Tryz.prog 61 = none := nr (by kernel_rfl)
@[simp] theorem x61_esz : esz Tryz.prog 61 = none := nr (by kernel_rfl)
@[simp] theorem x61_isAggT : isAggT Tryz.prog 61 = some true := nr (by kernel_rfl)
@[simp] theorem x61_tsize : tsize Tryz.prog 61 = some 3 := nr (by kernel_rfl)
@[simp] theorem x61_notInt : notInt Tryz.prog 61 = true := nr (by kernel_rfl)
@[simp] theorem x61_isBytes : isBytes Tryz.prog 61 = false := nr (by kernel_rfl)
@[simp] theorem x61_alloc (H : List (Nat × (Nat × HB))) (d : Nat) : aalloc Tryz.prog H d 61 = some (.ptr d (nextVer H d) 0, upd H d (nextVer H d, .cells [.p (.int .u32 0), .p (.int .i32 0), .p (.int .u32 0)])) := nr (by kernel_rfl)
@[simp] theorem x61_build (H : List (Nat × (Nat × HB))) (ps : List (Nat × V)) : abuild Tryz.prog H 61 ps = (fillV (fun k => lookN [(0, 0), (0, 1), (1, 2)] k) H [.p (.int .u32 0), .p (.int .i32 0), .p (.int .u32 0)] ps).map mkAgg := nr (by kernel_rfl)
@[simp] theorem x61_f1 (x : V) : afield Tryz.prog 61 x 1 = fieldV true 0 1 x := nr (by kernel_rfl)
@[simp] theorem x61_fa1 (id ver off : Nat) : afieldAddr Tryz.prog 61 (.ptr id ver off) 1 = some (.ptr id ver (off + 0)) := nr (by kernel_rfl)
@[simp] theorem x61_fe1 (r : Row PV) (i j : Nat) : afieldAddr Tryz.prog 61 (.p (.eptr r i j)) 1 = some (.p (.eptr r i (j + 0))) := nr (by kernel_rfl)
@[simp] theorem x61_f2 (x : V) : afield Tryz.prog 61 x 2 = fieldV true 1 2 x := nr (by kernel_rfl)
@[simp] theorem x61_fa2 (id ver off : Nat) : afieldAddr Tryz.prog 61 (.ptr id ver off) 2 = some (.ptr id ver (off + 1)) := nr (by kernel_rfl)
@[simp] theorem x61_fe2 (r : Row PV) (i j : Nat) : afieldAddr Tryz.prog 61 (.p (.eptr r i j)) 2 = some (.p (.eptr r i (j + 1))) := nr (by kernel_rfl)
@[simp] theorem x64_isSlice : isSlice Tryz.prog 64 = false := nr (by kernel_rfl)
@[simp] theorem x64_isString : isString Tryz.prog 64 = false := nr (by kernel_rfl)
@[simp] theorem x64_arrLen : arrLen Tryz.prog 64 = none := nr (by kernel_rfl)
@[simp] theorem x64_esz : esz Tryz.prog 64 = none := nr (by kernel_rfl)
@[simp] theorem x64_isAggT : isAggT Tryz.prog 64 = some true := nr (by kernel_rfl)
@[simp] theorem x64_tsize : tsize Tryz.prog 64 = some 5 := nr (by kernel_rfl)
@[simp] theorem x64_notInt : notInt Tryz.prog 64 = true := nr (by kernel_rfl)
@[simp] theorem x64_isBytes : isBytes Tryz.prog 64 = false := nr (by kernel_rfl)
@[simp] theorem x64_alloc (H : List (Nat × (Nat × HB))) (d : Nat) : aalloc Tryz.prog H d 64 = some (.ptr d (nextVer H d) 0, upd H d (nextVer H d, .cells [.p (.int .u32 0), .p (.int .i32 0), .p (.int .u32 0), .p .iface0, .p (.sl (.vals 1 []) true)])) := nr (by kernel_rfl)
@[simp] theorem x64_build (H : List (Nat × (Nat × HB))) (ps : List (Nat × V)) : abuild Tryz.prog H 64 ps = (fillV (fun k => lookN [(0, 3), (3, 1), (4, 1)] k) H [.p (.int .u32 0), .p (.int .i32 0), .p (.int .u32 0), .p .iface0, .p (.sl (.vals 1 []) true)] ps).map mkAgg := nr (by kernel_rfl)
@[simp] theorem x64_f0 (x : V) : afield Tryz.prog 64 x 0 = fieldV true 0 3 x := nr (by kernel_rfl)
@[simp] theorem x64_fa0 (id ver off : Nat) : afieldAddr Tryz.prog 64 (.ptr id ver off) 0 = some (.ptr id ver (off + 0)) := nr (by kernel_rfl)
@[simp] theorem x64_fe0 (r : Row PV) (i j : Nat) : afieldAddr Tryz.prog 64 (.p (.eptr r i j)) 0 = some (.p (.eptr r i (j + 0))) := nr (by kernel_rfl)
@[simp] theorem x64_f1 (x : V) : afield Tryz.prog 64 x 1 = fieldV false 3 1 x := nr (by kernel_rfl)
@[simp] theorem x64_fa1 (id ver off : Nat) : afieldAddr Tryz.prog 64 (.ptr id ver off) 1 = some (.ptr id ver (off + 3)) := nr (by kernel_rfl)
@[simp] theorem x64_fe1 (r : Row PV) (i j : Nat) : afieldAddr Tryz.prog 64 (.p (.eptr r i j)) 1 = some (.p (.eptr r i (j + 3))) := nr (by kernel_rfl)
@[simp] theorem x64_f2 (x : V) : afield Tryz.prog 64 x 2 = fieldV false 4 1 x := nr (by kernel_rfl)
@[simp] theorem x64_fa2 (id ver off : Nat) : afieldAddr Tryz.prog 64 (.ptr id ver off) 2 = some (.ptr id ver (off + 4)) := nr (by kernel_rfl)
@[simp] theorem x64_fe2 (r : Row PV) (i j : Nat) : afieldAddr Tryz.prog 64 (.p (.eptr r i j)) 2 = some (.p (.eptr r i (j + 4))) := nr (by kernel_rfl)
@[simp] theorem x65_isSlice : isSlice Tryz.prog 65 = false := nr (by kernel_rfl)
@[simp] theorem x65_isString : isString Tryz.prog 65 = false := nr (by kernel_rfl)
@[simp] theorem x65_arrLen : arrLen Tryz.prog 65 = none := nr (by kernel_rfl)
@[simp] theorem x65_esz : esz Tryz.prog 65 = none := nr (by kernel_rfl)
@[simp] theorem x65_isAggT : isAggT Tryz.prog 65 = some true := nr (by kernel_rfl)
@[simp] theorem x65_tsize : tsize Tryz.prog 65 = some 5 := nr (by kernel_rfl)
@[simp] theorem x65_notInt : notInt Tryz.prog 65 = true := nr (by kernel_rfl)
@[simp] theorem x65_isBytes : isBytes Tryz.prog 65 = false := nr (by kernel_rfl)
@[simp] theorem x65_alloc (H : List (Nat × (Nat × HB))) (d : Nat) : aalloc Tryz.prog H d 65 = some (.ptr d (nextVer H d) 0, upd H d (nextVer H d, .cells [.p (.int .u32 0), .p (.int .i32 0), .p (.int .u32 0), .p .iface0, .p (.sl (.vals 1 []) true)])) := nr (by kernel_rfl)
@[simp] theorem x65_build (H : List (Nat × (Nat × HB))) (ps : List (Nat × V)) : abuild Tryz.prog H 65 ps = (fillV (fun k => lookN [(0, 3), (3, 1), (4, 1)] k) H [.p (.int .u32 0), .p (.int .i32 0), .p (.int .u32 0), .p .iface0, .p (.sl (.vals 1 []) true)] ps).map mkAgg := nr (by kernel_rfl)
@[simp] theorem x65_f0 (x : V) : afield Tryz.prog 65 x 0 = fieldV true 0 3 x := nr (by kernel_rfl)
@[simp] theorem x65_fa0 (id ver off : Nat) : afieldAddr Tryz.prog 65 (.ptr id ver off) 0 = some (.ptr id ver (off + 0)) := nr (by kernel_rfl)
@[simp] theorem x65_fe0 (r : Row PV) (i j : Nat) : afieldAddr Tryz.prog 65 (.p (.eptr r i j)) 0 = some (.p (.eptr r i (j + 0))) := nr (by kernel_rfl)
@[simp] theorem x65_f1 (x : V) : afield Tryz.prog 65 x 1 = fieldV false 3 1 x := nr (by kernel_rfl)
@[simp] theorem x65_fa1 (id ver off : Nat) : afieldAddr Tryz.prog 65 (.ptr id ver off) 1 = some (.ptr id ver (off + 3)) := nr (by kernel_rfl)
@[simp] theorem x65_fe1 (r : Row PV) (i j : Nat) : afieldAddr Tryz.prog 65 (.p (.eptr r i j)) 1 = some (.p (.eptr r i (j + 3))) := nr (by kernel_rfl)
@[simp] theorem x65_f2 (x : V) : afield Tryz.prog 65 x 2 = fieldV false 4 1 x := nr (by kernel_rfl)
@[simp] theorem x65_fa2 (id ver off : Nat) : afieldAddr Tryz.prog 65 (.ptr id ver off) 2 = some (.ptr id ver (off + 4)) := nr (by kernel_rfl)
@[simp] theorem x65_fe2 (r : Row PV) (i j : Nat) : afieldAddr Tryz.prog 65 (.p (.eptr r i j)) 2 = some (.p (.eptr r i (j + 4))) := nr (by kernel_rfl)
@[simp] theorem x68_us : udesc Tryz.prog 68 = some (.slice 21) := nr (by kernel_rfl)
@[simp] theorem x68_eq (x y : V) : eqNil Tryz.prog 68 x y = eqSl x y := eqNil_sl (e := 21) (by kernel_rfl) x y
@[simp] theorem x68_isSlice : isSlice Tryz.prog 68 = true := nr (by kernel_rfl)
@[simp] theorem x68_isString : isString Tryz.prog 68 = false := nr (by kernel_rfl)
@[simp] theorem x68_arrLen : arrLen Tryz.prog 68 = none := nr (by kernel_rfl)
@[simp] theorem x68_esz : esz Tryz.prog 68 = some 1 := nr (by kernel_rfl)
@[simp] theorem x68_isAggT : isAggT Tryz.prog 68 = some false := nr (by kernel_rfl)
@[simp] theorem x68_tsize : tsize Tryz.prog 68 = some 1 := nr (by kernel_rfl)
@[simp] theorem x68_notInt : notInt Tryz.prog 68 = true := nr (by kernel_rfl)
@[simp] theorem x68_isBytes : isBytes Tryz.prog 68 = false := nr (by kernel_rfl)
@[simp] theorem x68_row (T : List (Nat × Nat)) (d len : Nat) (ps : List (Nat × V)) : arowSlice Tryz.prog T d 68 len ps = if len * 1 ≤ 16777216 then rowFill (.ints .i32 []) 1 len d T (fillV (fun k => some (k * 1, 1)) [] (zrep len [.p (.int .i32 0)]) ps) else none := arowSlice_eq (P := Tryz.prog) (t := 68) (s := 1) (zl := [.p (.int .i32 0)]) (e := 21) (b := 4) (z := .int .i32 0) (by kernel_rfl) (by kernel_rfl) (by kernel_rfl) rfl T d len ps
@[simp] theorem x68_own (H : List (Nat × (Nat × HB))) (d len : Nat) (ps : List (Nat × V)) : abuildSlice Tryz.prog H d 68 len ps = if len * 1 ≤ 16777216 then (fillV (fun k => some (k * 1, 1)) H (zrep len [.p (.int .i32 0)]) ps).map fun l => (.own d (nextVer H d) 0 len len, upd H d (nextVer H d, mkHB l)) else none := abuildSlice_eq (P := Tryz.prog) (t := 68) (s := 1) (zl := [.p (.int .i32 0)]) (e := 21) (b := 4) (z := .int .i32 0) (by kernel_rfl) (by kernel_rfl) (by kernel_rfl) rfl H d len ps
@[simp] theorem x68_copy (H : List (Nat × (Nat × HB))) (id ver off len cap : Nat) (y : V) : acopy Tryz.prog H 68 (.own id ver off len cap) y = copyR ver off len 1 H id (look H id) (srcV H 1 y) := acopy_eq (e := 21) (b := 4) (z := .int .i32 0) (by kernel_rfl) H id ver off len cap y
@[simp] theorem x68_elem : elemInfo Tryz.prog 68 = some (21, 1, 4, .int .i32 0) := nr (by kernel_rfl)
@[simp] theorem x68_alloc (H : List (Nat × (Nat × HB))) (d : Nat) : aalloc Tryz.prog H d 68 = some (.ptr d (nextVer H d) 0, upd H d (nextVer H d, .cells [.p (.sl (.vals 1 []) true)])) := nr (by kernel_rfl)
@[simp] theorem x71_up : udesc Tryz.prog 71 = some (.pointer 5) := nr (by kernel_rfl)
@[simp] theorem x71_eq (x y : V) : eqNil Tryz.prog 71 x y = eqPt x y := eqNil_pt (e := 5) (by kernel_rfl) x y
@[simp] theorem x71_isSlice : isSlice Tryz.prog 71 = false := nr (by kernel_rfl)
@[simp] theorem x71_isString : isString Tryz.prog 71 = false := nr (by kernel_rfl)
@[simp] theorem x71_arrLen : arrLen Tryz.prog 71 = none := nr (by kernel_rfl)
@[simp] theorem x71_esz : esz Tryz.prog 71 = none := nr (by kernel_rfl)
@[simp] theorem x71_isAggT : isAggT Tryz.prog 71 = some false := nr (by kernel_rfl)
@[simp] theorem x71_tsize : tsize Tryz.prog 71 = some 1 := nr (by kernel_rfl)
@[simp] theorem x71_notInt : notInt Tryz.prog 71 = true := nr (by kernel_rfl)
@[simp] theorem x71_isBytes : isBytes Tryz.prog 71 = false := nr (by kernel_rfl)
@[simp] theorem x71_alloc (H : List (Nat × (Nat × HB))) (d : Nat) : aalloc Tryz.prog H d 71 = some (.ptr d (nextVer H d) 0, upd H d (nextVer H d, .cells [.p .ptr0])) := nr (by kernel_rfl)
@[simp] theorem x77_up : udesc Tryz.prog 77 = some (.pointer 61) := nr (by kernel_rfl)
@[simp] theorem x77_eq (x y : V) : eqNil Tryz.prog 77 x y = eqPt x y := eqNil_pt (e := 61) (by kernel_rfl) x y
@[simp] theorem x77_isSlice : isSlice Tryz.prog 77 = false := nr (by kernel_rfl)
@[simp] theorem x77_isString : isString Tryz.prog 77 = false := nr (by kernel_rfl)
@[simp] theorem x77_arrLen : arrLen Tryz.prog 77 = none := nr (by kernel_rfl)
@[simp] theorem x77_esz : esz Tryz.prog 77 = none := nr (by kernel_rfl)
@[simp] theorem x77_isAggT : isAggT Tryz.prog 77 = some false := nr (by kernel_rfl)
@[simp] theorem x77_tsize : tsize Tryz.prog 77 = some 1 := nr (by kernel_rfl)
@[simp] theorem x77_notInt : notInt Tryz.prog 77 = true := nr (by kernel_rfl)
@[simp] theorem x77_isBytes : isBytes Tryz.prog 77 = false := nr (by kernel_rfl)
@[simp] theorem x77_alloc (H : List (Nat × (Nat × HB))) (d : Nat) : aalloc Tryz.prog H d 77 = some (.ptr d (nextVer H d) 0, upd H d (nextVer H d, .cells [.p .ptr0])) := nr (by kernel_rfl)
@[simp] theorem x85_u : udesc Tryz.prog 85 = some (.int .u64) := nr (by kernel_rfl)
@[simp] theorem x85_isSlice : isSlice Tryz.prog 85 = false := nr (by kernel_rfl)
@[simp] theorem x85_isString : isString Tryz.prog 85 = false := nr (by kernel_rfl)
@[simp] theorem x85_arrLen : arrLen Tryz.prog 85 = none := nr (by kernel_rfl)
@[simp] theorem x85_esz : esz Tryz.prog 85 = none := nr (by kernel_rfl)
@[simp] theorem x85_isAggT : isAggT Tryz.prog 85 = some false := nr (by kernel_rfl)
@[simp] theorem x85_tsize : tsize Tryz.prog 85 = some 1 := nr (by kernel_rfl)
@[simp] theorem x85_notInt : notInt Tryz.prog 85 = false := nr (by kernel_rfl)
@[simp] theorem x85_isBytes : isBytes Tryz.prog 85 = false := nr (by kernel_rfl)
@[simp] theorem x85_alloc (H : List (Nat × (Nat × HB))) (d : Nat) : aalloc Tryz.prog H d 85 = some (.ptr d (nextVer H d) 0, upd H d (nextVer H d, .row (.ints .u64 [0]))) := nr (by kernel_rfl)
@[simp] theorem x90_up : udesc Tryz.prog 90 = some (.pointer 55) := nr (by kernel_rfl)
@[simp] theorem x90_eq (x y : V) : eqNil Tryz.prog 90 x y = eqPt x y := eqNil_pt (e := 55) (by kernel_rfl) x y
@[simp] theorem x90_isSlice : isSlice Tryz.prog 90 = false := nr (by kernel_rfl)
@[simp] theorem x90_isString : isString Tryz.prog 90 = false := nr (by kernel_rfl)
@[simp] theorem x90_arrLen : arrLen Tryz.prog 90 = none := nr (by kernel_rfl)
@[simp] theorem x90_esz : esz Tryz.prog 90 = none := nr (by kernel_rfl)
@[simp] theorem x90_isAggT : isAggT Tryz.prog 90 = some false := nr (by kernel_rfl)
@[simp] theorem x90_tsize : tsize Tryz.prog 90 = some 1 := nr (by kernel_rfl)
@[simp] theorem x90_notInt : notInt Tryz.prog 90 = true := nr (by kernel_rfl)
@[simp] theorem x90_isBytes : isBytes Tryz.prog 90 = false := nr (by kernel_rfl)
@[simp] theorem x90_alloc (H : List (Nat × (Nat × HB))) (d : Nat) : aalloc Tryz.prog H d 90 = some (.ptr d (nextVer H d) 0, upd H d (nextVer H d, .cells [.p .ptr0])) := nr (by kernel_rfl)
@[simp] theorem x92_up : udesc Tryz.prog 92 = some (.pointer 36) := nr (by kernel_rfl)
@[simp] theorem x92_eq (x y : V) : eqNil Tryz.prog 92 x y = eqPt x y := eqNil_pt (e := 36) (by kernel_rfl) x y
@[simp] theorem x92_isSlice : isSlice Tryz.prog 92 = false := nr (by kernel_rfl)
@[simp] theorem x92_isString : isString Tryz.prog 92 = false := nr (by kernel_rfl)
@[simp] theorem x92_arrLen : arrLen Tryz.prog 92 = none := nr (by kernel_rfl)
@[simp] theorem x92_esz : esz Tryz.prog 92 = none := nr (by kernel_rfl)
@[simp] theorem x92_isAggT : isAggT Tryz.prog 92 = some false := nr (by kernel_rfl)
@[simp] theorem x92_tsize : tsize Tryz.prog 92 = some 1 := nr (by kernel_rfl)
@[simp] theorem x92_notInt : notInt Tryz.prog 92 = true := nr (by kernel_rfl)
@[simp] theorem x92_isBytes : isBytes Tryz.prog 92 = false := nr (by kernel_rfl)
@[simp] theorem x92_alloc (H : List (Nat × (Nat × HB))) (d : Nat) : aalloc Tryz.prog H d 92 = some (.ptr d (nextVer H d) 0, upd H d (nextVer H d, .cells [.p .ptr0])) := nr (by kernel_rfl)
@[simp] theorem x94_up : udesc Tryz.prog 94 = some (.pointer 114) := nr (by kernel_rfl)
@[simp] theorem x94_eq (x y : V) : eqNil Tryz.prog 94 x y = eqPt x y := eqNil_pt (e := 114) (by kernel_rfl) x y
@[simp] theorem x94_isSlice : isSlice Tryz.prog 94 = false := nr (by kernel_rfl)
@[simp] theorem x94_isString : isString Tryz.prog 94 = false := nr (by kernel_rfl)
@[simp] theorem x94_arrLen : arrLen Tryz.prog 94 = none := nr (by kernel_rfl)
@[simp] theorem x94_esz : esz Tryz.prog 94 = none := nr (by kernel_rfl)
@[simp] theorem x94_isAggT : isAggT Tryz.prog 94 = some false := nr (by kernel_rfl)
@[simp] theorem x94_tsize : tsize Tryz.prog 94 = some 1 := nr (by kernel_rfl)
@[simp] theorem x94_notInt : notInt Tryz.prog 94 = true := nr (by kernel_rfl)
@[simp] theorem x94_isBytes : isBytes Tryz.prog 94 = false := nr (by kernel_rfl)
@[simp] theorem x94_alloc (H : List (Nat × (Nat × HB))) (d : Nat) : aalloc Tryz.prog H d 94 = some (.ptr d (nextVer H d) 0, upd H d (nextVer H d, .cells [.p .ptr0])) := nr (by kernel_rfl)
@[simp] theorem x96_up : udesc Tryz.prog 96 = some (.pointer 120) := nr (by kernel_rfl)
@[simp] theorem x96_eq (x y : V) : eqNil Tryz.prog 96 x y = eqPt x y := eqNil_pt (e := 120) (by kernel_rfl) x y
@[simp] theorem x96_isSlice : isSlice Tryz.prog 96 = false := nr (by kernel_rfl)
@[simp] theorem x96_isString : isString Tryz.prog 96 = false := nr (by kernel_rfl)
@[simp] theorem x96_arrLen : arrLen Tryz.prog 96 = none := nr (by kernel_rfl)
@[simp] theorem x96_esz : esz Tryz.prog 96 = none := nr (by kernel_rfl)
@[simp] theorem x96_isAggT : isAggT Tryz.prog 96 = some false := nr (by kernel_rfl)
@[simp] theorem x96_tsize : tsize Tryz.prog 96 = some 1 := nr (by kernel_rfl)
@[simp] theorem x96_notInt : notInt Tryz.prog 96 = true := nr (by kernel_rfl)
@[simp] theorem x96_isBytes : isBytes Tryz.prog 96 = false := nr (by kernel_rfl)
@[simp] theorem x96_alloc (H : List (Nat × (Nat × HB))) (d : Nat) : aalloc Tryz.prog H d 96 = some (.ptr d (nextVer H d) 0, upd H d (nextVer H d, .cells [.p .ptr0])) := nr (by kernel_rfl)
@[simp] theorem x98_eq (a b : List Int) (ha : a.length = 256) (hb : b.length = 256) : eqNil Tryz.prog 98 (.p (.agg (.ints .u8 a))) (.p (.agg (.ints .u8 b))) = some (a == b) := eqNil_arr (n := 256) (e := 5) (by kernel_rfl) (by kernel_rfl) (by kernel_rfl) (by kernel_rfl) a b ha hb
@[simp] theorem x98_eqb (a b : List (BitVec 8)) (ha : a.length = 256) (hb : b.length = 256) : eqNil Tryz.prog 98 (.p (.agg (bl a))) (.p (.agg (bl b))) = some (a == b) := eqNil_bytes (n := 256) (e := 5) (by kernel_rfl) (by kernel_rfl) (by kernel_rfl) (by kernel_rfl) a b ha hb
@[simp] theorem x98_isSlice : isSlice Tryz.prog 98 = false := nr (by kernel_rfl)
@[simp] theorem x98_isString : isString Tryz.prog 98 = false := nr (by kernel_rfl)
@[simp] theorem x98_arrLen : arrLen Tryz.prog 98 = some 256 := nr (by kernel_rfl)
@[simp] theorem x98_esz : esz Tryz.prog 98 = some 1 := nr (by kernel_rfl)
@[simp] theorem x98_isAggT : isAggT Tryz.prog 98 = some true := nr (by kernel_rfl)
@[simp] theorem x98_tsize : tsize Tryz.prog 98 = some 256 := nr (by kernel_rfl)
@[simp] theorem x98_notInt : notInt Tryz.prog 98 = true := nr (by kernel_rfl)
@[simp] theorem x98_isBytes : isBytes Tryz.prog 98 = false := nr (by kernel_rfl)
@[simp] theorem x98_arrElem : arrElem Tryz.prog 98 = some 256 := nr (by kernel_rfl)
@[simp] theorem x99_eq (a b : List Int) (ha : a.length = 256) (hb : b.length = 256) : eqNil Tryz.prog 99 (.p (.agg (.ints .u8 a))) (.p (.agg (.ints .u8 b))) = some (a == b) := eqNil_arr (n := 256) (e := 5) (by kernel_rfl) (by kernel_rfl) (by kernel_rfl) (by kernel_rfl) a b ha hb
@[simp] theorem x99_eqb (a b : List (BitVec 8)) (ha : a.length = 256) (hb : b.length = 256) : eqNil Tryz.prog 99 (.p (.agg (bl a))) (.p (.agg (bl b))) = some (a == b) := eqNil_bytes (n := 256) (e := 5) (by kernel_rfl) (by kernel_rfl) (by kernel_rfl) (by kernel_rfl) a b ha hb
@[simp] theorem x99_isSlice : isSlice Tryz.prog 99 = false := nr (by kernel_rfl)
@[simp] theorem x99_isString : isString Tryz.prog 99 = false := nr (by kernel_rfl)
@[simp] theorem x99_arrLen : arrLen Tryz.prog 99 = some 256 := nr (by kernel_rfl)
@[simp] theorem x99_esz : esz Tryz.prog 99 = some 1 := nr (by kernel_rfl)
@[simp] theorem x99_isAggT : isAggT Tryz.prog 99 = some true := nr (by kernel_rfl)
@[simp] theorem x99_tsize : tsize Tryz.prog 99 = some 256 := nr (by kernel_rfl)
@[simp] theorem x99_notInt : notInt Tryz.prog 99 = true := nr (by kernel_rfl)
@[simp] theorem x99_isBytes : isBytes Tryz.prog 99 = false := nr (by kernel_rfl)
@[simp] theorem x99_arrElem : arrElem Tryz.prog 99 = some 256 := nr (by kernel_rfl)
@[simp] theorem x100_up : udesc Tryz.prog 100 = some (.pointer 99) := nr (by kernel_rfl)
@[simp] theorem x100_eq (x y : V) : eqNil Tryz.prog 100 x y = eqPt x y := eqNil_pt (e := 99) (by kernel_rfl) x y
@[simp] theorem x100_isSlice : isSlice Tryz.prog 100 = false := nr (by kernel_rfl)
@[simp] theorem x100_isString : isString Tryz.prog 100 = false := nr (by kernel_rfl)
@[simp] theorem x100_arrLen : arrLen Tryz.prog 100 = none := nr (by kernel_rfl)
@[simp] theorem x100_esz : esz Tryz.prog 100 = none := nr (by kernel_rfl)
@[simp] theorem x100_isAggT : isAggT Tryz.prog 100 = some false := nr (by kernel_rfl)
@[simp] theorem x100_tsize : tsize Tryz.prog 100 = some 1 := nr (by kernel_rfl)
@[simp] theorem x100_notInt : notInt Tryz.prog 100 = true := nr (by kernel_rfl)
@[simp] theorem x100_isBytes : isBytes Tryz.prog 100 = false := nr (by kernel_rfl)
@[simp] theorem x100_alloc (H : List (Nat × (Nat × HB))) (d : Nat) : aalloc Tryz.prog H d 100 = some (.ptr d (nextVer H d) 0, upd H d (nextVer H d, .cells [.p .ptr0])) := nr (by kernel_rfl)
@[simp] theorem x101_isSlice : isSlice Tryz.prog 101 = false := nr (by kernel_rfl)
@[simp] theorem x101_isString : isString Tryz.prog 101 = false := nr (by kernel_rfl)
@[simp] theorem x101_arrLen : arrLen Tryz.prog 101 = some 256 := nr (by kernel_rfl)
@[simp] theorem x101_esz : esz Tryz.prog 101 = some 1 := nr (by kernel_rfl)
@[simp] theorem x101_isAggT : isAggT Tryz.prog 101 = some true := nr (by kernel_rfl)
@[simp] theorem x101_tsize : tsize Tryz.prog 101 = some 256 := nr (by kernel_rfl)
@[simp] theorem x101_notInt : notInt Tryz.prog 101 = true := nr (by kernel_rfl)
@[simp] theorem x101_isBytes : isBytes Tryz.prog 101 = false := nr (by kernel_rfl)
@[simp] theorem x101_arrElem : arrElem Tryz.prog 101 = some 256 := nr (by kernel_rfl)
@[simp] theorem x102_isSlice : isSlice Tryz.prog 102 = false := nr (by kernel_rfl)
@[simp] theorem x102_isString : isString Tryz.prog 102 = false := nr (by kernel_rfl)
@[simp] theorem x102_arrLen : arrLen Tryz.prog 102 = none := nr (by kernel_rfl)
@[simp] theorem x102_esz : esz Tryz.prog 102 = none := nr (by kernel_rfl)
@[simp] theorem x102_isAggT : isAggT Tryz.prog 102 = some true := nr (by kernel_rfl)
@[simp] theorem x102_tsize : tsize Tryz.prog 102 = some 257 := nr (by kernel_rfl)
@[simp] theorem x102_notInt : notInt Tryz.prog 102 = true := nr (by kernel_rfl)
@[simp] theorem x102_isBytes : isBytes Tryz.prog 102 = false := nr (by kernel_rfl)
@[simp] theorem x102_f0 (x : V) : afield Tryz.prog 102 x 0 = fieldV true 0 256 x := nr (by kernel_rfl)
@[simp] theorem x102_fa0 (id ver off : Nat) : afieldAddr Tryz.prog 102 (.ptr id ver off) 0 = some (.ptr id ver (off + 0)) := nr (by kernel_rfl)
@[simp] theorem x102_fe0 (r : Row PV) (i j : Nat) : afieldAddr Tryz.prog 102 (.p (.eptr r i j)) 0 = some (.p (.eptr r i (j + 0))) := nr (by kernel_rfl)
@[simp] theorem x102_f1 (x : V) : afield Tryz.prog 102 x 1 = fieldV false 256 1 x := nr (by kernel_rfl)
@[simp] theorem x102_fa1 (id ver off : Nat) : afieldAddr Tryz.prog 102 (.ptr id ver off) 1 = some (.ptr id ver (off + 256)) := nr (by kernel_rfl)
@[simp] theorem x102_fe1 (r : Row PV) (i j : Nat) : afieldAddr Tryz.prog 102 (.p (.eptr r i j)) 1 = some (.p (.eptr r i (j + 256))) := nr (by kernel_rfl)
@[simp] theorem x103_isSlice : isSlice Tryz.prog 103 = false := nr (by kernel_rfl)
@[simp] theorem x103_isString : isString Tryz.prog 103 = false := nr (by kernel_rfl)
@[simp] theorem x103_arrLen : arrLen Tryz.prog 103 = none := nr (by kernel_rfl)
@[simp] theorem x103_esz : esz Tryz.prog 103 = none := nr (by kernel_rfl)
@[simp] theorem x103_isAggT : isAggT Tryz.prog 103 = some true := nr (by kernel_rfl)
@[simp] theorem x103_tsize : tsize Tryz.prog 103 = some 257 := nr (by kernel_rfl)
@[simp] theorem x103_notInt : notInt Tryz.prog 103 = true := nr (by kernel_rfl)
@[simp] theorem x103_isBytes : isBytes Tryz.prog 103 = false := nr (by kernel_rfl)
@[simp] theorem x103_f0 (x : V) : afield Tryz.prog 103 x 0 = fieldV true 0 256 x := nr (by kernel_rfl)
@[simp] theorem x103_fa0 (id ver off : Nat) : afieldAddr Tryz.prog 103 (.ptr id ver off) 0 = some (.ptr id ver (off + 0)) := nr (by kernel_rfl)
@[simp] theorem x103_fe0 (r : Row PV) (i j : Nat) : afieldAddr Tryz.prog 103 (.p (.eptr r i j)) 0 = some (.p (.eptr r i (j + 0))) := nr (by kernel_rfl)
@[simp] theorem x103_f1 (x : V) : afield Tryz.prog 103 x 1 = fieldV false 256 1 x := nr (by kernel_rfl)
@[simp] theorem x103_fa1 (id ver off : Nat) : afieldAddr Tryz.prog 103 (.ptr id ver off) 1 = some (.ptr id ver (off + 256)) := nr (by kernel_rfl)
@[simp] theorem x103_fe1 (r : Row PV) (i j : Nat) : afieldAddr Tryz.prog 103 (.p (.eptr r i j)) 1 = some (.p (.eptr r i (j + 256))) := nr (by kernel_rfl)
@[simp] theorem x104_up : udesc Tryz.prog 104 = some (.pointer 103) := nr (by kernel_rfl)
@[simp] theorem x104_eq (x y : V) : eqNil Tryz.prog 104 x y = eqPt x y := eqNil_pt (e := 103) (by kernel_rfl) x y
@[simp] theorem x104_isSlice : isSlice Tryz.prog 104 = false := nr (by kernel_rfl)
@[simp] theorem x104_isString : isString Tryz.prog 104 = false := nr (by kernel_rfl)
@[simp] theorem x104_arrLen : arrLen Tryz.prog 104 = none := nr (by kernel_rfl)
@[simp] theorem x104_esz : esz Tryz.prog 104 = none := nr (by kernel_rfl)
@[simp] theorem x104_isAggT : isAggT Tryz.prog 104 = some false := nr (by kernel_rfl)
@[simp] theorem x104_tsize : tsize Tryz.prog 104 = some 1 := nr (by kernel_rfl)
@[simp] theorem x104_notInt : notInt Tryz.prog 104 = true := nr (by kernel_rfl)
@[simp] theorem x104_isBytes : isBytes Tryz.prog 104 = false := nr (by kernel_rfl)
@[simp] theorem x104_alloc (H : List (Nat × (Nat × HB))) (d : Nat) : aalloc Tryz.prog H d 104 = some (.ptr d (nextVer H d) 0, upd H d (nextVer H d, .cells [.p .ptr0])) := nr (by kernel_rfl)
@[simp] theorem x108_up : udesc Tryz.prog 108 = some (.pointer 59) := nr (by kernel_rfl)
@[simp] theorem x108_eq (x y : V) : eqNil Tryz.prog 108 x y = eqPt x y := eqNil_pt (e := 59) (by kernel_rfl) x y
@[simp] theorem x108_isSlice : isSlice Tryz.prog 108 = false := nr (by kernel_rfl)
@[simp] theorem x108_isString : isString Tryz.prog 108 = false := nr (by kernel_rfl)
@[simp] theorem x108_arrLen : arrLen Tryz.prog 108 = none := nr (by kernel_rfl)
@[simp] theorem x108_esz : esz Tryz.prog 108 = none := nr (by kernel_rfl)
@[simp] theorem x108_isAggT : isAggT Tryz.prog 108 = some false := nr (by kernel_rfl)
@[simp] theorem x108_tsize : tsize Tryz.prog 108 = some 1 := nr (by kernel_rfl)
@[simp] theorem x108_notInt : notInt Tryz.prog 108 = true := nr (by kernel_rfl)
@[simp] theorem x108_isBytes : isBytes Tryz.prog 108 = false := nr (by kernel_rfl)
@[simp] theorem x108_alloc (H : List (Nat × (Nat × HB))) (d : Nat) : aalloc Tryz.prog H d 108 = some (.ptr d (nextVer H d) 0, upd H d (nextVer H d, .cells [.p .ptr0])) := nr (by kernel_rfl)
@[simp] theorem x111_up : udesc Tryz.prog 111 = some (.pointer 137) := nr (by kernel_rfl)
@[simp] theorem x111_eq (x y : V) : eqNil Tryz.prog 111 x y = eqPt x y := eqNil_pt (e := 137) (by kernel_rfl) x y
@[simp] theorem x111_isSlice : isSlice Tryz.prog 111 = false := nr (by kernel_rfl)
@[simp] theorem x111_isString : isString Tryz.prog 111 = false := nr (by kernel_rfl)
@[simp] theorem x111_arrLen : arrLen Tryz.prog 111 = none := nr (by kernel_rfl)
@[simp] theorem x111_esz : esz Tryz.prog 111 = none := nr (by kernel_rfl)
@[simp] theorem x111_isAggT : isAggT Tryz.prog 111 = some false := nr (by kernel_rfl)
@[simp] theorem x111_tsize : tsize Tryz.prog 111 = some 1 := nr (by kernel_rfl)
@[simp] theorem x111_notInt : notInt Tryz.prog 111 = true := nr (by kernel_rfl)
@[simp] theorem x111_isBytes : isBytes Tryz.prog 111 = false := nr (by kernel_rfl)
@[simp] theorem x111_alloc (H : List (Nat × (Nat × HB))) (d : Nat) : aalloc Tryz.prog H d 111 = some (.ptr d (nextVer H d) 0, upd H d (nextVer H d, .cells [.p .ptr0])) := nr (by kernel_rfl)
@[simp] theorem x113_isSlice : isSlice Tryz.prog 113 = false := nr (by kernel_rfl)
@[simp] theorem x113_isString : isString Tryz.prog 113 = false := nr (by kernel_rfl)
@[simp] theorem x113_arrLen : arrLen Tryz.prog 113 = none := nr (by kernel_rfl)
@[simp] theorem x113_esz : esz Tryz.prog 113 = none := nr (by kernel_rfl)
@[simp] theorem x113_isAggT : isAggT Tryz.prog 113 = some true := nr (by kernel_rfl)
@[simp] theorem x113_tsize : tsize Tryz.prog 113 = some 2 := nr (by kernel_rfl)
@[simp] theorem x113_notInt : notInt Tryz.prog 113 = true := nr (by kernel_rfl)
@[simp] theorem x113_isBytes : isBytes Tryz.prog 113 = false := nr (by kernel_rfl)
@[simp] theorem x113_alloc (H : List (Nat × (Nat × HB))) (d : Nat) : aalloc Tryz.prog H d 113 = some (.ptr d (nextVer H d) 0, upd H d (nextVer H d, .cells [.p .ptr0, .p (.str ByteArray.empty)])) := nr (by kernel_rfl)
@[simp] theorem x113_build (H : List (Nat × (Nat × HB))) (ps : List (Nat × V)) : abuild Tryz.prog H 113 ps = (fillV (fun k => lookN [(0, 1), (1, 1)] k) H [.p .ptr0, .p (.str ByteArray.empty)] ps).map mkAgg := nr (by kernel_rfl)
@[simp] theorem x113_f0 (x : V) : afield Tryz.prog 113 x 0 = fieldV false 0 1 x := nr (by kernel_rfl)
@[simp] theorem x113_fa0 (id ver off : Nat) : afieldAddr Tryz.prog 113 (.ptr id ver off) 0 = some (.ptr id ver (off + 0)) := nr (by kernel_rfl)
@[simp] theorem x113_fe0 (r : Row PV) (i j : Nat) : afieldAddr Tryz.prog 113 (.p (.eptr r i j)) 0 = some (.p (.eptr r i (j + 0))) := nr (by kernel_rfl)
@[simp] theorem x113_f1 (x : V) : afield Tryz.prog 113 x 1 = fieldV false 1 1 x := nr (by kernel_rfl)
@[simp] theorem x113_fa1 (id ver off : Nat) : afieldAddr Tryz.prog 113 (.ptr id ver off) 1 = some (.ptr id ver (off + 1)) := nr (by kernel_rfl)
@[simp] theorem x113_fe1 (r : Row PV) (i j : Nat) : afieldAddr Tryz.prog 113 (.p (.eptr r i j)) 1 = some (.p (.eptr r i (j + 1))) := nr (by kernel_rfl)
@[simp] theorem x114_isSlice : isSlice Tryz.prog 114 = false := nr (by kernel_rfl)
@[simp] theorem x114_isString : isString Tryz.prog 114 = false := nr (by kernel_rfl)
@[simp] theorem x114_arrLen : arrLen Tryz.prog 114 = none := nr (by kernel_rfl)
@[simp] theorem x114_esz : esz Tryz.prog 114 = none := nr (by kernel_rfl)
@[simp] theorem x114_isAggT : isAggT Tryz.prog 114 = some true := nr (by kernel_rfl)
@[simp] theorem x114_tsize : tsize Tryz.prog 114 = some 2 := nr (by kernel_rfl)
@[simp] theorem x114_notInt : notInt Tryz.prog 114 = true := nr (by kernel_rfl)
@[simp] theorem x114_isBytes : isBytes Tryz.prog 114 = false := nr (by kernel_rfl)
@[simp] theorem x114_alloc (H : List (Nat × (Nat × HB))) (d : Nat) : aalloc Tryz.prog H d 114 = some (.ptr d (nextVer H d) 0, upd H d (nextVer H d, .cells [.p .ptr0, .p (.str ByteArray.empty)])) := nr (by kernel_rfl)
@[simp] theorem x114_build (H : List (Nat × (Nat × HB))) (ps : List (Nat × V)) : abuild Tryz.prog H 114 ps = (fillV (fun k => lookN [(0, 1), (1, 1)] k) H [.p .ptr0, .p (.str ByteArray.empty)] ps).map mkAgg := nr (by kernel_rfl)
@[simp] theorem x114_f0 (x : V) : afield Tryz.prog 114 x 0 = fieldV false 0 1 x := nr (by kernel_rfl)
@[simp] theorem x114_fa0 (id ver off : Nat) : afieldAddr Tryz.prog 114 (.ptr id ver off) 0 = some (.ptr id ver (off + 0)) := nr (by kernel_rfl)
@[simp] theorem x114_fe0 (r : Row PV) (i j : Nat) : afieldAddr Tryz.prog 114 (.p (.eptr r i j)) 0 = some (.p (.eptr r i (j + 0))) := nr (by kernel_rfl)
@[simp] theorem x114_f1 (x : V) : afield Tryz.prog 114 x 1 = fieldV false 1 1 x := nr (by kernel_rfl)
@[simp] theorem x114_fa1 (id ver off : Nat) : afieldAddr Tryz.prog 114 (.ptr id ver off) 1 = some (.ptr id ver (off + 1)) := nr (by kernel_rfl)
@[simp] theorem x114_fe1 (r : Row PV) (i j : Nat) : afieldAddr Tryz.prog 114 (.p (.eptr r i j)) 1 = some (.p (.eptr r i (j + 1))) := nr (by kernel_rfl)
@[simp] theorem x115_up : udesc Tryz.prog 115 = some (.pointer 118) := nr (by kernel_rfl)
@[simp] theorem x115_eq (x y : V) : eqNil Tryz.prog 115 x y = eqPt x y := eqNil_pt (e := 118) (by kernel_rfl) x y
@[simp] theorem x115_isSlice : isSlice Tryz.prog 115 = false := nr (by kernel_rfl)
@[simp] theorem x115_isString : isString Tryz.prog 115 = false := nr (by kernel_rfl)
@[simp] theorem x115_arrLen : arrLen Tryz.prog 115 = none := nr (by kernel_rfl)
@[simp] theorem x115_esz : esz Tryz.prog 115 = none := nr (by kernel_rfl)
@[simp] theorem x115_isAggT : isAggT Tryz.prog 115 = some false := nr (by kernel_rfl)
@[simp] theorem x115_tsize : tsize Tryz.prog 115 = some 1 := nr (by kernel_rfl)
@[simp] theorem x115_notInt : notInt Tryz.prog 115 = true := nr (by kernel_rfl)
@[simp] theorem x115_isBytes : isBytes Tryz.prog 115 = false := nr (by kernel_rfl)
@[simp] theorem x115_alloc (H : List (Nat × (Nat × HB))) (d : Nat) : aalloc Tryz.prog H d 115 = some (.ptr d (nextVer H d) 0, upd H d (nextVer H d, .cells [.p .ptr0])) := nr (by kernel_rfl)
@[simp] theorem x116_us : udesc Tryz.prog 116 = some (.slice 115) := nr (by kernel_rfl)
@[simp] theorem x116_eq (x y : V) : eqNil Tryz.prog 116 x y = eqSl x y := eqNil_sl (e := 115) (by kernel_rfl) x y
@[simp] theorem x116_isSlice : isSlice Tryz.prog 116 = true := nr (by kernel_rfl)
@[simp] theorem x116_isString : isString Tryz.prog 116 = false := nr (by kernel_rfl)
@[simp] theorem x116_arrLen : arrLen Tryz.prog 116 = none := nr (by kernel_rfl)
@[simp] theorem x116_esz : esz Tryz.prog 116 = some 1 := nr (by kernel_rfl)
@[simp] theorem x116_isAggT : isAggT Tryz.prog 116 = some false := nr (by kernel_rfl)
@[simp] theorem x116_tsize : tsize Tryz.prog 116 = some 1 := nr (by kernel_rfl)
@[simp] theorem x116_notInt : notInt Tryz.prog 116 = true := nr (by kernel_rfl)
@[simp] theorem x116_isBytes : isBytes Tryz.prog 116 = false := nr (by kernel_rfl)
@[simp] theorem x116_row (T : List (Nat × Nat)) (d len : Nat) (ps : List (Nat × V)) : arowSlice Tryz.prog T d 116 len ps = if len * 1 ≤ 16777216 then rowFill (.vals 1 []) 1 len d T (fillV (fun k => some (k * 1, 1)) [] (zrep len [.p .ptr0]) ps) else none := arowSlice_eq (P := Tryz.prog) (t := 116) (s := 1) (zl := [.p .ptr0]) (e := 115) (b := 8) (z := .pointer none) (by kernel_rfl) (by kernel_rfl) (by kernel_rfl) rfl T d len ps
@[simp] theorem x116_own (H : List (Nat × (Nat × HB))) (d len : Nat) (ps : List (Nat × V)) : abuildSlice Tryz.prog H d 116 len ps = if len * 1 ≤ 16777216 then (fillV (fun k => some (k * 1, 1)) H (zrep len [.p .ptr0]) ps).map fun l => (.own d (nextVer H d) 0 len len, upd H d (nextVer H d, mkHB l)) else none := abuildSlice_eq (P := Tryz.prog) (t := 116) (s := 1) (zl := [.p .ptr0]) (e := 115) (b := 8) (z := .pointer none) (by kernel_rfl) (by kernel_rfl) (by kernel_rfl) rfl H d len ps
@[simp] theorem x116_copy (H : List (Nat × (Nat × HB))) (id ver off len cap : Nat) (y : V) : acopy Tryz.prog H 116 (.own id ver off len cap) y = copyR ver off len 1 H id (look H id) (srcV H 1 y) := acopy_eq (e := 115) (b := 8) (z := .pointer none) (by kernel_rfl) H id ver off len cap y
@[simp] theorem x116_elem : elemInfo Tryz.prog 116 = some (115, 1, 8, .pointer none) := nr (by kernel_rfl)
@[simp] theorem x116_alloc (H : List (Nat × (Nat × HB))) (d : Nat) : aalloc Tryz.prog H d 116 = some (.ptr d (nextVer H d) 0, upd H d (nextVer H d, .cells [.p (.sl (.vals 1 []) true)])) := nr (by kernel_rfl)
@[simp] theorem x117_isSlice : isSlice Tryz.prog 117 = false := nr (by kernel_rfl)
@[simp] theorem x117_isString : isString Tryz.prog 117 = false := nr (by kernel_rfl)
@[simp] theorem x117_arrLen : arrLen Tryz.prog 117 = none := nr (by kernel_rfl)
@[simp] theorem x117_esz : esz Tryz.prog 117 = none := nr (by kernel_rfl)
@[simp] theorem x117_isAggT : isAggT Tryz.prog 117 = some true := nr (by kernel_rfl)
@[simp] theorem x117_tsize : tsize Tryz.prog 117 = some 5 := nr (by kernel_rfl)
@[simp] theorem x117_notInt : notInt Tryz.prog 117 = true := nr (by kernel_rfl)
@[simp] theorem x117_isBytes : isBytes Tryz.prog 117 = false := nr (by kernel_rfl)
@[simp] theorem x117_alloc (H : List (Nat × (Nat × HB))) (d : Nat) : aalloc Tryz.prog H d 117 = some (.ptr d (nextVer H d) 0, upd H d (nextVer H d, .cells [.p (.str ByteArray.empty), .p (.int .i64 0), .p (.str ByteArray.empty), .p .ptr0, .p (.sl (.vals 1 []) true)])) := nr (by kernel_rfl)
@[simp] theorem x117_build (H : List (Nat × (Nat × HB))) (ps : List (Nat × V)) : abuild Tryz.prog H 117 ps = (fillV (fun k => lookN [(0, 1), (1, 1), (2, 1), (3, 1), (4, 1)] k) H [.p (.str ByteArray.empty), .p (.int .i64 0), .p (.str ByteArray.empty), .p .ptr0, .p (.sl (.vals 1 []) true)] ps).map mkAgg := nr (by kernel_rfl)
@[simp] theorem x117_f0 (x : V) : afield Tryz.prog 117 x 0 = fieldV false 0 1 x := nr (by kernel_rfl)
@[simp] theorem x117_fa0 (id ver off : Nat) : afieldAddr Tryz.prog 117 (.ptr id ver off) 0 = some (.ptr id ver (off + 0)) := nr (by kernel_rfl)
@[simp] theorem x117_fe0 (r : Row PV) (i j : Nat) : afieldAddr Tryz.prog 117 (.p (.eptr r i j)) 0 = some (.p (.eptr r i (j + 0))) := nr (by kernel_rfl)
@[simp] theorem x117_f1 (x : V) : afield Tryz.prog 117 x 1 = fieldV false 1 1 x := nr (by kernel_rfl)
@[simp] theorem x117_fa1 (id ver off : Nat) : afieldAddr Tryz.prog 117 (.ptr id ver off) 1 = some (.ptr id ver (off + 1)) := nr (by kernel_rfl)
@[simp] theorem x117_fe1 (r : Row PV) (i j : Nat) : afieldAddr Tryz.prog 117 (.p (.eptr r i j)) 1 = some (.p (.eptr r i (j + 1))) := nr (by kernel_rfl)
@[simp] theorem x117_f2 (x : V) : afield Tryz.prog 117 x 2 = fieldV false 2 1 x := nr (by kernel_rfl)
@[simp] theorem x117_fa2 (id ver off : Nat) : afieldAddr Tryz.prog 117 (.ptr id ver off) 2 = some (.ptr id ver (off + 2)) := nr (by kernel_rfl)
@[simp] theorem x117_fe2 (r : Row PV) (i j : Nat) : afieldAddr Tryz.prog 117 (.p (.eptr r i j)) 2 = some (.p (.eptr r i (j + 2))) := nr (by kernel_rfl)
@[simp] theorem x117_f3 (x : V) : afield Tryz.prog 117 x 3 = fieldV false 3 1 x := nr (by kernel_rfl)
@[simp] theorem x117_fa3 (id ver off : Nat) : afieldAddr Tryz.prog 117 (.ptr id ver off) 3 = some (.ptr id ver (off + 3)) := nr (by kernel_rfl)
@[simp] theorem x117_fe3 (r : Row PV) (i j : Nat) : afieldAddr Tryz.prog 117 (.p (.eptr r i j)) 3 = some (.p (.eptr r i (j + 3))) := nr (by kernel_rfl)
@[simp] theorem x117_f4 (x : V) : afield Tryz.prog 117 x 4 = fieldV false 4 1 x := nr (by kernel_rfl)
@[simp] theorem x117_fa4 (id ver off : Nat) : afieldAddr Tryz.prog 117 (.ptr id ver off) 4 = some (.ptr id ver (off + 4)) := nr (by kernel_rfl)
@[simp] theorem x117_fe4 (r : Row PV) (i j : Nat) : afieldAddr Tryz.prog 117 (.p (.eptr r i j)) 4 = some (.p (.eptr r i (j + 4))) := nr (by kernel_rfl)
@[simp] theorem x118_isSlice : isSlice Tryz.prog 118 = false := nr (by kernel_rfl)
@[simp] theorem x118_isString : isString Tryz.prog 118 = false := nr (by kernel_rfl)
@[simp] theorem x118_arrLen : arrLen Tryz.prog 118 = none := nr (by kernel_rfl)
@[simp] theorem x118_esz : esz Tryz.prog 118 = none := nr (by kernel_rfl)
@[simp] theorem x118_isAggT : isAggT Tryz.prog 118 = some true := nr (by kernel_rfl)
@[simp] theorem x118_tsize : tsize Tryz.prog 118 = some 5 := nr (by kernel_rfl)
@[simp] theorem x118_notInt : notInt Tryz.prog 118 = true := nr (by kernel_rfl)
@[simp] theorem x118_isBytes : isBytes Tryz.prog 118 = false := nr (by kernel_rfl)
@[simp] theorem x118_alloc (H : List (Nat × (Nat × HB))) (d : Nat) : aalloc Tryz.prog H d 118 = some (.ptr d (nextVer H d) 0, upd H d (nextVer H d, .cells [.p (.str ByteArray.empty), .p (.int .i64 0), .p (.str ByteArray.empty), .p .ptr0, .p (.sl (.vals 1 []) true)])) := nr (by kernel_rfl)
@[simp] theorem x118_build (H : List (Nat × (Nat × HB))) (ps : List (Nat × V)) : abuild Tryz.prog H 118 ps = (fillV (fun k => lookN [(0, 1), (1, 1), (2, 1), (3, 1), (4, 1)] k) H [.p (.str ByteArray.empty), .p (.int .i64 0), .p (.str ByteArray.empty), .p .ptr0, .p (.sl (.vals 1 []) true)] ps).map mkAgg := nr (by kernel_rfl)
@[simp] theorem x118_f0 (x : V) : afield Tryz.prog 118 x 0 = fieldV false 0 1 x := nr (by kernel_rfl)
@[simp] theorem x118_fa0 (id ver off : Nat) : afieldAddr Tryz.prog 118 (.ptr id ver off) 0 = some (.ptr id ver (off + 0)) := nr (by kernel_rfl)
@[simp] theorem x118_fe0 (r : Row PV) (i j : Nat) : afieldAddr Tryz.prog 118 (.p (.eptr r i j)) 0 = some (.p (.eptr r i (j + 0))) := nr (by kernel_rfl)
@[simp] theorem x118_f1 (x : V) : afield Tryz.prog 118 x 1 = fieldV false 1 1 x := nr (by kernel_rfl)
@[simp] theorem x118_fa1 (id ver off : Nat) : afieldAddr Tryz.prog 118 (.ptr id ver off) 1 = some (.ptr id ver (off + 1)) := nr (by kernel_rfl)
@[simp] theorem x118_fe1 (r : Row PV) (i j : Nat) : afieldAddr Tryz.prog 118 (.p (.eptr r i j)) 1 = some (.p (.eptr r i (j + 1))) := nr (by kernel_rfl)
@[simp] theorem x118_f2 (x : V) : afield Tryz.prog 118 x 2 = fieldV false 2 1 x := nr (by kernel_rfl)
@[simp] theorem x118_fa2 (id ver off : Nat) : afieldAddr Tryz.prog 118 (.ptr id ver off) 2 = some (.ptr id ver (off + 2)) := nr (by kernel_rfl)
@[simp] theorem x118_fe2 (r : Row PV) (i j : Nat) : afieldAddr Tryz.prog 118 (.p (.eptr r i j)) 2 = some (.p (.eptr r i (j + 2))) := nr (by kernel_rfl)
@[simp] theorem x118_f3 (x : V) : afield Tryz.prog 118 x 3 = fieldV false 3 1 x := nr (by kernel_rfl)
@[simp] theorem x118_fa3 (id ver off : Nat) : afieldAddr Tryz.prog 118 (.ptr id ver off) 3 = some (.ptr id ver (off + 3)) := nr (by kernel_rfl)
@[simp] theorem x118_fe3 (r : Row PV) (i j : Nat) : afieldAddr Tryz.prog 118 (.p (.eptr r i j)) 3 = some (.p (.eptr r i (j + 3))) := nr (by kernel_rfl)
@[simp] theorem x118_f4 (x : V) : afield Tryz.prog 118 x 4 = fieldV false 4 1 x := nr (by kernel_rfl)
@[simp] theorem x118_fa4 (id ver off : Nat) : afieldAddr Tryz.prog 118 (.ptr id ver off) 4 = some (.ptr id ver (off + 4)) := nr (by kernel_rfl)
@[simp] theorem x118_fe4 (r : Row PV) (i j : Nat) : afieldAddr Tryz.prog 118 (.p (.eptr r i j)) 4 = some (.p (.eptr r i (j + 4))) := nr (by kernel_rfl)
@[simp] theorem x119_isSlice : isSlice Tryz.prog 119 = false := nr (by kernel_rfl)
@[simp] theorem x119_isString : isString Tryz.prog 119 = false := nr (by kernel_rfl)
@[simp] theorem x119_arrLen : arrLen Tryz.prog 119 = none := nr (by kernel_rfl)
@[simp] theorem x119_esz : esz Tryz.prog 119 = none := nr (by kernel_rfl)
@[simp] theorem x119_isAggT : isAggT Tryz.prog 119 = some true := nr (by kernel_rfl)
@[simp] theorem x119_tsize : tsize Tryz.prog 119 = some 262 := nr (by kernel_rfl)
@[simp] theorem x119_notInt : notInt Tryz.prog 119 = true := nr (by kernel_rfl)
@[simp] theorem x119_isBytes : isBytes Tryz.prog 119 = false := nr (by kernel_rfl)
@[simp] theorem x119_f0 (x : V) : afield Tryz.prog 119 x 0 = fieldV true 0 5 x := nr (by kernel_rfl)
@[simp] theorem x119_fa0 (id ver off : Nat) : afieldAddr Tryz.prog 119 (.ptr id ver off) 0 = some (.ptr id ver (off + 0)) := nr (by kernel_rfl)
@[simp] theorem x119_fe0 (r : Row PV) (i j : Nat) : afieldAddr Tryz.prog 119 (.p (.eptr r i j)) 0 = some (.p (.eptr r i (j + 0))) := nr (by kernel_rfl)
@[simp] theorem x119_f1 (x : V) : afield Tryz.prog 119 x 1 = fieldV false 5 1 x := nr (by kernel_rfl)
@[simp] theorem x119_fa1 (id ver off : Nat) : afieldAddr Tryz.prog 119 (.ptr id ver off) 1 = some (.ptr id ver (off + 5)) := nr (by kernel_rfl)
@[simp] theorem x119_fe1 (r : Row PV) (i j : Nat) : afieldAddr Tryz.prog 119 (.p (.eptr r i j)) 1 = some (.p (.eptr r i (j + 5))) := nr (by kernel_rfl)
@[simp] theorem x119_f2 (x : V) : afield Tryz.prog 119 x 2 = fieldV true 6 256 x := nr (by kernel_rfl)
@[simp] theorem x119_fa2 (id ver off : Nat) : afieldAddr Tryz.prog 119 (.ptr id ver off) 2 = some (.ptr id ver (off + 6)) := nr (by kernel_rfl)
@[simp] theorem x119_fe2 (r : Row PV) (i j : Nat) : afieldAddr Tryz.prog 119 (.p (.eptr r i j)) 2 = some (.p (.eptr r i (j + 6))) := nr (by kernel_rfl)
@[simp] theorem x120_isSlice : isSlice Tryz.prog 120 = false := nr (by kernel_rfl)
@[simp] theorem x120_isString : isString Tryz.prog 120 = false := nr (by kernel_rfl)
@[simp] theorem x120_arrLen : arrLen Tryz.prog 120 = none := nr (by kernel_rfl)
@[simp] theorem x120_esz : esz Tryz.prog 120 = none := nr (by kernel_rfl)
@[simp] theorem x120_isAggT : isAggT Tryz.prog 120 = some true := nr (by kernel_rfl)
@[simp] theorem x120_tsize : tsize Tryz.prog 120 = some 262 := nr (by kernel_rfl)
@[simp] theorem x120_notInt : notInt Tryz.prog 120 = true := nr (by kernel_rfl)
@[simp] theorem x120_isBytes : isBytes Tryz.prog 120 = false := nr (by kernel_rfl)
@[simp] theorem x120_f0 (x : V) : afield Tryz.prog 120 x 0 = fieldV true 0 5 x := nr (by kernel_rfl)
@[simp] theorem x120_fa0 (id ver off : Nat) : afieldAddr Tryz.prog 120 (.ptr id ver off) 0 = some (.ptr id ver (off + 0)) := nr (by kernel_rfl)
@[simp] theorem x120_fe0 (r : Row PV) (i j : Nat) : afieldAddr Tryz.prog 120 (.p (.eptr r i j)) 0 = some (.p (.eptr r i (j + 0))) := nr (by kernel_rfl)
@[simp] theorem x120_f1 (x : V) : afield Tryz.prog 120 x 1 = fieldV false 5 1 x := nr (by kernel_rfl)
@[simp] theorem x120_fa1 (id ver off : Nat) : afieldAddr Tryz.prog 120 (.ptr id ver off) 1 = some (.ptr id ver (off + 5)) := nr (by kernel_rfl)
@[simp] theorem x120_fe1 (r : Row PV) (i j : Nat) : afieldAddr Tryz.prog 120 (.p (.eptr r i j)) 1 = some (.p (.eptr r i (j + 5))) := nr (by kernel_rfl)
@[simp] theorem x120_f2 (x : V) : afield Tryz.prog 120 x 2 = fieldV true 6 256 x := nr (by kernel_rfl)
@[simp] theorem x120_fa2 (id ver off : Nat) : afieldAddr Tryz.prog 120 (.ptr id ver off) 2 = some (.ptr id ver (off + 6)) := nr (by kernel_rfl)
@[simp] theorem x120_fe2 (r : Row PV) (i j : Nat) : afieldAddr Tryz.prog 120 (.p (.eptr r i j)) 2 = some (.p (.eptr r i (j + 6))) := nr (by kernel_rfl)
@[simp] theorem x124_eqs (r s : Row PV) : eqNil Tryz.prog 124 (.p (.agg r)) (.p (.agg s)) = eqAts r s [(0, 0), (1, 0)] := eqNil_struct (by kernel_rfl) r s
@[simp] theorem x124_isSlice : isSlice Tryz.prog 124 = false := nr (by kernel_rfl)
@[simp] theorem x124_isString : isString Tryz.prog 124 = false := nr (by kernel_rfl)
@[simp] theorem x124_arrLen : arrLen Tryz.prog 124 = none := nr (by kernel_rfl)
@[simp] theorem x124_esz : esz Tryz.prog 124 = none := nr (by kernel_rfl)
@[simp] theorem x124_isAggT : isAggT Tryz.prog 124 = some true := nr (by kernel_rfl)
@[simp] theorem x124_tsize : tsize Tryz.prog 124 = some 2 := nr (by kernel_rfl)
@[simp] theorem x124_notInt : notInt Tryz.prog 124 = true := nr (by kernel_rfl)
@[simp] theorem x124_isBytes : isBytes Tryz.prog 124 = false := nr (by kernel_rfl)
@[simp] theorem x124_alloc (H : List (Nat × (Nat × HB))) (d : Nat) : aalloc Tryz.prog H d 124 = some (.ptr d (nextVer H d) 0, upd H d (nextVer H d, .row (.ints .u8 [0, 0]))) := nr (by kernel_rfl)
@[simp] theorem x124_build (H : List (Nat × (Nat × HB))) (ps : List (Nat × V)) : abuild Tryz.prog H 124 ps = (fillV (fun k => lookN [(0, 1), (1, 1)] k) H [.p (.int .u8 0), .p (.int .u8 0)] ps).map mkAgg := nr (by kernel_rfl)
@[simp] theorem x124_f0 (x : V) : afield Tryz.prog 124 x 0 = fieldV false 0 1 x := nr (by kernel_rfl)
@[simp] theorem x124_fa0 (id ver off : Nat) : afieldAddr Tryz.prog 124 (.ptr id ver off) 0 = some (.ptr id ver (off + 0)) := nr (by kernel_rfl)
@[simp] theorem x124_fe0 (r : Row PV) (i j : Nat) : afieldAddr Tryz.prog 124 (.p (.eptr r i j)) 0 = some (.p (.eptr r i (j + 0))) := nr (by kernel_rfl)
@[simp] theorem x124_f1 (x : V) : afield Tryz.prog 124 x 1 = fieldV false 1 1 x := nr (by kernel_rfl)
@[simp] theorem x124_fa1 (id ver off : Nat) : afieldAddr Tryz.prog 124 (.ptr id ver off) 1 = some (.ptr id ver (off + 1)) := nr (by kernel_rfl)
@[simp] theorem x124_fe1 (r : Row PV) (i j : Nat) : afieldAddr Tryz.prog 124 (.p (.eptr r i j)) 1 = some (.p (.eptr r i (j + 1))) := nr (by kernel_rfl)
@[simp] theorem x125_eqs (r s : Row PV) : eqNil Tryz.prog 125 (.p (.agg r)) (.p (.agg s)) = eqAts r s [(0, 0), (1, 0)] := eqNil_struct (by kernel_rfl) r s
@[simp] theorem x125_isSlice : isSlice Tryz.prog 125 = false := nr (by kernel_rfl)
@[simp] theorem x125_isString : isString Tryz.prog 125 = false := nr (by kernel_rfl)
@[simp] theorem x125_arrLen : arrLen Tryz.prog 125 = none := nr (by kernel_rfl)
@[simp] theorem x125_esz : esz Tryz.prog 125 = none := nr (by kernel_rfl)
@[simp] theorem x125_isAggT : isAggT Tryz.prog 125 = some true := nr (by kernel_rfl)
@[simp] theorem x125_tsize : tsize Tryz.prog 125 = some 2 := nr (by kernel_rfl)
@[simp] theorem x125_notInt : notInt Tryz.prog 125 = true := nr (by kernel_rfl)
@[simp] theorem x125_isBytes : isBytes Tryz.prog 125 = false := nr (by kernel_rfl)
@[simp] theorem x125_alloc (H : List (Nat × (Nat × HB))) (d : Nat) : aalloc Tryz.prog H d 125 = some (.ptr d (nextVer H d) 0, upd H d (nextVer H d, .row (.ints .u8 [0, 0]))) := nr (by kernel_rfl)
@[simp] theorem x125_build (H : List (Nat × (Nat × HB))) (ps : List (Nat × V)) : abuild Tryz.prog H 125 ps = (fillV (fun k => lookN [(0, 1), (1, 1)] k) H [.p (.int .u8 0), .p (.int .u8 0)] ps).map mkAgg := nr (by kernel_rfl)
@[simp] theorem x125_f0 (x : V) : afield Tryz.prog 125 x 0 = fieldV false 0 1 x := nr (by kernel_rfl)
@[simp] theorem x125_fa0 (id ver off : Nat) : afieldAddr Tryz.prog 125 (.ptr id ver off) 0 = some (.ptr id ver (off + 0)) := nr (by kernel_rfl)
@[simp] theorem x125_fe0 (r : Row PV) (i j : Nat) : afieldAddr Tryz.prog 125 (.p (.eptr r i j)) 0 = some (.p (.eptr r i (j + 0))) := nr (by kernel_rfl)
@[simp] theorem x125_f1 (x : V) : afield Tryz.prog 125 x 1 = fieldV false 1 1 x := nr (by kernel_rfl)
@[simp] theorem x125_fa1 (id ver off : Nat) : afieldAddr Tryz.prog 125 (.ptr id ver off) 1 = some (.ptr id ver (off + 1)) := nr (by kernel_rfl)
@[simp] theorem x125_fe1 (r : Row PV) (i j : Nat) : afieldAddr Tryz.prog 125 (.p (.eptr r i j)) 1 = some (.p (.eptr r i (j + 1))) := nr (by kernel_rfl)
@[simp] theorem x126_isSlice : isSlice Tryz.prog 126 = false := nr (by kernel_rfl)
@[simp] theorem x126_isString : isString Tryz.prog 126 = false := nr (by kernel_rfl)
@[simp] theorem x126_arrLen : arrLen Tryz.prog 126 = some 16 := nr (by kernel_rfl)
@[simp] theorem x126_esz : esz Tryz.prog 126 = some 2 := nr (by kernel_rfl)
@[simp] theorem x126_isAggT : isAggT Tryz.prog 126 = some true := nr (by kernel_rfl)
@[simp] theorem x126_tsize : tsize Tryz.prog 126 = some 32 := nr (by kernel_rfl)
@[simp] theorem x126_notInt : notInt Tryz.prog 126 = true := nr (by kernel_rfl)
@[simp] theorem x126_isBytes : isBytes Tryz.prog 126 = false := nr (by kernel_rfl)
@[simp] theorem x126_arrElem : arrElem Tryz.prog 126 = none := nr (by kernel_rfl)
@[simp] theorem x128_up : udesc Tryz.prog 128 = some (.pointer 57) := nr (by kernel_rfl)
@[simp] theorem x128_eq (x y : V) : eqNil Tryz.prog 128 x y = eqPt x y := eqNil_pt (e := 57) (by kernel_rfl) x y
@[simp] theorem x128_isSlice : isSlice Tryz.prog 128 = false := nr (by kernel_rfl)
@[simp] theorem x128_isString : isString Tryz.prog 128 = false := nr (by kernel_rfl)
@[simp] theorem x128_arrLen : arrLen Tryz.prog 128 = none := nr (by kernel_rfl)
@[simp] theorem x128_esz : esz Tryz.prog 128 = none := nr (by kernel_rfl)
@[simp] theorem x128_isAggT : isAggT Tryz.prog 128 = some false := nr (by kernel_rfl)
@[simp] theorem x128_tsize : tsize Tryz.prog 128 = some 1 := nr (by kernel_rfl)
@[simp] theorem x128_notInt : notInt Tryz.prog 128 = true := nr (by kernel_rfl)
@[simp] theorem x128_isBytes : isBytes Tryz.prog 128 = false := nr (by kernel_rfl)
@[simp] theorem x128_alloc (H : List (Nat × (Nat × HB))) (d : Nat) : aalloc Tryz.prog H d 128 = some (.ptr d (nextVer H d) 0, upd H d (nextVer H d, .cells [.p .ptr0])) := nr (by kernel_rfl)
@[simp] theorem x130_up : udesc Tryz.prog 130 = some (.pointer 21) := nr (by kernel_rfl)
@[simp] theorem x130_eq (x y : V) : eqNil Tryz.prog 130 x y = eqPt x y := eqNil_pt (e := 21) (by kernel_rfl) x y
@[simp] theorem x130_isSlice : isSlice Tryz.prog 130 = false := nr (by kernel_rfl)
@[simp] theorem x130_isString : isString Tryz.prog 130 = false := nr (by kernel_rfl)
@[simp] theorem x130_arrLen : arrLen Tryz.prog 130 = none := nr (by kernel_rfl)
@[simp] theorem x130_esz : esz Tryz.prog 130 = none := nr (by kernel_rfl)
@[simp] theorem x130_isAggT : isAggT Tryz.prog 130 = some false := nr (by kernel_rfl)
@[simp] theorem x130_tsize : tsize Tryz.prog 130 = some 1 := nr (by kernel_rfl)
@[simp] theorem x130_notInt : notInt Tryz.prog 130 = true := nr (by kernel_rfl)
@[simp] theorem x130_isBytes : isBytes Tryz.prog 130 = false := nr (by kernel_rfl)
@[simp] theorem x130_alloc (H : List (Nat × (Nat × HB))) (d : Nat) : aalloc Tryz.prog H d 130 = some (.ptr d (nextVer H d) 0, upd H d (nextVer H d, .cells [.p .ptr0])) := nr (by kernel_rfl)
@[simp] theorem x134_us : udesc Tryz.prog 134 = some (.slice 3) := nr (by kernel_rfl)
@[simp] theorem x134_eq (x y : V) : eqNil Tryz.prog 134 x y = eqSl x y := eqNil_sl (e := 3) (by kernel_rfl) x y
@[simp] theorem x134_isSlice : isSlice Tryz.prog 134 = true := nr (by kernel_rfl)
@[simp] theorem x134_isString : isString Tryz.prog 134 = false := nr (by kernel_rfl)
@[simp] theorem x134_arrLen : arrLen Tryz.prog 134 = none := nr (by kernel_rfl)
@[simp] theorem x134_esz : esz Tryz.prog 134 = some 1 := nr (by kernel_rfl)
@[simp] theorem x134_isAggT : isAggT Tryz.prog 134 = some false := nr (by kernel_rfl)
@[simp] theorem x134_tsize : tsize Tryz.prog 134 = some 1 := nr (by kernel_rfl)
@[simp] theorem x134_notInt : notInt Tryz.prog 134 = true := nr (by kernel_rfl)
@[simp] theorem x134_isBytes : isBytes Tryz.prog 134 = false := nr (by kernel_rfl)
@[simp] theorem x134_row (T : List (Nat × Nat)) (d len : Nat) (ps : List (Nat × V)) : arowSlice Tryz.prog T d 134 len ps = if len * 1 ≤ 16777216 then rowFill (.ints .i64 []) 1 len d T (fillV (fun k => some (k * 1, 1)) [] (zrep len [.p (.int .i64 0)]) ps) else none := arowSlice_eq (P := Tryz.prog) (t := 134) (s := 1) (zl := [.p (.int .i64 0)]) (e := 3) (b := 8) (z := .int .i64 0) (by kernel_rfl) (by kernel_rfl) (by kernel_rfl) rfl T d len ps
@[simp] theorem x134_own (H : List (Nat × (Nat × HB))) (d len : Nat) (ps : List (Nat × V)) : abuildSlice Tryz.prog H d 134 len ps = if len * 1 ≤ 16777216 then (fillV (fun k => some (k * 1, 1)) H (zrep len [.p (.int .i64 0)]) ps).map fun l => (.own d (nextVer H d) 0 len len, upd H d (nextVer H d, mkHB l)) else none := abuildSlice_eq (P := Tryz.prog) (t := 134) (s := 1) (zl := [.p (.int .i64 0)]) (e := 3) (b := 8) (z := .int .i64 0) (by kernel_rfl) (by kernel_rfl) (by kernel_rfl) rfl H d len ps
@[simp] theorem x134_copy (H : List (Nat × (Nat × HB))) (id ver off len cap : Nat) (y : V) : acopy Tryz.prog H 134 (.own id ver off len cap) y = copyR ver off len 1 H id (look H id) (srcV H 1 y) := acopy_eq (e := 3) (b := 8) (z := .int .i64 0) (by kernel_rfl) H id ver off len cap y
@[simp] theorem x134_elem : elemInfo Tryz.prog 134 = some (3, 1, 8, .int .i64 0) := nr (by kernel_rfl)
@[simp] theorem x134_alloc (H : List (Nat × (Nat × HB))) (d : Nat) : aalloc Tryz.prog H d 134 = some (.ptr d (nextVer H d) 0, upd H d (nextVer H d, .cells [.p (.sl (.vals 1 []) true)])) := nr (by kernel_rfl)
@[simp] theorem x135_eq (a b : List Int) (ha : a.length = 256) (hb : b.length = 256) : eqNil Tryz.prog 135 (.p (.agg (.ints .i64 a))) (.p (.agg (.ints .i64 b))) = some (a == b) := eqNil_arr (n := 256) (e := 3) (by kernel_rfl) (by kernel_rfl) (by kernel_rfl) (by kernel_rfl) a b ha hb
@[simp] theorem x135_isSlice : isSlice Tryz.prog 135 = false := nr (by kernel_rfl)
@[simp] theorem x135_isString : isString Tryz.prog 135 = false := nr (by kernel_rfl)
@[simp] theorem x135_arrLen : arrLen Tryz.prog 135 = some 256 := nr (by kernel_rfl)
@[simp] theorem x135_esz : esz Tryz.prog 135 = some 1 := nr (by kernel_rfl)
@[simp] theorem x135_isAggT : isAggT Tryz.prog 135 = some true := nr (by kernel_rfl)
@[simp] theorem x135_tsize : tsize Tryz.prog 135 = some 256 := nr (by kernel_rfl)
@[simp] theorem x135_notInt : notInt Tryz.prog 135 = true := nr (by kernel_rfl)
@[simp] theorem x135_isBytes : isBytes Tryz.prog 135 = false := nr (by kernel_rfl)
@[simp] theorem x135_arrElem : arrElem Tryz.prog 135 = some 256 := nr (by kernel_rfl)
@[simp] theorem x136_isSlice : isSlice Tryz.prog 136 = false := nr (by kernel_rfl)
@[simp] theorem x136_isString : isString Tryz.prog 136 = false := nr (by kernel_rfl)
@[simp] theorem x136_arrLen : arrLen Tryz.prog 136 = none := nr (by kernel_rfl)
@[simp] theorem x136_esz : esz Tryz.prog 136 = none := nr (by kernel_rfl)
@[simp] theorem x136_isAggT : isAggT Tryz.prog 136 = some true := nr (by kernel_rfl)
@[simp] theorem x136_tsize : tsize Tryz.prog 136 = some 258 := nr (by kernel_rfl)
@[simp] theorem x136_notInt : notInt Tryz.prog 136 = true := nr (by kernel_rfl)
@[simp] theorem x136_isBytes : isBytes Tryz.prog 136 = false := nr (by kernel_rfl)
@[simp] theorem x136_f0 (x : V) : afield Tryz.prog 136 x 0 = fieldV false 0 1 x := nr (by kernel_rfl)
@[simp] theorem x136_fa0 (id ver off : Nat) : afieldAddr Tryz.prog 136 (.ptr id ver off) 0 = some (.ptr id ver (off + 0)) := nr (by kernel_rfl)
@[simp] theorem x136_fe0 (r : Row PV) (i j : Nat) : afieldAddr Tryz.prog 136 (.p (.eptr r i j)) 0 = some (.p (.eptr r i (j + 0))) := nr (by kernel_rfl)
@[simp] theorem x136_f1 (x : V) : afield Tryz.prog 136 x 1 = fieldV true 1 256 x := nr (by kernel_rfl)
@[simp] theorem x136_fa1 (id ver off : Nat) : afieldAddr Tryz.prog 136 (.ptr id ver off) 1 = some (.ptr id ver (off + 1)) := nr (by kernel_rfl)
@[simp] theorem x136_fe1 (r : Row PV) (i j : Nat) : afieldAddr Tryz.prog 136 (.p (.eptr r i j)) 1 = some (.p (.eptr r i (j + 1))) := nr (by kernel_rfl)
@[simp] theorem x136_f2 (x : V) : afield Tryz.prog 136 x 2 = fieldV false 257 1 x := nr (by kernel_rfl)
@[simp] theorem x136_fa2 (id ver off : Nat) : afieldAddr Tryz.prog 136 (.ptr id ver off) 2 = some (.ptr id ver (off + 257)) := nr (by kernel_rfl)
@[simp] theorem x136_fe2 (r : Row PV) (i j : Nat) : afieldAddr Tryz.prog 136 (.p (.eptr r i j)) 2 = some (.p (.eptr r i (j + 257))) := nr (by kernel_rfl)
@[simp] theorem x137_isSlice : isSlice Tryz.prog 137 = false := nr (by kernel_rfl)
@[simp] theorem x137_isString : isString Tryz.prog 137 = false := nr (by kernel_rfl)
@[simp] theorem x137_arrLen : arrLen Tryz.prog 137 = none := nr (by kernel_rfl)
@[simp] theorem x137_esz : esz Tryz.prog 137 = none := nr (by kernel_rfl)
@[simp] theorem x137_isAggT : isAggT Tryz.prog 137 = some true := nr (by kernel_rfl)
@[simp] theorem x137_tsize : tsize Tryz.prog 137 = some 258 := nr (by kernel_rfl)
@[simp] theorem x137_notInt : notInt Tryz.prog 137 = true := nr (by kernel_rfl)
@[simp] theorem x137_isBytes : isBytes Tryz.prog 137 = false := nr (by kernel_rfl)
@[simp] theorem x137_f0 (x : V) : afield Tryz.prog 137 x 0 = fieldV false 0 1 x := nr (by kernel_rfl)
@[simp] theorem x137_fa0 (id ver off : Nat) : afieldAddr Tryz.prog 137 (.ptr id ver off) 0 = some (.ptr id ver (off + 0)) := nr (by kernel_rfl)
@[simp] theorem x137_fe0 (r : Row PV) (i j : Nat) : afieldAddr Tryz.prog 137 (.p (.eptr r i j)) 0 = some (.p (.eptr r i (j + 0))) := nr (by kernel_rfl)
@[simp] theorem x137_f1 (x : V) : afield Tryz.prog 137 x 1 = fieldV true 1 256 x := nr (by kernel_rfl)
@[simp] theorem x137_fa1 (id ver off : Nat) : afieldAddr Tryz.prog 137 (.ptr id ver off) 1 = some (.ptr id ver (off + 1)) := nr (by kernel_rfl)
@[simp] theorem x137_fe1 (r : Row PV) (i j : Nat) : afieldAddr Tryz.prog 137 (.p (.eptr r i j)) 1 = some (.p (.eptr r i (j + 1))) := nr (by kernel_rfl)
@[simp] theorem x137_f2 (x : V) : afield Tryz.prog 137 x 2 = fieldV false 257 1 x := nr (by kernel_rfl)
@[simp] theorem x137_fa2 (id ver off : Nat) : afieldAddr Tryz.prog 137 (.ptr id ver off) 2 = some (.ptr id ver (off + 257)) := nr (by kernel_rfl)
@[simp] theorem x137_fe2 (r : Row PV) (i j : Nat) : afieldAddr Tryz.prog 137 (.p (.eptr r i j)) 2 = some (.p (.eptr r i (j + 257))) := nr (by kernel_rfl)
@[simp] theorem x138_u : udesc Tryz.prog 138 = some (.int .u64) := nr (by kernel_rfl)
@[simp] theorem x138_isSlice : isSlice Tryz.prog 138 = false := nr (by kernel_rfl)
@[simp] theorem x138_isString : isString Tryz.prog 138 = false := nr (by kernel_rfl)
@[simp] theorem x138_arrLen : arrLen Tryz.prog 138 = none := nr (by kernel_rfl)
@[simp] theorem x138_esz : esz Tryz.prog 138 = none := nr (by kernel_rfl)
@[simp] theorem x138_isAggT : isAggT Tryz.prog 138 = some false := nr (by kernel_rfl)
@[simp] theorem x138_tsize : tsize Tryz.prog 138 = some 1 := nr (by kernel_rfl)
@[simp] theorem x138_notInt : notInt Tryz.prog 138 = false := nr (by kernel_rfl)
@[simp] theorem x138_isBytes : isBytes Tryz.prog 138 = false := nr (by kernel_rfl)
@[simp] theorem x138_alloc (H : List (Nat × (Nat × HB))) (d : Nat) : aalloc Tryz.prog H d 138 = some (.ptr d (nextVer H d) 0, upd H d (nextVer H d, .row (.ints .u64 [0]))) := nr (by kernel_rfl)
@[simp] theorem x157_us : udesc Tryz.prog 157 = some (.slice 5) := nr (by kernel_rfl)
@[simp] theorem x157_eq (x y : V) : eqNil Tryz.prog 157 x y = eqSl x y := eqNil_sl (e := 5) (by kernel_rfl) x y
@[simp] theorem x157_isSlice : isSlice Tryz.prog 157 = true := nr (by kernel_rfl)
@[simp] theorem x157_isString : isString Tryz.prog 157 = false := nr (by kernel_rfl)
@[simp] theorem x157_arrLen : arrLen Tryz.prog 157 = none := nr (by kernel_rfl)
@[simp] theorem x157_esz : esz Tryz.prog 157 = some 1 := nr (by kernel_rfl)
@[simp] theorem x157_isAggT : isAggT Tryz.prog 157 = some false := nr (by kernel_rfl)
@[simp] theorem x157_tsize : tsize Tryz.prog 157 = some 1 := nr (by kernel_rfl)
@[simp] theorem x157_notInt : notInt Tryz.prog 157 = true := nr (by kernel_rfl)
@[simp] theorem x157_isBytes : isBytes Tryz.prog 157 = true := nr (by kernel_rfl)
@[simp] theorem x157_row (T : List (Nat × Nat)) (d len : Nat) (ps : List (Nat × V)) : arowSlice Tryz.prog T d 157 len ps = if len * 1 ≤ 16777216 then rowFill (bl []) 1 len d T (fillV (fun k => some (k * 1, 1)) [] (zrep len [.p (.int .u8 0)]) ps) else none := arowSlice_eq (P := Tryz.prog) (t := 157) (s := 1) (zl := [.p (.int .u8 0)]) (e := 5) (b := 1) (z := .int .u8 0) (by kernel_rfl) (by kernel_rfl) (by kernel_rfl) rfl T d len ps
@[simp] theorem x157_own (H : List (Nat × (Nat × HB))) (d len : Nat) (ps : List (Nat × V)) : abuildSlice Tryz.prog H d 157 len ps = if len * 1 ≤ 16777216 then (fillV (fun k => some (k * 1, 1)) H (zrep len [.p (.int .u8 0)]) ps).map fun l => (.own d (nextVer H d) 0 len len, upd H d (nextVer H d, mkHB l)) else none := abuildSlice_eq (P := Tryz.prog) (t := 157) (s := 1) (zl := [.p (.int .u8 0)]) (e := 5) (b := 1) (z := .int .u8 0) (by kernel_rfl) (by kernel_rfl) (by kernel_rfl) rfl H d len ps
@[simp] theorem x157_copy (H : List (Nat × (Nat × HB))) (id ver off len cap : Nat) (y : V) : acopy Tryz.prog H 157 (.own id ver off len cap) y = copyR ver off len 1 H id (look H id) (srcV H 1 y) := acopy_eq (e := 5) (b := 1) (z := .int .u8 0) (by kernel_rfl) H id ver off len cap y
@[simp] theorem x157_make (H : List (Nat × (Nat × HB))) (d : Nat) (k k' : IntKind) (n m : Int) (h0 : 0 ≤ n) (h1 : n ≤ m) (h2 : m ≤ 281474976710656) : amakeSlice Tryz.prog H d 157 (.p (.int k n)) (.p (.int k' m)) = some (.own d (nextVer H d) 0 n.toNat m.toNat, upd H d (nextVer H d, .row (bl (List.replicate m.toNat 0#8)))) := amake_bytes (e := 5) (by kernel_rfl) H d k k' n m h0 h1 h2
@[simp] theorem x157_elem : elemInfo Tryz.prog 157 = some (5, 1, 1, .int .u8 0) := nr (by kernel_rfl)
@[simp] theorem x157_alloc (H : List (Nat × (Nat × HB))) (d : Nat) : aalloc Tryz.prog H d 157 = some (.ptr d (nextVer H d) 0, upd H d (nextVer H d, .cells [.p (.sl (.vals 1 []) true)])) := nr (by kernel_rfl)
@[simp] theorem x158_up : udesc Tryz.prog 158 = some (.pointer 157) := nr (by kernel_rfl)
@[simp] theorem x158_eq (x y : V) : eqNil Tryz.prog 158 x y = eqPt x y := eqNil_pt (e := 157) (by kernel_rfl) x y
@[simp] theorem x158_isSlice : isSlice Tryz.prog 158 = false := nr (by kernel_rfl)
@[simp] theorem x158_isString : isString Tryz.prog 158 = false := nr (by kernel_rfl)
@[simp] theorem x158_arrLen : arrLen Tryz.prog 158 = none := nr (by kernel_rfl)
@[simp] theorem x158_esz : esz Tryz.prog 158 = none := nr (by kernel_rfl)
@[simp] theorem x158_isAggT : isAggT Tryz.prog 158 = some false := nr (by kernel_rfl)
@[simp] theorem x158_tsize : tsize Tryz.prog 158 = some 1 := nr (by kernel_rfl)
@[simp] theorem x158_notInt : notInt Tryz.prog 158 = true := nr (by kernel_rfl)
@[simp] theorem x158_isBytes : isBytes Tryz.prog 158 = false := nr (by kernel_rfl)
@[simp] theorem x158_alloc (H : List (Nat × (Nat × HB))) (d : Nat) : aalloc Tryz.prog H d 158 = some (.ptr d (nextVer H d) 0, upd H d (nextVer H d, .cells [.p .ptr0])) := nr (by kernel_rfl)
@[simp] theorem x167_isSlice : isSlice Tryz.prog 167 = false := nr (by kernel_rfl)
@[simp] theorem x167_isString : isString Tryz.prog 167 = false := nr (by kernel_rfl)
@[simp] theorem x167_arrLen : arrLen Tryz.prog 167 = none := nr (by kernel_rfl)
@[simp] theorem x167_esz : esz Tryz.prog 167 = none := nr (by kernel_rfl)
@[simp] theorem x167_isAggT : isAggT Tryz.prog 167 = some true := nr (by kernel_rfl)
@[simp] theorem x167_tsize : tsize Tryz.prog 167 = some 1 := nr (by kernel_rfl)
@[simp] theorem x167_notInt : notInt Tryz.prog 167 = true := nr (by kernel_rfl)
@[simp] theorem x167_isBytes : isBytes Tryz.prog 167 = false := nr (by kernel_rfl)
@[simp] theorem x167_alloc (H : List (Nat × (Nat × HB))) (d : Nat) : aalloc Tryz.prog H d 167 = some (.ptr d (nextVer H d) 0, upd H d (nextVer H d, .cells [.p .iface0])) := nr (by kernel_rfl)
@[simp] theorem x167_build (H : List (Nat × (Nat × HB))) (ps : List (Nat × V)) : abuild Tryz.prog H 167 ps = (fillV (fun k => lookN [(0, 1)] k) H [.p .iface0] ps).map mkAgg := nr (by kernel_rfl)
@[simp] theorem x167_f0 (x : V) : afield Tryz.prog 167 x 0 = fieldV false 0 1 x := nr (by kernel_rfl)
@[simp] theorem x167_fa0 (id ver off : Nat) : afieldAddr Tryz.prog 167 (.ptr id ver off) 0 = some (.ptr id ver (off + 0)) := nr (by kernel_rfl)
@[simp] theorem x167_fe0 (r : Row PV) (i j : Nat) : afieldAddr Tryz.prog 167 (.p (.eptr r i j)) 0 = some (.p (.eptr r i (j + 0))) := nr (by kernel_rfl)
@[simp] theorem x168_isSlice : isSlice Tryz.prog 168 = false := nr (by kernel_rfl)
@[simp] theorem x168_isString : isString Tryz.prog 168 = false := nr (by kernel_rfl)
@[simp] theorem x168_arrLen : arrLen Tryz.prog 168 = none := nr (by kernel_rfl)
@[simp] theorem x168_esz : esz Tryz.prog 168 = none := nr (by kernel_rfl)
@[simp] theorem x168_isAggT : isAggT Tryz.prog 168 = some true := nr (by kernel_rfl)
@[simp] theorem x168_tsize : tsize Tryz.prog 168 = some 1 := nr (by kernel_rfl)
@[simp] theorem x168_notInt : notInt Tryz.prog 168 = true := nr (by kernel_rfl)
@[simp] theorem x168_isBytes : isBytes Tryz.prog 168 = false := nr (by kernel_rfl)
@[simp] theorem x168_alloc (H : List (Nat × (Nat × HB))) (d : Nat) : aalloc Tryz.prog H d 168 = some (.ptr d (nextVer H d) 0, upd H d (nextVer H d, .cells [.p .iface0])) := nr (by kernel_rfl)
@[simp] theorem x168_build (H : List (Nat × (Nat × HB))) (ps : List (Nat × V)) : abuild Tryz.prog H 168 ps = (fillV (fun k => lookN [(0, 1)] k) H [.p .iface0] ps).map mkAgg := nr (by kernel_rfl)
@[simp] theorem x168_f0 (x : V) : afield Tryz.prog 168 x 0 = fieldV false 0 1 x := nr (by kernel_rfl)
@[simp] theorem x168_fa0 (id ver off : Nat) : afieldAddr Tryz.prog 168 (.ptr id ver off) 0 = some (.ptr id ver (off + 0)) := nr (by kernel_rfl)
@[simp] theorem x168_fe0 (r : Row PV) (i j : Nat) : afieldAddr Tryz.prog 168 (.p (.eptr r i j)) 0 = some (.p (.eptr r i (j + 0))) := nr (by kernel_rfl)
theorem mixed : Tryz.prog.follows .mixedOrders = true := by kernel_rfl
end Go.Av.Cha
end
section
set_option linter.unusedVariables false
namespace Go.Av.Cha
open Go Go.Av Go.Proofs
def firstF (n : Nat) : Int := if n < 128 then 240 else if n < 194 then 241 else if n < 224 then 2 else if n = 224 then 19 else if n = 237 then 35 else if n < 240 then 3 else if n = 240 then 52 else if n < 244 then 4 else if n = 244 then 68 else 241
def firstL : List Int := (List.range 256).map firstF
def accL : List Int := [128, 191, 160, 191, 128, 159, 144, 191, 128, 143, 0, 0, 0, 0, 0, 0, 0, 0, 0, 0, 0, 0, 0, 0, 0, 0, 0, 0, 0, 0, 0, 0]
class ML where
  m : Int
def glF (m : Int) : Nat → Option (Row PV)
  | 0 => some (.vals 1 [.int .i64 m])
  | 1 => some (.vals 256 [.agg (.ints .u8 firstL)])
  | 2 => some (.vals 32 [.agg (.ints .u8 accL)])
  | _ => none
instance [ML] : Tables := ⟨glF ML.m, fun f => if f = 59 ∨ f = 76 ∨ f = 25 ∨ f = 26 ∨ f = 37 ∨ f = 17 ∨ f = 18 ∨ f = 44 ∨ f = 15 then 2 else 0⟩
end Go.Av.Cha
end
section
set_option linter.unusedSimpArgs false
set_option linter.unusedVariables false
set_option linter.unusedSectionVars false
open Go Go.Av Go.Proofs
namespace Go.Av.Cha
variable [ML]
def charB (r : Int) : Bool := decide (0 ≤ r ∧ r ≤ 1114111 ∧ (r < 55296 ∨ 57343 < r))
def xmlB (r : Int) : Bool := decide (r = 9 ∨ r = 10 ∨ r = 13 ∨ (32 ≤ r ∧ r ≤ 55295) ∨ (57344 ≤ r ∧ r ≤ 65533) ∨ (65536 ≤ r ∧ r ≤ 1114111))
theorem charB_ct (r : Int) : Fn Tryz.prog 20 [.int .i32 r] [.p (.bool (charB r))] := by
  refine Fn.of_body Tryz.func20 rfl ?_
  have hr : r < 0 ∨ (0 ≤ r ∧ r < 55296) ∨ (55296 ≤ r ∧ r ≤ 57343) ∨ (57343 < r ∧ r ≤ 1114111) ∨ 1114111 < r := by omega
  rcases hr with hr | hr | hr | hr | hr
  all_goals
    (first | have f1 : (0 ≤ r) = True := eq_true (by omega) | have f1 : (0 ≤ r) = False := eq_false (by omega)); (first | have f2 : (r ≤ 1114111) = True := eq_true (by omega) | have f2 : (r ≤ 1114111) = False := eq_false (by omega)); (first | have f3 : (r < 55296) = True := eq_true (by omega) | have f3 : (r < 55296) = False := eq_false (by omega)); (first | have f4 : (57343 < r) = True := eq_true (by omega) | have f4 : (57343 < r) = False := eq_false (by omega))
    (first | have fx : charB r = true := by simp [charB, f1, f2, f3, f4] | have fx : charB r = false := by simp [charB, f1, f2, f3, f4])
    rw [fx]
    repeat (first | ((first | refine zP fun K_ hK_ => ?_ | refine zQ fun K_ hK_ => ?_ | refine zR (by kernel_rfl) (by kernel_rfl) fun K_ hK_ => ?_ | refine zS (by kernel_rfl) (by kernel_rfl) fun K_ hK_ => ?_ | refine zT ?_); first | (simp (maxSteps := 1000000) (disch := refine hold_ ?_; first | (simp [f1, f2, f3, f4, -List.getD_eq_getElem?_getD]; done) | omega) [f1, f2, f3, f4, -List.getD_eq_getElem?_getD]; try first | refine zZ ?_ | subst hK_) | subst hK_) | refine zA ?_ | refine zB ?_ | refine zC ?_ | refine zD ?_ | refine zE ?_ | refine zF ?_ | refine zG ?_ | refine zH ?_ | refine zI ?_ | refine zJ ?_ | refine zK ?_ | refine zL ?_ | refine zM ?_ | refine zN ?_ | refine zO ?_ | refine yG (by decide) ?_ | refine AW.condT rfl ?_ | refine AW.condF rfl ?_)
    simp (maxSteps := 1000000) (disch := refine hold_ ?_; first | (simp [f1, f2, f3, f4, -List.getD_eq_getElem?_getD]; done) | omega) [f1, f2, f3, f4, -List.getD_eq_getElem?_getD]
theorem validRune_ct (r : Int) : Fn Tryz.prog 58 [.int .i32 r] [.p (.bool (charB r))] := by
  refine Fn.of_body Tryz.func58 rfl ?_
  have hr : r < 0 ∨ (0 ≤ r ∧ r < 55296) ∨ (55296 ≤ r ∧ r ≤ 57343) ∨ (57343 < r ∧ r ≤ 1114111) ∨ 1114111 < r := by omega
  rcases hr with hr | hr | hr | hr | hr
  all_goals
    (first | have f1 : (0 ≤ r) = True := eq_true (by omega) | have f1 : (0 ≤ r) = False := eq_false (by omega)); (first | have f2 : (r ≤ 1114111) = True := eq_true (by omega) | have f2 : (r ≤ 1114111) = False := eq_false (by omega)); (first | have f3 : (r < 55296) = True := eq_true (by omega) | have f3 : (r < 55296) = False := eq_false (by omega)); (first | have f4 : (57343 < r) = True := eq_true (by omega) | have f4 : (57343 < r) = False := eq_false (by omega))
    (first | have fx : charB r = true := by simp [charB, f1, f2, f3, f4] | have fx : charB r = false := by simp [charB, f1, f2, f3, f4])
    rw [fx]
    repeat (first | ((first | refine zP fun K_ hK_ => ?_ | refine zQ fun K_ hK_ => ?_ | refine zR (by kernel_rfl) (by kernel_rfl) fun K_ hK_ => ?_ | refine zS (by kernel_rfl) (by kernel_rfl) fun K_ hK_ => ?_ | refine zT ?_); first | (simp (maxSteps := 1000000) (disch := refine hold_ ?_; first | (simp [f1, f2, f3, f4, -List.getD_eq_getElem?_getD]; done) | omega) [f1, f2, f3, f4, -List.getD_eq_getElem?_getD]; try first | refine zZ ?_ | subst hK_) | subst hK_) | refine zA ?_ | refine zB ?_ | refine zC ?_ | refine zD ?_ | refine zE ?_ | refine zF ?_ | refine zG ?_ | refine zH ?_ | refine zI ?_ | refine zJ ?_ | refine zK ?_ | refine zL ?_ | refine zM ?_ | refine zN ?_ | refine zO ?_ | refine yG (by decide) ?_ | refine AW.condT rfl ?_ | refine AW.condF rfl ?_)
    simp (maxSteps := 1000000) (disch := refine hold_ ?_; first | (simp [f1, f2, f3, f4, -List.getD_eq_getElem?_getD]; done) | omega) [f1, f2, f3, f4, -List.getD_eq_getElem?_getD]
set_option maxHeartbeats 4000000 in
theorem xml_ct (r : Int) : Fn Tryz.prog 35 [.int .i32 r] [.p (.bool (xmlB r))] := by
  refine Fn.of_body Tryz.func35 rfl ?_
  have hr : r < 9 ∨ r = 9 ∨ r = 10 ∨ (10 < r ∧ r < 13) ∨ r = 13 ∨ (13 < r ∧ r < 32) ∨ (32 ≤ r ∧ r ≤ 55295) ∨ (55295 < r ∧ r < 57344) ∨ (57344 ≤ r ∧ r ≤ 65533) ∨ (65533 < r ∧ r < 65536) ∨ (65536 ≤ r ∧ r ≤ 1114111) ∨ 1114111 < r := by omega
  rcases hr with hr | hr | hr | hr | hr | hr | hr | hr | hr | hr | hr | hr
  all_goals
    (first | have f1 : (r == 9) = true := beq_iff_eq.2 (by omega) | have f1 : (r == 9) = false := beq_eq_false_iff_ne.2 (by omega)); (first | have f2 : (r == 10) = true := beq_iff_eq.2 (by omega) | have f2 : (r == 10) = false := beq_eq_false_iff_ne.2 (by omega)); (first | have f3 : (r == 13) = true := beq_iff_eq.2 (by omega) | have f3 : (r == 13) = false := beq_eq_false_iff_ne.2 (by omega)); (first | have f4 : (32 ≤ r) = True := eq_true (by omega) | have f4 : (32 ≤ r) = False := eq_false (by omega)); (first | have f5 : (r ≤ 55295) = True := eq_true (by omega) | have f5 : (r ≤ 55295) = False := eq_false (by omega)); (first | have f6 : (57344 ≤ r) = True := eq_true (by omega) | have f6 : (57344 ≤ r) = False := eq_false (by omega)); (first | have f7 : (r ≤ 65533) = True := eq_true (by omega) | have f7 : (r ≤ 65533) = False := eq_false (by omega)); (first | have f8 : (65536 ≤ r) = True := eq_true (by omega) | have f8 : (65536 ≤ r) = False := eq_false (by omega)); (first | have f9 : (r ≤ 1114111) = True := eq_true (by omega) | have f9 : (r ≤ 1114111) = False := eq_false (by omega))
    (first | have g1 : (r = 9) = True := eq_true (by omega) | have g1 : (r = 9) = False := eq_false (by omega)); (first | have g2 : (r = 10) = True := eq_true (by omega) | have g2 : (r = 10) = False := eq_false (by omega)); (first | have g3 : (r = 13) = True := eq_true (by omega) | have g3 : (r = 13) = False := eq_false (by omega))
    (first | have fx : xmlB r = true := by simp [xmlB, f1, f2, f3, f4, f5, f6, f7, f8, f9, g1, g2, g3] | have fx : xmlB r = false := by simp [xmlB, f1, f2, f3, f4, f5, f6, f7, f8, f9, g1, g2, g3])
    rw [fx]
    repeat (first | ((first | refine zP fun K_ hK_ => ?_ | refine zQ fun K_ hK_ => ?_ | refine zR (by kernel_rfl) (by kernel_rfl) fun K_ hK_ => ?_ | refine zS (by kernel_rfl) (by kernel_rfl) fun K_ hK_ => ?_ | refine zT ?_); first | (simp (maxSteps := 1000000) (disch := refine hold_ ?_; first | (simp [f1, f2, f3, f4, f5, f6, f7, f8, f9, -List.getD_eq_getElem?_getD]; done) | omega) [f1, f2, f3, f4, f5, f6, f7, f8, f9, -List.getD_eq_getElem?_getD]; try first | refine zZ ?_ | subst hK_) | subst hK_) | refine zA ?_ | refine zB ?_ | refine zC ?_ | refine zD ?_ | refine zE ?_ | refine zF ?_ | refine zG ?_ | refine zH ?_ | refine zI ?_ | refine zJ ?_ | refine zK ?_ | refine zL ?_ | refine zM ?_ | refine zN ?_ | refine zO ?_ | refine yG (by decide) ?_ | refine AW.condT rfl ?_ | refine AW.condF rfl ?_)
    simp (maxSteps := 1000000) (disch := refine hold_ ?_; first | (simp [f1, f2, f3, f4, f5, f6, f7, f8, f9, -List.getD_eq_getElem?_getD]; done) | omega) [f1, f2, f3, f4, f5, f6, f7, f8, f9, -List.getD_eq_getElem?_getD]
set_option maxHeartbeats 4000000 in
theorem rxml_ct (r : Int) : Fn Tryz.prog 11 [.int .i32 r] [.p (.bool (xmlB r))] := by
  refine Fn.of_body Tryz.func11 rfl ?_
  have hr : r < 0 ∨ (0 ≤ r ∧ r < 9) ∨ r = 9 ∨ r = 10 ∨ (10 < r ∧ r < 13) ∨ r = 13 ∨ (13 < r ∧ r < 32) ∨ (32 ≤ r ∧ r ≤ 55295) ∨ (55295 < r ∧ r < 57344) ∨ (57344 ≤ r ∧ r ≤ 65533) ∨ r = 65534 ∨ r = 65535 ∨ (65536 ≤ r ∧ r ≤ 1114111) ∨ 1114111 < r := by omega
  rcases hr with hr | hr | hr | hr | hr | hr | hr | hr | hr | hr | hr | hr | hr | hr
  all_goals
    (first | have f1 : (r == 9) = true := beq_iff_eq.2 (by omega) | have f1 : (r == 9) = false := beq_eq_false_iff_ne.2 (by omega)); (first | have f2 : (r == 10) = true := beq_iff_eq.2 (by omega) | have f2 : (r == 10) = false := beq_eq_false_iff_ne.2 (by omega)); (first | have f3 : (r == 13) = true := beq_iff_eq.2 (by omega) | have f3 : (r == 13) = false := beq_eq_false_iff_ne.2 (by omega)); (first | have f4 : (32 ≤ r) = True := eq_true (by omega) | have f4 : (32 ≤ r) = False := eq_false (by omega)); (first | have f5 : (r == 65534) = true := beq_iff_eq.2 (by omega) | have f5 : (r == 65534) = false := beq_eq_false_iff_ne.2 (by omega)); (first | have f6 : (r == 65535) = true := beq_iff_eq.2 (by omega) | have f6 : (r == 65535) = false := beq_eq_false_iff_ne.2 (by omega)); (first | have f7 : (0 ≤ r) = True := eq_true (by omega) | have f7 : (0 ≤ r) = False := eq_false (by omega)); (first | have f8 : (r ≤ 1114111) = True := eq_true (by omega) | have f8 : (r ≤ 1114111) = False := eq_false (by omega)); (first | have f9 : (r < 55296) = True := eq_true (by omega) | have f9 : (r < 55296) = False := eq_false (by omega)); (first | have f10 : (57343 < r) = True := eq_true (by omega) | have f10 : (57343 < r) = False := eq_false (by omega)); (first | have f11 : (r ≤ 55295) = True := eq_true (by omega) | have f11 : (r ≤ 55295) = False := eq_false (by omega)); (first | have f12 : (57344 ≤ r) = True := eq_true (by omega) | have f12 : (57344 ≤ r) = False := eq_false (by omega)); (first | have f13 : (r ≤ 65533) = True := eq_true (by omega) | have f13 : (r ≤ 65533) = False := eq_false (by omega)); (first | have f14 : (65536 ≤ r) = True := eq_true (by omega) | have f14 : (65536 ≤ r) = False := eq_false (by omega))
    (first | have g1 : (r = 9) = True := eq_true (by omega) | have g1 : (r = 9) = False := eq_false (by omega)); (first | have g2 : (r = 10) = True := eq_true (by omega) | have g2 : (r = 10) = False := eq_false (by omega)); (first | have g3 : (r = 13) = True := eq_true (by omega) | have g3 : (r = 13) = False := eq_false (by omega))
    (first | have fx : xmlB r = true := by simp [xmlB, f1, f2, f3, f4, f5, f6, f7, f8, f9, f10, f11, f12, f13, f14, g1, g2, g3] | have fx : xmlB r = false := by simp [xmlB, f1, f2, f3, f4, f5, f6, f7, f8, f9, f10, f11, f12, f13, f14, g1, g2, g3])
    (first | have fc : charB r = true := by simp [charB, f1, f2, f3, f4, f5, f6, f7, f8, f9, f10, f11, f12, f13, f14] | have fc : charB r = false := by simp [charB, f1, f2, f3, f4, f5, f6, f7, f8, f9, f10, f11, f12, f13, f14])
    have k := charB_ct r
    rw [fx]; rw [fc] at k
    repeat (first | ((first | refine callK_at 20 ?_); refine callK_p ?_; simp (maxSteps := 1000000) (disch := refine hold_ ?_; first | (simp [f1, f2, f3, f4, f5, f6, f7, f8, f9, f10, f11, f12, f13, f14, bne, -List.getD_eq_getElem?_getD]; done) | omega) [f1, f2, f3, f4, f5, f6, f7, f8, f9, f10, f11, f12, f13, f14, bne, -List.getD_eq_getElem?_getD]; (first | refine callK1_of (Fn.ct k Tryz.call20) ?_); (try simp (maxSteps := 1000000) (disch := refine hold_ ?_; first | (simp [f1, f2, f3, f4, f5, f6, f7, f8, f9, f10, f11, f12, f13, f14, bne, -List.getD_eq_getElem?_getD]; done) | omega) [f1, f2, f3, f4, f5, f6, f7, f8, f9, f10, f11, f12, f13, f14, bne, -List.getD_eq_getElem?_getD]); try first | refine zZ ?_ | subst hK_) | ((first | refine zP fun K_ hK_ => ?_ | refine zQ fun K_ hK_ => ?_ | refine zR (by kernel_rfl) (by kernel_rfl) fun K_ hK_ => ?_ | refine zS (by kernel_rfl) (by kernel_rfl) fun K_ hK_ => ?_ | refine zT ?_); first | (simp (maxSteps := 1000000) (disch := refine hold_ ?_; first | (simp [f1, f2, f3, f4, f5, f6, f7, f8, f9, f10, f11, f12, f13, f14, bne, -List.getD_eq_getElem?_getD]; done) | omega) [f1, f2, f3, f4, f5, f6, f7, f8, f9, f10, f11, f12, f13, f14, bne, -List.getD_eq_getElem?_getD]; try first | refine zZ ?_ | subst hK_) | subst hK_) | refine zA ?_ | refine zB ?_ | refine zC ?_ | refine zD ?_ | refine zE ?_ | refine zF ?_ | refine zG ?_ | refine zH ?_ | refine zI ?_ | refine zJ ?_ | refine zK ?_ | refine zL ?_ | refine zM ?_ | refine zN ?_ | refine zO ?_ | refine yG (by decide) ?_ | refine AW.condT rfl ?_ | refine AW.condF rfl ?_)
    simp (maxSteps := 1000000) (disch := refine hold_ ?_; first | (simp [f1, f2, f3, f4, f5, f6, f7, f8, f9, f10, f11, f12, f13, f14, bne, -List.getD_eq_getElem?_getD]; done) | omega) [f1, f2, f3, f4, f5, f6, f7, f8, f9, f10, f11, f12, f13, f14, bne, -List.getD_eq_getElem?_getD]
end Go.Av.Cha
end
section
set_option linter.unusedSimpArgs false
set_option linter.unusedVariables false
set_option linter.unusedSectionVars false
open Go Go.Av Go.Proofs
namespace Go.Av.Cha
variable [ML]
def byt (n : Int) : BitVec 8 := BitVec.ofInt 8 n
def encL (r : Int) : List (BitVec 8) :=
  if r < 128 then [byt r]
  else if r < 2048 then [byt (192 + r / 64), byt (128 + r % 64)]
  else if r < 65536 then [byt (224 + r / 4096), byt (128 + r / 64 % 64), byt (128 + r % 64)]
  else [byt (240 + r / 262144), byt (128 + r / 4096 % 64), byt (128 + r / 64 % 64), byt (128 + r % 64)]
theorem ub_byt (n : Int) (h0 : 0 ≤ n) (h : n < 256) : ub (byt n) = n := by simp [ub, byt, BitVec.toNat_ofInt]; omega
theorem ints_byt1 (a : Int) (h : 0 ≤ a ∧ a < 256) : (Row.ints .u8 [a] : Row PV) = bl [byt a] := by simp [bl, ub_byt, h]
theorem ints_byt2 (a b : Int) (h : 0 ≤ a ∧ a < 256) (h2 : 0 ≤ b ∧ b < 256) : (Row.ints .u8 [a, b] : Row PV) = bl [byt a, byt b] := by simp [bl, ub_byt, h, h2]
theorem ints_byt3 (a b c : Int) (h : 0 ≤ a ∧ a < 256) (h2 : 0 ≤ b ∧ b < 256) (h3 : 0 ≤ c ∧ c < 256) : (Row.ints .u8 [a, b, c] : Row PV) = bl [byt a, byt b, byt c] := by simp [bl, ub_byt, h, h2, h3]
theorem ints_byt4 (a b c d : Int) (h : 0 ≤ a ∧ a < 256) (h2 : 0 ≤ b ∧ b < 256) (h3 : 0 ≤ c ∧ c < 256) (h4 : 0 ≤ d ∧ d < 256) : (Row.ints .u8 [a, b, c, d] : Row PV) = bl [byt a, byt b, byt c, byt d] := by simp [bl, ub_byt, h, h2, h3, h4]
theorem wrap_u32 (n : Int) (h0 : 0 ≤ n) (h : n < 4294967296) : IntKind.u32.wrap n = n := by
  have : IntKind.u32.wrap n = n % 4294967296 := rfl
  rw [this]; omega
set_option maxHeartbeats 4000000 in
theorem one_ct (r : Int) (h0 : 0 ≤ r) (hn : r ≤ 1114111) : Fn Tryz.prog 12 [.int .i32 r] [.row (bl (encL r)) 0 0 false] 1 := by
  refine Fn.of_body Tryz.func12 rfl ?_
  have w0 : IntKind.u32.wrap r = r := wrap_u32 _ (by omega) (by omega)
  have d1 : r.tdiv 64 = r / 64 := Int.tdiv_eq_ediv_of_nonneg h0
  have d2 : r.tdiv 4096 = r / 4096 := Int.tdiv_eq_ediv_of_nonneg h0
  have d3 : r.tdiv 262144 = r / 262144 := Int.tdiv_eq_ediv_of_nonneg h0
  have m1 : r.tmod 64 = r % 64 := Int.tmod_eq_emod_of_nonneg h0
  have m2 : (r / 64).tmod 64 = r / 64 % 64 := Int.tmod_eq_emod_of_nonneg (by omega)
  have m3 : (r / 4096).tmod 64 = r / 4096 % 64 := Int.tmod_eq_emod_of_nonneg (by omega)
  have q1 : IntKind.u32.wrap (r / 64) = r / 64 := wrap_u32 _ (by omega) (by omega)
  have q2 : IntKind.u32.wrap (r / 4096) = r / 4096 := wrap_u32 _ (by omega) (by omega)
  have q3 : IntKind.u32.wrap (r / 262144) = r / 262144 := wrap_u32 _ (by omega) (by omega)
  have a1 : IntKind.u32.wrap (128 + r % 64) = 128 + r % 64 := wrap_u32 _ (by omega) (by omega)
  have a2 : IntKind.u32.wrap (128 + r / 64 % 64) = 128 + r / 64 % 64 := wrap_u32 _ (by omega) (by omega)
  have a3 : IntKind.u32.wrap (128 + r / 4096 % 64) = 128 + r / 4096 % 64 := wrap_u32 _ (by omega) (by omega)
  have b1 : IntKind.u8.wrap (128 + r % 64) = 128 + r % 64 := wrap_u8' _ (by omega) (by omega)
  have b2 : IntKind.u8.wrap (128 + r / 64 % 64) = 128 + r / 64 % 64 := wrap_u8' _ (by omega) (by omega)
  have b3 : IntKind.u8.wrap (128 + r / 4096 % 64) = 128 + r / 4096 % 64 := wrap_u8' _ (by omega) (by omega)
  have hr : r < 128 ∨ (128 ≤ r ∧ r < 2048) ∨ (2048 ≤ r ∧ r < 65536) ∨ 65536 ≤ r := by omega
  rcases hr with hr | hr | hr | hr
  all_goals (first | have f1 : (r < 128) = True := eq_true (by omega) | have f1 : (r < 128) = False := eq_false (by omega)); (first | have f2 : (r < 2048) = True := eq_true (by omega) | have f2 : (r < 2048) = False := eq_false (by omega)); (first | have f3 : (r < 65536) = True := eq_true (by omega) | have f3 : (r < 65536) = False := eq_false (by omega))
  · have c0 : IntKind.u8.wrap r = r := wrap_u8' _ (by omega) (by omega)
    have hE : encL r = [byt r] := by simp [encL, f1]
    have hB := ints_byt1 r (by omega)
    rw [hE]
    repeat (first | ((first | refine zP fun K_ hK_ => ?_ | refine zQ fun K_ hK_ => ?_ | refine zR (by kernel_rfl) (by kernel_rfl) fun K_ hK_ => ?_ | refine zS (by kernel_rfl) (by kernel_rfl) fun K_ hK_ => ?_ | refine zT ?_); first | (simp (maxSteps := 1000000) (disch := refine hold_ ?_; first | (simp [w0, c0, hB, f1, -List.getD_eq_getElem?_getD]; done) | omega) [w0, c0, hB, f1, -List.getD_eq_getElem?_getD]; try first | refine zZ ?_ | subst hK_) | subst hK_) | refine zA ?_ | refine zB ?_ | refine zC ?_ | refine zD ?_ | refine zE ?_ | refine zF ?_ | refine zG ?_ | refine zH ?_ | refine zI ?_ | refine zJ ?_ | refine zK ?_ | refine zL ?_ | refine zM ?_ | refine zN ?_ | refine zO ?_ | refine yG (by decide) ?_ | refine AW.condT rfl ?_ | refine AW.condF rfl ?_)
    simp (maxSteps := 1000000) (disch := refine hold_ ?_; first | (simp [w0, c0, hB, -List.getD_eq_getElem?_getD]; done) | omega) [w0, c0, hB, -List.getD_eq_getElem?_getD]
  · have hE : encL r = [byt (192 + r / 64), byt (128 + r % 64)] := by simp [encL, f1, f2]
    have e1 : IntKind.u32.wrap (192 + r / 64) = 192 + r / 64 := wrap_u32 _ (by omega) (by omega)
    have e2 : IntKind.u8.wrap (192 + r / 64) = 192 + r / 64 := wrap_u8' _ (by omega) (by omega)
    have hB := ints_byt2 (192 + r / 64) (128 + r % 64) (by omega) (by omega)
    rw [hE]
    repeat (first | ((first | refine zP fun K_ hK_ => ?_ | refine zQ fun K_ hK_ => ?_ | refine zR (by kernel_rfl) (by kernel_rfl) fun K_ hK_ => ?_ | refine zS (by kernel_rfl) (by kernel_rfl) fun K_ hK_ => ?_ | refine zT ?_); first | (simp (maxSteps := 1000000) (disch := refine hold_ ?_; first | (simp [w0, d1, m1, q1, a1, b1, e1, e2, hB, f1, f2, -List.getD_eq_getElem?_getD]; done) | omega) [w0, d1, m1, q1, a1, b1, e1, e2, hB, f1, f2, -List.getD_eq_getElem?_getD]; try first | refine zZ ?_ | subst hK_) | subst hK_) | refine zA ?_ | refine zB ?_ | refine zC ?_ | refine zD ?_ | refine zE ?_ | refine zF ?_ | refine zG ?_ | refine zH ?_ | refine zI ?_ | refine zJ ?_ | refine zK ?_ | refine zL ?_ | refine zM ?_ | refine zN ?_ | refine zO ?_ | refine yG (by decide) ?_ | refine AW.condT rfl ?_ | refine AW.condF rfl ?_)
    simp (maxSteps := 1000000) (disch := refine hold_ ?_; first | (simp [hB, -List.getD_eq_getElem?_getD]; done) | omega) [hB, -List.getD_eq_getElem?_getD]
  · have hE : encL r = [byt (224 + r / 4096), byt (128 + r / 64 % 64), byt (128 + r % 64)] := by simp [encL, f1, f2, f3]
    have e1 : IntKind.u32.wrap (224 + r / 4096) = 224 + r / 4096 := wrap_u32 _ (by omega) (by omega)
    have e2 : IntKind.u8.wrap (224 + r / 4096) = 224 + r / 4096 := wrap_u8' _ (by omega) (by omega)
    have hB := ints_byt3 (224 + r / 4096) (128 + r / 64 % 64) (128 + r % 64) (by omega) (by omega) (by omega)
    rw [hE]
    repeat (first | ((first | refine zP fun K_ hK_ => ?_ | refine zQ fun K_ hK_ => ?_ | refine zR (by kernel_rfl) (by kernel_rfl) fun K_ hK_ => ?_ | refine zS (by kernel_rfl) (by kernel_rfl) fun K_ hK_ => ?_ | refine zT ?_); first | (simp (maxSteps := 1000000) (disch := refine hold_ ?_; first | (simp [w0, d1, d2, m1, m2, q1, q2, a1, a2, b1, b2, e1, e2, hB, f1, f2, f3, -List.getD_eq_getElem?_getD]; done) | omega) [w0, d1, d2, m1, m2, q1, q2, a1, a2, b1, b2, e1, e2, hB, f1, f2, f3, -List.getD_eq_getElem?_getD]; try first | refine zZ ?_ | subst hK_) | subst hK_) | refine zA ?_ | refine zB ?_ | refine zC ?_ | refine zD ?_ | refine zE ?_ | refine zF ?_ | refine zG ?_ | refine zH ?_ | refine zI ?_ | refine zJ ?_ | refine zK ?_ | refine zL ?_ | refine zM ?_ | refine zN ?_ | refine zO ?_ | refine yG (by decide) ?_ | refine AW.condT rfl ?_ | refine AW.condF rfl ?_)
    simp (maxSteps := 1000000) (disch := refine hold_ ?_; first | (simp [hB, -List.getD_eq_getElem?_getD]; done) | omega) [hB, -List.getD_eq_getElem?_getD]
  · have hE : encL r = [byt (240 + r / 262144), byt (128 + r / 4096 % 64), byt (128 + r / 64 % 64), byt (128 + r % 64)] := by simp [encL, f1, f2, f3]
    have e1 : IntKind.u32.wrap (240 + r / 262144) = 240 + r / 262144 := wrap_u32 _ (by omega) (by omega)
    have e2 : IntKind.u8.wrap (240 + r / 262144) = 240 + r / 262144 := wrap_u8' _ (by omega) (by omega)
    have hB := ints_byt4 (240 + r / 262144) (128 + r / 4096 % 64) (128 + r / 64 % 64) (128 + r % 64) (by omega) (by omega) (by omega) (by omega)
    rw [hE]
    repeat (first | ((first | refine zP fun K_ hK_ => ?_ | refine zQ fun K_ hK_ => ?_ | refine zR (by kernel_rfl) (by kernel_rfl) fun K_ hK_ => ?_ | refine zS (by kernel_rfl) (by kernel_rfl) fun K_ hK_ => ?_ | refine zT ?_); first | (simp (maxSteps := 1000000) (disch := refine hold_ ?_; first | (simp [w0, d1, d2, d3, m1, m2, m3, q1, q2, q3, a1, a2, a3, b1, b2, b3, e1, e2, hB, f1, f2, f3, -List.getD_eq_getElem?_getD]; done) | omega) [w0, d1, d2, d3, m1, m2, m3, q1, q2, q3, a1, a2, a3, b1, b2, b3, e1, e2, hB, f1, f2, f3, -List.getD_eq_getElem?_getD]; try first | refine zZ ?_ | subst hK_) | subst hK_) | refine zA ?_ | refine zB ?_ | refine zC ?_ | refine zD ?_ | refine zE ?_ | refine zF ?_ | refine zG ?_ | refine zH ?_ | refine zI ?_ | refine zJ ?_ | refine zK ?_ | refine zL ?_ | refine zM ?_ | refine zN ?_ | refine zO ?_ | refine yG (by decide) ?_ | refine AW.condT rfl ?_ | refine AW.condF rfl ?_)
    simp (maxSteps := 1000000) (disch := refine hold_ ?_; first | (simp [hB, -List.getD_eq_getElem?_getD]; done) | omega) [hB, -List.getD_eq_getElem?_getD]
end Go.Av.Cha
end
section
set_option linter.unusedSimpArgs false
set_option linter.unusedVariables false
set_option linter.unusedSectionVars false
open Go Go.Av Go.Proofs
namespace Go.Av.Cha
variable [ML]
theorem ib_and (k : IntKind) (a b : Int) : intBin .and k a b = some (.int k (k.wrap (BitVec.ofInt k.bits a &&& BitVec.ofInt k.bits b).toNat)) := rfl
theorem ib_or (k : IntKind) (a b : Int) : intBin .or k a b = some (.int k (k.wrap (BitVec.ofInt k.bits a ||| BitVec.ofInt k.bits b).toNat)) := rfl
set_option maxRecDepth 100000 in
theorem and63F : ∀ x : Fin 256, IntKind.u8.wrap ((BitVec.ofInt IntKind.u8.bits ((x.val : Nat) : Int) &&& BitVec.ofInt IntKind.u8.bits 63).toNat : Nat) = ((x.val % 64 : Nat) : Int) := by decide
set_option maxRecDepth 100000 in
theorem or128F : ∀ x : Fin 64, IntKind.u8.wrap ((BitVec.ofInt IntKind.u8.bits 128 ||| BitVec.ofInt IntKind.u8.bits ((x.val : Nat) : Int)).toNat : Nat) = ((128 + x.val : Nat) : Int) := by decide
theorem or192F : ∀ x : Fin 32, IntKind.u8.wrap ((BitVec.ofInt IntKind.u8.bits 192 ||| BitVec.ofInt IntKind.u8.bits ((x.val : Nat) : Int)).toNat : Nat) = ((192 + x.val : Nat) : Int) := by decide
theorem or224F : ∀ x : Fin 16, IntKind.u8.wrap ((BitVec.ofInt IntKind.u8.bits 224 ||| BitVec.ofInt IntKind.u8.bits ((x.val : Nat) : Int)).toNat : Nat) = ((224 + x.val : Nat) : Int) := by decide
theorem or240F : ∀ x : Fin 8, IntKind.u8.wrap ((BitVec.ofInt IntKind.u8.bits 240 ||| BitVec.ofInt IntKind.u8.bits ((x.val : Nat) : Int)).toNat : Nat) = ((240 + x.val : Nat) : Int) := by decide
theorem and63 (x : Int) (h : 0 ≤ x ∧ x < 256) : intBin .and .u8 x 63 = some (.int .u8 (x % 64)) := by
  obtain ⟨n, rfl⟩ : ∃ n : Nat, x = n := ⟨x.toNat, by omega⟩
  have := and63F ⟨n, by omega⟩
  rw [ib_and, this]; simp
theorem or128 (x : Int) (h : 0 ≤ x ∧ x < 64) : intBin .or .u8 128 x = some (.int .u8 (128 + x)) := by
  obtain ⟨n, rfl⟩ : ∃ n : Nat, x = n := ⟨x.toNat, by omega⟩
  have := or128F ⟨n, by omega⟩
  rw [ib_or, this]; simp
theorem or192 (x : Int) (h : 0 ≤ x ∧ x < 32) : intBin .or .u8 192 x = some (.int .u8 (192 + x)) := by
  obtain ⟨n, rfl⟩ : ∃ n : Nat, x = n := ⟨x.toNat, by omega⟩
  have := or192F ⟨n, by omega⟩
  rw [ib_or, this]; simp
theorem or224 (x : Int) (h : 0 ≤ x ∧ x < 16) : intBin .or .u8 224 x = some (.int .u8 (224 + x)) := by
  obtain ⟨n, rfl⟩ : ∃ n : Nat, x = n := ⟨x.toNat, by omega⟩
  have := or224F ⟨n, by omega⟩
  rw [ib_or, this]; simp
theorem or240 (x : Int) (h : 0 ≤ x ∧ x < 8) : intBin .or .u8 240 x = some (.int .u8 (240 + x)) := by
  obtain ⟨n, rfl⟩ : ∃ n : Nat, x = n := ⟨x.toNat, by omega⟩
  have := or240F ⟨n, by omega⟩
  rw [ib_or, this]; simp
theorem shr_i32 (x b : Int) (m : Int) (hb : 0 ≤ b) (hm : 2 ^ (min b.toNat 32) = m) (h0 : 0 < m) : shiftBin .shr .i32 x b = some (.int .i32 (x / m)) := by
  unfold shiftBin
  rw [if_neg (by omega)]
  simp only [show IntKind.i32.bits = 32 from rfl, hm]
  rw [Int.fdiv_eq_ediv_of_nonneg _ (by omega)]
theorem shr6 (x : Int) : shiftBin .shr .i32 x 6 = some (.int .i32 (x / 64)) := shr_i32 x 6 64 (by omega) (by decide) (by omega)
theorem shr12 (x : Int) : shiftBin .shr .i32 x 12 = some (.int .i32 (x / 4096)) := shr_i32 x 12 4096 (by omega) (by decide) (by omega)
theorem shr18 (x : Int) : shiftBin .shr .i32 x 18 = some (.int .i32 (x / 262144)) := shr_i32 x 18 262144 (by omega) (by decide) (by omega)
set_option maxHeartbeats 8000000 in
theorem appendNon_ct (c : List (BitVec 8)) (nl : Bool) (r : Int) (h0 : 128 ≤ r) (hr : charB r = true) (hc : c.length ≤ 100000000) :
    FnG Tryz.prog 76 [.row (bl c) 10000 0 nl, .p (.int .i32 r)] [] 1 [.row (bl (c ++ encL r)) 0 0 false] [] 1 := by
  refine FnG.of_body Tryz.func76 rfl ?_
  have hr2 : 0 ≤ r ∧ r ≤ 1114111 ∧ (r < 55296 ∨ 57343 < r) := by simpa [charB] using hr
  have w0 : IntKind.u32.wrap r = r := wrap_u32 _ (by omega) (by omega)
  have g3 : IntKind.u8.wrap r = r % 256 := rfl
  have g4 : intBin .and .u8 (r % 256) 63 = some (.int .u8 (r % 64)) := by rw [and63 _ (by omega)]; congr 2; omega
  have g5 : intBin .or .u8 128 (r % 64) = some (.int .u8 (128 + r % 64)) := or128 _ (by omega)
  have i1 : IntKind.u8.wrap (r / 64) = r / 64 % 256 := rfl
  have i2 : intBin .and .u8 (r / 64 % 256) 63 = some (.int .u8 (r / 64 % 64)) := by rw [and63 _ (by omega)]; congr 2; omega
  have i3 : intBin .or .u8 128 (r / 64 % 64) = some (.int .u8 (128 + r / 64 % 64)) := or128 _ (by omega)
  have j1 : IntKind.u8.wrap (r / 4096) = r / 4096 % 256 := rfl
  have j2 : intBin .and .u8 (r / 4096 % 256) 63 = some (.int .u8 (r / 4096 % 64)) := by rw [and63 _ (by omega)]; congr 2; omega
  have j3 : intBin .or .u8 128 (r / 4096 % 64) = some (.int .u8 (128 + r / 4096 % 64)) := or128 _ (by omega)
  have hcs : r < 2048 ∨ (2048 ≤ r ∧ r < 55296) ∨ (57343 < r ∧ r < 65536) ∨ 65536 ≤ r := by omega
  rcases hcs with hcs | hcs | hcs | hcs
  all_goals (first | have f1 : (r < 128) = True := eq_true (by omega) | have f1 : (r < 128) = False := eq_false (by omega)); (first | have f2 : (r < 2048) = True := eq_true (by omega) | have f2 : (r < 2048) = False := eq_false (by omega)); (first | have f3 : (r < 65536) = True := eq_true (by omega) | have f3 : (r < 65536) = False := eq_false (by omega)); (first | have f4 : (r ≤ 2047) = True := eq_true (by omega) | have f4 : (r ≤ 2047) = False := eq_false (by omega)); (first | have f5 : (r < 55296) = True := eq_true (by omega) | have f5 : (r < 55296) = False := eq_false (by omega)); (first | have f6 : (57343 < r) = True := eq_true (by omega) | have f6 : (57343 < r) = False := eq_false (by omega)); (first | have f7 : (r ≤ 65535) = True := eq_true (by omega) | have f7 : (r ≤ 65535) = False := eq_false (by omega)); (first | have f8 : (65535 < r) = True := eq_true (by omega) | have f8 : (65535 < r) = False := eq_false (by omega)); (first | have f9 : (r ≤ 1114111) = True := eq_true (by omega) | have f9 : (r ≤ 1114111) = False := eq_false (by omega))
  · have hE : encL r = [byt (192 + r / 64), byt (128 + r % 64)] := by simp [encL, f1, f2]
    have g1 : IntKind.u8.wrap (r / 64) = r / 64 := wrap_u8' _ (by omega) (by omega)
    have g2 : intBin .or .u8 192 (r / 64) = some (.int .u8 (192 + r / 64)) := or192 _ (by omega)
    have hB := ints_byt2 (192 + r / 64) (128 + r % 64) (by omega) (by omega)
    rw [hE]
    repeat (first | ((first | refine zP fun K_ hK_ => ?_ | refine zQ fun K_ hK_ => ?_ | refine zR (by kernel_rfl) (by kernel_rfl) fun K_ hK_ => ?_ | refine zS (by kernel_rfl) (by kernel_rfl) fun K_ hK_ => ?_ | refine zT ?_); first | (simp (maxSteps := 1000000) (disch := refine hold_ ?_; first | (simp [w0, g1, g2, g3, g4, g5, shr6, hB, f1, f2, f3, f4, f5, f6, f7, f8, f9, -List.getD_eq_getElem?_getD]; done) | omega) [w0, g1, g2, g3, g4, g5, shr6, hB, f1, f2, f3, f4, f5, f6, f7, f8, f9, -List.getD_eq_getElem?_getD]; try first | refine zZ ?_ | subst hK_) | subst hK_) | refine zA ?_ | refine zB ?_ | refine zC ?_ | refine zD ?_ | refine zE ?_ | refine zF ?_ | refine zG ?_ | refine zH ?_ | refine zI ?_ | refine zJ ?_ | refine zK ?_ | refine zL ?_ | refine zM ?_ | refine zN ?_ | refine zO ?_ | refine yG (by decide) ?_ | refine AW.condT rfl ?_ | refine AW.condF rfl ?_)
    simp (maxSteps := 1000000) (disch := refine hold_ ?_; first | (simp [hB, -List.getD_eq_getElem?_getD]; done) | omega) [hB, -List.getD_eq_getElem?_getD]
  iterate 2
    · have hE : encL r = [byt (224 + r / 4096), byt (128 + r / 64 % 64), byt (128 + r % 64)] := by simp [encL, f1, f2, f3]
      have g1 : IntKind.u8.wrap (r / 4096) = r / 4096 := wrap_u8' _ (by omega) (by omega)
      have g2 : intBin .or .u8 224 (r / 4096) = some (.int .u8 (224 + r / 4096)) := or224 _ (by omega)
      have hB := ints_byt3 (224 + r / 4096) (128 + r / 64 % 64) (128 + r % 64) (by omega) (by omega) (by omega)
      rw [hE]
      repeat (first | ((first | refine zP fun K_ hK_ => ?_ | refine zQ fun K_ hK_ => ?_ | refine zR (by kernel_rfl) (by kernel_rfl) fun K_ hK_ => ?_ | refine zS (by kernel_rfl) (by kernel_rfl) fun K_ hK_ => ?_ | refine zT ?_); first | (simp (maxSteps := 1000000) (disch := refine hold_ ?_; first | (simp [w0, g1, g2, g3, g4, g5, i1, i2, i3, shr6, shr12, hB, f1, f2, f3, f4, f5, f6, f7, f8, f9, -List.getD_eq_getElem?_getD]; done) | omega) [w0, g1, g2, g3, g4, g5, i1, i2, i3, shr6, shr12, hB, f1, f2, f3, f4, f5, f6, f7, f8, f9, -List.getD_eq_getElem?_getD]; try first | refine zZ ?_ | subst hK_) | subst hK_) | refine zA ?_ | refine zB ?_ | refine zC ?_ | refine zD ?_ | refine zE ?_ | refine zF ?_ | refine zG ?_ | refine zH ?_ | refine zI ?_ | refine zJ ?_ | refine zK ?_ | refine zL ?_ | refine zM ?_ | refine zN ?_ | refine zO ?_ | refine yG (by decide) ?_ | refine AW.condT rfl ?_ | refine AW.condF rfl ?_)
      simp (maxSteps := 1000000) (disch := refine hold_ ?_; first | (simp [hB, -List.getD_eq_getElem?_getD]; done) | omega) [hB, -List.getD_eq_getElem?_getD]
  · have hE : encL r = [byt (240 + r / 262144), byt (128 + r / 4096 % 64), byt (128 + r / 64 % 64), byt (128 + r % 64)] := by simp [encL, f1, f2, f3]
    have g1 : IntKind.u8.wrap (r / 262144) = r / 262144 := wrap_u8' _ (by omega) (by omega)
    have g2 : intBin .or .u8 240 (r / 262144) = some (.int .u8 (240 + r / 262144)) := or240 _ (by omega)
    have hB := ints_byt4 (240 + r / 262144) (128 + r / 4096 % 64) (128 + r / 64 % 64) (128 + r % 64) (by omega) (by omega) (by omega) (by omega)
    rw [hE]
    repeat (first | ((first | refine zP fun K_ hK_ => ?_ | refine zQ fun K_ hK_ => ?_ | refine zR (by kernel_rfl) (by kernel_rfl) fun K_ hK_ => ?_ | refine zS (by kernel_rfl) (by kernel_rfl) fun K_ hK_ => ?_ | refine zT ?_); first | (simp (maxSteps := 1000000) (disch := refine hold_ ?_; first | (simp [w0, g1, g2, g3, g4, g5, i1, i2, i3, j1, j2, j3, shr6, shr12, shr18, hB, f1, f2, f3, f4, f5, f6, f7, f8, f9, -List.getD_eq_getElem?_getD]; done) | omega) [w0, g1, g2, g3, g4, g5, i1, i2, i3, j1, j2, j3, shr6, shr12, shr18, hB, f1, f2, f3, f4, f5, f6, f7, f8, f9, -List.getD_eq_getElem?_getD]; try first | refine zZ ?_ | subst hK_) | subst hK_) | refine zA ?_ | refine zB ?_ | refine zC ?_ | refine zD ?_ | refine zE ?_ | refine zF ?_ | refine zG ?_ | refine zH ?_ | refine zI ?_ | refine zJ ?_ | refine zK ?_ | refine zL ?_ | refine zM ?_ | refine zN ?_ | refine zO ?_ | refine yG (by decide) ?_ | refine AW.condT rfl ?_ | refine AW.condF rfl ?_)
    simp (maxSteps := 1000000) (disch := refine hold_ ?_; first | (simp [hB, -List.getD_eq_getElem?_getD]; done) | omega) [hB, -List.getD_eq_getElem?_getD]
end Go.Av.Cha
end
section
set_option linter.unusedSimpArgs false
set_option linter.unusedVariables false
set_option linter.unusedSectionVars false
open Go Go.Av Go.Proofs
namespace Go.Av.Cha
variable [ML]
theorem appendRune_ct (c : List (BitVec 8)) (nl : Bool) (r : Int) (hr : charB r = true) (hc : c.length ≤ 100000000) :
    FnG Tryz.prog 59 [.row (bl c) 10000 0 nl, .p (.int .i32 r)] [] 1 [.row (bl (c ++ encL r)) 0 0 false] [] 1 := by
  refine FnG.of_body Tryz.func59 rfl ?_
  have hr2 : 0 ≤ r ∧ r ≤ 1114111 ∧ (r < 55296 ∨ 57343 < r) := by simpa [charB] using hr
  have w0 : IntKind.u32.wrap r = r := wrap_u32 _ (by omega) (by omega)
  by_cases hs : r < 128
  · (first | have f1 : (r ≤ 127) = True := eq_true (by omega) | have f1 : (r ≤ 127) = False := eq_false (by omega))
    have hE : encL r = [byt r] := by simp [encL, hs]
    have hB := ints_byt1 r (by omega)
    have c0 : IntKind.u8.wrap r = r := wrap_u8' _ (by omega) (by omega)
    rw [hE]
    repeat (first | ((first | refine zP fun K_ hK_ => ?_ | refine zQ fun K_ hK_ => ?_ | refine zR (by kernel_rfl) (by kernel_rfl) fun K_ hK_ => ?_ | refine zS (by kernel_rfl) (by kernel_rfl) fun K_ hK_ => ?_ | refine zT ?_); first | (simp (maxSteps := 1000000) (disch := refine hold_ ?_; first | (simp [w0, c0, hB, f1, -List.getD_eq_getElem?_getD]; done) | omega) [w0, c0, hB, f1, -List.getD_eq_getElem?_getD]; try first | refine zZ ?_ | subst hK_) | subst hK_) | refine zA ?_ | refine zB ?_ | refine zC ?_ | refine zD ?_ | refine zE ?_ | refine zF ?_ | refine zG ?_ | refine zH ?_ | refine zI ?_ | refine zJ ?_ | refine zK ?_ | refine zL ?_ | refine zM ?_ | refine zN ?_ | refine zO ?_ | refine yG (by decide) ?_ | refine AW.condT rfl ?_ | refine AW.condF rfl ?_)
    simp (maxSteps := 1000000) (disch := refine hold_ ?_; first | (simp [hB, -List.getD_eq_getElem?_getD]; done) | omega) [hB, -List.getD_eq_getElem?_getD]
  · (first | have f1 : (r ≤ 127) = True := eq_true (by omega) | have f1 : (r ≤ 127) = False := eq_false (by omega))
    repeat (first | ((first | refine callK_at 76 ?_); refine callK_o (by first | decide | exact Nat.le_of_ble_eq_true rfl) ?_; simp (maxSteps := 1000000) (disch := refine hold_ ?_; first | (simp [w0, f1, -List.getD_eq_getElem?_getD]; done) | omega) [w0, f1, -List.getD_eq_getElem?_getD]; (first | refine callK3_of (FnG.ct (appendNon_ct c nl r (by omega) hr hc) Tryz.call76) ?_); (try simp (maxSteps := 1000000) (disch := refine hold_ ?_; first | (simp [w0, f1, -List.getD_eq_getElem?_getD]; done) | omega) [w0, f1, -List.getD_eq_getElem?_getD]); try first | refine zZ ?_ | subst hK_) | ((first | refine zP fun K_ hK_ => ?_ | refine zQ fun K_ hK_ => ?_ | refine zR (by kernel_rfl) (by kernel_rfl) fun K_ hK_ => ?_ | refine zS (by kernel_rfl) (by kernel_rfl) fun K_ hK_ => ?_ | refine zT ?_); first | (simp (maxSteps := 1000000) (disch := refine hold_ ?_; first | (simp [w0, f1, -List.getD_eq_getElem?_getD]; done) | omega) [w0, f1, -List.getD_eq_getElem?_getD]; try first | refine zZ ?_ | subst hK_) | subst hK_) | refine zA ?_ | refine zB ?_ | refine zC ?_ | refine zD ?_ | refine zE ?_ | refine zF ?_ | refine zG ?_ | refine zH ?_ | refine zI ?_ | refine zJ ?_ | refine zK ?_ | refine zL ?_ | refine zM ?_ | refine zN ?_ | refine zO ?_ | refine yG (by decide) ?_ | refine AW.condT rfl ?_ | refine AW.condF rfl ?_)
    simp (maxSteps := 1000000) (disch := refine hold_ ?_; first | (simp [-List.getD_eq_getElem?_getD]; done) | omega) [-List.getD_eq_getElem?_getD]
def rl (l : List Int) : Row PV := .ints .i32 l
@[simp] theorem rl_len (l : List Int) : (rl l).len = l.length := rfl
@[simp] theorem rl_sz (l : List Int) : (rl l).sz = 1 := rfl
@[simp] theorem rl_elem (l : List Int) (i : Nat) : (rl l).elem i = .int .i32 (l.getD i 0) := rfl
@[simp] theorem rl_cell (l : List Int) (i j : Nat) : ((rl l).elem i).cell j = .int .i32 (l.getD i 0) := rfl
@[simp] theorem rl_cut (l : List Int) (i j : Nat) : (rl l).cut i j = rl ((l.take j).drop i) := rfl
@[simp] theorem app_rl (a : List Int) (n : Int) : appRow (rl a) (.ints .i32 [n]) = some (rl (a ++ [n])) := by simp [rl]
def encAll (l : List Int) (k : Nat) : List (BitVec 8) := ((l.take k).map encL).flatten
theorem encL_len (r : Int) : (encL r).length ≤ 4 := by unfold encL; (repeat' split) <;> simp
theorem encL_pos (r : Int) : 1 ≤ (encL r).length := by unfold encL; (repeat' split) <;> simp
theorem encAll_zero (l : List Int) : encAll l 0 = [] := rfl
theorem encAll_succ (l : List Int) (k : Nat) (h : k < l.length) : encAll l (k + 1) = encAll l k ++ encL (l.getD k 0) := by
  have : l.take (k + 1) = l.take k ++ [l.getD k 0] := by
    rw [List.take_add_one, List.getElem?_eq_getElem h, List.getD_eq_getElem?_getD, List.getElem?_eq_getElem h]; rfl
  unfold encAll; rw [this]; simp
theorem encAll_len (l : List Int) (k : Nat) : (encAll l k).length ≤ 4 * k := by
  induction k with
  | zero => simp [encAll]
  | succ k ih =>
    by_cases h : k < l.length
    · rw [encAll_succ l k h, List.length_append]; have := encL_len (l.getD k 0); omega
    · have : encAll l (k + 1) = encAll l k := by simp [encAll, List.take_of_length_le (show l.length ≤ k by omega), List.take_of_length_le (show l.length ≤ k + 1 by omega)]
      rw [this]; omega
set_option maxHeartbeats 4000000 in
theorem ubytes_ct (nl : Bool) (l : List Int) (hl : l.length ≤ 1000000) (n : Nat) (hn : n ≤ l.length) (hb : ∀ k, k < n → charB (l.getD k 0) = true) (hend : n < l.length → charB (l.getD n 0) = false) :
    if n < l.length then Fn Tryz.prog 41 [.sl (rl l) nl] [.p (.sl (.vals 1 []) true), .p (.bool false)]
    else Fn Tryz.prog 41 [.sl (rl l) nl] [.row (bl (encAll l l.length)) 0 0 (l.length == 0), .p (.bool true)] 1 := by
  by_cases hnl : n < l.length
  · rw [if_pos hnl]
    have hx := hend hnl
    refine Fn.of_body Tryz.func41 rfl ?_
    repeat (first | ((first | refine zP fun K_ hK_ => ?_ | refine zQ fun K_ hK_ => ?_ | refine zR (by kernel_rfl) (by kernel_rfl) fun K_ hK_ => ?_ | refine zS (by kernel_rfl) (by kernel_rfl) fun K_ hK_ => ?_ | refine zT ?_); first | (simp (maxSteps := 1000000) (disch := refine hold_ ?_; first | (simp [-List.getD_eq_getElem?_getD]; done) | omega) [-List.getD_eq_getElem?_getD]; try first | refine zZ ?_ | subst hK_) | subst hK_) | refine zA ?_ | refine zB ?_ | refine zC ?_ | refine zD ?_ | refine zE ?_ | refine zF ?_ | refine zG ?_ | refine zH ?_ | refine zI ?_ | refine zJ ?_ | refine zK ?_ | refine zL ?_ | refine zM ?_ | refine zN ?_ | refine zO ?_ | refine yG (by decide) ?_ | refine AW.condT rfl ?_ | refine AW.condF rfl ?_)
    refine AW.nilRow 4 (bl []) 4 _ rfl rfl ?_
    refine AW.iter (false :: false :: false :: false :: true :: false :: false :: true :: true :: true :: false :: false :: false :: false :: false :: false :: false :: false :: false :: false :: false :: []) n (fun k => ⟨(V.junk :: V.junk :: V.junk :: V.junk :: .row (bl (encAll l k)) 0 0 (k == 0) :: V.junk :: V.junk :: .p (.sl (rl l) nl) :: .p (.int .i64 l.length) :: .p (.int .i64 k) :: V.junk :: V.junk :: V.junk :: V.junk :: V.junk :: V.junk :: V.junk :: V.junk :: V.junk :: V.junk :: V.junk :: []), ⟨[], [(0, 0)]⟩⟩) ?_ ?_
    · simp (maxSteps := 1000000) (disch := refine hold_ ?_; first | (simp [encAll_zero, -List.getD_eq_getElem?_getD]; done) | omega) [encAll_zero, -List.getD_eq_getElem?_getD]
    intro k hk
    have hk3 : k < l.length := by omega
    have e1 : IntKind.i64.wrap ((k : Int) + 1) = k + 1 := wrap_i64 _ (by omega) (by omega)
    have h9 := encAll_len l k
    by_cases hkn : k < n
    · have hr := hb k hkn
      have hs := encAll_succ l k hk3
      generalize hr0 : l.getD k 0 = r at *
      have k39 := validRune_ct r
      rw [hr] at k39
      repeat (first | ((first | refine zP fun K_ hK_ => ?_ | refine zQ fun K_ hK_ => ?_ | refine zR (by kernel_rfl) (by kernel_rfl) fun K_ hK_ => ?_ | refine zS (by kernel_rfl) (by kernel_rfl) fun K_ hK_ => ?_ | refine zT ?_); first | (simp (maxSteps := 1000000) (disch := refine hold_ ?_; first | (simp [hk3, hr0, -List.getD_eq_getElem?_getD]; done) | omega) [hk3, hr0, -List.getD_eq_getElem?_getD]; try first | refine zZ ?_ | subst hK_) | subst hK_) | refine zA ?_ | refine zB ?_ | refine zC ?_ | refine zD ?_ | refine zE ?_ | refine zF ?_ | refine zG ?_ | refine zH ?_ | refine zI ?_ | refine zJ ?_ | refine zK ?_ | refine zL ?_ | refine zM ?_ | refine zN ?_ | refine zO ?_ | refine yG (by decide) ?_ | refine AW.condT rfl ?_ | refine AW.condF rfl ?_)
      (refine callK_p ?_; simp (maxSteps := 1000000) (disch := refine hold_ ?_; first | (simp [hk3, hr0, -List.getD_eq_getElem?_getD]; done) | omega) [hk3, hr0, -List.getD_eq_getElem?_getD]; refine callK1_of (Fn.ct k39 Tryz.call58) ?_; (try simp (maxSteps := 1000000) (disch := refine hold_ ?_; first | (simp [hk3, hr0, -List.getD_eq_getElem?_getD]; done) | omega) [hk3, hr0, -List.getD_eq_getElem?_getD]); first | refine zZ ?_ | subst hK_)
      repeat (first | ((first | refine callK_at 59 ?_); refine callK_o (by first | decide | exact Nat.le_of_ble_eq_true rfl) ?_; simp (maxSteps := 1000000) (disch := refine hold_ ?_; first | (simp [hk3, hr0, e1, -List.getD_eq_getElem?_getD]; done) | omega) [hk3, hr0, e1, -List.getD_eq_getElem?_getD]; (first | refine callK3_of (FnG.ct (appendRune_ct _ _ r hr (by omega)) Tryz.call59) ?_); (try simp (maxSteps := 1000000) (disch := refine hold_ ?_; first | (simp [hk3, hr0, e1, -List.getD_eq_getElem?_getD]; done) | omega) [hk3, hr0, e1, -List.getD_eq_getElem?_getD]); try first | refine zZ ?_ | subst hK_) | ((first | refine zP fun K_ hK_ => ?_ | refine zQ fun K_ hK_ => ?_ | refine zR (by kernel_rfl) (by kernel_rfl) fun K_ hK_ => ?_ | refine zS (by kernel_rfl) (by kernel_rfl) fun K_ hK_ => ?_ | refine zT ?_); first | (simp (maxSteps := 1000000) (disch := refine hold_ ?_; first | (simp [hk3, hr0, e1, -List.getD_eq_getElem?_getD]; done) | omega) [hk3, hr0, e1, -List.getD_eq_getElem?_getD]; try first | refine zZ ?_ | subst hK_) | subst hK_) | refine zA ?_ | refine zB ?_ | refine zC ?_ | refine zD ?_ | refine zE ?_ | refine zF ?_ | refine zG ?_ | refine zH ?_ | refine zI ?_ | refine zJ ?_ | refine zK ?_ | refine zL ?_ | refine zM ?_ | refine zN ?_ | refine zO ?_ | refine yG (by decide) ?_ | refine AW.condT rfl ?_ | refine AW.condF rfl ?_)
      refine ⟨hkn, ?_⟩
      simp (maxSteps := 1000000) (disch := refine hold_ ?_; first | (simp [hs, -List.getD_eq_getElem?_getD]; done) | omega) [hs, -List.getD_eq_getElem?_getD]
    · have hkn2 : k = n := by omega
      subst hkn2
      have k39 := validRune_ct (l.getD k 0)
      rw [hx] at k39
      repeat (first | ((first | refine zP fun K_ hK_ => ?_ | refine zQ fun K_ hK_ => ?_ | refine zR (by kernel_rfl) (by kernel_rfl) fun K_ hK_ => ?_ | refine zS (by kernel_rfl) (by kernel_rfl) fun K_ hK_ => ?_ | refine zT ?_); first | (simp (maxSteps := 1000000) (disch := refine hold_ ?_; first | (simp [hk3, -List.getD_eq_getElem?_getD]; done) | omega) [hk3, -List.getD_eq_getElem?_getD]; try first | refine zZ ?_ | subst hK_) | subst hK_) | refine zA ?_ | refine zB ?_ | refine zC ?_ | refine zD ?_ | refine zE ?_ | refine zF ?_ | refine zG ?_ | refine zH ?_ | refine zI ?_ | refine zJ ?_ | refine zK ?_ | refine zL ?_ | refine zM ?_ | refine zN ?_ | refine zO ?_ | refine yG (by decide) ?_ | refine AW.condT rfl ?_ | refine AW.condF rfl ?_)
      (refine callK_p ?_; simp (maxSteps := 1000000) (disch := refine hold_ ?_; first | (simp [hk3, -List.getD_eq_getElem?_getD]; done) | omega) [hk3, -List.getD_eq_getElem?_getD]; refine callK1_of (Fn.ct k39 Tryz.call58) ?_; (try simp (maxSteps := 1000000) (disch := refine hold_ ?_; first | (simp [hk3, -List.getD_eq_getElem?_getD]; done) | omega) [hk3, -List.getD_eq_getElem?_getD]); first | refine zZ ?_ | subst hK_)
      repeat (first | ((first | refine zP fun K_ hK_ => ?_ | refine zQ fun K_ hK_ => ?_ | refine zR (by kernel_rfl) (by kernel_rfl) fun K_ hK_ => ?_ | refine zS (by kernel_rfl) (by kernel_rfl) fun K_ hK_ => ?_ | refine zT ?_); first | (simp (maxSteps := 1000000) (disch := refine hold_ ?_; first | (simp [hk3, -List.getD_eq_getElem?_getD]; done) | omega) [hk3, -List.getD_eq_getElem?_getD]; try first | refine zZ ?_ | subst hK_) | subst hK_) | refine zA ?_ | refine zB ?_ | refine zC ?_ | refine zD ?_ | refine zE ?_ | refine zF ?_ | refine zG ?_ | refine zH ?_ | refine zI ?_ | refine zJ ?_ | refine zK ?_ | refine zL ?_ | refine zM ?_ | refine zN ?_ | refine zO ?_ | refine yG (by decide) ?_ | refine AW.condT rfl ?_ | refine AW.condF rfl ?_)
      simp (maxSteps := 1000000) (disch := refine hold_ ?_; first | (simp [-List.getD_eq_getElem?_getD]; done) | omega) [-List.getD_eq_getElem?_getD]
  · rw [if_neg hnl]
    have hnl2 : n = l.length := by omega
    subst hnl2
    refine Fn.of_body Tryz.func41 rfl ?_
    repeat (first | ((first | refine zP fun K_ hK_ => ?_ | refine zQ fun K_ hK_ => ?_ | refine zR (by kernel_rfl) (by kernel_rfl) fun K_ hK_ => ?_ | refine zS (by kernel_rfl) (by kernel_rfl) fun K_ hK_ => ?_ | refine zT ?_); first | (simp (maxSteps := 1000000) (disch := refine hold_ ?_; first | (simp [-List.getD_eq_getElem?_getD]; done) | omega) [-List.getD_eq_getElem?_getD]; try first | refine zZ ?_ | subst hK_) | subst hK_) | refine zA ?_ | refine zB ?_ | refine zC ?_ | refine zD ?_ | refine zE ?_ | refine zF ?_ | refine zG ?_ | refine zH ?_ | refine zI ?_ | refine zJ ?_ | refine zK ?_ | refine zL ?_ | refine zM ?_ | refine zN ?_ | refine zO ?_ | refine yG (by decide) ?_ | refine AW.condT rfl ?_ | refine AW.condF rfl ?_)
    refine AW.nilRow 4 (bl []) 4 _ rfl rfl ?_
    refine AW.iter (false :: false :: false :: false :: true :: false :: false :: true :: true :: true :: false :: false :: false :: false :: false :: false :: false :: false :: false :: false :: false :: []) l.length (fun k => ⟨(V.junk :: V.junk :: V.junk :: V.junk :: .row (bl (encAll l k)) 0 0 (k == 0) :: V.junk :: V.junk :: .p (.sl (rl l) nl) :: .p (.int .i64 l.length) :: .p (.int .i64 k) :: V.junk :: V.junk :: V.junk :: V.junk :: V.junk :: V.junk :: V.junk :: V.junk :: V.junk :: V.junk :: V.junk :: []), ⟨[], [(0, 0)]⟩⟩) ?_ ?_
    · simp (maxSteps := 1000000) (disch := refine hold_ ?_; first | (simp [encAll_zero, -List.getD_eq_getElem?_getD]; done) | omega) [encAll_zero, -List.getD_eq_getElem?_getD]
    intro k hk
    have e1 : IntKind.i64.wrap ((k : Int) + 1) = k + 1 := wrap_i64 _ (by omega) (by omega)
    have h9 := encAll_len l k
    by_cases hkn : k < l.length
    · have hr := hb k hkn
      have hs := encAll_succ l k hkn
      generalize hr0 : l.getD k 0 = r at *
      have k39 := validRune_ct r
      rw [hr] at k39
      repeat (first | ((first | refine zP fun K_ hK_ => ?_ | refine zQ fun K_ hK_ => ?_ | refine zR (by kernel_rfl) (by kernel_rfl) fun K_ hK_ => ?_ | refine zS (by kernel_rfl) (by kernel_rfl) fun K_ hK_ => ?_ | refine zT ?_); first | (simp (maxSteps := 1000000) (disch := refine hold_ ?_; first | (simp [hkn, hr0, -List.getD_eq_getElem?_getD]; done) | omega) [hkn, hr0, -List.getD_eq_getElem?_getD]; try first | refine zZ ?_ | subst hK_) | subst hK_) | refine zA ?_ | refine zB ?_ | refine zC ?_ | refine zD ?_ | refine zE ?_ | refine zF ?_ | refine zG ?_ | refine zH ?_ | refine zI ?_ | refine zJ ?_ | refine zK ?_ | refine zL ?_ | refine zM ?_ | refine zN ?_ | refine zO ?_ | refine yG (by decide) ?_ | refine AW.condT rfl ?_ | refine AW.condF rfl ?_)
      (refine callK_p ?_; simp (maxSteps := 1000000) (disch := refine hold_ ?_; first | (simp [hkn, hr0, -List.getD_eq_getElem?_getD]; done) | omega) [hkn, hr0, -List.getD_eq_getElem?_getD]; refine callK1_of (Fn.ct k39 Tryz.call58) ?_; (try simp (maxSteps := 1000000) (disch := refine hold_ ?_; first | (simp [hkn, hr0, -List.getD_eq_getElem?_getD]; done) | omega) [hkn, hr0, -List.getD_eq_getElem?_getD]); first | refine zZ ?_ | subst hK_)
      repeat (first | ((first | refine callK_at 59 ?_); refine callK_o (by first | decide | exact Nat.le_of_ble_eq_true rfl) ?_; simp (maxSteps := 1000000) (disch := refine hold_ ?_; first | (simp [hkn, hr0, e1, -List.getD_eq_getElem?_getD]; done) | omega) [hkn, hr0, e1, -List.getD_eq_getElem?_getD]; (first | refine callK3_of (FnG.ct (appendRune_ct _ _ r hr (by omega)) Tryz.call59) ?_); (try simp (maxSteps := 1000000) (disch := refine hold_ ?_; first | (simp [hkn, hr0, e1, -List.getD_eq_getElem?_getD]; done) | omega) [hkn, hr0, e1, -List.getD_eq_getElem?_getD]); try first | refine zZ ?_ | subst hK_) | ((first | refine zP fun K_ hK_ => ?_ | refine zQ fun K_ hK_ => ?_ | refine zR (by kernel_rfl) (by kernel_rfl) fun K_ hK_ => ?_ | refine zS (by kernel_rfl) (by kernel_rfl) fun K_ hK_ => ?_ | refine zT ?_); first | (simp (maxSteps := 1000000) (disch := refine hold_ ?_; first | (simp [hkn, hr0, e1, -List.getD_eq_getElem?_getD]; done) | omega) [hkn, hr0, e1, -List.getD_eq_getElem?_getD]; try first | refine zZ ?_ | subst hK_) | subst hK_) | refine zA ?_ | refine zB ?_ | refine zC ?_ | refine zD ?_ | refine zE ?_ | refine zF ?_ | refine zG ?_ | refine zH ?_ | refine zI ?_ | refine zJ ?_ | refine zK ?_ | refine zL ?_ | refine zM ?_ | refine zN ?_ | refine zO ?_ | refine yG (by decide) ?_ | refine AW.condT rfl ?_ | refine AW.condF rfl ?_)
      refine ⟨hkn, ?_⟩
      simp (maxSteps := 1000000) (disch := refine hold_ ?_; first | (simp [hs, -List.getD_eq_getElem?_getD]; done) | omega) [hs, -List.getD_eq_getElem?_getD]
    · have hkn2 : k = l.length := by omega
      subst hkn2
      repeat (first | ((first | refine zP fun K_ hK_ => ?_ | refine zQ fun K_ hK_ => ?_ | refine zR (by kernel_rfl) (by kernel_rfl) fun K_ hK_ => ?_ | refine zS (by kernel_rfl) (by kernel_rfl) fun K_ hK_ => ?_ | refine zT ?_); first | (simp (maxSteps := 1000000) (disch := refine hold_ ?_; first | (simp [-List.getD_eq_getElem?_getD]; done) | omega) [-List.getD_eq_getElem?_getD]; try first | refine zZ ?_ | subst hK_) | subst hK_) | refine zA ?_ | refine zB ?_ | refine zC ?_ | refine zD ?_ | refine zE ?_ | refine zF ?_ | refine zG ?_ | refine zH ?_ | refine zI ?_ | refine zJ ?_ | refine zK ?_ | refine zL ?_ | refine zM ?_ | refine zN ?_ | refine zO ?_ | refine yG (by decide) ?_ | refine AW.condT rfl ?_ | refine AW.condF rfl ?_)
      simp (maxSteps := 1000000) (disch := refine hold_ ?_; first | (simp [-List.getD_eq_getElem?_getD]; done) | omega) [-List.getD_eq_getElem?_getD]
end Go.Av.Cha
end
section
set_option linter.unusedSimpArgs false
set_option linter.unusedVariables false
set_option linter.unusedSectionVars false
open Go Go.Av Go.Proofs
namespace Go.Av.Cha
variable [ML]
def bt (l : List (BitVec 8)) (i : Nat) : Int := ub (l.getD i 0)
theorem bt_lt (l : List (BitVec 8)) (i : Nat) : 0 ≤ bt l i ∧ bt l i < 256 := by
  have := (l.getD i 0).isLt
  unfold bt ub; omega
def loB (b : Int) : Int := if b = 224 then 160 else if b = 240 then 144 else 128
def hiB (b : Int) : Int := if b = 237 then 159 else if b = 244 then 143 else 191
def okS (l : List (BitVec 8)) : Nat :=
  if l.length = 0 then 0
  else if bt l 0 < 128 then 1
  else if 194 ≤ bt l 0 ∧ bt l 0 < 224 then (if 2 ≤ l.length ∧ 128 ≤ bt l 1 ∧ bt l 1 ≤ 191 then 2 else 0)
  else if 224 ≤ bt l 0 ∧ bt l 0 < 240 then (if 3 ≤ l.length ∧ loB (bt l 0) ≤ bt l 1 ∧ bt l 1 ≤ hiB (bt l 0) ∧ 128 ≤ bt l 2 ∧ bt l 2 ≤ 191 then 3 else 0)
  else if 240 ≤ bt l 0 ∧ bt l 0 < 245 then (if 4 ≤ l.length ∧ loB (bt l 0) ≤ bt l 1 ∧ bt l 1 ≤ hiB (bt l 0) ∧ 128 ≤ bt l 2 ∧ bt l 2 ≤ 191 ∧ 128 ≤ bt l 3 ∧ bt l 3 ≤ 191 then 4 else 0)
  else 0
def runeN (l : List (BitVec 8)) : Int :=
  if bt l 0 < 128 then bt l 0
  else if bt l 0 < 224 then (bt l 0 - 192) * 64 + (bt l 1 - 128)
  else if bt l 0 < 240 then (bt l 0 - 224) * 4096 + (bt l 1 - 128) * 64 + (bt l 2 - 128)
  else (bt l 0 - 240) * 262144 + (bt l 1 - 128) * 4096 + (bt l 2 - 128) * 64 + (bt l 3 - 128)
theorem okS_len (l : List (BitVec 8)) : okS l ≤ l.length := by
  unfold okS
  (repeat' split) <;> omega
def charsL (l : List (BitVec 8)) : Option (List Int) :=
  if h : l.length = 0 then some []
  else if h2 : okS l = 0 then none
  else (charsL (l.drop (okS l))).map (runeN l :: ·)
termination_by l.length
decreasing_by simp; omega
theorem charsL_nil : charsL [] = some [] := by rw [charsL]; simp
theorem charsL_bad (l : List (BitVec 8)) (h : l.length ≠ 0) (h2 : okS l = 0) : charsL l = none := by rw [charsL]; simp [h, h2]
theorem charsL_step (l : List (BitVec 8)) (h : l.length ≠ 0) (h2 : okS l ≠ 0) : charsL l = (charsL (l.drop (okS l))).map (runeN l :: ·) := by
  rw [charsL]; simp only [h, h2, dif_neg, not_false_eq_true]
def validB (l : List (BitVec 8)) : Bool := (charsL l).isSome
theorem validB_nil (l : List (BitVec 8)) (h : l.length = 0) : validB l = true := by
  obtain rfl := List.eq_nil_of_length_eq_zero h; unfold validB; rw [charsL_nil]; rfl
theorem validB_bad (l : List (BitVec 8)) (h : l.length ≠ 0) (h2 : okS l = 0) : validB l = false := by unfold validB; rw [charsL_bad l h h2]; rfl
theorem validB_step (l : List (BitVec 8)) (h : l.length ≠ 0) (n : Nat) (hn : okS l = n) (h2 : n ≠ 0) : validB l = validB (l.drop n) := by
  subst hn; unfold validB; rw [charsL_step l h h2]; cases charsL (l.drop (okS l)) <;> rfl
theorem validB_asc (l : List (BitVec 8)) (h : l.length ≠ 0) (h2 : bt l 0 < 128) : validB l = validB (l.drop 1) :=
  validB_step l h 1 (by unfold okS; simp [h, h2]) (by omega)
theorem bt_drop (l : List (BitVec 8)) (n i : Nat) : bt (l.drop n) i = bt l (n + i) := by simp [bt, List.getD_eq_getElem?_getD]
theorem validB_skip (n : Nat) : ∀ (l : List (BitVec 8)), n ≤ l.length → (∀ i, i < n → bt l i < 128) → validB l = validB (l.drop n) := by
  induction n with
  | zero => intro l _ _; rfl
  | succ n ih =>
    intro l hl hb
    rw [validB_asc l (by omega) (hb 0 (by omega)), ih (l.drop 1) (by simp; omega) (fun i hi => by rw [bt_drop]; exact hb (1 + i) (by omega)), List.drop_drop, Nat.add_comm 1 n]
theorem first_get (n : Nat) (h : n < 256) : firstL.getD n 0 = firstF n := by simp [firstL, List.getD_eq_getElem?_getD, h]
@[simp] theorem gl0 : Tables.gl 1 = some (.vals 256 [.agg (.ints .u8 firstL)]) := rfl
@[simp] theorem eval_g0 (σ : St) : σ.eval (.global 1) = .p (.eptr (.vals 256 [.agg (.ints .u8 firstL)]) 0 0) := rfl
@[simp] theorem eval_g1 (σ : St) : σ.eval (.global 2) = .p (.eptr (.vals 32 [.agg (.ints .u8 accL)]) 0 0) := rfl
@[simp] theorem cell_agg1 (k : IntKind) (q : List Int) (j : Nat) : ([PV.agg (Row.ints k q)].getD 0 PV.ptr0).cell j = .int k (q.getD j 0) := rfl
@[simp] theorem gl1 : Tables.gl 2 = some (.vals 32 [.agg (.ints .u8 accL)]) := rfl
def wordN (l : List (BitVec 8)) : Int := bt l 0 + bt l 1 * 256 + bt l 2 * 65536 + bt l 3 * 16777216 + bt l 4 * 4294967296 + bt l 5 * 1099511627776 + bt l 6 * 281474976710656 + bt l 7 * 72057594037927936
theorem shl_u64 (a : Int) (s : Nat) (m : Int) (h : 0 ≤ a ∧ a < 256) (hs : s ≤ 56) (hm : (2 : Int) ^ s = m) (hm2 : m ≤ 72057594037927936) : shiftBin .shl .u64 a (s : Int) = some (.int .u64 (a * m)) := by
  unfold shiftBin
  rw [if_neg (by omega)]
  have e : min ((s : Int)).toNat IntKind.u64.bits = s := by
    simp only [Int.toNat_natCast, show IntKind.u64.bits = 64 from rfl]; omega
  simp only [e, hm]
  have h0 : 0 < m := by rw [← hm]; exact Int.pow_pos (by omega)
  have hlt : a * m < 18446744073709551616 := by
    have : a * m ≤ 255 * m := Int.mul_le_mul_of_nonneg_right (by omega) (by omega)
    omega
  rw [wrap_u64 _ (Int.mul_nonneg h.1 (by omega)) hlt]
theorem or_u64 (x b : Int) (s : Nat) (m : Int) (hx : 0 ≤ x ∧ x < m) (hb : 0 ≤ b ∧ b < 256) (hm : (2 : Int) ^ s = m) (hm2 : m ≤ 72057594037927936) : intBin .or .u64 x (b * m) = some (.int .u64 (x + b * m)) := by
  obtain ⟨n, rfl⟩ : ∃ n : Nat, x = n := ⟨x.toNat, by omega⟩
  obtain ⟨c, rfl⟩ : ∃ c : Nat, b = c := ⟨b.toNat, by omega⟩
  have hm' : m = ((2 ^ s : Nat) : Int) := by rw [← hm]; simp
  have hn : n < 2 ^ s := by rw [hm'] at hx; omega
  have hc : c < 256 := by omega
  have h2 : 2 ^ s ≤ 72057594037927936 := by rw [hm'] at hm2; omega
  have hcm : c * 2 ^ s ≤ 255 * 2 ^ s := Nat.mul_le_mul_right _ (by omega)
  rw [hm', show ((c : Int) * ((2 ^ s : Nat) : Int)) = ((c * 2 ^ s : Nat) : Int) by simp]
  rw [ib_or]
  have e : (BitVec.ofInt IntKind.u64.bits (n : Int) ||| BitVec.ofInt IntKind.u64.bits ((c * 2 ^ s : Nat) : Int)).toNat = n + c * 2 ^ s := by
    rw [BitVec.toNat_or, show IntKind.u64.bits = 64 from rfl, BitVec.ofInt_natCast, BitVec.ofInt_natCast, BitVec.toNat_ofNat, BitVec.toNat_ofNat, Nat.mod_eq_of_lt (by omega), Nat.mod_eq_of_lt (by omega), Nat.or_comm]
    have := Nat.shiftLeft_add_eq_or_of_lt hn c
    rw [Nat.shiftLeft_eq] at this
    rw [← this, Nat.add_comm]
  rw [e, wrap_u64 _ (by omega) (by omega)]
  simp
set_option maxHeartbeats 4000000 in
theorem word_ct (nl : Bool) (l : List (BitVec 8)) (h : 8 ≤ l.length) : Fn Tryz.prog 85 [.sl (bl l) nl] [.p (.int .u64 (wordN l))] := by
  refine Fn.of_body Tryz.func85 rfl ?_
  have g (i : Nat) (hi : i < 8) : i < l.length := by omega
  unfold wordN
  have u0 := bt_lt l 0
  have u1 := bt_lt l 1
  have u2 := bt_lt l 2
  have u3 := bt_lt l 3
  have u4 := bt_lt l 4
  have u5 := bt_lt l 5
  have u6 := bt_lt l 6
  have u7 := bt_lt l 7
  generalize hb0 : bt l 0 = b0 at *
  generalize hb1 : bt l 1 = b1 at *
  generalize hb2 : bt l 2 = b2 at *
  generalize hb3 : bt l 3 = b3 at *
  generalize hb4 : bt l 4 = b4 at *
  generalize hb5 : bt l 5 = b5 at *
  generalize hb6 : bt l 6 = b6 at *
  generalize hb7 : bt l 7 = b7 at *
  have e0 : ub (l.getD 0 0#8) = b0 := hb0
  have w0 : IntKind.u64.wrap b0 = b0 := wrap_u64 _ (by omega) (by omega)
  have e1 : ub (l.getD 1 0#8) = b1 := hb1
  have w1 : IntKind.u64.wrap b1 = b1 := wrap_u64 _ (by omega) (by omega)
  have e2 : ub (l.getD 2 0#8) = b2 := hb2
  have w2 : IntKind.u64.wrap b2 = b2 := wrap_u64 _ (by omega) (by omega)
  have e3 : ub (l.getD 3 0#8) = b3 := hb3
  have w3 : IntKind.u64.wrap b3 = b3 := wrap_u64 _ (by omega) (by omega)
  have e4 : ub (l.getD 4 0#8) = b4 := hb4
  have w4 : IntKind.u64.wrap b4 = b4 := wrap_u64 _ (by omega) (by omega)
  have e5 : ub (l.getD 5 0#8) = b5 := hb5
  have w5 : IntKind.u64.wrap b5 = b5 := wrap_u64 _ (by omega) (by omega)
  have e6 : ub (l.getD 6 0#8) = b6 := hb6
  have w6 : IntKind.u64.wrap b6 = b6 := wrap_u64 _ (by omega) (by omega)
  have e7 : ub (l.getD 7 0#8) = b7 := hb7
  have w7 : IntKind.u64.wrap b7 = b7 := wrap_u64 _ (by omega) (by omega)
  have s1 : shiftBin .shl .u64 b1 8 = some (.int .u64 (b1 * 256)) := shl_u64 b1 8 256 u1 (by omega) (by decide) (by omega)
  have o1 : intBin .or .u64 (b0) (b1 * 256) = some (.int .u64 (b0 + b1 * 256)) := or_u64 _ b1 8 256 (by omega) u1 (by decide) (by omega)
  have s2 : shiftBin .shl .u64 b2 16 = some (.int .u64 (b2 * 65536)) := shl_u64 b2 16 65536 u2 (by omega) (by decide) (by omega)
  have o2 : intBin .or .u64 (b0 + b1 * 256) (b2 * 65536) = some (.int .u64 (b0 + b1 * 256 + b2 * 65536)) := or_u64 _ b2 16 65536 (by omega) u2 (by decide) (by omega)
  have s3 : shiftBin .shl .u64 b3 24 = some (.int .u64 (b3 * 16777216)) := shl_u64 b3 24 16777216 u3 (by omega) (by decide) (by omega)
  have o3 : intBin .or .u64 (b0 + b1 * 256 + b2 * 65536) (b3 * 16777216) = some (.int .u64 (b0 + b1 * 256 + b2 * 65536 + b3 * 16777216)) := or_u64 _ b3 24 16777216 (by omega) u3 (by decide) (by omega)
  have s4 : shiftBin .shl .u64 b4 32 = some (.int .u64 (b4 * 4294967296)) := shl_u64 b4 32 4294967296 u4 (by omega) (by decide) (by omega)
  have o4 : intBin .or .u64 (b0 + b1 * 256 + b2 * 65536 + b3 * 16777216) (b4 * 4294967296) = some (.int .u64 (b0 + b1 * 256 + b2 * 65536 + b3 * 16777216 + b4 * 4294967296)) := or_u64 _ b4 32 4294967296 (by omega) u4 (by decide) (by omega)
  have s5 : shiftBin .shl .u64 b5 40 = some (.int .u64 (b5 * 1099511627776)) := shl_u64 b5 40 1099511627776 u5 (by omega) (by decide) (by omega)
  have o5 : intBin .or .u64 (b0 + b1 * 256 + b2 * 65536 + b3 * 16777216 + b4 * 4294967296) (b5 * 1099511627776) = some (.int .u64 (b0 + b1 * 256 + b2 * 65536 + b3 * 16777216 + b4 * 4294967296 + b5 * 1099511627776)) := or_u64 _ b5 40 1099511627776 (by omega) u5 (by decide) (by omega)
  have s6 : shiftBin .shl .u64 b6 48 = some (.int .u64 (b6 * 281474976710656)) := shl_u64 b6 48 281474976710656 u6 (by omega) (by decide) (by omega)
  have o6 : intBin .or .u64 (b0 + b1 * 256 + b2 * 65536 + b3 * 16777216 + b4 * 4294967296 + b5 * 1099511627776) (b6 * 281474976710656) = some (.int .u64 (b0 + b1 * 256 + b2 * 65536 + b3 * 16777216 + b4 * 4294967296 + b5 * 1099511627776 + b6 * 281474976710656)) := or_u64 _ b6 48 281474976710656 (by omega) u6 (by decide) (by omega)
  have s7 : shiftBin .shl .u64 b7 56 = some (.int .u64 (b7 * 72057594037927936)) := shl_u64 b7 56 72057594037927936 u7 (by omega) (by decide) (by omega)
  have o7 : intBin .or .u64 (b0 + b1 * 256 + b2 * 65536 + b3 * 16777216 + b4 * 4294967296 + b5 * 1099511627776 + b6 * 281474976710656) (b7 * 72057594037927936) = some (.int .u64 (b0 + b1 * 256 + b2 * 65536 + b3 * 16777216 + b4 * 4294967296 + b5 * 1099511627776 + b6 * 281474976710656 + b7 * 72057594037927936)) := or_u64 _ b7 56 72057594037927936 (by omega) u7 (by decide) (by omega)
  repeat (first | ((first | refine zP fun K_ hK_ => ?_ | refine zQ fun K_ hK_ => ?_ | refine zR (by kernel_rfl) (by kernel_rfl) fun K_ hK_ => ?_ | refine zS (by kernel_rfl) (by kernel_rfl) fun K_ hK_ => ?_ | refine zT ?_); first | (simp (maxSteps := 1000000) (disch := refine hold_ ?_; first | (simp [g, e0, w0, e1, w1, e2, w2, e3, w3, e4, w4, e5, w5, e6, w6, e7, w7, s1, o1, s2, o2, s3, o3, s4, o4, s5, o5, s6, o6, s7, o7, -List.getD_eq_getElem?_getD]; done) | omega) [g, e0, w0, e1, w1, e2, w2, e3, w3, e4, w4, e5, w5, e6, w6, e7, w7, s1, o1, s2, o2, s3, o3, s4, o4, s5, o5, s6, o6, s7, o7, -List.getD_eq_getElem?_getD]; try first | refine zZ ?_ | subst hK_) | subst hK_) | refine zA ?_ | refine zB ?_ | refine zC ?_ | refine zD ?_ | refine zE ?_ | refine zF ?_ | refine zG ?_ | refine zH ?_ | refine zI ?_ | refine zJ ?_ | refine zK ?_ | refine zL ?_ | refine zM ?_ | refine zN ?_ | refine zO ?_ | refine yG (by decide) ?_ | refine AW.condT rfl ?_ | refine AW.condF rfl ?_)
  simp (maxSteps := 1000000) (disch := refine hold_ ?_; first | (simp [-List.getD_eq_getElem?_getD]; done) | omega) [-List.getD_eq_getElem?_getD]
end Go.Av.Cha
end
section
set_option linter.unusedSimpArgs false
set_option linter.unusedVariables false
set_option linter.unusedSectionVars false
open Go Go.Av Go.Proofs
namespace Go.Av.Cha
variable [ML]
def andM (x : Int) : Int := IntKind.u64.wrap (BitVec.ofInt IntKind.u64.bits x &&& BitVec.ofInt IntKind.u64.bits 9259542123273814144).toNat
def orW (x y : Int) : Int := IntKind.u64.wrap (BitVec.ofInt IntKind.u64.bits x ||| BitVec.ofInt IntKind.u64.bits y).toNat
theorem ib_andM (x : Int) : intBin .and .u64 x 9259542123273814144 = some (.int .u64 (andM x)) := rfl
theorem ib_orW (x y : Int) : intBin .or .u64 x y = some (.int .u64 (orW x y)) := rfl
theorem andM_nat (n : Nat) (h : n < 18446744073709551616) : andM n = ((n &&& 9259542123273814144 : Nat) : Int) := by
  have e : (BitVec.ofInt IntKind.u64.bits (n : Int) &&& BitVec.ofInt IntKind.u64.bits 9259542123273814144).toNat = n &&& 9259542123273814144 := by
    rw [BitVec.toNat_and, show IntKind.u64.bits = 64 from rfl, BitVec.ofInt_natCast, BitVec.toNat_ofNat, Nat.mod_eq_of_lt (by omega)]
    rfl
  unfold andM
  rw [e]
  have : n &&& 9259542123273814144 ≤ n := Nat.and_le_left
  exact wrap_u64 _ (by omega) (by omega)
theorem orW_nat (n m : Nat) (h : n < 18446744073709551616) (h2 : m < 18446744073709551616) : orW n m = ((n ||| m : Nat) : Int) ∧ n ||| m < 18446744073709551616 := by
  have e : (BitVec.ofInt IntKind.u64.bits (n : Int) ||| BitVec.ofInt IntKind.u64.bits (m : Int)).toNat = n ||| m := by
    rw [BitVec.toNat_or, show IntKind.u64.bits = 64 from rfl, BitVec.ofInt_natCast, BitVec.ofInt_natCast, BitVec.toNat_ofNat, BitVec.toNat_ofNat, Nat.mod_eq_of_lt (by omega), Nat.mod_eq_of_lt (by omega)]
  have hlt : n ||| m < 18446744073709551616 := Nat.or_lt_two_pow (n := 64) (by omega) (by omega)
  unfold orW
  rw [e]
  exact ⟨wrap_u64 _ (by omega) (by omega), hlt⟩
def hiZ (x : Int) : Prop := 0 ≤ x ∧ x < 18446744073709551616 ∧ andM x = 0
theorem hiZ_bit {n : Nat} (h : hiZ n) (i : Nat) (hi : i < 8) : n.testBit (8 * i + 7) = false := by
  obtain ⟨_, h2, h3⟩ := h
  rw [andM_nat n (by omega)] at h3
  have h4 : n &&& 9259542123273814144 = 0 := by omega
  have h5 := congrArg (fun x => Nat.testBit x (8 * i + 7)) h4
  simp only [Nat.testBit_and, Nat.zero_testBit] at h5
  have h6 : Nat.testBit 9259542123273814144 (8 * i + 7) = true := by
    have : i = 0 ∨ i = 1 ∨ i = 2 ∨ i = 3 ∨ i = 4 ∨ i = 5 ∨ i = 6 ∨ i = 7 := by omega
    rcases this with rfl | rfl | rfl | rfl | rfl | rfl | rfl | rfl <;> decide
  rw [h6, Bool.and_true] at h5; exact h5
theorem hiZ_or {x y : Int} (hx : 0 ≤ x ∧ x < 18446744073709551616) (hy : 0 ≤ y ∧ y < 18446744073709551616) (h : andM (orW x y) = 0) : hiZ x ∧ hiZ y := by
  obtain ⟨n, rfl⟩ : ∃ n : Nat, x = n := ⟨x.toNat, by omega⟩
  obtain ⟨m, rfl⟩ : ∃ m : Nat, y = m := ⟨y.toNat, by omega⟩
  obtain ⟨e1, e2⟩ := orW_nat n m (by omega) (by omega)
  rw [e1, andM_nat _ e2] at h
  have h4 : (n ||| m) &&& 9259542123273814144 = 0 := by omega
  rw [Nat.and_or_distrib_right] at h4
  have h5 : n &&& 9259542123273814144 = 0 ∧ m &&& 9259542123273814144 = 0 := Nat.or_eq_zero_iff.1 h4
  refine ⟨⟨by omega, by omega, ?_⟩, ⟨by omega, by omega, ?_⟩⟩
  · rw [andM_nat _ (by omega), h5.1]; rfl
  · rw [andM_nat _ (by omega), h5.2]; rfl
theorem orW_lt {x y : Int} (hx : 0 ≤ x ∧ x < 18446744073709551616) (hy : 0 ≤ y ∧ y < 18446744073709551616) : 0 ≤ orW x y ∧ orW x y < 18446744073709551616 := by
  obtain ⟨n, rfl⟩ : ∃ n : Nat, x = n := ⟨x.toNat, by omega⟩
  obtain ⟨m, rfl⟩ : ∃ m : Nat, y = m := ⟨y.toNat, by omega⟩
  obtain ⟨e1, e2⟩ := orW_nat n m (by omega) (by omega)
  rw [e1]; omega
theorem wordN_lt (l : List (BitVec 8)) : 0 ≤ wordN l ∧ wordN l < 18446744073709551616 := by
  have h0 := bt_lt l 0; have h1 := bt_lt l 1; have h2 := bt_lt l 2; have h3 := bt_lt l 3; have h4 := bt_lt l 4; have h5 := bt_lt l 5; have h6 := bt_lt l 6; have h7 := bt_lt l 7
  unfold wordN; omega
theorem bit_div (n k : Nat) (h : n.testBit k = false) : n / 2 ^ k % 2 = 0 := by
  rw [Nat.testBit_eq_decide_div_mod_eq] at h
  have : n / 2 ^ k % 2 ≠ 1 := by simpa using h
  omega
theorem wordN_asc (l : List (BitVec 8)) (h : hiZ (wordN l)) : ∀ i, i < 8 → bt l i < 128 := by
  have h0 := bt_lt l 0; have h1 := bt_lt l 1; have h2 := bt_lt l 2; have h3 := bt_lt l 3; have h4 := bt_lt l 4; have h5 := bt_lt l 5; have h6 := bt_lt l 6; have h7 := bt_lt l 7
  obtain ⟨n, hn⟩ : ∃ n : Nat, wordN l = n := ⟨(wordN l).toNat, by have := wordN_lt l; omega⟩
  have hw := hn
  rw [hn] at h
  unfold wordN at hw
  have c0 := bit_div n 7 (hiZ_bit h 0 (by omega))
  have c1 := bit_div n 15 (hiZ_bit h 1 (by omega))
  have c2 := bit_div n 23 (hiZ_bit h 2 (by omega))
  have c3 := bit_div n 31 (hiZ_bit h 3 (by omega))
  have c4 := bit_div n 39 (hiZ_bit h 4 (by omega))
  have c5 := bit_div n 47 (hiZ_bit h 5 (by omega))
  have c6 := bit_div n 55 (hiZ_bit h 6 (by omega))
  have c7 := bit_div n 63 (hiZ_bit h 7 (by omega))
  intro i hi
  have : i = 0 ∨ i = 1 ∨ i = 2 ∨ i = 3 ∨ i = 4 ∨ i = 5 ∨ i = 6 ∨ i = 7 := by omega
  rcases this with rfl | rfl | rfl | rfl | rfl | rfl | rfl | rfl
  all_goals
    generalize bt l 0 = b0 at *
    generalize bt l 1 = b1 at *
    generalize bt l 2 = b2 at *
    generalize bt l 3 = b3 at *
    generalize bt l 4 = b4 at *
    generalize bt l 5 = b5 at *
    generalize bt l 6 = b6 at *
    generalize bt l 7 = b7 at *
  · clear c1 c2 c3 c4 c5 c6 c7; simp only [Nat.reducePow] at c0; omega
  · clear c0 c2 c3 c4 c5 c6 c7; simp only [Nat.reducePow] at c1; omega
  · clear c0 c1 c3 c4 c5 c6 c7; simp only [Nat.reducePow] at c2; omega
  · clear c0 c1 c2 c4 c5 c6 c7; simp only [Nat.reducePow] at c3; omega
  · clear c0 c1 c2 c3 c5 c6 c7; simp only [Nat.reducePow] at c4; omega
  · clear c0 c1 c2 c3 c4 c6 c7; simp only [Nat.reducePow] at c5; omega
  · clear c0 c1 c2 c3 c4 c5 c7; simp only [Nat.reducePow] at c6; omega
  · clear c0 c1 c2 c3 c4 c5 c6; simp only [Nat.reducePow] at c7; omega
end Go.Av.Cha
end
section
set_option linter.unusedSimpArgs false
set_option linter.unusedVariables false
set_option linter.unusedSectionVars false
open Go Go.Av Go.Proofs
namespace Go.Av.Cha
variable [ML]
theorem idx_ct (l : List (BitVec 8)) (c : BitVec 8) : Ct Tryz.prog 71 (([.str (txt l), .int .u8 (ub c)] : List PV).map V.p) [] 0 [.p (.int .i64 (idxI l c))] [] 0 := by
  intro G w vs g
  right
  have hl := g.len
  match vs, hl with
  | [a, b], _ =>
    have h0 := g.args 0 (by simp)
    have h1 := g.args 1 (by simp)
    simp only [List.map_cons, List.map_nil, List.getD_cons_zero, List.getD_cons_succ] at h0 h1
    obtain rfl := h0.str
    obtain rfl := h1.int
    refine ⟨.int .i64 (idxI l c), w, ?_, rfl, G, Ext.refl G w, g.wf, fun i hi => by simp at hi, .p (.int _ _)⟩
    rw [run_callFunc_extern Tryz.func71 (by kernel_rfl) (by kernel_rfl) (by kernel_rfl) (e := Extern.BytealgIndexByte.indexByte) (by kernel_rfl)]
    show ((Extern.BytealgIndexByte.indexByte #[.string (txt l), .int .u8 (ub c)]).run Tryz.prog w).andThen _ = _
    rw [Lib.run_indexByteString, idxI_lib]; rfl
theorem indexByte_ct (l : List (BitVec 8)) (c : BitVec 8) : Fn Tryz.prog 50 [.str (txt l), .int .u8 (ub c)] [.p (.int .i64 (idxI l c))] := by
  refine Fn.of_body Tryz.func50 rfl ?_
  repeat (first | ((first | refine zP fun K_ hK_ => ?_ | refine zQ fun K_ hK_ => ?_ | refine zR (by kernel_rfl) (by kernel_rfl) fun K_ hK_ => ?_ | refine zS (by kernel_rfl) (by kernel_rfl) fun K_ hK_ => ?_ | refine zT ?_); first | (simp (maxSteps := 1000000) (disch := refine hold_ ?_; first | (simp [-List.getD_eq_getElem?_getD]; done) | omega) [-List.getD_eq_getElem?_getD]; try first | refine zZ ?_ | subst hK_) | subst hK_) | refine zA ?_ | refine zB ?_ | refine zC ?_ | refine zD ?_ | refine zE ?_ | refine zF ?_ | refine zG ?_ | refine zH ?_ | refine zI ?_ | refine zJ ?_ | refine zK ?_ | refine zL ?_ | refine zM ?_ | refine zN ?_ | refine zO ?_ | refine yG (by decide) ?_ | refine AW.condT rfl ?_ | refine AW.condF rfl ?_)
  (refine callK_p ?_; simp (maxSteps := 1000000) (disch := refine hold_ ?_; first | (simp [-List.getD_eq_getElem?_getD]; done) | omega) [-List.getD_eq_getElem?_getD]; refine callK1_of (idx_ct l c) ?_; (try simp (maxSteps := 1000000) (disch := refine hold_ ?_; first | (simp [-List.getD_eq_getElem?_getD]; done) | omega) [-List.getD_eq_getElem?_getD]); first | refine zZ ?_ | subst hK_)
  repeat (first | ((first | refine zP fun K_ hK_ => ?_ | refine zQ fun K_ hK_ => ?_ | refine zR (by kernel_rfl) (by kernel_rfl) fun K_ hK_ => ?_ | refine zS (by kernel_rfl) (by kernel_rfl) fun K_ hK_ => ?_ | refine zT ?_); first | (simp (maxSteps := 1000000) (disch := refine hold_ ?_; first | (simp [-List.getD_eq_getElem?_getD]; done) | omega) [-List.getD_eq_getElem?_getD]; try first | refine zZ ?_ | subst hK_) | subst hK_) | refine zA ?_ | refine zB ?_ | refine zC ?_ | refine zD ?_ | refine zE ?_ | refine zF ?_ | refine zG ?_ | refine zH ?_ | refine zI ?_ | refine zJ ?_ | refine zK ?_ | refine zL ?_ | refine zM ?_ | refine zN ?_ | refine zO ?_ | refine yG (by decide) ?_ | refine AW.condT rfl ?_ | refine AW.condF rfl ?_)
  simp (maxSteps := 1000000) (disch := refine hold_ ?_; first | (simp [-List.getD_eq_getElem?_getD]; done) | omega) [-List.getD_eq_getElem?_getD]
end Go.Av.Cha
end
section
set_option linter.unusedSimpArgs false
set_option linter.unusedVariables false
set_option linter.unusedSectionVars false
open Go Go.Av Go.Proofs
namespace Go.Av.Cha
variable [ML]
def preB (l p : List (BitVec 8)) : Bool := decide (p.length ≤ l.length) && (l.take p.length == p)
theorem hp1_ct (l p : List (BitVec 8)) : Fn Tryz.prog 75 [.str (txt l), .str (txt p)] [.p (.bool (preB l p))] := by
  have sl := txt_size l
  have sp := txt_size p
  have hq := str_eq_txt (l.take p.length) p
  have hx : (txt l).extract 0 p.length = txt (l.take p.length) := by rw [txt_extract]; simp
  by_cases h : p.length ≤ l.length
  · have hz : (p.length : Int) ≤ l.length := by omega
    have e : preB l p = (l.take p.length == p) := by unfold preB; simp [h]
    rw [e]
    generalize l.take p.length = q at *
    refine Fn.of_body Tryz.func75 rfl ?_
    repeat (first | ((first | (with_reducible first | refine zP fun K_ hK_ => ?_ | refine zQ fun K_ hK_ => ?_ | refine zT ?_ | refine zU ?_ | refine zV ?_ | refine zW ?_ | refine zX ?_ | refine zY ?_) | ((with_reducible first | refine zR ?_ ?_ fun K_ hK_ => ?_ | refine zS ?_ ?_ fun K_ hK_ => ?_); (focus kernel_rfl); (focus kernel_rfl))); first | (simp (maxSteps := 1000000) (disch := refine hold_ ?_; first | (simp [sl, sp, h, hz, hx, hq, -List.getD_eq_getElem?_getD]; done) | omega) [sl, sp, h, hz, hx, hq, -List.getD_eq_getElem?_getD]; try first | (with_reducible refine zZ ?_) | subst hK_) | subst hK_) | (with_reducible first | refine zA ?_ | refine zB ?_ | refine zC ?_ | refine zD ?_ | refine zE ?_ | refine zF ?_ | refine zG ?_ | refine zH ?_ | refine zI ?_ | refine zJ ?_ | refine zK ?_ | refine zL ?_ | refine zM ?_ | refine zN ?_ | refine zO ?_) | ((with_reducible refine yG ?_ ?_); (focus decide)) | ((with_reducible refine yA ?_); refine yB rfl ?_; (with_reducible first | refine yC ?_ | refine yD ?_)))
    all_goals simp (maxSteps := 1000000) (disch := refine hold_ ?_; first | (simp [-List.getD_eq_getElem?_getD]; done) | omega) [-List.getD_eq_getElem?_getD]
  · have hz : ¬ (p.length : Int) ≤ l.length := by omega
    have e : preB l p = false := by unfold preB; simp [h]
    rw [e]
    refine Fn.of_body Tryz.func75 rfl ?_
    repeat (first | ((first | (with_reducible first | refine zP fun K_ hK_ => ?_ | refine zQ fun K_ hK_ => ?_ | refine zT ?_ | refine zU ?_ | refine zV ?_ | refine zW ?_ | refine zX ?_ | refine zY ?_) | ((with_reducible first | refine zR ?_ ?_ fun K_ hK_ => ?_ | refine zS ?_ ?_ fun K_ hK_ => ?_); (focus kernel_rfl); (focus kernel_rfl))); first | (simp (maxSteps := 1000000) (disch := refine hold_ ?_; first | (simp [sl, sp, h, hz, -List.getD_eq_getElem?_getD]; done) | omega) [sl, sp, h, hz, -List.getD_eq_getElem?_getD]; try first | (with_reducible refine zZ ?_) | subst hK_) | subst hK_) | (with_reducible first | refine zA ?_ | refine zB ?_ | refine zC ?_ | refine zD ?_ | refine zE ?_ | refine zF ?_ | refine zG ?_ | refine zH ?_ | refine zI ?_ | refine zJ ?_ | refine zK ?_ | refine zL ?_ | refine zM ?_ | refine zN ?_ | refine zO ?_) | ((with_reducible refine yG ?_ ?_); (focus decide)) | ((with_reducible refine yA ?_); refine yB rfl ?_; (with_reducible first | refine yC ?_ | refine yD ?_)))
    all_goals simp (maxSteps := 1000000) (disch := refine hold_ ?_; first | (simp [-List.getD_eq_getElem?_getD]; done) | omega) [-List.getD_eq_getElem?_getD]
theorem cp1_ct (l p : List (BitVec 8)) : Fn Tryz.prog 57 [.str (txt l), .str (txt p)] [.p (.str (txt (if preB l p then l.drop p.length else l))), .p (.bool (preB l p))] := by
  have sl := txt_size l
  have sp := txt_size p
  have k54 := hp1_ct l p
  have hx : (txt l).extract p.length l.length = txt (l.drop p.length) := by rw [txt_extract, List.take_length]
  cases h : preB l p with
  | true =>
    rw [h] at k54
    have hl : p.length ≤ l.length := by
      unfold preB at h
      rw [Bool.and_eq_true, decide_eq_true_eq] at h; exact h.1
    refine Fn.of_body Tryz.func57 rfl ?_
    repeat (first | ((with_reducible first | refine callK_at 75 ?_); refine callK_p ?_; simp (maxSteps := 1000000) (disch := refine hold_ ?_; first | (simp [sl, sp, hl, hx, -List.getD_eq_getElem?_getD]; done) | omega) [sl, sp, hl, hx, -List.getD_eq_getElem?_getD]; (first | refine callK1_of (Fn.ct k54 Tryz.call75) ?_); (try simp (maxSteps := 1000000) (disch := refine hold_ ?_; first | (simp [sl, sp, hl, hx, -List.getD_eq_getElem?_getD]; done) | omega) [sl, sp, hl, hx, -List.getD_eq_getElem?_getD]); try first | (with_reducible refine zZ ?_) | subst hK_) | ((first | (with_reducible first | refine zP fun K_ hK_ => ?_ | refine zQ fun K_ hK_ => ?_ | refine zT ?_ | refine zU ?_ | refine zV ?_ | refine zW ?_ | refine zX ?_ | refine zY ?_) | ((with_reducible first | refine zR ?_ ?_ fun K_ hK_ => ?_ | refine zS ?_ ?_ fun K_ hK_ => ?_); (focus kernel_rfl); (focus kernel_rfl))); first | (simp (maxSteps := 1000000) (disch := refine hold_ ?_; first | (simp [sl, sp, hl, hx, -List.getD_eq_getElem?_getD]; done) | omega) [sl, sp, hl, hx, -List.getD_eq_getElem?_getD]; try first | (with_reducible refine zZ ?_) | subst hK_) | subst hK_) | (with_reducible first | refine zA ?_ | refine zB ?_ | refine zC ?_ | refine zD ?_ | refine zE ?_ | refine zF ?_ | refine zG ?_ | refine zH ?_ | refine zI ?_ | refine zJ ?_ | refine zK ?_ | refine zL ?_ | refine zM ?_ | refine zN ?_ | refine zO ?_) | ((with_reducible refine yG ?_ ?_); (focus decide)) | ((with_reducible refine yA ?_); refine yB rfl ?_; (with_reducible first | refine yC ?_ | refine yD ?_)))
    all_goals simp (maxSteps := 1000000) (disch := refine hold_ ?_; first | (simp [-List.getD_eq_getElem?_getD]; done) | omega) [-List.getD_eq_getElem?_getD]
  | false =>
    rw [h] at k54
    refine Fn.of_body Tryz.func57 rfl ?_
    repeat (first | ((with_reducible first | refine callK_at 75 ?_); refine callK_p ?_; simp (maxSteps := 1000000) (disch := refine hold_ ?_; first | (simp [sl, sp, -List.getD_eq_getElem?_getD]; done) | omega) [sl, sp, -List.getD_eq_getElem?_getD]; (first | refine callK1_of (Fn.ct k54 Tryz.call75) ?_); (try simp (maxSteps := 1000000) (disch := refine hold_ ?_; first | (simp [sl, sp, -List.getD_eq_getElem?_getD]; done) | omega) [sl, sp, -List.getD_eq_getElem?_getD]); try first | (with_reducible refine zZ ?_) | subst hK_) | ((first | (with_reducible first | refine zP fun K_ hK_ => ?_ | refine zQ fun K_ hK_ => ?_ | refine zT ?_ | refine zU ?_ | refine zV ?_ | refine zW ?_ | refine zX ?_ | refine zY ?_) | ((with_reducible first | refine zR ?_ ?_ fun K_ hK_ => ?_ | refine zS ?_ ?_ fun K_ hK_ => ?_); (focus kernel_rfl); (focus kernel_rfl))); first | (simp (maxSteps := 1000000) (disch := refine hold_ ?_; first | (simp [sl, sp, -List.getD_eq_getElem?_getD]; done) | omega) [sl, sp, -List.getD_eq_getElem?_getD]; try first | (with_reducible refine zZ ?_) | subst hK_) | subst hK_) | (with_reducible first | refine zA ?_ | refine zB ?_ | refine zC ?_ | refine zD ?_ | refine zE ?_ | refine zF ?_ | refine zG ?_ | refine zH ?_ | refine zI ?_ | refine zJ ?_ | refine zK ?_ | refine zL ?_ | refine zM ?_ | refine zN ?_ | refine zO ?_) | ((with_reducible refine yG ?_ ?_); (focus decide)) | ((with_reducible refine yA ?_); refine yB rfl ?_; (with_reducible first | refine yC ?_ | refine yD ?_)))
    all_goals simp (maxSteps := 1000000) (disch := refine hold_ ?_; first | (simp [-List.getD_eq_getElem?_getD]; done) | omega) [-List.getD_eq_getElem?_getD]
theorem cp_ct (l p : List (BitVec 8)) : Fn Tryz.prog 38 [.str (txt l), .str (txt p)] [.p (.str (txt (if preB l p then l.drop p.length else l))), .p (.bool (preB l p))] := by
  have k := cp1_ct l p
  generalize (if preB l p then l.drop p.length else l) = q at *
  refine Fn.of_body Tryz.func38 rfl ?_
  repeat (first | ((with_reducible first | refine callK_at 57 ?_); refine callK_p ?_; simp (maxSteps := 1000000) (disch := refine hold_ ?_; first | (simp [-List.getD_eq_getElem?_getD]; done) | omega) [-List.getD_eq_getElem?_getD]; (first | refine callK1_of (Fn.ct k Tryz.call57) ?_); (try simp (maxSteps := 1000000) (disch := refine hold_ ?_; first | (simp [-List.getD_eq_getElem?_getD]; done) | omega) [-List.getD_eq_getElem?_getD]); try first | (with_reducible refine zZ ?_) | subst hK_) | ((first | (with_reducible first | refine zP fun K_ hK_ => ?_ | refine zQ fun K_ hK_ => ?_ | refine zT ?_ | refine zU ?_ | refine zV ?_ | refine zW ?_ | refine zX ?_ | refine zY ?_) | ((with_reducible first | refine zR ?_ ?_ fun K_ hK_ => ?_ | refine zS ?_ ?_ fun K_ hK_ => ?_); (focus kernel_rfl); (focus kernel_rfl))); first | (simp (maxSteps := 1000000) (disch := refine hold_ ?_; first | (simp [-List.getD_eq_getElem?_getD]; done) | omega) [-List.getD_eq_getElem?_getD]; try first | (with_reducible refine zZ ?_) | subst hK_) | subst hK_) | (with_reducible first | refine zA ?_ | refine zB ?_ | refine zC ?_ | refine zD ?_ | refine zE ?_ | refine zF ?_ | refine zG ?_ | refine zH ?_ | refine zI ?_ | refine zJ ?_ | refine zK ?_ | refine zL ?_ | refine zM ?_ | refine zN ?_ | refine zO ?_) | ((with_reducible refine yG ?_ ?_); (focus decide)) | ((with_reducible refine yA ?_); refine yB rfl ?_; (with_reducible first | refine yC ?_ | refine yD ?_)))
  all_goals simp (maxSteps := 1000000) (disch := refine hold_ ?_; first | (simp [-List.getD_eq_getElem?_getD]; done) | omega) [-List.getD_eq_getElem?_getD]
theorem index1_ct (l : List (BitVec 8)) (d : BitVec 8) : Fn Tryz.prog 33 [.str (txt l), .str (txt [d])] [.p (.int .i64 (idxI l d))] := by
  have k64 := indexByte_ct l d
  have hq := str_eq_txt [d] l
  have hs : (txt [d]).size = 1 := by rw [txt_size]; rfl
  have hg : (((txt [d]).data.toList.getD 0 0).toNat : Int) = ub d := txt_get [d] 0
  refine Fn.of_body Tryz.func33 rfl ?_
  cases hl : ([d] == l) with
  | true =>
    have e : idxI l d = 0 := by
      rw [← beq_iff_eq.1 hl]
      simp [idxI]
    rw [hl] at hq
    rw [e]
    repeat (first | ((first | (with_reducible first | refine zP fun K_ hK_ => ?_ | refine zQ fun K_ hK_ => ?_ | refine zT ?_ | refine zU ?_ | refine zV ?_ | refine zW ?_ | refine zX ?_ | refine zY ?_) | ((with_reducible first | refine zR ?_ ?_ fun K_ hK_ => ?_ | refine zS ?_ ?_ fun K_ hK_ => ?_); (focus kernel_rfl); (focus kernel_rfl))); first | (simp (maxSteps := 1000000) (disch := refine hold_ ?_; first | (simp [hq, hs, hg, -List.getD_eq_getElem?_getD]; done) | omega) [hq, hs, hg, -List.getD_eq_getElem?_getD]; try first | (with_reducible refine zZ ?_) | subst hK_) | subst hK_) | (with_reducible first | refine zA ?_ | refine zB ?_ | refine zC ?_ | refine zD ?_ | refine zE ?_ | refine zF ?_ | refine zG ?_ | refine zH ?_ | refine zI ?_ | refine zJ ?_ | refine zK ?_ | refine zL ?_ | refine zM ?_ | refine zN ?_ | refine zO ?_) | ((with_reducible refine yG ?_ ?_); (focus decide)) | ((with_reducible refine yA ?_); refine yB rfl ?_; (with_reducible first | refine yC ?_ | refine yD ?_)))
    all_goals simp (maxSteps := 1000000) (disch := refine hold_ ?_; first | (simp [-List.getD_eq_getElem?_getD]; done) | omega) [-List.getD_eq_getElem?_getD]
  | false =>
    rw [hl] at hq
    repeat (first | ((with_reducible first | refine callK_at 50 ?_); refine callK_p ?_; simp (maxSteps := 1000000) (disch := refine hold_ ?_; first | (simp [hq, hs, hg, -List.getD_eq_getElem?_getD]; done) | omega) [hq, hs, hg, -List.getD_eq_getElem?_getD]; (first | refine callK1_of (Fn.ct k64 Tryz.call50) ?_); (try simp (maxSteps := 1000000) (disch := refine hold_ ?_; first | (simp [hq, hs, hg, -List.getD_eq_getElem?_getD]; done) | omega) [hq, hs, hg, -List.getD_eq_getElem?_getD]); try first | (with_reducible refine zZ ?_) | subst hK_) | ((first | (with_reducible first | refine zP fun K_ hK_ => ?_ | refine zQ fun K_ hK_ => ?_ | refine zT ?_ | refine zU ?_ | refine zV ?_ | refine zW ?_ | refine zX ?_ | refine zY ?_) | ((with_reducible first | refine zR ?_ ?_ fun K_ hK_ => ?_ | refine zS ?_ ?_ fun K_ hK_ => ?_); (focus kernel_rfl); (focus kernel_rfl))); first | (simp (maxSteps := 1000000) (disch := refine hold_ ?_; first | (simp [hq, hs, hg, -List.getD_eq_getElem?_getD]; done) | omega) [hq, hs, hg, -List.getD_eq_getElem?_getD]; try first | (with_reducible refine zZ ?_) | subst hK_) | subst hK_) | (with_reducible first | refine zA ?_ | refine zB ?_ | refine zC ?_ | refine zD ?_ | refine zE ?_ | refine zF ?_ | refine zG ?_ | refine zH ?_ | refine zI ?_ | refine zJ ?_ | refine zK ?_ | refine zL ?_ | refine zM ?_ | refine zN ?_ | refine zO ?_) | ((with_reducible refine yG ?_ ?_); (focus decide)) | ((with_reducible refine yA ?_); refine yB rfl ?_; (with_reducible first | refine yC ?_ | refine yD ?_)))
    all_goals simp (maxSteps := 1000000) (disch := refine hold_ ?_; first | (simp [-List.getD_eq_getElem?_getD]; done) | omega) [-List.getD_eq_getElem?_getD]
theorem index_ct1 (l : List (BitVec 8)) (d : BitVec 8) : Fn Tryz.prog 22 [.str (txt l), .str (txt [d])] [.p (.int .i64 (idxI l d))] := by
  refine Fn.of_body Tryz.func22 rfl ?_
  repeat (first | ((with_reducible first | refine callK_at 33 ?_); refine callK_p ?_; simp (maxSteps := 1000000) (disch := refine hold_ ?_; first | (simp [-List.getD_eq_getElem?_getD]; done) | omega) [-List.getD_eq_getElem?_getD]; (first | refine callK1_of (Fn.ct (index1_ct l d) Tryz.call33) ?_); (try simp (maxSteps := 1000000) (disch := refine hold_ ?_; first | (simp [-List.getD_eq_getElem?_getD]; done) | omega) [-List.getD_eq_getElem?_getD]); try first | (with_reducible refine zZ ?_) | subst hK_) | ((first | (with_reducible first | refine zP fun K_ hK_ => ?_ | refine zQ fun K_ hK_ => ?_ | refine zT ?_ | refine zU ?_ | refine zV ?_ | refine zW ?_ | refine zX ?_ | refine zY ?_) | ((with_reducible first | refine zR ?_ ?_ fun K_ hK_ => ?_ | refine zS ?_ ?_ fun K_ hK_ => ?_); (focus kernel_rfl); (focus kernel_rfl))); first | (simp (maxSteps := 1000000) (disch := refine hold_ ?_; first | (simp [-List.getD_eq_getElem?_getD]; done) | omega) [-List.getD_eq_getElem?_getD]; try first | (with_reducible refine zZ ?_) | subst hK_) | subst hK_) | (with_reducible first | refine zA ?_ | refine zB ?_ | refine zC ?_ | refine zD ?_ | refine zE ?_ | refine zF ?_ | refine zG ?_ | refine zH ?_ | refine zI ?_ | refine zJ ?_ | refine zK ?_ | refine zL ?_ | refine zM ?_ | refine zN ?_ | refine zO ?_) | ((with_reducible refine yG ?_ ?_); (focus decide)) | ((with_reducible refine yA ?_); refine yB rfl ?_; (with_reducible first | refine yC ?_ | refine yD ?_)))
  all_goals simp (maxSteps := 1000000) (disch := refine hold_ ?_; first | (simp [-List.getD_eq_getElem?_getD]; done) | omega) [-List.getD_eq_getElem?_getD]
theorem idx_contains (l : List (BitVec 8)) (c : BitVec 8) : (decide (0 ≤ idxI l c)) = l.contains c := by
  rcases idxI_spec l c with ⟨h, hm⟩ | ⟨k, h, hk, hg, _⟩
  · rw [h]; simp; exact hm
  · rw [h]
    have : c ∈ l := by
      rw [← hg, List.getD_eq_getElem?_getD, List.getElem?_eq_getElem hk]; exact List.getElem_mem hk
    simp [this]
theorem contains_ct (l : List (BitVec 8)) (d : BitVec 8) : Fn Tryz.prog 14 [.str (txt l), .str (txt [d])] [.p (.bool (l.contains d))] := by
  have k := index_ct1 l d
  rw [← idx_contains]
  generalize idxI l d = I at *
  refine Fn.of_body Tryz.func14 rfl ?_
  repeat (first | ((with_reducible first | refine callK_at 22 ?_); refine callK_p ?_; simp (maxSteps := 1000000) (disch := refine hold_ ?_; first | (simp [-List.getD_eq_getElem?_getD]; done) | omega) [-List.getD_eq_getElem?_getD]; (first | refine callK1_of (Fn.ct k Tryz.call22) ?_); (try simp (maxSteps := 1000000) (disch := refine hold_ ?_; first | (simp [-List.getD_eq_getElem?_getD]; done) | omega) [-List.getD_eq_getElem?_getD]); try first | (with_reducible refine zZ ?_) | subst hK_) | ((first | (with_reducible first | refine zP fun K_ hK_ => ?_ | refine zQ fun K_ hK_ => ?_ | refine zT ?_ | refine zU ?_ | refine zV ?_ | refine zW ?_ | refine zX ?_ | refine zY ?_) | ((with_reducible first | refine zR ?_ ?_ fun K_ hK_ => ?_ | refine zS ?_ ?_ fun K_ hK_ => ?_); (focus kernel_rfl); (focus kernel_rfl))); first | (simp (maxSteps := 1000000) (disch := refine hold_ ?_; first | (simp [-List.getD_eq_getElem?_getD]; done) | omega) [-List.getD_eq_getElem?_getD]; try first | (with_reducible refine zZ ?_) | subst hK_) | subst hK_) | (with_reducible first | refine zA ?_ | refine zB ?_ | refine zC ?_ | refine zD ?_ | refine zE ?_ | refine zF ?_ | refine zG ?_ | refine zH ?_ | refine zI ?_ | refine zJ ?_ | refine zK ?_ | refine zL ?_ | refine zM ?_ | refine zN ?_ | refine zO ?_) | ((with_reducible refine yG ?_ ?_); (focus decide)) | ((with_reducible refine yA ?_); refine yB rfl ?_; (with_reducible first | refine yC ?_ | refine yD ?_)))
  all_goals simp (maxSteps := 1000000) (disch := refine hold_ ?_; first | (simp [-List.getD_eq_getElem?_getD]; done) | omega) [-List.getD_eq_getElem?_getD]
def cutB (d : BitVec 8) : List (BitVec 8) → Option (List (BitVec 8) × List (BitVec 8))
  | [] => none
  | c :: l => if c = d then some ([], l) else (cutB d l).map fun q => (c :: q.1, q.2)
theorem cutB_idx (d : BitVec 8) : ∀ l, (cutB d l = none ∧ idxI l d = -1) ∨ ∃ k : Nat, idxI l d = k ∧ k < l.length ∧ cutB d l = some (l.take k, l.drop (k + 1))
  | [] => .inl ⟨rfl, rfl⟩
  | c :: l => by
    by_cases h : c = d
    · subst h
      right; exact ⟨0, by simp [idxI], by simp, by simp [cutB]⟩
    · rcases cutB_idx d l with ⟨h1, h2⟩ | ⟨k, h1, h2, h3⟩
      · left; exact ⟨by simp [cutB, h, h1], by simp [idxI, h, h2]⟩
      · right; exact ⟨k + 1, by simp [idxI, h, h1], by simp; omega, by simp [cutB, h, h3]⟩
def cutR (l : List (BitVec 8)) : Option (List (BitVec 8) × List (BitVec 8)) → List V
  | none => [.p (.str (txt l)), .p (.str (txt [])), .p (.bool false)]
  | some q => [.p (.str (txt q.1)), .p (.str (txt q.2)), .p (.bool true)]
theorem cut1_ct (l : List (BitVec 8)) (d : BitVec 8) (hl : l.length ≤ 4000000) : Fn Tryz.prog 36 [.str (txt l), .str (txt [d])] (cutR l (cutB d l)) := by
  have k62 := index1_ct l d
  have sl := txt_size l
  have hs : (txt [d]).size = 1 := by rw [txt_size]; rfl
  have t0 : ByteArray.mk #[] = txt [] := rfl
  rcases cutB_idx d l with ⟨h1, h2⟩ | ⟨k, h1, h2, h3⟩
  · rw [h2] at k62
    rw [h1]
    refine Fn.of_body Tryz.func36 rfl ?_
    repeat (first | ((with_reducible first | refine callK_at 33 ?_); refine callK_p ?_; simp (maxSteps := 1000000) (disch := refine hold_ ?_; first | (simp [-List.getD_eq_getElem?_getD]; done) | omega) [-List.getD_eq_getElem?_getD]; (first | refine callK1_of (Fn.ct k62 Tryz.call33) ?_); (try simp (maxSteps := 1000000) (disch := refine hold_ ?_; first | (simp [-List.getD_eq_getElem?_getD]; done) | omega) [-List.getD_eq_getElem?_getD]); try first | (with_reducible refine zZ ?_) | subst hK_) | ((first | (with_reducible first | refine zP fun K_ hK_ => ?_ | refine zQ fun K_ hK_ => ?_ | refine zT ?_ | refine zU ?_ | refine zV ?_ | refine zW ?_ | refine zX ?_ | refine zY ?_) | ((with_reducible first | refine zR ?_ ?_ fun K_ hK_ => ?_ | refine zS ?_ ?_ fun K_ hK_ => ?_); (focus kernel_rfl); (focus kernel_rfl))); first | (simp (maxSteps := 1000000) (disch := refine hold_ ?_; first | (simp [-List.getD_eq_getElem?_getD]; done) | omega) [-List.getD_eq_getElem?_getD]; try first | (with_reducible refine zZ ?_) | subst hK_) | subst hK_) | (with_reducible first | refine zA ?_ | refine zB ?_ | refine zC ?_ | refine zD ?_ | refine zE ?_ | refine zF ?_ | refine zG ?_ | refine zH ?_ | refine zI ?_ | refine zJ ?_ | refine zK ?_ | refine zL ?_ | refine zM ?_ | refine zN ?_ | refine zO ?_) | ((with_reducible refine yG ?_ ?_); (focus decide)) | ((with_reducible refine yA ?_); refine yB rfl ?_; (with_reducible first | refine yC ?_ | refine yD ?_)))
    all_goals simp (maxSteps := 1000000) (disch := refine hold_ ?_; first | (simp [cutR, t0, -List.getD_eq_getElem?_getD]; done) | omega) [cutR, t0, -List.getD_eq_getElem?_getD]
  · rw [h1] at k62
    rw [h3]
    have e1 : IntKind.i64.wrap ((k : Int) + 1) = k + 1 := wrap_i64 _ (by omega) (by omega)
    have h4 : k ≤ l.length := by omega
    have h5 : k + 1 ≤ l.length := by omega
    have h6 : ((k : Int) + 1).toNat = k + 1 := by omega
    have x1 : (txt l).extract 0 k = txt (l.take k) := by rw [txt_extract]; simp
    have x2 : (txt l).extract (k + 1) l.length = txt (l.drop (k + 1)) := by rw [txt_extract, List.take_length]
    have hkz : (k : Int) ≤ l.length := by omega
    have hkz1 : (k : Int) + 1 ≤ l.length := by omega
    have hk0 : (0 : Int) ≤ (k : Int) + 1 := by omega
    generalize l.take k = q1 at *
    generalize l.drop (k + 1) = q2 at *
    refine Fn.of_body Tryz.func36 rfl ?_
    repeat (first | ((with_reducible first | refine callK_at 33 ?_); refine callK_p ?_; simp (maxSteps := 1000000) (disch := refine hold_ ?_; first | (simp [sl, hs, e1, h4, h5, h6, x1, x2, hkz, hkz1, hk0, -List.getD_eq_getElem?_getD]; done) | omega) [sl, hs, e1, h4, h5, h6, x1, x2, hkz, hkz1, hk0, -List.getD_eq_getElem?_getD]; (first | refine callK1_of (Fn.ct k62 Tryz.call33) ?_); (try simp (maxSteps := 1000000) (disch := refine hold_ ?_; first | (simp [sl, hs, e1, h4, h5, h6, x1, x2, hkz, hkz1, hk0, -List.getD_eq_getElem?_getD]; done) | omega) [sl, hs, e1, h4, h5, h6, x1, x2, hkz, hkz1, hk0, -List.getD_eq_getElem?_getD]); try first | (with_reducible refine zZ ?_) | subst hK_) | ((first | (with_reducible first | refine zP fun K_ hK_ => ?_ | refine zQ fun K_ hK_ => ?_ | refine zT ?_ | refine zU ?_ | refine zV ?_ | refine zW ?_ | refine zX ?_ | refine zY ?_) | ((with_reducible first | refine zR ?_ ?_ fun K_ hK_ => ?_ | refine zS ?_ ?_ fun K_ hK_ => ?_); (focus kernel_rfl); (focus kernel_rfl))); first | (simp (maxSteps := 1000000) (disch := refine hold_ ?_; first | (simp [sl, hs, e1, h4, h5, h6, x1, x2, hkz, hkz1, hk0, -List.getD_eq_getElem?_getD]; done) | omega) [sl, hs, e1, h4, h5, h6, x1, x2, hkz, hkz1, hk0, -List.getD_eq_getElem?_getD]; try first | (with_reducible refine zZ ?_) | subst hK_) | subst hK_) | (with_reducible first | refine zA ?_ | refine zB ?_ | refine zC ?_ | refine zD ?_ | refine zE ?_ | refine zF ?_ | refine zG ?_ | refine zH ?_ | refine zI ?_ | refine zJ ?_ | refine zK ?_ | refine zL ?_ | refine zM ?_ | refine zN ?_ | refine zO ?_) | ((with_reducible refine yG ?_ ?_); (focus decide)) | ((with_reducible refine yA ?_); refine yB rfl ?_; (with_reducible first | refine yC ?_ | refine yD ?_)))
    all_goals simp (maxSteps := 1000000) (disch := refine hold_ ?_; first | (simp [cutR, -List.getD_eq_getElem?_getD]; done) | omega) [cutR, -List.getD_eq_getElem?_getD]
theorem cut_ct (l : List (BitVec 8)) (d : BitVec 8) (hl : l.length ≤ 4000000) : Fn Tryz.prog 24 [.str (txt l), .str (txt [d])] (cutR l (cutB d l)) := by
  have k := cut1_ct l d hl
  cases h : cutB d l with
  | none =>
    rw [h] at k
    refine Fn.of_body Tryz.func24 rfl ?_
    repeat (first | ((with_reducible first | refine callK_at 36 ?_); refine callK_p ?_; simp (maxSteps := 1000000) (disch := refine hold_ ?_; first | (simp [cutR, -List.getD_eq_getElem?_getD]; done) | omega) [cutR, -List.getD_eq_getElem?_getD]; (first | refine callK1_of (Fn.ct k Tryz.call36) ?_); (try simp (maxSteps := 1000000) (disch := refine hold_ ?_; first | (simp [cutR, -List.getD_eq_getElem?_getD]; done) | omega) [cutR, -List.getD_eq_getElem?_getD]); try first | (with_reducible refine zZ ?_) | subst hK_) | ((first | (with_reducible first | refine zP fun K_ hK_ => ?_ | refine zQ fun K_ hK_ => ?_ | refine zT ?_ | refine zU ?_ | refine zV ?_ | refine zW ?_ | refine zX ?_ | refine zY ?_) | ((with_reducible first | refine zR ?_ ?_ fun K_ hK_ => ?_ | refine zS ?_ ?_ fun K_ hK_ => ?_); (focus kernel_rfl); (focus kernel_rfl))); first | (simp (maxSteps := 1000000) (disch := refine hold_ ?_; first | (simp [cutR, -List.getD_eq_getElem?_getD]; done) | omega) [cutR, -List.getD_eq_getElem?_getD]; try first | (with_reducible refine zZ ?_) | subst hK_) | subst hK_) | (with_reducible first | refine zA ?_ | refine zB ?_ | refine zC ?_ | refine zD ?_ | refine zE ?_ | refine zF ?_ | refine zG ?_ | refine zH ?_ | refine zI ?_ | refine zJ ?_ | refine zK ?_ | refine zL ?_ | refine zM ?_ | refine zN ?_ | refine zO ?_) | ((with_reducible refine yG ?_ ?_); (focus decide)) | ((with_reducible refine yA ?_); refine yB rfl ?_; (with_reducible first | refine yC ?_ | refine yD ?_)))
    all_goals simp (maxSteps := 1000000) (disch := refine hold_ ?_; first | (simp [cutR, -List.getD_eq_getElem?_getD]; done) | omega) [cutR, -List.getD_eq_getElem?_getD]
  | some q =>
    rw [h] at k
    refine Fn.of_body Tryz.func24 rfl ?_
    repeat (first | ((with_reducible first | refine callK_at 36 ?_); refine callK_p ?_; simp (maxSteps := 1000000) (disch := refine hold_ ?_; first | (simp [cutR, -List.getD_eq_getElem?_getD]; done) | omega) [cutR, -List.getD_eq_getElem?_getD]; (first | refine callK1_of (Fn.ct k Tryz.call36) ?_); (try simp (maxSteps := 1000000) (disch := refine hold_ ?_; first | (simp [cutR, -List.getD_eq_getElem?_getD]; done) | omega) [cutR, -List.getD_eq_getElem?_getD]); try first | (with_reducible refine zZ ?_) | subst hK_) | ((first | (with_reducible first | refine zP fun K_ hK_ => ?_ | refine zQ fun K_ hK_ => ?_ | refine zT ?_ | refine zU ?_ | refine zV ?_ | refine zW ?_ | refine zX ?_ | refine zY ?_) | ((with_reducible first | refine zR ?_ ?_ fun K_ hK_ => ?_ | refine zS ?_ ?_ fun K_ hK_ => ?_); (focus kernel_rfl); (focus kernel_rfl))); first | (simp (maxSteps := 1000000) (disch := refine hold_ ?_; first | (simp [cutR, -List.getD_eq_getElem?_getD]; done) | omega) [cutR, -List.getD_eq_getElem?_getD]; try first | (with_reducible refine zZ ?_) | subst hK_) | subst hK_) | (with_reducible first | refine zA ?_ | refine zB ?_ | refine zC ?_ | refine zD ?_ | refine zE ?_ | refine zF ?_ | refine zG ?_ | refine zH ?_ | refine zI ?_ | refine zJ ?_ | refine zK ?_ | refine zL ?_ | refine zM ?_ | refine zN ?_ | refine zO ?_) | ((with_reducible refine yG ?_ ?_); (focus decide)) | ((with_reducible refine yA ?_); refine yB rfl ?_; (with_reducible first | refine yC ?_ | refine yD ?_)))
    all_goals simp (maxSteps := 1000000) (disch := refine hold_ ?_; first | (simp [cutR, -List.getD_eq_getElem?_getD]; done) | omega) [cutR, -List.getD_eq_getElem?_getD]
end Go.Av.Cha
end
