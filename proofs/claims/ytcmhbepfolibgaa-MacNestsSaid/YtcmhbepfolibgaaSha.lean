/- The walks of this seat's functions, and what is known of what they reckon (Sha). Conditions: those that each theorem names. -/
import Derived.Test.YtcmhbepfolibgaaAv5
import Derived.Test.YtcmhbepfolibgaaProg
import Derived.KernelRfl

section
namespace Go.Av.Sha
open Go Go.Av Go.Proofs
set_option linter.unusedVariables false
@[simp] theorem x2_u : udesc Try.prog 2 = some (.int .i64) := nr (by kernel_rfl)
@[simp] theorem x2_isSlice : isSlice Try.prog 2 = false := nr (by kernel_rfl)
@[simp] theorem x2_isString : isString Try.prog 2 = false := nr (by kernel_rfl)
@[simp] theorem x2_arrLen : arrLen Try.prog 2 = none := nr (by kernel_rfl)
@[simp] theorem x2_esz : esz Try.prog 2 = none := nr (by kernel_rfl)
@[simp] theorem x2_isAggT : isAggT Try.prog 2 = some false := nr (by kernel_rfl)
@[simp] theorem x2_tsize : tsize Try.prog 2 = some 1 := nr (by kernel_rfl)
@[simp] theorem x2_notInt : notInt Try.prog 2 = false := nr (by kernel_rfl)
@[simp] theorem x2_isBytes : isBytes Try.prog 2 = false := nr (by kernel_rfl)
@[simp] theorem x2_alloc (H : List (Nat × (Nat × HB))) (d : Nat) : aalloc Try.prog H d 2 = some (.ptr d (nextVer H d) 0, upd H d (nextVer H d, .row (.ints .i64 [0]))) := nr (by kernel_rfl)
@[simp] theorem x3_u : udesc Try.prog 3 = some (.int .i64) := nr (by kernel_rfl)
@[simp] theorem x3_isSlice : isSlice Try.prog 3 = false := nr (by kernel_rfl)
@[simp] theorem x3_isString : isString Try.prog 3 = false := nr (by kernel_rfl)
@[simp] theorem x3_arrLen : arrLen Try.prog 3 = none := nr (by kernel_rfl)
@[simp] theorem x3_esz : esz Try.prog 3 = none := nr (by kernel_rfl)
@[simp] theorem x3_isAggT : isAggT Try.prog 3 = some false := nr (by kernel_rfl)
@[simp] theorem x3_tsize : tsize Try.prog 3 = some 1 := nr (by kernel_rfl)
@[simp] theorem x3_notInt : notInt Try.prog 3 = false := nr (by kernel_rfl)
@[simp] theorem x3_isBytes : isBytes Try.prog 3 = false := nr (by kernel_rfl)
@[simp] theorem x3_alloc (H : List (Nat × (Nat × HB))) (d : Nat) : aalloc Try.prog H d 3 = some (.ptr d (nextVer H d) 0, upd H d (nextVer H d, .row (.ints .i64 [0]))) := nr (by kernel_rfl)
@[simp] theorem x4_u : udesc Try.prog 4 = some .bool := nr (by kernel_rfl)
@[simp] theorem x4_eq (a b : Bool) : eqNil Try.prog 4 (.p (.bool a)) (.p (.bool b)) = some (a == b) := eqNil_bool (by kernel_rfl) a b
@[simp] theorem x4_isSlice : isSlice Try.prog 4 = false := nr (by kernel_rfl)
@[simp] theorem x4_isString : isString Try.prog 4 = false := nr (by kernel_rfl)
@[simp] theorem x4_arrLen : arrLen Try.prog 4 = none := nr (by kernel_rfl)
@[simp] theorem x4_esz : esz Try.prog 4 = none := nr (by kernel_rfl)
@[simp] theorem x4_isAggT : isAggT Try.prog 4 = some false := nr (by kernel_rfl)
@[simp] theorem x4_tsize : tsize Try.prog 4 = some 1 := nr (by kernel_rfl)
@[simp] theorem x4_notInt : notInt Try.prog 4 = true := nr (by kernel_rfl)
@[simp] theorem x4_isBytes : isBytes Try.prog 4 = false := nr (by kernel_rfl)
@[simp] theorem x4_alloc (H : List (Nat × (Nat × HB))) (d : Nat) : aalloc Try.prog H d 4 = some (.ptr d (nextVer H d) 0, upd H d (nextVer H d, .cells [.p (.bool false)])) := nr (by kernel_rfl)
@[simp] theorem x5_u : udesc Try.prog 5 = some (.int .u8) := nr (by kernel_rfl)
@[simp] theorem x5_isSlice : isSlice Try.prog 5 = false := nr (by kernel_rfl)
@[simp] theorem x5_isString : isString Try.prog 5 = false := nr (by kernel_rfl)
@[simp] theorem x5_arrLen : arrLen Try.prog 5 = none := nr (by kernel_rfl)
@[simp] theorem x5_esz : esz Try.prog 5 = none := nr (by kernel_rfl)
@[simp] theorem x5_isAggT : isAggT Try.prog 5 = some false := nr (by kernel_rfl)
@[simp] theorem x5_tsize : tsize Try.prog 5 = some 1 := nr (by kernel_rfl)
@[simp] theorem x5_notInt : notInt Try.prog 5 = false := nr (by kernel_rfl)
@[simp] theorem x5_isBytes : isBytes Try.prog 5 = false := nr (by kernel_rfl)
@[simp] theorem x5_alloc (H : List (Nat × (Nat × HB))) (d : Nat) : aalloc Try.prog H d 5 = some (.ptr d (nextVer H d) 0, upd H d (nextVer H d, .row (.ints .u8 [0]))) := nr (by kernel_rfl)
@[simp] theorem x9_u : udesc Try.prog 9 = some .string := nr (by kernel_rfl)
@[simp] theorem x9_isSlice : isSlice Try.prog 9 = false := nr (by kernel_rfl)
@[simp] theorem x9_isString : isString Try.prog 9 = true := nr (by kernel_rfl)
@[simp] theorem x9_arrLen : arrLen Try.prog 9 = none := nr (by kernel_rfl)
@[simp] theorem x9_esz : esz Try.prog 9 = none := nr (by kernel_rfl)
@[simp] theorem x9_isAggT : isAggT Try.prog 9 = some false := nr (by kernel_rfl)
@[simp] theorem x9_tsize : tsize Try.prog 9 = some 1 := nr (by kernel_rfl)
@[simp] theorem x9_notInt : notInt Try.prog 9 = true := nr (by kernel_rfl)
@[simp] theorem x9_isBytes : isBytes Try.prog 9 = false := nr (by kernel_rfl)
@[simp] theorem x9_alloc (H : List (Nat × (Nat × HB))) (d : Nat) : aalloc Try.prog H d 9 = some (.ptr d (nextVer H d) 0, upd H d (nextVer H d, .cells [.p (.str ByteArray.empty)])) := nr (by kernel_rfl)
@[simp] theorem x12_u : udesc Try.prog 12 = some (.int .u64) := nr (by kernel_rfl)
@[simp] theorem x12_isSlice : isSlice Try.prog 12 = false := nr (by kernel_rfl)
@[simp] theorem x12_isString : isString Try.prog 12 = false := nr (by kernel_rfl)
@[simp] theorem x12_arrLen : arrLen Try.prog 12 = none := nr (by kernel_rfl)
@[simp] theorem x12_esz : esz Try.prog 12 = none := nr (by kernel_rfl)
@[simp] theorem x12_isAggT : isAggT Try.prog 12 = some false := nr (by kernel_rfl)
@[simp] theorem x12_tsize : tsize Try.prog 12 = some 1 := nr (by kernel_rfl)
@[simp] theorem x12_notInt : notInt Try.prog 12 = false := nr (by kernel_rfl)
@[simp] theorem x12_isBytes : isBytes Try.prog 12 = false := nr (by kernel_rfl)
@[simp] theorem x12_alloc (H : List (Nat × (Nat × HB))) (d : Nat) : aalloc Try.prog H d 12 = some (.ptr d (nextVer H d) 0, upd H d (nextVer H d, .row (.ints .u64 [0]))) := nr (by kernel_rfl)
@[simp] theorem x21_u : udesc Try.prog 21 = some (.int .i32) := nr (by kernel_rfl)
@[simp] theorem x21_isSlice : isSlice Try.prog 21 = false := nr (by kernel_rfl)
@[simp] theorem x21_isString : isString Try.prog 21 = false := nr (by kernel_rfl)
@[simp] theorem x21_arrLen : arrLen Try.prog 21 = none := nr (by kernel_rfl)
@[simp] theorem x21_esz : esz Try.prog 21 = none := nr (by kernel_rfl)
@[simp] theorem x21_isAggT : isAggT Try.prog 21 = some false := nr (by kernel_rfl)
@[simp] theorem x21_tsize : tsize Try.prog 21 = some 1 := nr (by kernel_rfl)
@[simp] theorem x21_notInt : notInt Try.prog 21 = false := nr (by kernel_rfl)
@[simp] theorem x21_isBytes : isBytes Try.prog 21 = false := nr (by kernel_rfl)
@[simp] theorem x21_alloc (H : List (Nat × (Nat × HB))) (d : Nat) : aalloc Try.prog H d 21 = some (.ptr d (nextVer H d) 0, upd H d (nextVer H d, .row (.ints .i32 [0]))) := nr (by kernel_rfl)
@[simp] theorem x22_us : udesc Try.prog 22 = some (.slice 5) := nr (by kernel_rfl)
@[simp] theorem x22_eq (x y : V) : eqNil Try.prog 22 x y = eqSl x y := eqNil_sl (e := 5) (by kernel_rfl) x y
@[simp] theorem x22_isSlice : isSlice Try.prog 22 = true := nr (by kernel_rfl)
@[simp] theorem x22_isString : isString Try.prog 22 = false := nr (by kernel_rfl)
@[simp] theorem x22_arrLen : arrLen Try.prog 22 = none := nr (by kernel_rfl)
@[simp] theorem x22_esz : esz Try.prog 22 = some 1 := nr (by kernel_rfl)
@[simp] theorem x22_isAggT : isAggT Try.prog 22 = some false := nr (by kernel_rfl)
@[simp] theorem x22_tsize : tsize Try.prog 22 = some 1 := nr (by kernel_rfl)
@[simp] theorem x22_notInt : notInt Try.prog 22 = true := nr (by kernel_rfl)
@[simp] theorem x22_isBytes : isBytes Try.prog 22 = true := nr (by kernel_rfl)
@[simp] theorem x22_row (T : List (Nat × Nat)) (d len : Nat) (ps : List (Nat × V)) : arowSlice Try.prog T d 22 len ps = if len * 1 ≤ 16777216 then rowFill (bl []) 1 len d T (fillV (fun k => some (k * 1, 1)) [] (zrep len [.p (.int .u8 0)]) ps) else none := arowSlice_eq (P := Try.prog) (t := 22) (s := 1) (zl := [.p (.int .u8 0)]) (e := 5) (b := 1) (z := .int .u8 0) (by kernel_rfl) (by kernel_rfl) (by kernel_rfl) rfl T d len ps
@[simp] theorem x22_own (H : List (Nat × (Nat × HB))) (d len : Nat) (ps : List (Nat × V)) : abuildSlice Try.prog H d 22 len ps = if len * 1 ≤ 16777216 then (fillV (fun k => some (k * 1, 1)) H (zrep len [.p (.int .u8 0)]) ps).map fun l => (.own d (nextVer H d) 0 len len, upd H d (nextVer H d, mkHB l)) else none := abuildSlice_eq (P := Try.prog) (t := 22) (s := 1) (zl := [.p (.int .u8 0)]) (e := 5) (b := 1) (z := .int .u8 0) (by kernel_rfl) (by kernel_rfl) (by kernel_rfl) rfl H d len ps
@[simp] theorem x22_copy (H : List (Nat × (Nat × HB))) (id ver off len cap : Nat) (y : V) : acopy Try.prog H 22 (.own id ver off len cap) y = copyR ver off len 1 H id (look H id) (srcV H 1 y) := acopy_eq (e := 5) (b := 1) (z := .int .u8 0) (by kernel_rfl) H id ver off len cap y
@[simp] theorem x22_make (H : List (Nat × (Nat × HB))) (d : Nat) (k k' : IntKind) (n m : Int) (h0 : 0 ≤ n) (h1 : n ≤ m) (h2 : m ≤ 281474976710656) : amakeSlice Try.prog H d 22 (.p (.int k n)) (.p (.int k' m)) = some (.own d (nextVer H d) 0 n.toNat m.toNat, upd H d (nextVer H d, .row (bl (List.replicate m.toNat 0#8)))) := amake_bytes (e := 5) (by kernel_rfl) H d k k' n m h0 h1 h2
@[simp] theorem x22_elem : elemInfo Try.prog 22 = some (5, 1, 1, .int .u8 0) := nr (by kernel_rfl)
@[simp] theorem x22_alloc (H : List (Nat × (Nat × HB))) (d : Nat) : aalloc Try.prog H d 22 = some (.ptr d (nextVer H d) 0, upd H d (nextVer H d, .cells [.p (.sl (.vals 1 []) true)])) := nr (by kernel_rfl)
@[simp] theorem x23_u : udesc Try.prog 23 = some (.int .u16) := nr (by kernel_rfl)
@[simp] theorem x23_isSlice : isSlice Try.prog 23 = false := nr (by kernel_rfl)
@[simp] theorem x23_isString : isString Try.prog 23 = false := nr (by kernel_rfl)
@[simp] theorem x23_arrLen : arrLen Try.prog 23 = none := nr (by kernel_rfl)
@[simp] theorem x23_esz : esz Try.prog 23 = none := nr (by kernel_rfl)
@[simp] theorem x23_isAggT : isAggT Try.prog 23 = some false := nr (by kernel_rfl)
@[simp] theorem x23_tsize : tsize Try.prog 23 = some 1 := nr (by kernel_rfl)
@[simp] theorem x23_notInt : notInt Try.prog 23 = false := nr (by kernel_rfl)
@[simp] theorem x23_isBytes : isBytes Try.prog 23 = false := nr (by kernel_rfl)
@[simp] theorem x23_alloc (H : List (Nat × (Nat × HB))) (d : Nat) : aalloc Try.prog H d 23 = some (.ptr d (nextVer H d) 0, upd H d (nextVer H d, .row (.ints .u16 [0]))) := nr (by kernel_rfl)
@[simp] theorem x25_eq (a b : List Int) (ha : a.length = 32) (hb : b.length = 32) : eqNil Try.prog 25 (.p (.agg (.ints .u8 a))) (.p (.agg (.ints .u8 b))) = some (a == b) := eqNil_arr (n := 32) (e := 5) (by kernel_rfl) (by kernel_rfl) (by kernel_rfl) (by kernel_rfl) a b ha hb
@[simp] theorem x25_eqb (a b : List (BitVec 8)) (ha : a.length = 32) (hb : b.length = 32) : eqNil Try.prog 25 (.p (.agg (bl a))) (.p (.agg (bl b))) = some (a == b) := eqNil_bytes (n := 32) (e := 5) (by kernel_rfl) (by kernel_rfl) (by kernel_rfl) (by kernel_rfl) a b ha hb
@[simp] theorem x25_isSlice : isSlice Try.prog 25 = false := nr (by kernel_rfl)
@[simp] theorem x25_isString : isString Try.prog 25 = false := nr (by kernel_rfl)
@[simp] theorem x25_arrLen : arrLen Try.prog 25 = some 32 := nr (by kernel_rfl)
@[simp] theorem x25_esz : esz Try.prog 25 = some 1 := nr (by kernel_rfl)
@[simp] theorem x25_isAggT : isAggT Try.prog 25 = some true := nr (by kernel_rfl)
@[simp] theorem x25_tsize : tsize Try.prog 25 = some 32 := nr (by kernel_rfl)
@[simp] theorem x25_notInt : notInt Try.prog 25 = true := nr (by kernel_rfl)
@[simp] theorem x25_isBytes : isBytes Try.prog 25 = false := nr (by kernel_rfl)
@[simp] theorem x25_arrElem : arrElem Try.prog 25 = some 32 := nr (by kernel_rfl)
@[simp] theorem x39_u : udesc Try.prog 39 = some (.int .u64) := nr (by kernel_rfl)
@[simp] theorem x39_isSlice : isSlice Try.prog 39 = false := nr (by kernel_rfl)
@[simp] theorem x39_isString : isString Try.prog 39 = false := nr (by kernel_rfl)
@[simp] theorem x39_arrLen : arrLen Try.prog 39 = none := nr (by kernel_rfl)
@[simp] theorem x39_esz : esz Try.prog 39 = none := nr (by kernel_rfl)
@[simp] theorem x39_isAggT : isAggT Try.prog 39 = some false := nr (by kernel_rfl)
@[simp] theorem x39_tsize : tsize Try.prog 39 = some 1 := nr (by kernel_rfl)
@[simp] theorem x39_notInt : notInt Try.prog 39 = false := nr (by kernel_rfl)
@[simp] theorem x39_isBytes : isBytes Try.prog 39 = false := nr (by kernel_rfl)
@[simp] theorem x39_alloc (H : List (Nat × (Nat × HB))) (d : Nat) : aalloc Try.prog H d 39 = some (.ptr d (nextVer H d) 0, upd H d (nextVer H d, .row (.ints .u64 [0]))) := nr (by kernel_rfl)
@[simp] theorem x40_u : udesc Try.prog 40 = some (.int .u64) := nr (by kernel_rfl)
@[simp] theorem x40_isSlice : isSlice Try.prog 40 = false := nr (by kernel_rfl)
@[simp] theorem x40_isString : isString Try.prog 40 = false := nr (by kernel_rfl)
@[simp] theorem x40_arrLen : arrLen Try.prog 40 = none := nr (by kernel_rfl)
@[simp] theorem x40_esz : esz Try.prog 40 = none := nr (by kernel_rfl)
@[simp] theorem x40_isAggT : isAggT Try.prog 40 = some false := nr (by kernel_rfl)
@[simp] theorem x40_tsize : tsize Try.prog 40 = some 1 := nr (by kernel_rfl)
@[simp] theorem x40_notInt : notInt Try.prog 40 = false := nr (by kernel_rfl)
@[simp] theorem x40_isBytes : isBytes Try.prog 40 = false := nr (by kernel_rfl)
@[simp] theorem x40_alloc (H : List (Nat × (Nat × HB))) (d : Nat) : aalloc Try.prog H d 40 = some (.ptr d (nextVer H d) 0, upd H d (nextVer H d, .row (.ints .u64 [0]))) := nr (by kernel_rfl)
@[simp] theorem x41_u : udesc Try.prog 41 = some (.int .u32) := nr (by kernel_rfl)
@[simp] theorem x41_isSlice : isSlice Try.prog 41 = false := nr (by kernel_rfl)
@[simp] theorem x41_isString : isString Try.prog 41 = false := nr (by kernel_rfl)
@[simp] theorem x41_arrLen : arrLen Try.prog 41 = none := nr (by kernel_rfl)
@[simp] theorem x41_esz : esz Try.prog 41 = none := nr (by kernel_rfl)
@[simp] theorem x41_isAggT : isAggT Try.prog 41 = some false := nr (by kernel_rfl)
@[simp] theorem x41_tsize : tsize Try.prog 41 = some 1 := nr (by kernel_rfl)
@[simp] theorem x41_notInt : notInt Try.prog 41 = false := nr (by kernel_rfl)
@[simp] theorem x41_isBytes : isBytes Try.prog 41 = false := nr (by kernel_rfl)
@[simp] theorem x41_alloc (H : List (Nat × (Nat × HB))) (d : Nat) : aalloc Try.prog H d 41 = some (.ptr d (nextVer H d) 0, upd H d (nextVer H d, .row (.ints .u32 [0]))) := nr (by kernel_rfl)
@[simp] theorem x42_eq (a b : List Int) (ha : a.length = 8) (hb : b.length = 8) : eqNil Try.prog 42 (.p (.agg (.ints .u32 a))) (.p (.agg (.ints .u32 b))) = some (a == b) := eqNil_arr (n := 8) (e := 41) (by kernel_rfl) (by kernel_rfl) (by kernel_rfl) (by kernel_rfl) a b ha hb
@[simp] theorem x42_isSlice : isSlice Try.prog 42 = false := nr (by kernel_rfl)
@[simp] theorem x42_isString : isString Try.prog 42 = false := nr (by kernel_rfl)
@[simp] theorem x42_arrLen : arrLen Try.prog 42 = some 8 := nr (by kernel_rfl)
@[simp] theorem x42_esz : esz Try.prog 42 = some 1 := nr (by kernel_rfl)
@[simp] theorem x42_isAggT : isAggT Try.prog 42 = some true := nr (by kernel_rfl)
@[simp] theorem x42_tsize : tsize Try.prog 42 = some 8 := nr (by kernel_rfl)
@[simp] theorem x42_notInt : notInt Try.prog 42 = true := nr (by kernel_rfl)
@[simp] theorem x42_isBytes : isBytes Try.prog 42 = false := nr (by kernel_rfl)
@[simp] theorem x42_arrElem : arrElem Try.prog 42 = some 8 := nr (by kernel_rfl)
@[simp] theorem x42_alloc (H : List (Nat × (Nat × HB))) (d : Nat) : aalloc Try.prog H d 42 = some (.ptr d (nextVer H d) 0, upd H d (nextVer H d, .row (.ints .u32 [0, 0, 0, 0, 0, 0, 0, 0]))) := nr (by kernel_rfl)
@[simp] theorem x42_build (H : List (Nat × (Nat × HB))) (ps : List (Nat × V)) : abuild Try.prog H 42 ps = (fillV (fun k => some (k * 1, 1)) H [.p (.int .u32 0), .p (.int .u32 0), .p (.int .u32 0), .p (.int .u32 0), .p (.int .u32 0), .p (.int .u32 0), .p (.int .u32 0), .p (.int .u32 0)] ps).map mkAgg := nr (by kernel_rfl)
@[simp] theorem x45_us : udesc Try.prog 45 = some (.slice 22) := nr (by kernel_rfl)
@[simp] theorem x45_eq (x y : V) : eqNil Try.prog 45 x y = eqSl x y := eqNil_sl (e := 22) (by kernel_rfl) x y
@[simp] theorem x45_isSlice : isSlice Try.prog 45 = true := nr (by kernel_rfl)
@[simp] theorem x45_isString : isString Try.prog 45 = false := nr (by kernel_rfl)
@[simp] theorem x45_arrLen : arrLen Try.prog 45 = none := nr (by kernel_rfl)
@[simp] theorem x45_esz : esz Try.prog 45 = some 1 := nr (by kernel_rfl)
@[simp] theorem x45_isAggT : isAggT Try.prog 45 = some false := nr (by kernel_rfl)
@[simp] theorem x45_tsize : tsize Try.prog 45 = some 1 := nr (by kernel_rfl)
@[simp] theorem x45_notInt : notInt Try.prog 45 = true := nr (by kernel_rfl)
@[simp] theorem x45_isBytes : isBytes Try.prog 45 = false := nr (by kernel_rfl)
@[simp] theorem x45_row (T : List (Nat × Nat)) (d len : Nat) (ps : List (Nat × V)) : arowSlice Try.prog T d 45 len ps = if len * 1 ≤ 16777216 then rowFill (.vals 1 []) 1 len d T (fillV (fun k => some (k * 1, 1)) [] (zrep len [.p (.sl (.vals 1 []) true)]) ps) else none := arowSlice_eq (P := Try.prog) (t := 45) (s := 1) (zl := [.p (.sl (.vals 1 []) true)]) (e := 22) (b := 24) (z := .slice none 0 0) (by kernel_rfl) (by kernel_rfl) (by kernel_rfl) rfl T d len ps
@[simp] theorem x45_own (H : List (Nat × (Nat × HB))) (d len : Nat) (ps : List (Nat × V)) : abuildSlice Try.prog H d 45 len ps = if len * 1 ≤ 16777216 then (fillV (fun k => some (k * 1, 1)) H (zrep len [.p (.sl (.vals 1 []) true)]) ps).map fun l => (.own d (nextVer H d) 0 len len, upd H d (nextVer H d, mkHB l)) else none := abuildSlice_eq (P := Try.prog) (t := 45) (s := 1) (zl := [.p (.sl (.vals 1 []) true)]) (e := 22) (b := 24) (z := .slice none 0 0) (by kernel_rfl) (by kernel_rfl) (by kernel_rfl) rfl H d len ps
@[simp] theorem x45_copy (H : List (Nat × (Nat × HB))) (id ver off len cap : Nat) (y : V) : acopy Try.prog H 45 (.own id ver off len cap) y = copyR ver off len 1 H id (look H id) (srcV H 1 y) := acopy_eq (e := 22) (b := 24) (z := .slice none 0 0) (by kernel_rfl) H id ver off len cap y
@[simp] theorem x45_elem : elemInfo Try.prog 45 = some (22, 1, 24, .slice none 0 0) := nr (by kernel_rfl)
@[simp] theorem x45_alloc (H : List (Nat × (Nat × HB))) (d : Nat) : aalloc Try.prog H d 45 = some (.ptr d (nextVer H d) 0, upd H d (nextVer H d, .cells [.p (.sl (.vals 1 []) true)])) := nr (by kernel_rfl)
@[simp] theorem x46_eq (a b : List Int) (ha : a.length = 8) (hb : b.length = 8) : eqNil Try.prog 46 (.p (.agg (.ints .u32 a))) (.p (.agg (.ints .u32 b))) = some (a == b) := eqNil_arr (n := 8) (e := 41) (by kernel_rfl) (by kernel_rfl) (by kernel_rfl) (by kernel_rfl) a b ha hb
@[simp] theorem x46_isSlice : isSlice Try.prog 46 = false := nr (by kernel_rfl)
@[simp] theorem x46_isString : isString Try.prog 46 = false := nr (by kernel_rfl)
@[simp] theorem x46_arrLen : arrLen Try.prog 46 = some 8 := nr (by kernel_rfl)
@[simp] theorem x46_esz : esz Try.prog 46 = some 1 := nr (by kernel_rfl)
@[simp] theorem x46_isAggT : isAggT Try.prog 46 = some true := nr (by kernel_rfl)
@[simp] theorem x46_tsize : tsize Try.prog 46 = some 8 := nr (by kernel_rfl)
@[simp] theorem x46_notInt : notInt Try.prog 46 = true := nr (by kernel_rfl)
@[simp] theorem x46_isBytes : isBytes Try.prog 46 = false := nr (by kernel_rfl)
@[simp] theorem x46_arrElem : arrElem Try.prog 46 = some 8 := nr (by kernel_rfl)
@[simp] theorem x46_alloc (H : List (Nat × (Nat × HB))) (d : Nat) : aalloc Try.prog H d 46 = some (.ptr d (nextVer H d) 0, upd H d (nextVer H d, .row (.ints .u32 [0, 0, 0, 0, 0, 0, 0, 0]))) := nr (by kernel_rfl)
@[simp] theorem x46_build (H : List (Nat × (Nat × HB))) (ps : List (Nat × V)) : abuild Try.prog H 46 ps = (fillV (fun k => some (k * 1, 1)) H [.p (.int .u32 0), .p (.int .u32 0), .p (.int .u32 0), .p (.int .u32 0), .p (.int .u32 0), .p (.int .u32 0), .p (.int .u32 0), .p (.int .u32 0)] ps).map mkAgg := nr (by kernel_rfl)
@[simp] theorem x53_eq (a b : List Int) (ha : a.length = 64) (hb : b.length = 64) : eqNil Try.prog 53 (.p (.agg (.ints .u32 a))) (.p (.agg (.ints .u32 b))) = some (a == b) := eqNil_arr (n := 64) (e := 41) (by kernel_rfl) (by kernel_rfl) (by kernel_rfl) (by kernel_rfl) a b ha hb
@[simp] theorem x53_isSlice : isSlice Try.prog 53 = false := nr (by kernel_rfl)
@[simp] theorem x53_isString : isString Try.prog 53 = false := nr (by kernel_rfl)
@[simp] theorem x53_arrLen : arrLen Try.prog 53 = some 64 := nr (by kernel_rfl)
@[simp] theorem x53_esz : esz Try.prog 53 = some 1 := nr (by kernel_rfl)
@[simp] theorem x53_isAggT : isAggT Try.prog 53 = some true := nr (by kernel_rfl)
@[simp] theorem x53_tsize : tsize Try.prog 53 = some 64 := nr (by kernel_rfl)
@[simp] theorem x53_notInt : notInt Try.prog 53 = true := nr (by kernel_rfl)
@[simp] theorem x53_isBytes : isBytes Try.prog 53 = false := nr (by kernel_rfl)
@[simp] theorem x53_arrElem : arrElem Try.prog 53 = some 64 := nr (by kernel_rfl)
@[simp] theorem x57_up : udesc Try.prog 57 = some (.pointer 46) := nr (by kernel_rfl)
@[simp] theorem x57_eq (x y : V) : eqNil Try.prog 57 x y = eqPt x y := eqNil_pt (e := 46) (by kernel_rfl) x y
@[simp] theorem x57_isSlice : isSlice Try.prog 57 = false := nr (by kernel_rfl)
@[simp] theorem x57_isString : isString Try.prog 57 = false := nr (by kernel_rfl)
@[simp] theorem x57_arrLen : arrLen Try.prog 57 = none := nr (by kernel_rfl)
@[simp] theorem x57_esz : esz Try.prog 57 = none := nr (by kernel_rfl)
@[simp] theorem x57_isAggT : isAggT Try.prog 57 = some false := nr (by kernel_rfl)
@[simp] theorem x57_tsize : tsize Try.prog 57 = some 1 := nr (by kernel_rfl)
@[simp] theorem x57_notInt : notInt Try.prog 57 = true := nr (by kernel_rfl)
@[simp] theorem x57_isBytes : isBytes Try.prog 57 = false := nr (by kernel_rfl)
@[simp] theorem x57_alloc (H : List (Nat × (Nat × HB))) (d : Nat) : aalloc Try.prog H d 57 = some (.ptr d (nextVer H d) 0, upd H d (nextVer H d, .cells [.p .ptr0])) := nr (by kernel_rfl)
@[simp] theorem x72_up : udesc Try.prog 72 = some (.pointer 5) := nr (by kernel_rfl)
@[simp] theorem x72_eq (x y : V) : eqNil Try.prog 72 x y = eqPt x y := eqNil_pt (e := 5) (by kernel_rfl) x y
@[simp] theorem x72_isSlice : isSlice Try.prog 72 = false := nr (by kernel_rfl)
@[simp] theorem x72_isString : isString Try.prog 72 = false := nr (by kernel_rfl)
@[simp] theorem x72_arrLen : arrLen Try.prog 72 = none := nr (by kernel_rfl)
@[simp] theorem x72_esz : esz Try.prog 72 = none := nr (by kernel_rfl)
@[simp] theorem x72_isAggT : isAggT Try.prog 72 = some false := nr (by kernel_rfl)
@[simp] theorem x72_tsize : tsize Try.prog 72 = some 1 := nr (by kernel_rfl)
@[simp] theorem x72_notInt : notInt Try.prog 72 = true := nr (by kernel_rfl)
@[simp] theorem x72_isBytes : isBytes Try.prog 72 = false := nr (by kernel_rfl)
@[simp] theorem x72_alloc (H : List (Nat × (Nat × HB))) (d : Nat) : aalloc Try.prog H d 72 = some (.ptr d (nextVer H d) 0, upd H d (nextVer H d, .cells [.p .ptr0])) := nr (by kernel_rfl)
theorem mixed : Try.prog.follows .mixedOrders = true := by kernel_rfl
end Go.Av.Sha
end

section
namespace Go.Av.Sha
open Go Go.Av Go.Proofs
/-- (*state).add writes its state, slices.Insert and slices.Clone make rows of their own; Sum, Encode, pad and Equal read what they are shown. -/
instance : Tables := ⟨fun _ => none, fun f => if f = 23 ∨ f = 26 ∨ f = 27 then 2 else if f = 15 ∨ f = 28 ∨ f = 19 ∨ f = 12 ∨ f = 13 then 1 else 0⟩
end Go.Av.Sha
end

section
set_option linter.unusedSimpArgs false
set_option linter.unusedVariables false
open Go Go.Av Go.Proofs
namespace Go.Av.Sha
def rotr (x : BitVec 32) (n : Nat) : BitVec 32 := x >>> n ||| x <<< (32 - n)
theorem turn_ct (x : BitVec 32) (n : Int) (h : 0 ≤ n) (h2 : n ≤ 32) : Fn Try.prog 31 [.int .u32 (uw x), .int .u64 n] [.p (.int .u32 (uw (rotr x n.toNat)))] := by
  have e1 : IntKind.u64.wrap (32 - n) = 32 - n := wrap_u64 _ (by omega) (by omega)
  have e2 : (32 - n).toNat = 32 - n.toNat := by omega
  refine Fn.of_body Try.func31 rfl ?_
  repeat (first | ((first | (with_reducible first | refine zP fun K_ hK_ => ?_ | refine zQ fun K_ hK_ => ?_ | refine zT ?_ | refine zU ?_ | refine zV ?_ | refine zW ?_ | refine zX ?_ | refine zY ?_) | ((with_reducible first | refine zR ?_ ?_ fun K_ hK_ => ?_ | refine zS ?_ ?_ fun K_ hK_ => ?_); (focus kernel_rfl); (focus kernel_rfl))); first | (simp (maxSteps := 1000000) (disch := refine hold_ ?_; first | (simp [e1, e2, -List.getD_eq_getElem?_getD]; done) | omega) [e1, e2, -List.getD_eq_getElem?_getD]; try first | (with_reducible refine zZ ?_) | subst hK_) | subst hK_) | (with_reducible first | refine zA ?_ | refine zB ?_ | refine zC ?_ | refine zD ?_ | refine zE ?_ | refine zF ?_ | refine zG ?_ | refine zH ?_ | refine zI ?_ | refine zJ ?_ | refine zK ?_ | refine zL ?_ | refine zM ?_ | refine zN ?_ | refine zO ?_) | ((with_reducible refine yG ?_ ?_); (focus decide)) | ((with_reducible refine yA ?_); refine yB rfl ?_; (with_reducible first | refine yC ?_ | refine yD ?_)))
  simp (maxSteps := 1000000) (disch := refine hold_ ?_; first | (simp [rotr, -List.getD_eq_getElem?_getD]; done) | omega) [rotr, -List.getD_eq_getElem?_getD]
theorem rot_ct (x : BitVec 32) (n : Int) (h : -31 ≤ n) (h2 : n ≤ -1) : Fn Try.prog 34 [.int .u32 (uw x), .int .i64 n] [.p (.int .u32 (uw (rotr x (-n).toNat)))] := by
  have e0 : intBin .and .u64 (IntKind.u64.wrap n) 31 = some (.int .u64 (32 + n)) := by
    have hw : IntKind.u64.wrap n = n % 18446744073709551616 := rfl
    have : ∀ k, k < 31 → (BitVec.ofInt 64 ((-(1+k : Nat) : Int) % 18446744073709551616) &&& BitVec.ofInt 64 31).toNat = 31 - k := by decide
    have := this (-1 - n).toNat (by omega)
    have e : (-(1+(-1 - n).toNat : Nat) : Int) = n := by omega
    rw [e] at this
    show some (PV.int .u64 (IntKind.u64.wrap ((BitVec.ofInt 64 (IntKind.u64.wrap n) &&& BitVec.ofInt 64 31).toNat : Int))) = _
    rw [hw, this, wrap_u64 _ (by omega) (by omega)]
    congr 2; omega
  have e1 : IntKind.u64.wrap (32 - (32 + n)) = - n := (wrap_u64 _ (by omega) (by omega)).trans (by omega)
  have e2 : (32 + n).toNat = 32 - (-n).toNat := by omega
  refine Fn.of_body Try.func34 rfl ?_
  repeat (first | ((first | (with_reducible first | refine zP fun K_ hK_ => ?_ | refine zQ fun K_ hK_ => ?_ | refine zT ?_ | refine zU ?_ | refine zV ?_ | refine zW ?_ | refine zX ?_ | refine zY ?_) | ((with_reducible first | refine zR ?_ ?_ fun K_ hK_ => ?_ | refine zS ?_ ?_ fun K_ hK_ => ?_); (focus kernel_rfl); (focus kernel_rfl))); first | (simp (maxSteps := 1000000) (disch := refine hold_ ?_; first | (simp [e0, e1, e2, -List.getD_eq_getElem?_getD]; done) | omega) [e0, e1, e2, -List.getD_eq_getElem?_getD]; try first | (with_reducible refine zZ ?_) | subst hK_) | subst hK_) | (with_reducible first | refine zA ?_ | refine zB ?_ | refine zC ?_ | refine zD ?_ | refine zE ?_ | refine zF ?_ | refine zG ?_ | refine zH ?_ | refine zI ?_ | refine zJ ?_ | refine zK ?_ | refine zL ?_ | refine zM ?_ | refine zN ?_ | refine zO ?_) | ((with_reducible refine yG ?_ ?_); (focus decide)) | ((with_reducible refine yA ?_); refine yB rfl ?_; (with_reducible first | refine yC ?_ | refine yD ?_)))
  simp (maxSteps := 1000000) (disch := refine hold_ ?_; first | (simp [rotr, BitVec.or_comm, -List.getD_eq_getElem?_getD]; done) | omega) [rotr, BitVec.or_comm, -List.getD_eq_getElem?_getD]

def zero64 : List (BitVec 32) := List.replicate 64 0
@[simp] theorem aalloc53 (H : List (Nat × (Nat × HB))) (d : Nat) : aalloc Try.prog H d 53 = some (.ptr d (nextVer H d) 0, upd H d (nextVer H d, .row (wl zero64))) := nr (by kernel_rfl)
theorem fold_len {α β : Type} {f : List α → β → List α} (hf : ∀ w x, (f w x).length = w.length) : ∀ (l : List β) (w : List α), (l.foldl f w).length = w.length
  | [], _ => rfl
  | x :: l, w => (fold_len hf l (f w x)).trans (hf w x)
def beStep (b : List (BitVec 8)) (t : Nat) (w : List (BitVec 32)) (k : Nat) : List (BitVec 32) :=
  w.set t (w.getD t 0 <<< 8 ||| (b.getD (4 * t + k) 0).setWidth 32)
def be4 (b : List (BitVec 8)) (w : List (BitVec 32)) (t : Nat) : List (BitVec 32) := (List.range 4).foldl (beStep b t) w
theorem beStep_len (b : List (BitVec 8)) (t : Nat) (w : List (BitVec 32)) (k : Nat) : (beStep b t w k).length = w.length := by simp [beStep]
theorem be4_len (b : List (BitVec 8)) (w : List (BitVec 32)) (t : Nat) : (be4 b w t).length = w.length := fold_len (beStep_len b t) _ _
def nextW (w : List (BitVec 32)) (t : Nat) : List (BitVec 32) :=
  let x := w.getD (t - 15) 0; let y := w.getD (t - 2) 0
  w.set t ((rotr y 17 ^^^ rotr y 19 ^^^ y >>> 10) + w.getD (t - 7) 0 + (rotr x 7 ^^^ rotr x 18 ^^^ x >>> 3) + w.getD (t - 16) 0)
theorem nextW_len (w : List (BitVec 32)) (t : Nat) : (nextW w t).length = w.length := by simp [nextW]
def spreadL (b : List (BitVec 8)) (n : Nat) : List (BitVec 32) := (List.range n).foldl (fun w i => nextW w (16 + i)) ((List.range 16).foldl (be4 b) zero64)
theorem w16_len (b : List (BitVec 8)) (n : Nat) : ((List.range n).foldl (be4 b) zero64).length = 64 := fold_len (be4_len b) _ _
theorem spreadL_len (b : List (BitVec 8)) (n : Nat) : (spreadL b n).length = 64 := (fold_len (fun w i => nextW_len w _) _ _).trans (w16_len b 16)
theorem spreadL_succ (b : List (BitVec 8)) (n : Nat) : spreadL b (n + 1) = nextW (spreadL b n) (16 + n) := by simp [spreadL, List.range_succ]
set_option maxHeartbeats 10000000 in
theorem spread_ct (nl : Bool) (b : List (BitVec 8)) (hb : 64 ≤ b.length) : Fn Try.prog 32 [.sl (bl b) nl] [.p (.agg (wl (spreadL b 48)))] := by
  refine Fn.of_body Try.func32 rfl ?_
  repeat (first | ((first | (with_reducible first | refine zP fun K_ hK_ => ?_ | refine zQ fun K_ hK_ => ?_ | refine zT ?_ | refine zU ?_ | refine zV ?_ | refine zW ?_ | refine zX ?_ | refine zY ?_) | ((with_reducible first | refine zR ?_ ?_ fun K_ hK_ => ?_ | refine zS ?_ ?_ fun K_ hK_ => ?_); (focus kernel_rfl); (focus kernel_rfl))); first | (simp (maxSteps := 1000000) (disch := refine hold_ ?_; first | (simp [aalloc53, nextVer, -List.getD_eq_getElem?_getD]; done) | omega) [aalloc53, nextVer, -List.getD_eq_getElem?_getD]; try first | (with_reducible refine zZ ?_) | subst hK_) | subst hK_) | (with_reducible first | refine zA ?_ | refine zB ?_ | refine zC ?_ | refine zD ?_ | refine zE ?_ | refine zF ?_ | refine zG ?_ | refine zH ?_ | refine zI ?_ | refine zJ ?_ | refine zK ?_ | refine zL ?_ | refine zM ?_ | refine zN ?_ | refine zO ?_) | ((with_reducible refine yG ?_ ?_); (focus decide)) | ((with_reducible refine yA ?_); refine yB rfl ?_; (with_reducible first | refine yC ?_ | refine yD ?_)))
  refine AW.iter (true :: false :: true :: true :: false :: false :: false :: false :: false :: false :: false :: true :: false :: false :: false :: false :: false :: false :: false :: false :: false :: false :: false :: false :: false :: false :: false :: false :: false :: false :: false :: false :: false :: false :: false :: false :: false :: false :: false :: false :: false :: false :: false :: false :: false :: false :: false :: false :: false :: false :: false :: false :: false :: false :: false :: false :: false :: false :: false :: false :: false :: false :: false :: false :: false :: false :: false :: false :: false :: false :: false :: false :: false :: false :: false :: false :: false :: false :: []) 16 (fun k => ⟨(.p (.sl (bl b) nl) :: V.junk :: .ptr 2 0 0 :: .ptr 3 0 0 :: V.junk :: V.junk :: V.junk :: V.junk :: V.junk :: V.junk :: V.junk :: .p (.int .i64 k) :: V.junk :: V.junk :: V.junk :: V.junk :: V.junk :: V.junk :: V.junk :: V.junk :: V.junk :: V.junk :: V.junk :: V.junk :: V.junk :: V.junk :: V.junk :: V.junk :: V.junk :: V.junk :: V.junk :: V.junk :: V.junk :: V.junk :: V.junk :: V.junk :: V.junk :: V.junk :: V.junk :: V.junk :: V.junk :: V.junk :: V.junk :: V.junk :: V.junk :: V.junk :: V.junk :: V.junk :: V.junk :: V.junk :: V.junk :: V.junk :: V.junk :: V.junk :: V.junk :: V.junk :: V.junk :: V.junk :: V.junk :: V.junk :: V.junk :: V.junk :: V.junk :: V.junk :: V.junk :: V.junk :: V.junk :: V.junk :: V.junk :: V.junk :: V.junk :: V.junk :: V.junk :: V.junk :: V.junk :: V.junk :: V.junk :: V.junk :: []), ⟨[(2, 0, .row (wl zero64)), (3, 0, .row (wl ((List.range k).foldl (be4 b) zero64)))], []⟩⟩) ?_ ?_
  · simp (maxSteps := 1000000) (disch := refine hold_ ?_; first | (simp [-List.getD_eq_getElem?_getD]; done) | omega) [-List.getD_eq_getElem?_getD]
  intro k hk
  have e0 : IntKind.i64.wrap ((k : Int) + 1) = k + 1 := wrap_i64 _ (by omega) (by omega)
  repeat (first | ((first | (with_reducible first | refine zP fun K_ hK_ => ?_ | refine zQ fun K_ hK_ => ?_ | refine zT ?_ | refine zU ?_ | refine zV ?_ | refine zW ?_ | refine zX ?_ | refine zY ?_) | ((with_reducible first | refine zR ?_ ?_ fun K_ hK_ => ?_ | refine zS ?_ ?_ fun K_ hK_ => ?_); (focus kernel_rfl); (focus kernel_rfl))); first | (simp (maxSteps := 1000000) (disch := refine hold_ ?_; first | (simp [-List.getD_eq_getElem?_getD]; done) | omega) [-List.getD_eq_getElem?_getD]; try first | (with_reducible refine zZ ?_) | subst hK_) | subst hK_) | (with_reducible first | refine zA ?_ | refine zB ?_ | refine zC ?_ | refine zD ?_ | refine zE ?_ | refine zF ?_ | refine zG ?_ | refine zH ?_ | refine zI ?_ | refine zJ ?_ | refine zK ?_ | refine zL ?_ | refine zM ?_ | refine zN ?_ | refine zO ?_) | ((with_reducible refine yG ?_ ?_); (focus decide)) | ((with_reducible refine yA ?_); refine yB rfl ?_; (with_reducible first | refine yC ?_ | refine yD ?_)))
  first | refine AW.condD rfl (fun hc => ?_) (fun hc => ?_) | refine AW.cond rfl (fun hc => ?_) (fun hc => ?_)
  · have hk2 := hc
    repeat (first | ((first | (with_reducible first | refine zP fun K_ hK_ => ?_ | refine zQ fun K_ hK_ => ?_ | refine zT ?_ | refine zU ?_ | refine zV ?_ | refine zW ?_ | refine zX ?_ | refine zY ?_) | ((with_reducible first | refine zR ?_ ?_ fun K_ hK_ => ?_ | refine zS ?_ ?_ fun K_ hK_ => ?_); (focus kernel_rfl); (focus kernel_rfl))); first | (simp (maxSteps := 1000000) (disch := refine hold_ ?_; first | (simp [-List.getD_eq_getElem?_getD]; done) | omega) [-List.getD_eq_getElem?_getD]; try first | (with_reducible refine zZ ?_) | subst hK_) | subst hK_) | (with_reducible first | refine zA ?_ | refine zB ?_ | refine zC ?_ | refine zD ?_ | refine zE ?_ | refine zF ?_ | refine zG ?_ | refine zH ?_ | refine zI ?_ | refine zJ ?_ | refine zK ?_ | refine zL ?_ | refine zM ?_ | refine zN ?_ | refine zO ?_) | ((with_reducible refine yG ?_ ?_); (focus decide)) | ((with_reducible refine yA ?_); refine yB rfl ?_; (with_reducible first | refine yC ?_ | refine yD ?_)))
    refine AW.iter (true :: false :: true :: true :: true :: false :: false :: false :: false :: false :: false :: true :: false :: false :: true :: false :: false :: false :: false :: false :: false :: false :: false :: false :: false :: false :: false :: false :: false :: false :: false :: false :: false :: false :: false :: false :: false :: false :: false :: false :: false :: false :: false :: false :: false :: false :: false :: false :: false :: false :: false :: false :: false :: false :: false :: false :: false :: false :: false :: false :: false :: false :: false :: false :: false :: false :: false :: false :: false :: false :: false :: false :: false :: false :: false :: false :: false :: false :: []) 4 (fun j => ⟨(.p (.sl (bl b) nl) :: V.junk :: .ptr 2 0 0 :: .ptr 3 0 0 :: .p (.int .i64 k) :: V.junk :: V.junk :: V.junk :: V.junk :: V.junk :: V.junk :: .p (.int .i64 k) :: V.junk :: V.junk :: .p (.int .i64 j) :: V.junk :: V.junk :: V.junk :: V.junk :: V.junk :: V.junk :: V.junk :: V.junk :: V.junk :: V.junk :: V.junk :: V.junk :: V.junk :: V.junk :: V.junk :: V.junk :: V.junk :: V.junk :: V.junk :: V.junk :: V.junk :: V.junk :: V.junk :: V.junk :: V.junk :: V.junk :: V.junk :: V.junk :: V.junk :: V.junk :: V.junk :: V.junk :: V.junk :: V.junk :: V.junk :: V.junk :: V.junk :: V.junk :: V.junk :: V.junk :: V.junk :: V.junk :: V.junk :: V.junk :: V.junk :: V.junk :: V.junk :: V.junk :: V.junk :: V.junk :: V.junk :: V.junk :: V.junk :: V.junk :: V.junk :: V.junk :: V.junk :: V.junk :: V.junk :: V.junk :: V.junk :: V.junk :: V.junk :: []), ⟨[(2, 0, .row (wl zero64)), (3, 0, .row (wl ((List.range j).foldl (beStep b k) ((List.range k).foldl (be4 b) zero64))))], []⟩⟩) ?_ ?_
    · simp (maxSteps := 1000000) (disch := refine hold_ ?_; first | (simp [-List.getD_eq_getElem?_getD]; done) | omega) [-List.getD_eq_getElem?_getD]
    intro j hj
    have e1 : IntKind.i64.wrap (4 * (k : Int)) = 4 * k := wrap_i64 _ (by omega) (by omega)
    have e2 : IntKind.i64.wrap (4 * (k : Int) + j) = 4 * k + j := wrap_i64 _ (by omega) (by omega)
    have e3 : IntKind.i64.wrap ((j : Int) + 1) = j + 1 := wrap_i64 _ (by omega) (by omega)
    have e4 : (4 * (k : Int) + j).toNat = 4 * k + j := by omega
    have e5 : ((List.range j).foldl (beStep b k) ((List.range k).foldl (be4 b) zero64)).length = 64 := (fold_len (beStep_len b k) _ _).trans (w16_len b k)
    repeat (first | ((first | (with_reducible first | refine zP fun K_ hK_ => ?_ | refine zQ fun K_ hK_ => ?_ | refine zT ?_ | refine zU ?_ | refine zV ?_ | refine zW ?_ | refine zX ?_ | refine zY ?_) | ((with_reducible first | refine zR ?_ ?_ fun K_ hK_ => ?_ | refine zS ?_ ?_ fun K_ hK_ => ?_); (focus kernel_rfl); (focus kernel_rfl))); first | (simp (maxSteps := 1000000) (disch := refine hold_ ?_; first | (simp [e1, e2, e3, e4, e5, -List.getD_eq_getElem?_getD]; done) | omega) [e1, e2, e3, e4, e5, -List.getD_eq_getElem?_getD]; try first | (with_reducible refine zZ ?_) | subst hK_) | subst hK_) | (with_reducible first | refine zA ?_ | refine zB ?_ | refine zC ?_ | refine zD ?_ | refine zE ?_ | refine zF ?_ | refine zG ?_ | refine zH ?_ | refine zI ?_ | refine zJ ?_ | refine zK ?_ | refine zL ?_ | refine zM ?_ | refine zN ?_ | refine zO ?_) | ((with_reducible refine yG ?_ ?_); (focus decide)) | ((with_reducible refine yA ?_); refine yB rfl ?_; (with_reducible first | refine yC ?_ | refine yD ?_)))
    first | refine AW.condD rfl (fun hc => ?_) (fun hc => ?_) | refine AW.cond rfl (fun hc => ?_) (fun hc => ?_)
    · have hj2 := hc
      have e6 : (4 * (k : Int) + j) < b.length := by omega
      have e7 : 0 ≤ (4 * (k : Int) + j) := by omega
      have e8 : k < 64 := by omega
      repeat (first | ((first | (with_reducible first | refine zP fun K_ hK_ => ?_ | refine zQ fun K_ hK_ => ?_ | refine zT ?_ | refine zU ?_ | refine zV ?_ | refine zW ?_ | refine zX ?_ | refine zY ?_) | ((with_reducible first | refine zR ?_ ?_ fun K_ hK_ => ?_ | refine zS ?_ ?_ fun K_ hK_ => ?_); (focus kernel_rfl); (focus kernel_rfl))); first | (simp (maxSteps := 1000000) (disch := refine hold_ ?_; first | (simp [e1, e2, e3, e4, e5, e6, e7, e8, -List.getD_eq_getElem?_getD]; done) | omega) [e1, e2, e3, e4, e5, e6, e7, e8, -List.getD_eq_getElem?_getD]; try first | (with_reducible refine zZ ?_) | subst hK_) | subst hK_) | (with_reducible first | refine zA ?_ | refine zB ?_ | refine zC ?_ | refine zD ?_ | refine zE ?_ | refine zF ?_ | refine zG ?_ | refine zH ?_ | refine zI ?_ | refine zJ ?_ | refine zK ?_ | refine zL ?_ | refine zM ?_ | refine zN ?_ | refine zO ?_) | ((with_reducible refine yG ?_ ?_); (focus decide)) | ((with_reducible refine yA ?_); refine yB rfl ?_; (with_reducible first | refine yC ?_ | refine yD ?_)))
      refine ⟨by omega, ?_⟩
      simp (maxSteps := 1000000) (disch := refine hold_ ?_; first | (simp [List.range_succ, beStep, -List.getD_eq_getElem?_getD]; done) | omega) [List.range_succ, beStep, -List.getD_eq_getElem?_getD]
    · have hj4 : j = 4 := by omega
      subst hj4
      repeat (first | ((first | (with_reducible first | refine zP fun K_ hK_ => ?_ | refine zQ fun K_ hK_ => ?_ | refine zT ?_ | refine zU ?_ | refine zV ?_ | refine zW ?_ | refine zX ?_ | refine zY ?_) | ((with_reducible first | refine zR ?_ ?_ fun K_ hK_ => ?_ | refine zS ?_ ?_ fun K_ hK_ => ?_); (focus kernel_rfl); (focus kernel_rfl))); first | (simp (maxSteps := 1000000) (disch := refine hold_ ?_; first | (simp [e0, -List.getD_eq_getElem?_getD]; done) | omega) [e0, -List.getD_eq_getElem?_getD]; try first | (with_reducible refine zZ ?_) | subst hK_) | subst hK_) | (with_reducible first | refine zA ?_ | refine zB ?_ | refine zC ?_ | refine zD ?_ | refine zE ?_ | refine zF ?_ | refine zG ?_ | refine zH ?_ | refine zI ?_ | refine zJ ?_ | refine zK ?_ | refine zL ?_ | refine zM ?_ | refine zN ?_ | refine zO ?_) | ((with_reducible refine yG ?_ ?_); (focus decide)) | ((with_reducible refine yA ?_); refine yB rfl ?_; (with_reducible first | refine yC ?_ | refine yD ?_)))
      refine ⟨by omega, ?_⟩
      simp (maxSteps := 1000000) (disch := refine hold_ ?_; first | (simp [List.range_succ (n := k), be4, -List.getD_eq_getElem?_getD]; done) | omega) [List.range_succ (n := k), be4, -List.getD_eq_getElem?_getD]
  · have hk4 : k = 16 := by omega
    subst hk4
    repeat (first | ((first | (with_reducible first | refine zP fun K_ hK_ => ?_ | refine zQ fun K_ hK_ => ?_ | refine zT ?_ | refine zU ?_ | refine zV ?_ | refine zW ?_ | refine zX ?_ | refine zY ?_) | ((with_reducible first | refine zR ?_ ?_ fun K_ hK_ => ?_ | refine zS ?_ ?_ fun K_ hK_ => ?_); (focus kernel_rfl); (focus kernel_rfl))); first | (simp (maxSteps := 1000000) (disch := refine hold_ ?_; first | (simp [-List.getD_eq_getElem?_getD]; done) | omega) [-List.getD_eq_getElem?_getD]; try first | (with_reducible refine zZ ?_) | subst hK_) | subst hK_) | (with_reducible first | refine zA ?_ | refine zB ?_ | refine zC ?_ | refine zD ?_ | refine zE ?_ | refine zF ?_ | refine zG ?_ | refine zH ?_ | refine zI ?_ | refine zJ ?_ | refine zK ?_ | refine zL ?_ | refine zM ?_ | refine zN ?_ | refine zO ?_) | ((with_reducible refine yG ?_ ?_); (focus decide)) | ((with_reducible refine yA ?_); refine yB rfl ?_; (with_reducible first | refine yC ?_ | refine yD ?_)))
    refine AW.iter (true :: false :: true :: true :: false :: false :: true :: false :: false :: false :: false :: false :: false :: false :: false :: false :: false :: false :: false :: false :: false :: false :: false :: false :: false :: false :: false :: false :: false :: false :: false :: false :: false :: false :: false :: false :: false :: false :: false :: false :: false :: false :: false :: false :: false :: false :: false :: false :: false :: false :: false :: false :: false :: false :: false :: false :: false :: false :: false :: false :: false :: false :: false :: false :: false :: false :: false :: false :: false :: false :: false :: false :: false :: false :: false :: false :: false :: false :: []) 48 (fun k => ⟨(.p (.sl (bl b) nl) :: V.junk :: .ptr 2 0 0 :: .ptr 3 0 0 :: V.junk :: V.junk :: .p (.int .i64 (16 + (k : Int))) :: V.junk :: V.junk :: V.junk :: V.junk :: V.junk :: V.junk :: V.junk :: V.junk :: V.junk :: V.junk :: V.junk :: V.junk :: V.junk :: V.junk :: V.junk :: V.junk :: V.junk :: V.junk :: V.junk :: V.junk :: V.junk :: V.junk :: V.junk :: V.junk :: V.junk :: V.junk :: V.junk :: V.junk :: V.junk :: V.junk :: V.junk :: V.junk :: V.junk :: V.junk :: V.junk :: V.junk :: V.junk :: V.junk :: V.junk :: V.junk :: V.junk :: V.junk :: V.junk :: V.junk :: V.junk :: V.junk :: V.junk :: V.junk :: V.junk :: V.junk :: V.junk :: V.junk :: V.junk :: V.junk :: V.junk :: V.junk :: V.junk :: V.junk :: V.junk :: V.junk :: V.junk :: V.junk :: V.junk :: V.junk :: V.junk :: V.junk :: V.junk :: V.junk :: V.junk :: V.junk :: V.junk :: []), ⟨[(2, 0, .row (wl zero64)), (3, 0, .row (wl (spreadL b k)))], []⟩⟩) ?_ ?_
    · simp (maxSteps := 1000000) (disch := refine hold_ ?_; first | (simp [spreadL, -List.getD_eq_getElem?_getD]; done) | omega) [spreadL, -List.getD_eq_getElem?_getD]
    intro k hk
    have e0 : IntKind.i64.wrap (16 + (k : Int) + 1) = 16 + (k + 1) := (wrap_i64 _ (by omega) (by omega)).trans (by omega)
    repeat (first | ((first | (with_reducible first | refine zP fun K_ hK_ => ?_ | refine zQ fun K_ hK_ => ?_ | refine zT ?_ | refine zU ?_ | refine zV ?_ | refine zW ?_ | refine zX ?_ | refine zY ?_) | ((with_reducible first | refine zR ?_ ?_ fun K_ hK_ => ?_ | refine zS ?_ ?_ fun K_ hK_ => ?_); (focus kernel_rfl); (focus kernel_rfl))); first | (simp (maxSteps := 1000000) (disch := refine hold_ ?_; first | (simp [e0, -List.getD_eq_getElem?_getD]; done) | omega) [e0, -List.getD_eq_getElem?_getD]; try first | (with_reducible refine zZ ?_) | subst hK_) | subst hK_) | (with_reducible first | refine zA ?_ | refine zB ?_ | refine zC ?_ | refine zD ?_ | refine zE ?_ | refine zF ?_ | refine zG ?_ | refine zH ?_ | refine zI ?_ | refine zJ ?_ | refine zK ?_ | refine zL ?_ | refine zM ?_ | refine zN ?_ | refine zO ?_) | ((with_reducible refine yG ?_ ?_); (focus decide)) | ((with_reducible refine yA ?_); refine yB rfl ?_; (with_reducible first | refine yC ?_ | refine yD ?_)))
    first | refine AW.condD rfl (fun hc => ?_) (fun hc => ?_) | refine AW.cond rfl (fun hc => ?_) (fun hc => ?_)
    · have hc2 := hc
      have e1 : IntKind.i64.wrap (16 + (k : Int) - 15) = k + 1 := (wrap_i64 _ (by omega) (by omega)).trans (by omega)
      have e2 : IntKind.i64.wrap (16 + (k : Int) - 2) = k + 14 := (wrap_i64 _ (by omega) (by omega)).trans (by omega)
      have e7 : IntKind.i64.wrap (16 + (k : Int) - 7) = k + 9 := (wrap_i64 _ (by omega) (by omega)).trans (by omega)
      have e16 : IntKind.i64.wrap (16 + (k : Int) - 16) = k := (wrap_i64 _ (by omega) (by omega)).trans (by omega)
      have f1 : ((k : Int) + 1).toNat = k + 1 := by omega
      have f2 : ((k : Int) + 14).toNat = k + 14 := by omega
      have f7 : ((k : Int) + 9).toNat = k + 9 := by omega
      have f16 : (16 + (k : Int)).toNat = 16 + k := by omega
      have e5 := spreadL_len b k
      repeat (first | ((first | (with_reducible first | refine zP fun K_ hK_ => ?_ | refine zQ fun K_ hK_ => ?_ | refine zT ?_ | refine zU ?_ | refine zV ?_ | refine zW ?_ | refine zX ?_ | refine zY ?_) | ((with_reducible first | refine zR ?_ ?_ fun K_ hK_ => ?_ | refine zS ?_ ?_ fun K_ hK_ => ?_); (focus kernel_rfl); (focus kernel_rfl))); first | (simp (maxSteps := 1000000) (disch := refine hold_ ?_; first | (simp [e1, e2, e5, f1, f2, -List.getD_eq_getElem?_getD]; done) | omega) [e1, e2, e5, f1, f2, -List.getD_eq_getElem?_getD]; try first | (with_reducible refine zZ ?_) | subst hK_) | subst hK_) | (with_reducible first | refine zA ?_ | refine zB ?_ | refine zC ?_ | refine zD ?_ | refine zE ?_ | refine zF ?_ | refine zG ?_ | refine zH ?_ | refine zI ?_ | refine zJ ?_ | refine zK ?_ | refine zL ?_ | refine zM ?_ | refine zN ?_ | refine zO ?_) | ((with_reducible refine yG ?_ ?_); (focus decide)) | ((with_reducible refine yA ?_); refine yB rfl ?_; (with_reducible first | refine yC ?_ | refine yD ?_)))
      (refine callK_p ?_; simp (maxSteps := 1000000) (disch := refine hold_ ?_; first | (simp [-List.getD_eq_getElem?_getD]; done) | omega) [-List.getD_eq_getElem?_getD]; refine callK1_of (Fn.ct (rot_ct _ _ (by decide) (by decide)) Try.call34) ?_; (try simp (maxSteps := 1000000) (disch := refine hold_ ?_; first | (simp [-List.getD_eq_getElem?_getD]; done) | omega) [-List.getD_eq_getElem?_getD]); first | refine zZ ?_ | subst hK_)
      (refine callK_p ?_; simp (maxSteps := 1000000) (disch := refine hold_ ?_; first | (simp [-List.getD_eq_getElem?_getD]; done) | omega) [-List.getD_eq_getElem?_getD]; refine callK1_of (Fn.ct (rot_ct _ _ (by decide) (by decide)) Try.call34) ?_; (try simp (maxSteps := 1000000) (disch := refine hold_ ?_; first | (simp [-List.getD_eq_getElem?_getD]; done) | omega) [-List.getD_eq_getElem?_getD]); first | refine zZ ?_ | subst hK_)
      repeat (first | ((first | (with_reducible first | refine zP fun K_ hK_ => ?_ | refine zQ fun K_ hK_ => ?_ | refine zT ?_ | refine zU ?_ | refine zV ?_ | refine zW ?_ | refine zX ?_ | refine zY ?_) | ((with_reducible first | refine zR ?_ ?_ fun K_ hK_ => ?_ | refine zS ?_ ?_ fun K_ hK_ => ?_); (focus kernel_rfl); (focus kernel_rfl))); first | (simp (maxSteps := 1000000) (disch := refine hold_ ?_; first | (simp [-List.getD_eq_getElem?_getD]; done) | omega) [-List.getD_eq_getElem?_getD]; try first | (with_reducible refine zZ ?_) | subst hK_) | subst hK_) | (with_reducible first | refine zA ?_ | refine zB ?_ | refine zC ?_ | refine zD ?_ | refine zE ?_ | refine zF ?_ | refine zG ?_ | refine zH ?_ | refine zI ?_ | refine zJ ?_ | refine zK ?_ | refine zL ?_ | refine zM ?_ | refine zN ?_ | refine zO ?_) | ((with_reducible refine yG ?_ ?_); (focus decide)) | ((with_reducible refine yA ?_); refine yB rfl ?_; (with_reducible first | refine yC ?_ | refine yD ?_)))
      (refine callK_p ?_; simp (maxSteps := 1000000) (disch := refine hold_ ?_; first | (simp [-List.getD_eq_getElem?_getD]; done) | omega) [-List.getD_eq_getElem?_getD]; refine callK1_of (Fn.ct (rot_ct _ _ (by decide) (by decide)) Try.call34) ?_; (try simp (maxSteps := 1000000) (disch := refine hold_ ?_; first | (simp [-List.getD_eq_getElem?_getD]; done) | omega) [-List.getD_eq_getElem?_getD]); first | refine zZ ?_ | subst hK_)
      (refine callK_p ?_; simp (maxSteps := 1000000) (disch := refine hold_ ?_; first | (simp [-List.getD_eq_getElem?_getD]; done) | omega) [-List.getD_eq_getElem?_getD]; refine callK1_of (Fn.ct (rot_ct _ _ (by decide) (by decide)) Try.call34) ?_; (try simp (maxSteps := 1000000) (disch := refine hold_ ?_; first | (simp [-List.getD_eq_getElem?_getD]; done) | omega) [-List.getD_eq_getElem?_getD]); first | refine zZ ?_ | subst hK_)
      repeat (first | ((first | (with_reducible first | refine zP fun K_ hK_ => ?_ | refine zQ fun K_ hK_ => ?_ | refine zT ?_ | refine zU ?_ | refine zV ?_ | refine zW ?_ | refine zX ?_ | refine zY ?_) | ((with_reducible first | refine zR ?_ ?_ fun K_ hK_ => ?_ | refine zS ?_ ?_ fun K_ hK_ => ?_); (focus kernel_rfl); (focus kernel_rfl))); first | (simp (maxSteps := 1000000) (disch := refine hold_ ?_; first | (simp [e0, e7, e16, f7, f16, e5, -List.getD_eq_getElem?_getD]; done) | omega) [e0, e7, e16, f7, f16, e5, -List.getD_eq_getElem?_getD]; try first | (with_reducible refine zZ ?_) | subst hK_) | subst hK_) | (with_reducible first | refine zA ?_ | refine zB ?_ | refine zC ?_ | refine zD ?_ | refine zE ?_ | refine zF ?_ | refine zG ?_ | refine zH ?_ | refine zI ?_ | refine zJ ?_ | refine zK ?_ | refine zL ?_ | refine zM ?_ | refine zN ?_ | refine zO ?_) | ((with_reducible refine yG ?_ ?_); (focus decide)) | ((with_reducible refine yA ?_); refine yB rfl ?_; (with_reducible first | refine yC ?_ | refine yD ?_)))
      refine ⟨by omega, ?_⟩
      have n1 : 16 + k - 15 = k + 1 := by omega
      have n2 : 16 + k - 2 = k + 14 := by omega
      have n7 : 16 + k - 7 = k + 9 := by omega
      have n16 : 16 + k - 16 = k := by omega
      simp (maxSteps := 1000000) (disch := refine hold_ ?_; first | (simp [spreadL_succ, nextW, n1, n2, n7, n16, -List.getD_eq_getElem?_getD]; done) | omega) [spreadL_succ, nextW, n1, n2, n7, n16, -List.getD_eq_getElem?_getD]
    · have hk4 : k = 48 := by omega
      subst hk4
      have e5 := spreadL_len b 48
      have e6 : zero64.length = 64 := List.length_replicate
      generalize spreadL b 48 = W at e5 ⊢
      generalize zero64 = Z at e6 ⊢
      repeat (first | ((first | (with_reducible first | refine zP fun K_ hK_ => ?_ | refine zQ fun K_ hK_ => ?_ | refine zT ?_ | refine zU ?_ | refine zV ?_ | refine zW ?_ | refine zX ?_ | refine zY ?_) | ((with_reducible first | refine zR ?_ ?_ fun K_ hK_ => ?_ | refine zS ?_ ?_ fun K_ hK_ => ?_); (focus kernel_rfl); (focus kernel_rfl))); first | (simp (maxSteps := 1000000) (disch := refine hold_ ?_; first | (simp [e5, e6, -List.getD_eq_getElem?_getD]; done) | omega) [e5, e6, -List.getD_eq_getElem?_getD]; try first | (with_reducible refine zZ ?_) | subst hK_) | subst hK_) | (with_reducible first | refine zA ?_ | refine zB ?_ | refine zC ?_ | refine zD ?_ | refine zE ?_ | refine zF ?_ | refine zG ?_ | refine zH ?_ | refine zI ?_ | refine zJ ?_ | refine zK ?_ | refine zL ?_ | refine zM ?_ | refine zN ?_ | refine zO ?_) | ((with_reducible refine yG ?_ ?_); (focus decide)) | ((with_reducible refine yA ?_); refine yB rfl ?_; (with_reducible first | refine yC ?_ | refine yD ?_)))
      simp (maxSteps := 1000000) (disch := refine hold_ ?_; first | (simp [e5, e6, -List.getD_eq_getElem?_getD]; done) | omega) [e5, e6, -List.getD_eq_getElem?_getD]
end Go.Av.Sha
end

section
set_option linter.unusedSimpArgs false
set_option linter.unusedVariables false
open Go Go.Av Go.Proofs
namespace Go.Av.Sha
/-- What is added, step by step. -/
def kL : List (BitVec 32) := [1116352408, 1899447441, 3049323471, 3921009573, 961987163, 1508970993, 2453635748, 2870763221, 3624381080, 310598401, 607225278, 1426881987, 1925078388, 2162078206, 2614888103, 3248222580, 3835390401, 4022224774, 264347078, 604807628, 770255983, 1249150122, 1555081692, 1996064986, 2554220882, 2821834349, 2952996808, 3210313671, 3336571891, 3584528711, 113926993, 338241895, 666307205, 773529912, 1294757372, 1396182291, 1695183700, 1986661051, 2177026350, 2456956037, 2730485921, 2820302411, 3259730800, 3345764771, 3516065817, 3600352804, 4094571909, 275423344, 430227734, 506948616, 659060556, 883997877, 958139571, 1322822218, 1537002063, 1747873779, 1955562222, 2024104815, 2227730452, 2361852424, 2428436474, 2756734187, 3204031479, 3329325298]
/-- What is summed of nothing. -/
def sL : List (BitVec 32) := [0x6a09e667, 0xbb67ae85, 0x3c6ef372, 0xa54ff53a, 0x510e527f, 0x9b05688c, 0x1f83d9ab, 0x5be0cd19]
theorem kL_build (H : List (Nat × (Nat × HB))) : abuild Try.prog H 53 [(0, .p (.int .u32 1116352408)), (1, .p (.int .u32 1899447441)), (2, .p (.int .u32 3049323471)), (3, .p (.int .u32 3921009573)), (4, .p (.int .u32 961987163)), (5, .p (.int .u32 1508970993)), (6, .p (.int .u32 2453635748)), (7, .p (.int .u32 2870763221)), (8, .p (.int .u32 3624381080)), (9, .p (.int .u32 310598401)), (10, .p (.int .u32 607225278)), (11, .p (.int .u32 1426881987)), (12, .p (.int .u32 1925078388)), (13, .p (.int .u32 2162078206)), (14, .p (.int .u32 2614888103)), (15, .p (.int .u32 3248222580)), (16, .p (.int .u32 3835390401)), (17, .p (.int .u32 4022224774)), (18, .p (.int .u32 264347078)), (19, .p (.int .u32 604807628)), (20, .p (.int .u32 770255983)), (21, .p (.int .u32 1249150122)), (22, .p (.int .u32 1555081692)), (23, .p (.int .u32 1996064986)), (24, .p (.int .u32 2554220882)), (25, .p (.int .u32 2821834349)), (26, .p (.int .u32 2952996808)), (27, .p (.int .u32 3210313671)), (28, .p (.int .u32 3336571891)), (29, .p (.int .u32 3584528711)), (30, .p (.int .u32 113926993)), (31, .p (.int .u32 338241895)), (32, .p (.int .u32 666307205)), (33, .p (.int .u32 773529912)), (34, .p (.int .u32 1294757372)), (35, .p (.int .u32 1396182291)), (36, .p (.int .u32 1695183700)), (37, .p (.int .u32 1986661051)), (38, .p (.int .u32 2177026350)), (39, .p (.int .u32 2456956037)), (40, .p (.int .u32 2730485921)), (41, .p (.int .u32 2820302411)), (42, .p (.int .u32 3259730800)), (43, .p (.int .u32 3345764771)), (44, .p (.int .u32 3516065817)), (45, .p (.int .u32 3600352804)), (46, .p (.int .u32 4094571909)), (47, .p (.int .u32 275423344)), (48, .p (.int .u32 430227734)), (49, .p (.int .u32 506948616)), (50, .p (.int .u32 659060556)), (51, .p (.int .u32 883997877)), (52, .p (.int .u32 958139571)), (53, .p (.int .u32 1322822218)), (54, .p (.int .u32 1537002063)), (55, .p (.int .u32 1747873779)), (56, .p (.int .u32 1955562222)), (57, .p (.int .u32 2024104815)), (58, .p (.int .u32 2227730452)), (59, .p (.int .u32 2361852424)), (60, .p (.int .u32 2428436474)), (61, .p (.int .u32 2756734187)), (62, .p (.int .u32 3204031479)), (63, .p (.int .u32 3329325298))] = some (.p (.agg (wl kL))) := nr (by kernel_rfl)
theorem constants_ct : Fn Try.prog 33 [] [.p (.agg (wl kL))] := by
  refine Fn.of_body Try.func33 rfl ?_
  repeat (first | ((first | (with_reducible first | refine zP fun K_ hK_ => ?_ | refine zQ fun K_ hK_ => ?_ | refine zT ?_ | refine zU ?_ | refine zV ?_ | refine zW ?_ | refine zX ?_ | refine zY ?_) | ((with_reducible first | refine zR ?_ ?_ fun K_ hK_ => ?_ | refine zS ?_ ?_ fun K_ hK_ => ?_); (focus kernel_rfl); (focus kernel_rfl))); first | (simp (maxSteps := 1000000) (disch := refine hold_ ?_; first | (simp [kL_build, show kL.length = 64 from rfl, show zero64.length = 64 from rfl, -List.getD_eq_getElem?_getD]; done) | omega) [kL_build, show kL.length = 64 from rfl, show zero64.length = 64 from rfl, -List.getD_eq_getElem?_getD]; try first | (with_reducible refine zZ ?_) | subst hK_) | subst hK_) | (with_reducible first | refine zA ?_ | refine zB ?_ | refine zC ?_ | refine zD ?_ | refine zE ?_ | refine zF ?_ | refine zG ?_ | refine zH ?_ | refine zI ?_ | refine zJ ?_ | refine zK ?_ | refine zL ?_ | refine zM ?_ | refine zN ?_ | refine zO ?_) | ((with_reducible refine yG ?_ ?_); (focus decide)) | ((with_reducible refine yA ?_); refine yB rfl ?_; (with_reducible first | refine yC ?_ | refine yD ?_)))
  simp (maxSteps := 1000000) (disch := refine hold_ ?_; first | (simp [show kL.length = 64 from rfl, wl, -List.getD_eq_getElem?_getD]; done) | omega) [show kL.length = 64 from rfl, wl, -List.getD_eq_getElem?_getD]
theorem added_ct : Fn Try.prog 30 [] [.p (.agg (wl kL))] := by
  refine Fn.of_body Try.func30 rfl ?_
  repeat (first | ((first | (with_reducible first | refine zP fun K_ hK_ => ?_ | refine zQ fun K_ hK_ => ?_ | refine zT ?_ | refine zU ?_ | refine zV ?_ | refine zW ?_ | refine zX ?_ | refine zY ?_) | ((with_reducible first | refine zR ?_ ?_ fun K_ hK_ => ?_ | refine zS ?_ ?_ fun K_ hK_ => ?_); (focus kernel_rfl); (focus kernel_rfl))); first | (simp (maxSteps := 1000000) (disch := refine hold_ ?_; first | (simp [kL_build, show kL.length = 64 from rfl, show zero64.length = 64 from rfl, -List.getD_eq_getElem?_getD]; done) | omega) [kL_build, show kL.length = 64 from rfl, show zero64.length = 64 from rfl, -List.getD_eq_getElem?_getD]; try first | (with_reducible refine zZ ?_) | subst hK_) | subst hK_) | (with_reducible first | refine zA ?_ | refine zB ?_ | refine zC ?_ | refine zD ?_ | refine zE ?_ | refine zF ?_ | refine zG ?_ | refine zH ?_ | refine zI ?_ | refine zJ ?_ | refine zK ?_ | refine zL ?_ | refine zM ?_ | refine zN ?_ | refine zO ?_) | ((with_reducible refine yG ?_ ?_); (focus decide)) | ((with_reducible refine yA ?_); refine yB rfl ?_; (with_reducible first | refine yC ?_ | refine yD ?_)))
  simp (maxSteps := 1000000) (disch := refine hold_ ?_; first | (simp [show kL.length = 64 from rfl, wl, -List.getD_eq_getElem?_getD]; done) | omega) [show kL.length = 64 from rfl, wl, -List.getD_eq_getElem?_getD]
theorem start_ct : Fn Try.prog 22 [] [.p (.agg (wl sL))] := by
  refine Fn.of_body Try.func22 rfl ?_
  repeat (first | ((first | (with_reducible first | refine zP fun K_ hK_ => ?_ | refine zQ fun K_ hK_ => ?_ | refine zT ?_ | refine zU ?_ | refine zV ?_ | refine zW ?_ | refine zX ?_ | refine zY ?_) | ((with_reducible first | refine zR ?_ ?_ fun K_ hK_ => ?_ | refine zS ?_ ?_ fun K_ hK_ => ?_); (focus kernel_rfl); (focus kernel_rfl))); first | (simp (maxSteps := 1000000) (disch := refine hold_ ?_; first | (simp [-List.getD_eq_getElem?_getD]; done) | omega) [-List.getD_eq_getElem?_getD]; try first | (with_reducible refine zZ ?_) | subst hK_) | subst hK_) | (with_reducible first | refine zA ?_ | refine zB ?_ | refine zC ?_ | refine zD ?_ | refine zE ?_ | refine zF ?_ | refine zG ?_ | refine zH ?_ | refine zI ?_ | refine zJ ?_ | refine zK ?_ | refine zL ?_ | refine zM ?_ | refine zN ?_ | refine zO ?_) | ((with_reducible refine yG ?_ ?_); (focus decide)) | ((with_reducible refine yA ?_); refine yB rfl ?_; (with_reducible first | refine yC ?_ | refine yD ?_)))
  simp (maxSteps := 1000000) (disch := refine hold_ ?_; first | (simp [wl, sL, uw, -List.getD_eq_getElem?_getD]; done) | omega) [wl, sL, uw, -List.getD_eq_getElem?_getD]
theorem first_ct : Fn Try.prog 20 [] [.p (.agg (wl sL))] := by
  refine Fn.of_body Try.func20 rfl ?_
  repeat (first | ((first | (with_reducible first | refine zP fun K_ hK_ => ?_ | refine zQ fun K_ hK_ => ?_ | refine zT ?_ | refine zU ?_ | refine zV ?_ | refine zW ?_ | refine zX ?_ | refine zY ?_) | ((with_reducible first | refine zR ?_ ?_ fun K_ hK_ => ?_ | refine zS ?_ ?_ fun K_ hK_ => ?_); (focus kernel_rfl); (focus kernel_rfl))); first | (simp (maxSteps := 1000000) (disch := refine hold_ ?_; first | (simp [-List.getD_eq_getElem?_getD]; done) | omega) [-List.getD_eq_getElem?_getD]; try first | (with_reducible refine zZ ?_) | subst hK_) | subst hK_) | (with_reducible first | refine zA ?_ | refine zB ?_ | refine zC ?_ | refine zD ?_ | refine zE ?_ | refine zF ?_ | refine zG ?_ | refine zH ?_ | refine zI ?_ | refine zJ ?_ | refine zK ?_ | refine zL ?_ | refine zM ?_ | refine zN ?_ | refine zO ?_) | ((with_reducible refine yG ?_ ?_); (focus decide)) | ((with_reducible refine yA ?_); refine yB rfl ?_; (with_reducible first | refine yC ?_ | refine yD ?_)))
  simp (maxSteps := 1000000) (disch := refine hold_ ?_; first | (simp [wl, sL, uw, -List.getD_eq_getElem?_getD]; done) | omega) [wl, sL, uw, -List.getD_eq_getElem?_getD]
end Go.Av.Sha
end

section
set_option linter.unusedSimpArgs false
set_option linter.unusedVariables false
open Go Go.Av Go.Proofs
namespace Go.Av.Sha
/-- One step. -/
def stepL (W : List (BitVec 32)) (x : List (BitVec 32)) (t : Nat) : List (BitVec 32) :=
  let e := x.getD 4 0; let a := x.getD 0 0
  let s1 := rotr e 6 ^^^ rotr e 11 ^^^ rotr e 25
  let s0 := rotr a 2 ^^^ rotr a 13 ^^^ rotr a 22
  let t1 := x.getD 7 0 + s1 + (e &&& x.getD 5 0 ^^^ ~~~e &&& x.getD 6 0) + kL.getD t 0 + W.getD t 0
  let t2 := s0 + (a &&& x.getD 1 0 ^^^ a &&& x.getD 2 0 ^^^ x.getD 1 0 &&& x.getD 2 0)
  [t1 + t2, x.getD 0 0, x.getD 1 0, x.getD 2 0, x.getD 3 0 + t1, x.getD 4 0, x.getD 5 0, x.getD 6 0]
def stepsL (W : List (BitVec 32)) (x : List (BitVec 32)) (n : Nat) : List (BitVec 32) := (List.range n).foldl (stepL W) x
theorem stepsL_len (W x : List (BitVec 32)) (n : Nat) (h : x.length = 8) : (stepsL W x n).length = 8 := by
  induction n with
  | zero => simpa [stepsL] using h
  | succ n ih => simp [stepsL, List.range_succ, stepL]
theorem stepsL_succ (W x : List (BitVec 32)) (n : Nat) : stepsL W x (n + 1) = stepL W (stepsL W x n) n := by simp [stepsL, List.range_succ]
def sumStep (x : List (BitVec 32)) (s : List (BitVec 32)) (k : Nat) : List (BitVec 32) := s.set k (s.getD k 0 + x.getD k 0)
def sumL (x s : List (BitVec 32)) (n : Nat) : List (BitVec 32) := (List.range n).foldl (sumStep x) s
theorem sumL_len (x s : List (BitVec 32)) (n : Nat) : (sumL x s n).length = s.length := fold_len (fun w k => by simp [sumStep]) _ _
theorem sumL_succ (x s : List (BitVec 32)) (n : Nat) : sumL x s (n + 1) = sumStep x (sumL x s n) n := by simp [sumL, List.range_succ]
/-- What a block makes of what was summed. -/
def addL (s : List (BitVec 32)) (b : List (BitVec 8)) : List (BitVec 32) := sumL (stepsL (spreadL b 48) s 64) s 8
set_option maxRecDepth 20000 in
set_option maxHeartbeats 10000000 in
theorem add_ct (S : List (BitVec 32)) (hS : S.length = 8) (nl : Bool) (b : List (BitVec 8)) (hb : 64 ≤ b.length) :
    FnG Try.prog 23 [.ptr 10000 0 0, .p (.sl (bl b) nl)] [.row (wl S)] 0 [] [.row (wl (addL S b))] 0 := by
  have hW := spreadL_len b 48
  have hK : kL.length = 64 := rfl
  refine FnG.of_body Try.func23 rfl ?_
  repeat (first | ((first | (with_reducible first | refine zP fun K_ hK_ => ?_ | refine zQ fun K_ hK_ => ?_ | refine zT ?_ | refine zU ?_ | refine zV ?_ | refine zW ?_ | refine zX ?_ | refine zY ?_) | ((with_reducible first | refine zR ?_ ?_ fun K_ hK_ => ?_ | refine zS ?_ ?_ fun K_ hK_ => ?_); (focus kernel_rfl); (focus kernel_rfl))); first | (simp (maxSteps := 1000000) (disch := refine hold_ ?_; first | (simp [hS, hW, hK, show zero64.length = 64 from rfl, -List.getD_eq_getElem?_getD]; done) | omega) [hS, hW, hK, show zero64.length = 64 from rfl, -List.getD_eq_getElem?_getD]; try first | (with_reducible refine zZ ?_) | subst hK_) | subst hK_) | (with_reducible first | refine zA ?_ | refine zB ?_ | refine zC ?_ | refine zD ?_ | refine zE ?_ | refine zF ?_ | refine zG ?_ | refine zH ?_ | refine zI ?_ | refine zJ ?_ | refine zK ?_ | refine zL ?_ | refine zM ?_ | refine zN ?_ | refine zO ?_) | ((with_reducible refine yG ?_ ?_); (focus decide)) | ((with_reducible refine yA ?_); refine yB rfl ?_; (with_reducible first | refine yC ?_ | refine yD ?_)))
  (refine callK_p ?_; simp (maxSteps := 1000000) (disch := refine hold_ ?_; first | (simp [hS, hW, hK, -List.getD_eq_getElem?_getD]; done) | omega) [hS, hW, hK, -List.getD_eq_getElem?_getD]; refine callK1_of (Fn.ct (spread_ct _ _ hb) Try.call32) ?_; (try simp (maxSteps := 1000000) (disch := refine hold_ ?_; first | (simp [hS, hW, hK, -List.getD_eq_getElem?_getD]; done) | omega) [hS, hW, hK, -List.getD_eq_getElem?_getD]); first | refine zZ ?_ | subst hK_)
  (refine callK_p ?_; simp (maxSteps := 1000000) (disch := refine hold_ ?_; first | (simp [hS, hW, hK, show zero64.length = 64 from rfl, -List.getD_eq_getElem?_getD]; done) | omega) [hS, hW, hK, show zero64.length = 64 from rfl, -List.getD_eq_getElem?_getD]; refine callK1_of (Fn.ct constants_ct Try.call33) ?_; (try simp (maxSteps := 1000000) (disch := refine hold_ ?_; first | (simp [hS, hW, hK, show zero64.length = 64 from rfl, -List.getD_eq_getElem?_getD]; done) | omega) [hS, hW, hK, show zero64.length = 64 from rfl, -List.getD_eq_getElem?_getD]); first | refine zZ ?_ | subst hK_)
  repeat (first | ((first | (with_reducible first | refine zP fun K_ hK_ => ?_ | refine zQ fun K_ hK_ => ?_ | refine zT ?_ | refine zU ?_ | refine zV ?_ | refine zW ?_ | refine zX ?_ | refine zY ?_) | ((with_reducible first | refine zR ?_ ?_ fun K_ hK_ => ?_ | refine zS ?_ ?_ fun K_ hK_ => ?_); (focus kernel_rfl); (focus kernel_rfl))); first | (simp (maxSteps := 1000000) (disch := refine hold_ ?_; first | (simp [hS, hW, hK, show zero64.length = 64 from rfl, -List.getD_eq_getElem?_getD]; done) | omega) [hS, hW, hK, show zero64.length = 64 from rfl, -List.getD_eq_getElem?_getD]; try first | (with_reducible refine zZ ?_) | subst hK_) | subst hK_) | (with_reducible first | refine zA ?_ | refine zB ?_ | refine zC ?_ | refine zD ?_ | refine zE ?_ | refine zF ?_ | refine zG ?_ | refine zH ?_ | refine zI ?_ | refine zJ ?_ | refine zK ?_ | refine zL ?_ | refine zM ?_ | refine zN ?_ | refine zO ?_) | ((with_reducible refine yG ?_ ?_); (focus decide)) | ((with_reducible refine yA ?_); refine yB rfl ?_; (with_reducible first | refine yC ?_ | refine yD ?_)))
  refine AW.iter (true :: false :: false :: false :: true :: true :: true :: false :: false :: false :: false :: false :: false :: false :: false :: false :: false :: false :: false :: false :: false :: true :: false :: false :: false :: false :: false :: false :: false :: false :: false :: false :: false :: false :: false :: false :: false :: false :: false :: false :: false :: false :: false :: false :: false :: false :: false :: false :: false :: false :: false :: false :: false :: false :: false :: false :: false :: false :: false :: false :: false :: false :: false :: false :: false :: false :: false :: false :: false :: false :: false :: false :: false :: false :: false :: false :: false :: false :: false :: false :: false :: false :: false :: false :: false :: false :: false :: false :: false :: false :: false :: false :: false :: false :: false :: false :: false :: false :: false :: false :: false :: false :: false :: false :: false :: false :: false :: false :: false :: false :: false :: false :: false :: false :: false :: false :: false :: false :: false :: false :: []) 64 (fun k => ⟨(.ptr 10000 0 0 :: V.junk :: V.junk :: V.junk :: .ptr 4 0 0 :: .ptr 5 0 0 :: .ptr 6 0 0 :: V.junk :: V.junk :: V.junk :: V.junk :: V.junk :: V.junk :: V.junk :: V.junk :: V.junk :: V.junk :: V.junk :: V.junk :: V.junk :: V.junk :: .p (.int .i64 k) :: V.junk :: V.junk :: V.junk :: V.junk :: V.junk :: V.junk :: V.junk :: V.junk :: V.junk :: V.junk :: V.junk :: V.junk :: V.junk :: V.junk :: V.junk :: V.junk :: V.junk :: V.junk :: V.junk :: V.junk :: V.junk :: V.junk :: V.junk :: V.junk :: V.junk :: V.junk :: V.junk :: V.junk :: V.junk :: V.junk :: V.junk :: V.junk :: V.junk :: V.junk :: V.junk :: V.junk :: V.junk :: V.junk :: V.junk :: V.junk :: V.junk :: V.junk :: V.junk :: V.junk :: V.junk :: V.junk :: V.junk :: V.junk :: V.junk :: V.junk :: V.junk :: V.junk :: V.junk :: V.junk :: V.junk :: V.junk :: V.junk :: V.junk :: V.junk :: V.junk :: V.junk :: V.junk :: V.junk :: V.junk :: V.junk :: V.junk :: V.junk :: V.junk :: V.junk :: V.junk :: V.junk :: V.junk :: V.junk :: V.junk :: V.junk :: V.junk :: V.junk :: V.junk :: V.junk :: V.junk :: V.junk :: V.junk :: V.junk :: V.junk :: V.junk :: V.junk :: V.junk :: V.junk :: V.junk :: V.junk :: V.junk :: V.junk :: V.junk :: V.junk :: V.junk :: V.junk :: V.junk :: V.junk :: []), ⟨[(10000, 0, .row (wl S)), (4, 0, .row (wl (spreadL b 48))), (5, 0, .row (wl kL)), (6, 0, .row (wl (stepsL (spreadL b 48) S k)))], []⟩⟩) ?_ ?_
  · simp (maxSteps := 1000000) (disch := refine hold_ ?_; first | (simp [stepsL, -List.getD_eq_getElem?_getD]; done) | omega) [stepsL, -List.getD_eq_getElem?_getD]
  intro k hk
  have e0 : IntKind.i64.wrap ((k : Int) + 1) = k + 1 := wrap_i64 _ (by omega) (by omega)
  have hX := stepsL_len (spreadL b 48) S k hS
  repeat (first | ((first | (with_reducible first | refine zP fun K_ hK_ => ?_ | refine zQ fun K_ hK_ => ?_ | refine zT ?_ | refine zU ?_ | refine zV ?_ | refine zW ?_ | refine zX ?_ | refine zY ?_) | ((with_reducible first | refine zR ?_ ?_ fun K_ hK_ => ?_ | refine zS ?_ ?_ fun K_ hK_ => ?_); (focus kernel_rfl); (focus kernel_rfl))); first | (simp (maxSteps := 1000000) (disch := refine hold_ ?_; first | (simp [hS, hW, hK, hX, e0, -List.getD_eq_getElem?_getD]; done) | omega) [hS, hW, hK, hX, e0, -List.getD_eq_getElem?_getD]; try first | (with_reducible refine zZ ?_) | subst hK_) | subst hK_) | (with_reducible first | refine zA ?_ | refine zB ?_ | refine zC ?_ | refine zD ?_ | refine zE ?_ | refine zF ?_ | refine zG ?_ | refine zH ?_ | refine zI ?_ | refine zJ ?_ | refine zK ?_ | refine zL ?_ | refine zM ?_ | refine zN ?_ | refine zO ?_) | ((with_reducible refine yG ?_ ?_); (focus decide)) | ((with_reducible refine yA ?_); refine yB rfl ?_; (with_reducible first | refine yC ?_ | refine yD ?_)))
  first | refine AW.condD rfl (fun hc => ?_) (fun hc => ?_) | refine AW.cond rfl (fun hc => ?_) (fun hc => ?_)
  · have hk2 := hc
    have hk3 : k < 64 := by omega
    repeat (first | ((with_reducible first | refine callK_at 34 ?_); refine callK_p ?_; simp (maxSteps := 1000000) (disch := refine hold_ ?_; first | (simp [hS, hW, hK, hX, e0, hk2, hk3, -List.getD_eq_getElem?_getD]; done) | omega) [hS, hW, hK, hX, e0, hk2, hk3, -List.getD_eq_getElem?_getD]; (first | refine callK1_of (Fn.ct (rot_ct _ _ (by decide) (by decide)) Try.call34) ?_); (try simp (maxSteps := 1000000) (disch := refine hold_ ?_; first | (simp [hS, hW, hK, hX, e0, hk2, hk3, -List.getD_eq_getElem?_getD]; done) | omega) [hS, hW, hK, hX, e0, hk2, hk3, -List.getD_eq_getElem?_getD]); try first | (with_reducible refine zZ ?_) | subst hK_) | ((first | (with_reducible first | refine zP fun K_ hK_ => ?_ | refine zQ fun K_ hK_ => ?_ | refine zT ?_ | refine zU ?_ | refine zV ?_ | refine zW ?_ | refine zX ?_ | refine zY ?_) | ((with_reducible first | refine zR ?_ ?_ fun K_ hK_ => ?_ | refine zS ?_ ?_ fun K_ hK_ => ?_); (focus kernel_rfl); (focus kernel_rfl))); first | (simp (maxSteps := 1000000) (disch := refine hold_ ?_; first | (simp [hS, hW, hK, hX, e0, hk2, hk3, -List.getD_eq_getElem?_getD]; done) | omega) [hS, hW, hK, hX, e0, hk2, hk3, -List.getD_eq_getElem?_getD]; try first | (with_reducible refine zZ ?_) | subst hK_) | subst hK_) | (with_reducible first | refine zA ?_ | refine zB ?_ | refine zC ?_ | refine zD ?_ | refine zE ?_ | refine zF ?_ | refine zG ?_ | refine zH ?_ | refine zI ?_ | refine zJ ?_ | refine zK ?_ | refine zL ?_ | refine zM ?_ | refine zN ?_ | refine zO ?_) | ((with_reducible refine yG ?_ ?_); (focus decide)) | ((with_reducible refine yA ?_); refine yB rfl ?_; (with_reducible first | refine yC ?_ | refine yD ?_)))
    refine ⟨by omega, ?_⟩
    simp (maxSteps := 1000000) (disch := refine hold_ ?_; first | (simp [stepsL_succ, stepL, wl, -List.getD_eq_getElem?_getD]; done) | omega) [stepsL_succ, stepL, wl, -List.getD_eq_getElem?_getD]
    set_option pp.deepTerms true in set_option pp.maxSteps 1000000 in trace_state
  · have hk4 : k = 64 := by omega
    subst hk4
    repeat (first | ((first | (with_reducible first | refine zP fun K_ hK_ => ?_ | refine zQ fun K_ hK_ => ?_ | refine zT ?_ | refine zU ?_ | refine zV ?_ | refine zW ?_ | refine zX ?_ | refine zY ?_) | ((with_reducible first | refine zR ?_ ?_ fun K_ hK_ => ?_ | refine zS ?_ ?_ fun K_ hK_ => ?_); (focus kernel_rfl); (focus kernel_rfl))); first | (simp (maxSteps := 1000000) (disch := refine hold_ ?_; first | (simp [hS, hW, hK, hX, e0, -List.getD_eq_getElem?_getD]; done) | omega) [hS, hW, hK, hX, e0, -List.getD_eq_getElem?_getD]; try first | (with_reducible refine zZ ?_) | subst hK_) | subst hK_) | (with_reducible first | refine zA ?_ | refine zB ?_ | refine zC ?_ | refine zD ?_ | refine zE ?_ | refine zF ?_ | refine zG ?_ | refine zH ?_ | refine zI ?_ | refine zJ ?_ | refine zK ?_ | refine zL ?_ | refine zM ?_ | refine zN ?_ | refine zO ?_) | ((with_reducible refine yG ?_ ?_); (focus decide)) | ((with_reducible refine yA ?_); refine yB rfl ?_; (with_reducible first | refine yC ?_ | refine yD ?_)))
    generalize hY : stepsL (spreadL b 48) S 64 = Y at hX
    refine AW.iter (true :: false :: false :: false :: false :: false :: true :: false :: false :: false :: false :: false :: false :: false :: false :: false :: false :: false :: false :: false :: false :: false :: false :: false :: false :: false :: false :: false :: false :: false :: false :: false :: false :: false :: false :: false :: false :: false :: false :: false :: false :: false :: false :: false :: false :: false :: false :: false :: false :: false :: false :: false :: false :: false :: false :: false :: false :: false :: false :: false :: false :: false :: false :: false :: false :: false :: false :: false :: false :: false :: false :: false :: false :: false :: false :: false :: false :: false :: false :: false :: false :: false :: false :: false :: false :: false :: false :: false :: false :: false :: false :: false :: false :: false :: false :: false :: false :: false :: false :: false :: false :: false :: false :: false :: false :: true :: false :: false :: false :: false :: false :: false :: false :: false :: false :: false :: false :: false :: false :: false :: []) 8 (fun k => ⟨(.ptr 10000 0 0 :: V.junk :: V.junk :: V.junk :: V.junk :: V.junk :: .ptr 6 0 0 :: V.junk :: V.junk :: V.junk :: V.junk :: V.junk :: V.junk :: V.junk :: V.junk :: V.junk :: V.junk :: V.junk :: V.junk :: V.junk :: V.junk :: V.junk :: V.junk :: V.junk :: V.junk :: V.junk :: V.junk :: V.junk :: V.junk :: V.junk :: V.junk :: V.junk :: V.junk :: V.junk :: V.junk :: V.junk :: V.junk :: V.junk :: V.junk :: V.junk :: V.junk :: V.junk :: V.junk :: V.junk :: V.junk :: V.junk :: V.junk :: V.junk :: V.junk :: V.junk :: V.junk :: V.junk :: V.junk :: V.junk :: V.junk :: V.junk :: V.junk :: V.junk :: V.junk :: V.junk :: V.junk :: V.junk :: V.junk :: V.junk :: V.junk :: V.junk :: V.junk :: V.junk :: V.junk :: V.junk :: V.junk :: V.junk :: V.junk :: V.junk :: V.junk :: V.junk :: V.junk :: V.junk :: V.junk :: V.junk :: V.junk :: V.junk :: V.junk :: V.junk :: V.junk :: V.junk :: V.junk :: V.junk :: V.junk :: V.junk :: V.junk :: V.junk :: V.junk :: V.junk :: V.junk :: V.junk :: V.junk :: V.junk :: V.junk :: V.junk :: V.junk :: V.junk :: V.junk :: V.junk :: V.junk :: .p (.int .i64 k) :: V.junk :: V.junk :: V.junk :: V.junk :: V.junk :: V.junk :: V.junk :: V.junk :: V.junk :: V.junk :: V.junk :: V.junk :: V.junk :: V.junk :: []), ⟨[(10000, 0, .row (wl (sumL Y S k))), (6, 0, .row (wl Y))], []⟩⟩) ?_ ?_
    · simp (maxSteps := 1000000) (disch := refine hold_ ?_; first | (simp [sumL, -List.getD_eq_getElem?_getD]; done) | omega) [sumL, -List.getD_eq_getElem?_getD]
    intro k hk
    have e0 : IntKind.i64.wrap ((k : Int) + 1) = k + 1 := wrap_i64 _ (by omega) (by omega)
    have hZ := sumL_len Y S k
    repeat (first | ((first | (with_reducible first | refine zP fun K_ hK_ => ?_ | refine zQ fun K_ hK_ => ?_ | refine zT ?_ | refine zU ?_ | refine zV ?_ | refine zW ?_ | refine zX ?_ | refine zY ?_) | ((with_reducible first | refine zR ?_ ?_ fun K_ hK_ => ?_ | refine zS ?_ ?_ fun K_ hK_ => ?_); (focus kernel_rfl); (focus kernel_rfl))); first | (simp (maxSteps := 1000000) (disch := refine hold_ ?_; first | (simp [hS, hX, e0, hZ, -List.getD_eq_getElem?_getD]; done) | omega) [hS, hX, e0, hZ, -List.getD_eq_getElem?_getD]; try first | (with_reducible refine zZ ?_) | subst hK_) | subst hK_) | (with_reducible first | refine zA ?_ | refine zB ?_ | refine zC ?_ | refine zD ?_ | refine zE ?_ | refine zF ?_ | refine zG ?_ | refine zH ?_ | refine zI ?_ | refine zJ ?_ | refine zK ?_ | refine zL ?_ | refine zM ?_ | refine zN ?_ | refine zO ?_) | ((with_reducible refine yG ?_ ?_); (focus decide)) | ((with_reducible refine yA ?_); refine yB rfl ?_; (with_reducible first | refine yC ?_ | refine yD ?_)))
    first | refine AW.condD rfl (fun hc => ?_) (fun hc => ?_) | refine AW.cond rfl (fun hc => ?_) (fun hc => ?_)
    · have hk2 := hc
      have hk3 : k < 8 := by omega
      repeat (first | ((first | (with_reducible first | refine zP fun K_ hK_ => ?_ | refine zQ fun K_ hK_ => ?_ | refine zT ?_ | refine zU ?_ | refine zV ?_ | refine zW ?_ | refine zX ?_ | refine zY ?_) | ((with_reducible first | refine zR ?_ ?_ fun K_ hK_ => ?_ | refine zS ?_ ?_ fun K_ hK_ => ?_); (focus kernel_rfl); (focus kernel_rfl))); first | (simp (maxSteps := 1000000) (disch := refine hold_ ?_; first | (simp [hS, hX, e0, hZ, hk2, hk3, -List.getD_eq_getElem?_getD]; done) | omega) [hS, hX, e0, hZ, hk2, hk3, -List.getD_eq_getElem?_getD]; try first | (with_reducible refine zZ ?_) | subst hK_) | subst hK_) | (with_reducible first | refine zA ?_ | refine zB ?_ | refine zC ?_ | refine zD ?_ | refine zE ?_ | refine zF ?_ | refine zG ?_ | refine zH ?_ | refine zI ?_ | refine zJ ?_ | refine zK ?_ | refine zL ?_ | refine zM ?_ | refine zN ?_ | refine zO ?_) | ((with_reducible refine yG ?_ ?_); (focus decide)) | ((with_reducible refine yA ?_); refine yB rfl ?_; (with_reducible first | refine yC ?_ | refine yD ?_)))
      refine ⟨by omega, ?_⟩
      simp (maxSteps := 1000000) (disch := refine hold_ ?_; first | (simp [sumL_succ, sumStep, wl, -List.getD_eq_getElem?_getD]; done) | omega) [sumL_succ, sumStep, wl, -List.getD_eq_getElem?_getD]
      set_option pp.deepTerms true in set_option pp.maxSteps 1000000 in trace_state
    · have hk4 : k = 8 := by omega
      subst hk4
      repeat (first | ((first | (with_reducible first | refine zP fun K_ hK_ => ?_ | refine zQ fun K_ hK_ => ?_ | refine zT ?_ | refine zU ?_ | refine zV ?_ | refine zW ?_ | refine zX ?_ | refine zY ?_) | ((with_reducible first | refine zR ?_ ?_ fun K_ hK_ => ?_ | refine zS ?_ ?_ fun K_ hK_ => ?_); (focus kernel_rfl); (focus kernel_rfl))); first | (simp (maxSteps := 1000000) (disch := refine hold_ ?_; first | (simp [hS, hX, e0, hZ, -List.getD_eq_getElem?_getD]; done) | omega) [hS, hX, e0, hZ, -List.getD_eq_getElem?_getD]; try first | (with_reducible refine zZ ?_) | subst hK_) | subst hK_) | (with_reducible first | refine zA ?_ | refine zB ?_ | refine zC ?_ | refine zD ?_ | refine zE ?_ | refine zF ?_ | refine zG ?_ | refine zH ?_ | refine zI ?_ | refine zJ ?_ | refine zK ?_ | refine zL ?_ | refine zM ?_ | refine zN ?_ | refine zO ?_) | ((with_reducible refine yG ?_ ?_); (focus decide)) | ((with_reducible refine yA ?_); refine yB rfl ?_; (with_reducible first | refine yC ?_ | refine yD ?_)))
      simp (maxSteps := 1000000) (disch := refine hold_ ?_; first | (simp [addL, hY, hS, hX, hZ, -List.getD_eq_getElem?_getD]; done) | omega) [addL, hY, hS, hX, hZ, -List.getD_eq_getElem?_getD]
      set_option pp.deepTerms true in set_option pp.maxSteps 1000000 in trace_state
end Go.Av.Sha
end

section
set_option linter.unusedSimpArgs false
set_option linter.unusedVariables false
open Go Go.Av Go.Proofs
namespace Go.Av.Sha
/-! ### blocks, one behind the other -/
theorem getD_take64 {b b' : List (BitVec 8)} (h : b.take 64 = b'.take 64) (i : Nat) (hi : i < 64) : b.getD i 0 = b'.getD i 0 := by
  have e : ∀ (l : List (BitVec 8)), l.getD i 0 = (l.take 64).getD i 0 := by
    intro l; simp [List.getD_eq_getElem?_getD, List.getElem?_take, hi]
  rw [e b, e b', h]
theorem spreadL_take {b b' : List (BitVec 8)} (h : b.take 64 = b'.take 64) (n : Nat) : spreadL b n = spreadL b' n := by
  have : (List.range 16).foldl (be4 b) zero64 = (List.range 16).foldl (be4 b') zero64 := by
    apply foldl_congr_mem
    intro t ht w
    unfold be4
    apply foldl_congr_mem
    intro k hk w
    simp only [List.mem_range] at ht hk
    simp only [beStep, getD_take64 h (4 * t + k) (by omega)]
  simp only [spreadL, this]
theorem addL_take {s : List (BitVec 32)} {b b' : List (BitVec 8)} (h : b.take 64 = b'.take 64) : addL s b = addL s b' := by simp only [addL, spreadL_take h]
theorem addL_len (s : List (BitVec 32)) (b : List (BitVec 8)) : (addL s b).length = s.length := sumL_len _ _ _
def blocksL (n : Nat) (s : List (BitVec 32)) (c : List (BitVec 8)) : List (BitVec 32) := (List.range n).foldl (fun s i => addL s (c.drop (64 * i))) s
theorem blocksL_len (n : Nat) (s : List (BitVec 32)) (c : List (BitVec 8)) : (blocksL n s c).length = s.length := fold_len (fun s i => addL_len s _) _ _
theorem blocksL_succ (n : Nat) (s : List (BitVec 32)) (c : List (BitVec 8)) : blocksL (n + 1) s c = addL (blocksL n s c) (c.drop (64 * n)) := by simp [blocksL, List.range_succ]
theorem blocksL_append (n : Nat) (s : List (BitVec 32)) (c d : List (BitVec 8)) (h : 64 * n ≤ c.length) : blocksL n s (c ++ d) = blocksL n s c := by
  apply foldl_congr_mem
  intro i hi w
  simp only [List.mem_range] at hi
  apply addL_take
  rw [List.drop_append_of_le_length (by omega), List.take_append_of_le_length (by simp; omega)]
/-! ### parts -/
abbrev Part := List (BitVec 8) × Bool
def pB (ps : List Part) (k : Nat) : List (BitVec 8) := (ps.getD k ([], true)).1
def pN (ps : List Part) (k : Nat) : Bool := (ps.getD k ([], true)).2
def pR (ps : List Part) : Row PV := .vals 1 (ps.map fun p => .sl (bl p.1) p.2)
def cat (ps : List Part) (k : Nat) : List (BitVec 8) := ((ps.take k).map Prod.fst).flatten
@[simp] theorem pR_len (ps : List Part) : (pR ps).len = ps.length := by simp [pR]
@[simp] theorem pR_sz (ps : List Part) : (pR ps).sz = 1 := rfl
@[simp] theorem pR_elem (ps : List Part) (k : Nat) (h : k < ps.length) : (pR ps).elem k = .sl (bl (pB ps k)) (pN ps k) := by
  simp [pR, pB, pN, List.getD_eq_getElem?_getD, h]
theorem cat_zero (ps : List Part) : cat ps 0 = [] := rfl
theorem cat_succ (ps : List Part) (k : Nat) (h : k < ps.length) : cat ps (k + 1) = cat ps k ++ pB ps k := by
  unfold cat pB
  rw [List.take_succ_eq_append_getElem h, List.map_append, List.flatten_append]
  simp [List.getD_eq_getElem?_getD, h]
theorem cat_le (ps : List Part) (k : Nat) : (cat ps k).length ≤ (cat ps ps.length).length := by
  have : cat ps ps.length = cat ps k ++ ((ps.drop k).map Prod.fst).flatten := by
    simp only [cat, List.take_length]
    rw [← List.flatten_append, ← List.map_append, List.take_append_drop]
  rw [this]; simp
/-! ### the end -/
def padZ (n : Nat) : Nat := (119 - n % 64) % 64
def be8 (n : Nat) (i : Nat) : List (BitVec 8) := (List.range i).map fun j => BitVec.ofInt 8 ((8 * (n : Int)) / 2 ^ (8 * (7 - j)))
/-- What is summed in all. -/
def padL (c : List (BitVec 8)) : List (BitVec 8) := c ++ [0x80#8] ++ List.replicate (padZ c.length) 0#8 ++ be8 c.length 8
def outStep (h : List (BitVec 32)) (o : List (BitVec 8)) (k : Nat) : List (BitVec 8) := o.set k ((h.getD (k / 4) 0 >>> (24 - 8 * (k % 4))).setWidth 8)
def zero32 : List (BitVec 8) := List.replicate 32 0
def outL (h : List (BitVec 32)) (n : Nat) : List (BitVec 8) := (List.range n).foldl (outStep h) zero32
theorem outL_len (h : List (BitVec 32)) (n : Nat) : (outL h n).length = 32 := (fold_len (fun o k => by simp [outStep]) _ _).trans List.length_replicate
theorem outL_zero (h : List (BitVec 32)) : outL h 0 = zero32 := rfl
theorem outL_succ (h : List (BitVec 32)) (n : Nat) : outL h (n + 1) = outStep h (outL h n) n := by simp [outL, List.range_succ]
/-- The sum of bytes. -/
def shaL (c : List (BitVec 8)) : List (BitVec 8) := outL (blocksL ((padL c).length / 64) sL (padL c)) 32
@[simp] theorem aalloc25 (H : List (Nat × (Nat × HB))) (d : Nat) : aalloc Try.prog H d 25 = some (.ptr d (nextVer H d) 0, upd H d (nextVer H d, .row (bl zero32))) := nr (by kernel_rfl)
theorem beq_zero_and (a b : Nat) : ((a == 0) && (b == 0)) = (a + b == 0) := by cases a <;> cases b <;> simp
set_option maxHeartbeats 10000000 in
theorem sum_ct (ps : List Part) (nl0 : Bool) (hps : ps.length ≤ 1000000) (hcat : (cat ps ps.length).length ≤ 4000000) : Fn Try.prog 13 [.sl (pR ps) nl0] [.p (.agg (bl (shaL (cat ps ps.length))))] := by
  have hs8 : sL.length = 8 := rfl
  refine Fn.of_body Try.func13 rfl ?_
  repeat (first | ((with_reducible first | refine callK_at 22 ?_); refine callK_p ?_; simp (maxSteps := 1000000) (disch := refine hold_ ?_; first | (simp [hs8, -List.getD_eq_getElem?_getD]; done) | omega) [hs8, -List.getD_eq_getElem?_getD]; (first | refine callK1_of (Fn.ct start_ct Try.call22) ?_); (try simp (maxSteps := 1000000) (disch := refine hold_ ?_; first | (simp [hs8, -List.getD_eq_getElem?_getD]; done) | omega) [hs8, -List.getD_eq_getElem?_getD]); try first | (with_reducible refine zZ ?_) | subst hK_) | ((first | (with_reducible first | refine zP fun K_ hK_ => ?_ | refine zQ fun K_ hK_ => ?_ | refine zT ?_ | refine zU ?_ | refine zV ?_ | refine zW ?_ | refine zX ?_ | refine zY ?_) | ((with_reducible first | refine zR ?_ ?_ fun K_ hK_ => ?_ | refine zS ?_ ?_ fun K_ hK_ => ?_); (focus kernel_rfl); (focus kernel_rfl))); first | (simp (maxSteps := 1000000) (disch := refine hold_ ?_; first | (simp [hs8, -List.getD_eq_getElem?_getD]; done) | omega) [hs8, -List.getD_eq_getElem?_getD]; try first | (with_reducible refine zZ ?_) | subst hK_) | subst hK_) | (with_reducible first | refine zA ?_ | refine zB ?_ | refine zC ?_ | refine zD ?_ | refine zE ?_ | refine zF ?_ | refine zG ?_ | refine zH ?_ | refine zI ?_ | refine zJ ?_ | refine zK ?_ | refine zL ?_ | refine zM ?_ | refine zN ?_ | refine zO ?_) | ((with_reducible refine yG ?_ ?_); (focus decide)) | ((with_reducible refine yA ?_); refine yB rfl ?_; (with_reducible first | refine yC ?_ | refine yD ?_)))
  refine AW.nilRow 4 (bl []) 4 _ rfl rfl ?_
  refine AW.iter (false :: false :: true :: true :: true :: true :: false :: false :: false :: false :: false :: false :: true :: true :: true :: false :: false :: false :: false :: false :: false :: false :: false :: false :: false :: false :: false :: false :: false :: false :: false :: false :: false :: false :: false :: false :: false :: false :: false :: false :: false :: false :: false :: false :: false :: false :: false :: false :: false :: false :: false :: false :: false :: false :: false :: false :: false :: false :: false :: false :: false :: false :: false :: false :: false :: false :: false :: false :: false :: false :: false :: false :: false :: false :: false :: false :: false :: false :: false :: false :: false :: []) ps.length (fun k => ⟨(V.junk :: V.junk :: .ptr 2 0 0 :: .ptr 3 0 0 :: .row (bl ((cat ps k).drop (64 * ((cat ps k).length / 64)))) 0 0 ((cat ps k).length == 0) :: .p (.int .u64 (cat ps k).length) :: V.junk :: V.junk :: V.junk :: V.junk :: V.junk :: V.junk :: .p (.sl (pR ps) nl0) :: .p (.int .i64 ps.length) :: .p (.int .i64 k) :: V.junk :: V.junk :: V.junk :: V.junk :: V.junk :: V.junk :: V.junk :: V.junk :: V.junk :: V.junk :: V.junk :: V.junk :: V.junk :: V.junk :: V.junk :: V.junk :: V.junk :: V.junk :: V.junk :: V.junk :: V.junk :: V.junk :: V.junk :: V.junk :: V.junk :: V.junk :: V.junk :: V.junk :: V.junk :: V.junk :: V.junk :: V.junk :: V.junk :: V.junk :: V.junk :: V.junk :: V.junk :: V.junk :: V.junk :: V.junk :: V.junk :: V.junk :: V.junk :: V.junk :: V.junk :: V.junk :: V.junk :: V.junk :: V.junk :: V.junk :: V.junk :: V.junk :: V.junk :: V.junk :: V.junk :: V.junk :: V.junk :: V.junk :: V.junk :: V.junk :: V.junk :: V.junk :: V.junk :: V.junk :: V.junk :: V.junk :: []), ⟨[(2, 0, .row (bl zero32)), (3, 0, .row (wl (blocksL ((cat ps k).length / 64) sL (cat ps k))))], [(0, 0)]⟩⟩) ?_ ?_
  · simp (maxSteps := 1000000) (disch := refine hold_ ?_; first | (simp [cat_zero, blocksL, -List.getD_eq_getElem?_getD]; done) | omega) [cat_zero, blocksL, -List.getD_eq_getElem?_getD]
  intro k hk
  have hck := cat_le ps k
  have e0 : IntKind.i64.wrap ((k : Int) + 1) = k + 1 := wrap_i64 _ (by omega) (by omega)
  repeat (first | ((first | (with_reducible first | refine zP fun K_ hK_ => ?_ | refine zQ fun K_ hK_ => ?_ | refine zT ?_ | refine zU ?_ | refine zV ?_ | refine zW ?_ | refine zX ?_ | refine zY ?_) | ((with_reducible first | refine zR ?_ ?_ fun K_ hK_ => ?_ | refine zS ?_ ?_ fun K_ hK_ => ?_); (focus kernel_rfl); (focus kernel_rfl))); first | (simp (maxSteps := 1000000) (disch := refine hold_ ?_; first | (simp [hs8, -List.getD_eq_getElem?_getD]; done) | omega) [hs8, -List.getD_eq_getElem?_getD]; try first | (with_reducible refine zZ ?_) | subst hK_) | subst hK_) | (with_reducible first | refine zA ?_ | refine zB ?_ | refine zC ?_ | refine zD ?_ | refine zE ?_ | refine zF ?_ | refine zG ?_ | refine zH ?_ | refine zI ?_ | refine zJ ?_ | refine zK ?_ | refine zL ?_ | refine zM ?_ | refine zN ?_ | refine zO ?_) | ((with_reducible refine yG ?_ ?_); (focus decide)) | ((with_reducible refine yA ?_); refine yB rfl ?_; (with_reducible first | refine yC ?_ | refine yD ?_)))
  first | refine AW.condD rfl (fun hc => ?_) (fun hc => ?_) | refine AW.cond rfl (fun hc => ?_) (fun hc => ?_)
  · have hk2 := hc
    have hk3 : k < ps.length := by omega
    have hck1 := cat_le ps (k + 1)
    rw [cat_succ ps k hk3] at *
    generalize cat ps k = c at *
    generalize hp : pB ps k = p at *
    have hl : (c ++ p).length = c.length + p.length := by simp
    have e1 : IntKind.u64.wrap (p.length : Int) = p.length := wrap_u64 _ (by omega) (by omega)
    have e2 : IntKind.u64.wrap ((c.length : Int) + p.length) = c.length + p.length := wrap_u64 _ (by omega) (by omega)
    have e3 : c.length - 64 * (c.length / 64) + p.length ≤ 140737488355328 := by omega
    repeat (first | ((first | (with_reducible first | refine zP fun K_ hK_ => ?_ | refine zQ fun K_ hK_ => ?_ | refine zT ?_ | refine zU ?_ | refine zV ?_ | refine zW ?_ | refine zX ?_ | refine zY ?_) | ((with_reducible first | refine zR ?_ ?_ fun K_ hK_ => ?_ | refine zS ?_ ?_ fun K_ hK_ => ?_); (focus kernel_rfl); (focus kernel_rfl))); first | (simp (maxSteps := 1000000) (disch := refine hold_ ?_; first | (simp [hs8, hk3, hp, e1, e2, e3, beq_zero_and, -List.getD_eq_getElem?_getD]; done) | omega) [hs8, hk3, hp, e1, e2, e3, beq_zero_and, -List.getD_eq_getElem?_getD]; try first | (with_reducible refine zZ ?_) | subst hK_) | subst hK_) | (with_reducible first | refine zA ?_ | refine zB ?_ | refine zC ?_ | refine zD ?_ | refine zE ?_ | refine zF ?_ | refine zG ?_ | refine zH ?_ | refine zI ?_ | refine zJ ?_ | refine zK ?_ | refine zL ?_ | refine zM ?_ | refine zN ?_ | refine zO ?_) | ((with_reducible refine yG ?_ ?_); (focus decide)) | ((with_reducible refine yA ?_); refine yB rfl ?_; (with_reducible first | refine yC ?_ | refine yD ?_)))
    generalize hq : c.length / 64 = q at *
    have hq2 : 64 * q ≤ c.length := by omega
    have hq3 : c.length < 64 * q + 64 := by omega
    have hdr : List.drop (64 * q) c ++ p = List.drop (64 * q) (c ++ p) := (List.drop_append_of_le_length hq2).symm
    have hbl := blocksL_append q sL c p (by omega)
    refine AW.iter (false :: false :: true :: true :: true :: true :: false :: false :: false :: false :: false :: false :: true :: true :: true :: false :: false :: false :: false :: false :: false :: false :: false :: false :: false :: false :: false :: false :: false :: false :: false :: false :: false :: false :: false :: false :: false :: false :: false :: false :: false :: false :: false :: false :: false :: false :: false :: false :: false :: false :: false :: false :: false :: false :: false :: false :: false :: false :: false :: false :: false :: false :: false :: false :: false :: false :: false :: false :: false :: false :: false :: false :: false :: false :: false :: false :: false :: false :: false :: false :: false :: []) ((c ++ p).length / 64 - q) (fun j => ⟨(V.junk :: V.junk :: .ptr 2 0 0 :: .ptr 3 0 0 :: .row (bl ((c ++ p).drop (64 * (q + j)))) 0 0 (c.length + p.length == 0) :: .p (.int .u64 (c.length + p.length : Nat)) :: V.junk :: V.junk :: V.junk :: V.junk :: V.junk :: V.junk :: .p (.sl (pR ps) nl0) :: .p (.int .i64 ps.length) :: .p (.int .i64 k) :: V.junk :: V.junk :: V.junk :: V.junk :: V.junk :: V.junk :: V.junk :: V.junk :: V.junk :: V.junk :: V.junk :: V.junk :: V.junk :: V.junk :: V.junk :: V.junk :: V.junk :: V.junk :: V.junk :: V.junk :: V.junk :: V.junk :: V.junk :: V.junk :: V.junk :: V.junk :: V.junk :: V.junk :: V.junk :: V.junk :: V.junk :: V.junk :: V.junk :: V.junk :: V.junk :: V.junk :: V.junk :: V.junk :: V.junk :: V.junk :: V.junk :: V.junk :: V.junk :: V.junk :: V.junk :: V.junk :: V.junk :: V.junk :: V.junk :: V.junk :: V.junk :: V.junk :: V.junk :: V.junk :: V.junk :: V.junk :: V.junk :: V.junk :: V.junk :: V.junk :: V.junk :: V.junk :: V.junk :: V.junk :: V.junk :: V.junk :: []), ⟨[(2, 0, .row (bl zero32)), (3, 0, .row (wl (blocksL (q + j) sL (c ++ p))))], [(0, 0)]⟩⟩) ?_ ?_
    · simp (maxSteps := 1000000) (disch := refine hold_ ?_; first | (simp [hdr, hbl, -List.getD_eq_getElem?_getD]; done) | omega) [hdr, hbl, -List.getD_eq_getElem?_getD]
    intro j hj
    have hn := blocksL_len (q + j) sL (c ++ p)
    repeat (first | ((first | (with_reducible first | refine zP fun K_ hK_ => ?_ | refine zQ fun K_ hK_ => ?_ | refine zT ?_ | refine zU ?_ | refine zV ?_ | refine zW ?_ | refine zX ?_ | refine zY ?_) | ((with_reducible first | refine zR ?_ ?_ fun K_ hK_ => ?_ | refine zS ?_ ?_ fun K_ hK_ => ?_); (focus kernel_rfl); (focus kernel_rfl))); first | (simp (maxSteps := 1000000) (disch := refine hold_ ?_; first | (simp [hl, hs8, hn, -List.getD_eq_getElem?_getD]; done) | omega) [hl, hs8, hn, -List.getD_eq_getElem?_getD]; try first | (with_reducible refine zZ ?_) | subst hK_) | subst hK_) | (with_reducible first | refine zA ?_ | refine zB ?_ | refine zC ?_ | refine zD ?_ | refine zE ?_ | refine zF ?_ | refine zG ?_ | refine zH ?_ | refine zI ?_ | refine zJ ?_ | refine zK ?_ | refine zL ?_ | refine zM ?_ | refine zN ?_ | refine zO ?_) | ((with_reducible refine yG ?_ ?_); (focus decide)) | ((with_reducible refine yA ?_); refine yB rfl ?_; (with_reducible first | refine yC ?_ | refine yD ?_)))
    first | refine AW.condD rfl (fun hc => ?_) (fun hc => ?_) | refine AW.cond rfl (fun hc => ?_) (fun hc => ?_)
    · have hc2 : 64 ≤ c.length + p.length - 64 * (q + j) := by omega
      have hc3 : j < (c ++ p).length / 64 - q := by omega
      repeat (first | ((with_reducible first | refine callK_at 23 ?_); refine Go.Av.callK_q (by decide) ?_; simp (maxSteps := 1000000) (disch := refine hold_ ?_; first | (simp [hl, hs8, hn, hc2, List.take_of_length_le, -List.getD_eq_getElem?_getD]; done) | omega) [hl, hs8, hn, hc2, List.take_of_length_le, -List.getD_eq_getElem?_getD]; (first | refine callK3_of (FnG.ct (add_ct _ (by rw [hn]; exact hs8) _ _ (by simp; omega)) Try.call23) ?_); (try simp (maxSteps := 1000000) (disch := refine hold_ ?_; first | (simp [hl, hs8, hn, hc2, List.take_of_length_le, -List.getD_eq_getElem?_getD]; done) | omega) [hl, hs8, hn, hc2, List.take_of_length_le, -List.getD_eq_getElem?_getD]); try first | (with_reducible refine zZ ?_) | subst hK_) | ((first | (with_reducible first | refine zP fun K_ hK_ => ?_ | refine zQ fun K_ hK_ => ?_ | refine zT ?_ | refine zU ?_ | refine zV ?_ | refine zW ?_ | refine zX ?_ | refine zY ?_) | ((with_reducible first | refine zR ?_ ?_ fun K_ hK_ => ?_ | refine zS ?_ ?_ fun K_ hK_ => ?_); (focus kernel_rfl); (focus kernel_rfl))); first | (simp (maxSteps := 1000000) (disch := refine hold_ ?_; first | (simp [hl, hs8, hn, hc2, List.take_of_length_le, -List.getD_eq_getElem?_getD]; done) | omega) [hl, hs8, hn, hc2, List.take_of_length_le, -List.getD_eq_getElem?_getD]; try first | (with_reducible refine zZ ?_) | subst hK_) | subst hK_) | (with_reducible first | refine zA ?_ | refine zB ?_ | refine zC ?_ | refine zD ?_ | refine zE ?_ | refine zF ?_ | refine zG ?_ | refine zH ?_ | refine zI ?_ | refine zJ ?_ | refine zK ?_ | refine zL ?_ | refine zM ?_ | refine zN ?_ | refine zO ?_) | ((with_reducible refine yG ?_ ?_); (focus decide)) | ((with_reducible refine yA ?_); refine yB rfl ?_; (with_reducible first | refine yC ?_ | refine yD ?_)))
      refine ⟨hc3, ?_⟩
      have hmul : 64 * (q + j) + 64 = 64 * (q + (j + 1)) := by omega
      have hsc := blocksL_succ (q + j) sL (c ++ p)
      rw [Nat.add_assoc] at hsc
      simp (maxSteps := 1000000) (disch := refine hold_ ?_; first | (simp [hsc, hl, List.drop_drop, hmul, -List.getD_eq_getElem?_getD]; done) | omega) [hsc, hl, List.drop_drop, hmul, -List.getD_eq_getElem?_getD]
    · have hj2 : (c ++ p).length / 64 = q + j := by omega
      repeat (first | ((first | (with_reducible first | refine zP fun K_ hK_ => ?_ | refine zQ fun K_ hK_ => ?_ | refine zT ?_ | refine zU ?_ | refine zV ?_ | refine zW ?_ | refine zX ?_ | refine zY ?_) | ((with_reducible first | refine zR ?_ ?_ fun K_ hK_ => ?_ | refine zS ?_ ?_ fun K_ hK_ => ?_); (focus kernel_rfl); (focus kernel_rfl))); first | (simp (maxSteps := 1000000) (disch := refine hold_ ?_; first | (simp [hl, hs8, hn, e0, -List.getD_eq_getElem?_getD]; done) | omega) [hl, hs8, hn, e0, -List.getD_eq_getElem?_getD]; try first | (with_reducible refine zZ ?_) | subst hK_) | subst hK_) | (with_reducible first | refine zA ?_ | refine zB ?_ | refine zC ?_ | refine zD ?_ | refine zE ?_ | refine zF ?_ | refine zG ?_ | refine zH ?_ | refine zI ?_ | refine zJ ?_ | refine zK ?_ | refine zL ?_ | refine zM ?_ | refine zN ?_ | refine zO ?_) | ((with_reducible refine yG ?_ ?_); (focus decide)) | ((with_reducible refine yA ?_); refine yB rfl ?_; (with_reducible first | refine yC ?_ | refine yD ?_)))
      refine ⟨hk3, ?_⟩
      rw [hj2]
      simp (maxSteps := 1000000) (disch := refine hold_ ?_; first | (simp [hl, -List.getD_eq_getElem?_getD]; done) | omega) [hl, -List.getD_eq_getElem?_getD]
  · have hk2 : k = ps.length := by omega
    subst hk2
    generalize hcc : cat ps ps.length = c at *
    generalize hq : c.length / 64 = q at *
    have hq2 : 64 * q ≤ c.length := by omega
    have hq3 : c.length < 64 * q + 64 := by omega
    have hdr : ∀ x, List.drop (64 * q) c ++ x = List.drop (64 * q) (c ++ x) := fun x => (List.drop_append_of_le_length hq2).symm
    have e3 : c.length - 64 * q + 1 ≤ 140737488355328 := by omega
    repeat (first | ((first | (with_reducible first | refine zP fun K_ hK_ => ?_ | refine zQ fun K_ hK_ => ?_ | refine zT ?_ | refine zU ?_ | refine zV ?_ | refine zW ?_ | refine zX ?_ | refine zY ?_) | ((with_reducible first | refine zR ?_ ?_ fun K_ hK_ => ?_ | refine zS ?_ ?_ fun K_ hK_ => ?_); (focus kernel_rfl); (focus kernel_rfl))); first | (simp (maxSteps := 1000000) (disch := refine hold_ ?_; first | (simp [app_lit, e3, hs8, hdr, -List.getD_eq_getElem?_getD]; done) | omega) [app_lit, e3, hs8, hdr, -List.getD_eq_getElem?_getD]; try first | (with_reducible refine zZ ?_) | subst hK_) | subst hK_) | (with_reducible first | refine zA ?_ | refine zB ?_ | refine zC ?_ | refine zD ?_ | refine zE ?_ | refine zF ?_ | refine zG ?_ | refine zH ?_ | refine zI ?_ | refine zJ ?_ | refine zK ?_ | refine zL ?_ | refine zM ?_ | refine zN ?_ | refine zO ?_) | ((with_reducible refine yG ?_ ?_); (focus decide)) | ((with_reducible refine yA ?_); refine yB rfl ?_; (with_reducible first | refine yC ?_ | refine yD ?_)))
    have hz : padZ c.length ≤ 64 := by unfold padZ; omega
    have hpz : ∀ i, i ≤ padZ c.length → ((c.length + 1 + i - 64 * q) % 64 = 56 ↔ i = padZ c.length) := by intro i hi; unfold padZ at *; omega
    refine AW.iter (false :: false :: true :: true :: true :: true :: false :: false :: false :: false :: false :: false :: false :: false :: false :: false :: false :: false :: false :: false :: false :: false :: false :: false :: false :: false :: false :: false :: false :: false :: false :: false :: false :: false :: false :: false :: false :: false :: false :: false :: false :: false :: false :: false :: false :: false :: false :: false :: false :: false :: false :: false :: false :: false :: false :: false :: false :: false :: false :: false :: false :: false :: false :: false :: false :: false :: false :: false :: false :: false :: false :: false :: false :: false :: false :: false :: false :: false :: false :: false :: false :: []) (padZ c.length) (fun i => ⟨(V.junk :: V.junk :: .ptr 2 0 0 :: .ptr 3 0 0 :: .row (bl ((c ++ [128#8] ++ List.replicate i 0#8).drop (64 * q))) 0 0 false :: .p (.int .u64 c.length) :: V.junk :: V.junk :: V.junk :: V.junk :: V.junk :: V.junk :: V.junk :: V.junk :: V.junk :: V.junk :: V.junk :: V.junk :: V.junk :: V.junk :: V.junk :: V.junk :: V.junk :: V.junk :: V.junk :: V.junk :: V.junk :: V.junk :: V.junk :: V.junk :: V.junk :: V.junk :: V.junk :: V.junk :: V.junk :: V.junk :: V.junk :: V.junk :: V.junk :: V.junk :: V.junk :: V.junk :: V.junk :: V.junk :: V.junk :: V.junk :: V.junk :: V.junk :: V.junk :: V.junk :: V.junk :: V.junk :: V.junk :: V.junk :: V.junk :: V.junk :: V.junk :: V.junk :: V.junk :: V.junk :: V.junk :: V.junk :: V.junk :: V.junk :: V.junk :: V.junk :: V.junk :: V.junk :: V.junk :: V.junk :: V.junk :: V.junk :: V.junk :: V.junk :: V.junk :: V.junk :: V.junk :: V.junk :: V.junk :: V.junk :: V.junk :: []), ⟨[(2, 0, .row (bl zero32)), (3, 0, .row (wl (blocksL q sL c)))], [(0, 0)]⟩⟩) ?_ ?_
    · simp (maxSteps := 1000000) (disch := refine hold_ ?_; first | (simp [-List.getD_eq_getElem?_getD]; done) | omega) [-List.getD_eq_getElem?_getD]
    intro i hi
    have hX : (c ++ [128#8] ++ List.replicate i 0#8).length = c.length + 1 + i := by simp; omega
    have hdr2 : ∀ x, List.drop (64 * q) (c ++ [128#8] ++ List.replicate i 0#8) ++ x = List.drop (64 * q) (c ++ [128#8] ++ List.replicate i 0#8 ++ x) := fun x => (List.drop_append_of_le_length (by rw [hX]; omega)).symm
    have hXs : c ++ [128#8] ++ List.replicate i 0#8 ++ [0#8] = c ++ [128#8] ++ List.replicate (i + 1) 0#8 := by
      rw [List.replicate_succ', List.append_assoc]
    have e1 : Int.tmod ((c.length + 1 + i - 64 * q : Nat) : Int) 64 = ((c.length + 1 + i - 64 * q) % 64 : Nat) := tmod_nat _ 64
    have e3 : c.length + 1 + i - 64 * q + 1 ≤ 140737488355328 := by omega
    generalize hXd : c ++ [128#8] ++ List.replicate i 0#8 = X at *
    repeat (first | ((first | (with_reducible first | refine zP fun K_ hK_ => ?_ | refine zQ fun K_ hK_ => ?_ | refine zT ?_ | refine zU ?_ | refine zV ?_ | refine zW ?_ | refine zX ?_ | refine zY ?_) | ((with_reducible first | refine zR ?_ ?_ fun K_ hK_ => ?_ | refine zS ?_ ?_ fun K_ hK_ => ?_); (focus kernel_rfl); (focus kernel_rfl))); first | (simp (maxSteps := 1000000) (disch := refine hold_ ?_; first | (simp [hX, e1, -List.getD_eq_getElem?_getD]; done) | omega) [hX, e1, -List.getD_eq_getElem?_getD]; try first | (with_reducible refine zZ ?_) | subst hK_) | subst hK_) | (with_reducible first | refine zA ?_ | refine zB ?_ | refine zC ?_ | refine zD ?_ | refine zE ?_ | refine zF ?_ | refine zG ?_ | refine zH ?_ | refine zI ?_ | refine zJ ?_ | refine zK ?_ | refine zL ?_ | refine zM ?_ | refine zN ?_ | refine zO ?_) | ((with_reducible refine yG ?_ ?_); (focus decide)) | ((with_reducible refine yA ?_); refine yB rfl ?_; (with_reducible first | refine yC ?_ | refine yD ?_)))
    first | refine AW.condD rfl (fun hc => ?_) (fun hc => ?_) | refine AW.cond rfl (fun hc => ?_) (fun hc => ?_)
    · have hi2 : i < padZ c.length := by
        have h1 := hpz i hi
        simp at hc; omega
      repeat (first | ((first | (with_reducible first | refine zP fun K_ hK_ => ?_ | refine zQ fun K_ hK_ => ?_ | refine zT ?_ | refine zU ?_ | refine zV ?_ | refine zW ?_ | refine zX ?_ | refine zY ?_) | ((with_reducible first | refine zR ?_ ?_ fun K_ hK_ => ?_ | refine zS ?_ ?_ fun K_ hK_ => ?_); (focus kernel_rfl); (focus kernel_rfl))); first | (simp (maxSteps := 1000000) (disch := refine hold_ ?_; first | (simp [hX, app_lit, hdr2, hXs, e3, -List.getD_eq_getElem?_getD]; done) | omega) [hX, app_lit, hdr2, hXs, e3, -List.getD_eq_getElem?_getD]; try first | (with_reducible refine zZ ?_) | subst hK_) | subst hK_) | (with_reducible first | refine zA ?_ | refine zB ?_ | refine zC ?_ | refine zD ?_ | refine zE ?_ | refine zF ?_ | refine zG ?_ | refine zH ?_ | refine zI ?_ | refine zJ ?_ | refine zK ?_ | refine zL ?_ | refine zM ?_ | refine zN ?_ | refine zO ?_) | ((with_reducible refine yG ?_ ?_); (focus decide)) | ((with_reducible refine yA ?_); refine yB rfl ?_; (with_reducible first | refine yC ?_ | refine yD ?_)))
      refine ⟨hi2, ?_⟩
      simp (maxSteps := 1000000) (disch := refine hold_ ?_; first | (simp [-List.getD_eq_getElem?_getD]; done) | omega) [-List.getD_eq_getElem?_getD]
    · have hi2 : i = padZ c.length := by
        have h1 := hpz i hi
        simp at hc; omega
      subst hi2
      repeat (first | ((first | (with_reducible first | refine zP fun K_ hK_ => ?_ | refine zQ fun K_ hK_ => ?_ | refine zT ?_ | refine zU ?_ | refine zV ?_ | refine zW ?_ | refine zX ?_ | refine zY ?_) | ((with_reducible first | refine zR ?_ ?_ fun K_ hK_ => ?_ | refine zS ?_ ?_ fun K_ hK_ => ?_); (focus kernel_rfl); (focus kernel_rfl))); first | (simp (maxSteps := 1000000) (disch := refine hold_ ?_; first | (simp [-List.getD_eq_getElem?_getD]; done) | omega) [-List.getD_eq_getElem?_getD]; try first | (with_reducible refine zZ ?_) | subst hK_) | subst hK_) | (with_reducible first | refine zA ?_ | refine zB ?_ | refine zC ?_ | refine zD ?_ | refine zE ?_ | refine zF ?_ | refine zG ?_ | refine zH ?_ | refine zI ?_ | refine zJ ?_ | refine zK ?_ | refine zL ?_ | refine zM ?_ | refine zN ?_ | refine zO ?_) | ((with_reducible refine yG ?_ ?_); (focus decide)) | ((with_reducible refine yA ?_); refine yB rfl ?_; (with_reducible first | refine yC ?_ | refine yD ?_)))
      refine AW.iter (false :: false :: true :: true :: true :: true :: false :: false :: true :: false :: false :: false :: false :: false :: false :: false :: false :: false :: false :: false :: false :: false :: false :: false :: false :: false :: false :: false :: false :: false :: false :: false :: false :: false :: false :: false :: false :: false :: false :: false :: false :: false :: false :: false :: false :: false :: false :: false :: false :: false :: false :: false :: false :: false :: false :: false :: false :: false :: false :: false :: false :: false :: false :: false :: false :: false :: false :: false :: false :: false :: false :: false :: false :: false :: false :: false :: false :: false :: false :: false :: false :: []) 8 (fun i => ⟨(V.junk :: V.junk :: .ptr 2 0 0 :: .ptr 3 0 0 :: .row (bl ((X ++ be8 c.length i).drop (64 * q))) 0 0 false :: .p (.int .u64 c.length) :: V.junk :: V.junk :: .p (.int .i64 (7 - (i : Int))) :: V.junk :: V.junk :: V.junk :: V.junk :: V.junk :: V.junk :: V.junk :: V.junk :: V.junk :: V.junk :: V.junk :: V.junk :: V.junk :: V.junk :: V.junk :: V.junk :: V.junk :: V.junk :: V.junk :: V.junk :: V.junk :: V.junk :: V.junk :: V.junk :: V.junk :: V.junk :: V.junk :: V.junk :: V.junk :: V.junk :: V.junk :: V.junk :: V.junk :: V.junk :: V.junk :: V.junk :: V.junk :: V.junk :: V.junk :: V.junk :: V.junk :: V.junk :: V.junk :: V.junk :: V.junk :: V.junk :: V.junk :: V.junk :: V.junk :: V.junk :: V.junk :: V.junk :: V.junk :: V.junk :: V.junk :: V.junk :: V.junk :: V.junk :: V.junk :: V.junk :: V.junk :: V.junk :: V.junk :: V.junk :: V.junk :: V.junk :: V.junk :: V.junk :: V.junk :: V.junk :: V.junk :: V.junk :: []), ⟨[(2, 0, .row (bl zero32)), (3, 0, .row (wl (blocksL q sL c)))], [(0, 0)]⟩⟩) ?_ ?_
      · simp (maxSteps := 1000000) (disch := refine hold_ ?_; first | (simp [be8, -List.getD_eq_getElem?_getD]; done) | omega) [be8, -List.getD_eq_getElem?_getD]
      intro i hi
      have f0 : IntKind.i64.wrap (7 - (i : Int) - 1) = 7 - ((i : Int) + 1) := (wrap_i64 _ (by omega) (by omega)).trans (by omega)
      have f1 : IntKind.i64.wrap (8 * (7 - (i : Int))) = 8 * (7 - (i : Int)) := wrap_i64 _ (by omega) (by omega)
      have hbl : (be8 c.length i).length = i := by simp [be8]
      have hdr3 : ∀ x, List.drop (64 * q) (X ++ be8 c.length i) ++ x = List.drop (64 * q) (X ++ be8 c.length i ++ x) := fun x => (List.drop_append_of_le_length (by simp; omega)).symm
      repeat (first | ((first | (with_reducible first | refine zP fun K_ hK_ => ?_ | refine zQ fun K_ hK_ => ?_ | refine zT ?_ | refine zU ?_ | refine zV ?_ | refine zW ?_ | refine zX ?_ | refine zY ?_) | ((with_reducible first | refine zR ?_ ?_ fun K_ hK_ => ?_ | refine zS ?_ ?_ fun K_ hK_ => ?_); (focus kernel_rfl); (focus kernel_rfl))); first | (simp (maxSteps := 1000000) (disch := refine hold_ ?_; first | (simp [f0, f1, -List.getD_eq_getElem?_getD]; done) | omega) [f0, f1, -List.getD_eq_getElem?_getD]; try first | (with_reducible refine zZ ?_) | subst hK_) | subst hK_) | (with_reducible first | refine zA ?_ | refine zB ?_ | refine zC ?_ | refine zD ?_ | refine zE ?_ | refine zF ?_ | refine zG ?_ | refine zH ?_ | refine zI ?_ | refine zJ ?_ | refine zK ?_ | refine zL ?_ | refine zM ?_ | refine zN ?_ | refine zO ?_) | ((with_reducible refine yG ?_ ?_); (focus decide)) | ((with_reducible refine yA ?_); refine yB rfl ?_; (with_reducible first | refine yC ?_ | refine yD ?_)))
      first | refine AW.condD rfl (fun hc => ?_) (fun hc => ?_) | refine AW.cond rfl (fun hc => ?_) (fun hc => ?_)
      · have hi2 : i ≤ 7 := by omega
        have f2 : shiftBin .shl .u64 (c.length : Int) 3 = some (.int .u64 (8 * (c.length : Int))) := by
          have : IntKind.u64.wrap ((c.length : Int) * 8) = 8 * (c.length : Int) := (wrap_u64 _ (by omega) (by omega)).trans (by omega)
          simp [shiftBin, IntKind.bits, this]
        have f3 : shiftBin .shr .u64 (8 * (c.length : Int)) (8 * (7 - (i : Int))) = some (.int .u64 (8 * (c.length : Int) / 2 ^ (8 * (7 - i)))) := by
          have h1 : ¬ (8 * (7 - (i : Int)) < 0) := by omega
          have h2 : min (8 * (7 - (i : Int))).toNat 64 = 8 * (7 - i) := by omega
          simp only [shiftBin, h1, if_false, IntKind.bits, h2]
          rw [Int.fdiv_eq_ediv_of_nonneg _ (Int.le_of_lt (Int.pow_pos (by decide)))]
        have f4 : be8 c.length (i + 1) = be8 c.length i ++ [BitVec.ofInt 8 (8 * (c.length : Int) / 2 ^ (8 * (7 - i)))] := by simp [be8, List.range_succ]
        have f5 : (X ++ be8 c.length i).length - 64 * q + 1 ≤ 140737488355328 := by simp; omega
        repeat (first | ((first | (with_reducible first | refine zP fun K_ hK_ => ?_ | refine zQ fun K_ hK_ => ?_ | refine zT ?_ | refine zU ?_ | refine zV ?_ | refine zW ?_ | refine zX ?_ | refine zY ?_) | ((with_reducible first | refine zR ?_ ?_ fun K_ hK_ => ?_ | refine zS ?_ ?_ fun K_ hK_ => ?_); (focus kernel_rfl); (focus kernel_rfl))); first | (simp (maxSteps := 1000000) (disch := refine hold_ ?_; first | (simp [f0, f1, f2, f3, app_wrap, hdr3, hX, hbl, -List.getD_eq_getElem?_getD]; done) | omega) [f0, f1, f2, f3, app_wrap, hdr3, hX, hbl, -List.getD_eq_getElem?_getD]; try first | (with_reducible refine zZ ?_) | subst hK_) | subst hK_) | (with_reducible first | refine zA ?_ | refine zB ?_ | refine zC ?_ | refine zD ?_ | refine zE ?_ | refine zF ?_ | refine zG ?_ | refine zH ?_ | refine zI ?_ | refine zJ ?_ | refine zK ?_ | refine zL ?_ | refine zM ?_ | refine zN ?_ | refine zO ?_) | ((with_reducible refine yG ?_ ?_); (focus decide)) | ((with_reducible refine yA ?_); refine yB rfl ?_; (with_reducible first | refine yC ?_ | refine yD ?_)))
        refine ⟨by omega, ?_⟩
        simp (maxSteps := 1000000) (disch := refine hold_ ?_; first | (simp [f4, List.append_assoc, -List.getD_eq_getElem?_getD]; done) | omega) [f4, List.append_assoc, -List.getD_eq_getElem?_getD]
        set_option pp.deepTerms true in set_option pp.maxSteps 1000000 in trace_state
      · have hi2 : i = 8 := by omega
        subst hi2
        have hpd : X ++ be8 c.length 8 = padL c := by rw [← hXd]; rfl
        have hZl : (padL c).length = c.length + 1 + padZ c.length + 8 := by rw [← hpd, List.length_append, hX, hbl]
        rw [hpd] at *
        have hb1 : blocksL q sL (padL c) = blocksL q sL c := by
          unfold padL
          rw [List.append_assoc, List.append_assoc]
          exact blocksL_append q sL c _ hq2
        have hZ64 : (padL c).length % 64 = 0 := by rw [hZl]; unfold padZ; omega
        generalize hZd : padL c = Z at *
        repeat (first | ((first | (with_reducible first | refine zP fun K_ hK_ => ?_ | refine zQ fun K_ hK_ => ?_ | refine zT ?_ | refine zU ?_ | refine zV ?_ | refine zW ?_ | refine zX ?_ | refine zY ?_) | ((with_reducible first | refine zR ?_ ?_ fun K_ hK_ => ?_ | refine zS ?_ ?_ fun K_ hK_ => ?_); (focus kernel_rfl); (focus kernel_rfl))); first | (simp (maxSteps := 1000000) (disch := refine hold_ ?_; first | (simp [-List.getD_eq_getElem?_getD]; done) | omega) [-List.getD_eq_getElem?_getD]; try first | (with_reducible refine zZ ?_) | subst hK_) | subst hK_) | (with_reducible first | refine zA ?_ | refine zB ?_ | refine zC ?_ | refine zD ?_ | refine zE ?_ | refine zF ?_ | refine zG ?_ | refine zH ?_ | refine zI ?_ | refine zJ ?_ | refine zK ?_ | refine zL ?_ | refine zM ?_ | refine zN ?_ | refine zO ?_) | ((with_reducible refine yG ?_ ?_); (focus decide)) | ((with_reducible refine yA ?_); refine yB rfl ?_; (with_reducible first | refine yC ?_ | refine yD ?_)))
        refine AW.iter (false :: false :: true :: true :: true :: false :: false :: false :: false :: false :: false :: false :: false :: false :: false :: false :: false :: false :: false :: false :: false :: false :: false :: false :: false :: false :: false :: false :: false :: false :: false :: false :: false :: false :: false :: false :: false :: false :: false :: false :: false :: false :: false :: false :: false :: false :: false :: false :: false :: false :: false :: false :: false :: false :: false :: false :: false :: false :: false :: false :: false :: false :: false :: false :: false :: false :: false :: false :: false :: false :: false :: false :: false :: false :: false :: false :: false :: false :: false :: false :: false :: []) (Z.length / 64 - q) (fun j => ⟨(V.junk :: V.junk :: .ptr 2 0 0 :: .ptr 3 0 0 :: .row (bl (Z.drop (64 * (q + j)))) 0 0 false :: V.junk :: V.junk :: V.junk :: V.junk :: V.junk :: V.junk :: V.junk :: V.junk :: V.junk :: V.junk :: V.junk :: V.junk :: V.junk :: V.junk :: V.junk :: V.junk :: V.junk :: V.junk :: V.junk :: V.junk :: V.junk :: V.junk :: V.junk :: V.junk :: V.junk :: V.junk :: V.junk :: V.junk :: V.junk :: V.junk :: V.junk :: V.junk :: V.junk :: V.junk :: V.junk :: V.junk :: V.junk :: V.junk :: V.junk :: V.junk :: V.junk :: V.junk :: V.junk :: V.junk :: V.junk :: V.junk :: V.junk :: V.junk :: V.junk :: V.junk :: V.junk :: V.junk :: V.junk :: V.junk :: V.junk :: V.junk :: V.junk :: V.junk :: V.junk :: V.junk :: V.junk :: V.junk :: V.junk :: V.junk :: V.junk :: V.junk :: V.junk :: V.junk :: V.junk :: V.junk :: V.junk :: V.junk :: V.junk :: V.junk :: V.junk :: V.junk :: []), ⟨[(2, 0, .row (bl zero32)), (3, 0, .row (wl (blocksL (q + j) sL Z)))], [(0, 0)]⟩⟩) ?_ ?_
        · simp (maxSteps := 1000000) (disch := refine hold_ ?_; first | (simp [hb1, -List.getD_eq_getElem?_getD]; done) | omega) [hb1, -List.getD_eq_getElem?_getD]
        intro j hj
        have hn := blocksL_len (q + j) sL Z
        have hsc := blocksL_succ (q + j) sL Z
        rw [Nat.add_assoc] at hsc
        have hmul : 64 * (q + j) + 64 = 64 * (q + (j + 1)) := by omega
        repeat (first | ((first | (with_reducible first | refine zP fun K_ hK_ => ?_ | refine zQ fun K_ hK_ => ?_ | refine zT ?_ | refine zU ?_ | refine zV ?_ | refine zW ?_ | refine zX ?_ | refine zY ?_) | ((with_reducible first | refine zR ?_ ?_ fun K_ hK_ => ?_ | refine zS ?_ ?_ fun K_ hK_ => ?_); (focus kernel_rfl); (focus kernel_rfl))); first | (simp (maxSteps := 1000000) (disch := refine hold_ ?_; first | (simp [hs8, hn, -List.getD_eq_getElem?_getD]; done) | omega) [hs8, hn, -List.getD_eq_getElem?_getD]; try first | (with_reducible refine zZ ?_) | subst hK_) | subst hK_) | (with_reducible first | refine zA ?_ | refine zB ?_ | refine zC ?_ | refine zD ?_ | refine zE ?_ | refine zF ?_ | refine zG ?_ | refine zH ?_ | refine zI ?_ | refine zJ ?_ | refine zK ?_ | refine zL ?_ | refine zM ?_ | refine zN ?_ | refine zO ?_) | ((with_reducible refine yG ?_ ?_); (focus decide)) | ((with_reducible refine yA ?_); refine yB rfl ?_; (with_reducible first | refine yC ?_ | refine yD ?_)))
        first | refine AW.condD rfl (fun hc => ?_) (fun hc => ?_) | refine AW.cond rfl (fun hc => ?_) (fun hc => ?_)
        · have hj2 : j < Z.length / 64 - q := by omega
          have hc2 : 64 ≤ Z.length - 64 * (q + j) := by omega
          repeat (first | ((with_reducible first | refine callK_at 23 ?_); refine Go.Av.callK_q (by decide) ?_; simp (maxSteps := 1000000) (disch := refine hold_ ?_; first | (simp [hs8, hn, hc2, List.take_of_length_le, -List.getD_eq_getElem?_getD]; done) | omega) [hs8, hn, hc2, List.take_of_length_le, -List.getD_eq_getElem?_getD]; (first | refine callK3_of (FnG.ct (add_ct _ (by rw [hn]; exact hs8) _ _ (by simp; omega)) Try.call23) ?_); (try simp (maxSteps := 1000000) (disch := refine hold_ ?_; first | (simp [hs8, hn, hc2, List.take_of_length_le, -List.getD_eq_getElem?_getD]; done) | omega) [hs8, hn, hc2, List.take_of_length_le, -List.getD_eq_getElem?_getD]); try first | (with_reducible refine zZ ?_) | subst hK_) | ((first | (with_reducible first | refine zP fun K_ hK_ => ?_ | refine zQ fun K_ hK_ => ?_ | refine zT ?_ | refine zU ?_ | refine zV ?_ | refine zW ?_ | refine zX ?_ | refine zY ?_) | ((with_reducible first | refine zR ?_ ?_ fun K_ hK_ => ?_ | refine zS ?_ ?_ fun K_ hK_ => ?_); (focus kernel_rfl); (focus kernel_rfl))); first | (simp (maxSteps := 1000000) (disch := refine hold_ ?_; first | (simp [hs8, hn, hc2, List.take_of_length_le, -List.getD_eq_getElem?_getD]; done) | omega) [hs8, hn, hc2, List.take_of_length_le, -List.getD_eq_getElem?_getD]; try first | (with_reducible refine zZ ?_) | subst hK_) | subst hK_) | (with_reducible first | refine zA ?_ | refine zB ?_ | refine zC ?_ | refine zD ?_ | refine zE ?_ | refine zF ?_ | refine zG ?_ | refine zH ?_ | refine zI ?_ | refine zJ ?_ | refine zK ?_ | refine zL ?_ | refine zM ?_ | refine zN ?_ | refine zO ?_) | ((with_reducible refine yG ?_ ?_); (focus decide)) | ((with_reducible refine yA ?_); refine yB rfl ?_; (with_reducible first | refine yC ?_ | refine yD ?_)))
          refine ⟨hj2, ?_⟩
          simp (maxSteps := 1000000) (disch := refine hold_ ?_; first | (simp [hsc, List.drop_drop, hmul, -List.getD_eq_getElem?_getD]; done) | omega) [hsc, List.drop_drop, hmul, -List.getD_eq_getElem?_getD]
          set_option pp.deepTerms true in set_option pp.maxSteps 1000000 in trace_state
        · have hj2 : q + j = Z.length / 64 := by omega
          repeat (first | ((first | (with_reducible first | refine zP fun K_ hK_ => ?_ | refine zQ fun K_ hK_ => ?_ | refine zT ?_ | refine zU ?_ | refine zV ?_ | refine zW ?_ | refine zX ?_ | refine zY ?_) | ((with_reducible first | refine zR ?_ ?_ fun K_ hK_ => ?_ | refine zS ?_ ?_ fun K_ hK_ => ?_); (focus kernel_rfl); (focus kernel_rfl))); first | (simp (maxSteps := 1000000) (disch := refine hold_ ?_; first | (simp [hj2, -List.getD_eq_getElem?_getD]; done) | omega) [hj2, -List.getD_eq_getElem?_getD]; try first | (with_reducible refine zZ ?_) | subst hK_) | subst hK_) | (with_reducible first | refine zA ?_ | refine zB ?_ | refine zC ?_ | refine zD ?_ | refine zE ?_ | refine zF ?_ | refine zG ?_ | refine zH ?_ | refine zI ?_ | refine zJ ?_ | refine zK ?_ | refine zL ?_ | refine zM ?_ | refine zN ?_ | refine zO ?_) | ((with_reducible refine yG ?_ ?_); (focus decide)) | ((with_reducible refine yA ?_); refine yB rfl ?_; (with_reducible first | refine yC ?_ | refine yD ?_)))
          have hB := blocksL_len (Z.length / 64) sL Z
          generalize hBd : blocksL (Z.length / 64) sL Z = B at *
          refine AW.iter (false :: false :: true :: true :: false :: false :: false :: false :: false :: true :: false :: false :: false :: false :: false :: false :: false :: false :: false :: false :: false :: false :: false :: false :: false :: false :: false :: false :: false :: false :: false :: false :: false :: false :: false :: false :: false :: false :: false :: false :: false :: false :: false :: false :: false :: false :: false :: false :: false :: false :: false :: false :: false :: false :: false :: false :: false :: false :: false :: false :: false :: false :: false :: false :: true :: false :: false :: false :: false :: false :: false :: false :: false :: false :: false :: false :: false :: false :: false :: false :: false :: []) 32 (fun k => ⟨(V.junk :: V.junk :: .ptr 2 0 0 :: .ptr 3 0 0 :: V.junk :: V.junk :: V.junk :: V.junk :: V.junk :: .ptr 9 0 0 :: V.junk :: V.junk :: V.junk :: V.junk :: V.junk :: V.junk :: V.junk :: V.junk :: V.junk :: V.junk :: V.junk :: V.junk :: V.junk :: V.junk :: V.junk :: V.junk :: V.junk :: V.junk :: V.junk :: V.junk :: V.junk :: V.junk :: V.junk :: V.junk :: V.junk :: V.junk :: V.junk :: V.junk :: V.junk :: V.junk :: V.junk :: V.junk :: V.junk :: V.junk :: V.junk :: V.junk :: V.junk :: V.junk :: V.junk :: V.junk :: V.junk :: V.junk :: V.junk :: V.junk :: V.junk :: V.junk :: V.junk :: V.junk :: V.junk :: V.junk :: V.junk :: V.junk :: V.junk :: V.junk :: .p (.int .i64 k) :: V.junk :: V.junk :: V.junk :: V.junk :: V.junk :: V.junk :: V.junk :: V.junk :: V.junk :: V.junk :: V.junk :: V.junk :: V.junk :: V.junk :: V.junk :: V.junk :: []), ⟨[(2, 0, .row (bl zero32)), (3, 0, .row (wl B)), (9, 0, .row (bl (outL B k)))], []⟩⟩) ?_ ?_
          · simp (maxSteps := 1000000) (disch := refine hold_ ?_; first | (simp [outL_zero, -List.getD_eq_getElem?_getD]; done) | omega) [outL_zero, -List.getD_eq_getElem?_getD]
          intro k hk
          have g0 : IntKind.i64.wrap ((k : Int) + 1) = k + 1 := wrap_i64 _ (by omega) (by omega)
          have g1 : Int.tdiv (k : Int) 4 = (k / 4 : Nat) := tdiv_nat k 4
          have g2 : Int.tmod (k : Int) 4 = (k % 4 : Nat) := tmod_nat k 4
          have g9 : k % 4 < 4 := by omega
          have hst := outL_succ B k
          have hO := outL_len B k
          simp only [outStep] at hst
          have hk8 : k < 32 → k / 4 < 8 := by omega
          generalize hq4 : k / 4 = q4 at *
          generalize hr4 : k % 4 = r4 at *
          have g3 : IntKind.i64.wrap (q4 : Int) = q4 := wrap_i64 _ (by omega) (by omega)
          have g4 : IntKind.i64.wrap (8 * (r4 : Int)) = 8 * (r4 : Int) := wrap_i64 _ (by omega) (by omega)
          have g5 : IntKind.i64.wrap (24 - 8 * (r4 : Int)) = 24 - 8 * (r4 : Int) := wrap_i64 _ (by omega) (by omega)
          have g6 : (24 - 8 * (r4 : Int)).toNat = 24 - 8 * r4 := by omega
          repeat (first | ((first | (with_reducible first | refine zP fun K_ hK_ => ?_ | refine zQ fun K_ hK_ => ?_ | refine zT ?_ | refine zU ?_ | refine zV ?_ | refine zW ?_ | refine zX ?_ | refine zY ?_) | ((with_reducible first | refine zR ?_ ?_ fun K_ hK_ => ?_ | refine zS ?_ ?_ fun K_ hK_ => ?_); (focus kernel_rfl); (focus kernel_rfl))); first | (simp (maxSteps := 1000000) (disch := refine hold_ ?_; first | (simp [-List.getD_eq_getElem?_getD]; done) | omega) [-List.getD_eq_getElem?_getD]; try first | (with_reducible refine zZ ?_) | subst hK_) | subst hK_) | (with_reducible first | refine zA ?_ | refine zB ?_ | refine zC ?_ | refine zD ?_ | refine zE ?_ | refine zF ?_ | refine zG ?_ | refine zH ?_ | refine zI ?_ | refine zJ ?_ | refine zK ?_ | refine zL ?_ | refine zM ?_ | refine zN ?_ | refine zO ?_) | ((with_reducible refine yG ?_ ?_); (focus decide)) | ((with_reducible refine yA ?_); refine yB rfl ?_; (with_reducible first | refine yC ?_ | refine yD ?_)))
          first | refine AW.condD rfl (fun hc => ?_) (fun hc => ?_) | refine AW.cond rfl (fun hc => ?_) (fun hc => ?_)
          · have hk2 : k < 32 := by omega
            have hk4 : q4 < 8 := hk8 hk2
            have g7 : 0 ≤ 24 - 8 * (r4 : Int) := by omega
            have g8 : 24 - 8 * (r4 : Int) ≤ 32 := by omega
            repeat (first | ((first | (with_reducible first | refine zP fun K_ hK_ => ?_ | refine zQ fun K_ hK_ => ?_ | refine zT ?_ | refine zU ?_ | refine zV ?_ | refine zW ?_ | refine zX ?_ | refine zY ?_) | ((with_reducible first | refine zR ?_ ?_ fun K_ hK_ => ?_ | refine zS ?_ ?_ fun K_ hK_ => ?_); (focus kernel_rfl); (focus kernel_rfl))); first | (simp (maxSteps := 1000000) (disch := refine hold_ ?_; first | (simp [g0, g1, g2, g3, g4, g5, g6, g7, g8, hk2, hk4, hB, hs8, wrap8_uw, hO, -List.getD_eq_getElem?_getD]; done) | omega) [g0, g1, g2, g3, g4, g5, g6, g7, g8, hk2, hk4, hB, hs8, wrap8_uw, hO, -List.getD_eq_getElem?_getD]; try first | (with_reducible refine zZ ?_) | subst hK_) | subst hK_) | (with_reducible first | refine zA ?_ | refine zB ?_ | refine zC ?_ | refine zD ?_ | refine zE ?_ | refine zF ?_ | refine zG ?_ | refine zH ?_ | refine zI ?_ | refine zJ ?_ | refine zK ?_ | refine zL ?_ | refine zM ?_ | refine zN ?_ | refine zO ?_) | ((with_reducible refine yG ?_ ?_); (focus decide)) | ((with_reducible refine yA ?_); refine yB rfl ?_; (with_reducible first | refine yC ?_ | refine yD ?_)))
            refine ⟨hk2, ?_⟩
            simp (maxSteps := 1000000) (disch := refine hold_ ?_; first | (simp [hst, -List.getD_eq_getElem?_getD]; done) | omega) [hst, -List.getD_eq_getElem?_getD]
          · have hk2 : k = 32 := by omega
            subst hk2
            have hz32 : zero32.length = 32 := rfl
            have hfin : shaL c = outL B 32 := by
              unfold shaL; rw [hZd, hBd]
            rw [hfin]
            generalize outL B 32 = O at *
            repeat (first | ((first | (with_reducible first | refine zP fun K_ hK_ => ?_ | refine zQ fun K_ hK_ => ?_ | refine zT ?_ | refine zU ?_ | refine zV ?_ | refine zW ?_ | refine zX ?_ | refine zY ?_) | ((with_reducible first | refine zR ?_ ?_ fun K_ hK_ => ?_ | refine zS ?_ ?_ fun K_ hK_ => ?_); (focus kernel_rfl); (focus kernel_rfl))); first | (simp (maxSteps := 1000000) (disch := refine hold_ ?_; first | (simp [hO, hz32, -List.getD_eq_getElem?_getD]; done) | omega) [hO, hz32, -List.getD_eq_getElem?_getD]; try first | (with_reducible refine zZ ?_) | subst hK_) | subst hK_) | (with_reducible first | refine zA ?_ | refine zB ?_ | refine zC ?_ | refine zD ?_ | refine zE ?_ | refine zF ?_ | refine zG ?_ | refine zH ?_ | refine zI ?_ | refine zJ ?_ | refine zK ?_ | refine zL ?_ | refine zM ?_ | refine zN ?_ | refine zO ?_) | ((with_reducible refine yG ?_ ?_); (focus decide)) | ((with_reducible refine yA ?_); refine yB rfl ?_; (with_reducible first | refine yC ?_ | refine yD ?_)))
            simp (maxSteps := 1000000) (disch := refine hold_ ?_; first | (simp [hO, hz32, -List.getD_eq_getElem?_getD]; done) | omega) [hO, hz32, -List.getD_eq_getElem?_getD]
end Go.Av.Sha
end

section
set_option linter.unusedSimpArgs false
set_option linter.unusedVariables false
open Go Go.Av Go.Proofs
namespace Go.Av.Sha
/-! ### digits -/
/-- A digit of a number below 16. -/
def hexD (x : BitVec 8) : BitVec 8 := if x.toNat < 10 then x + 48#8 else x + 87#8
theorem hexD_at (x : BitVec 8) (h : x.toNat < 16) : ((([48, 49, 50, 51, 52, 53, 54, 55, 56, 57, 97, 98, 99, 100, 101, 102] : List UInt8).getD (ub x).toNat 0).toNat : Int) = ub (hexD x) := by
  have key : ∀ n : Fin 16, ((([48, 49, 50, 51, 52, 53, 54, 55, 56, 57, 97, 98, 99, 100, 101, 102] : List UInt8).getD (ub (BitVec.ofNat 8 n.val)).toNat 0).toNat : Int) = ub (hexD (BitVec.ofNat 8 n.val)) := by decide
  have := key ⟨x.toNat, h⟩
  simpa using this
theorem nib_hi (b : BitVec 8) : (b >>> 4).toNat < 16 := by
  have := b.isLt
  simp [BitVec.toNat_ushiftRight, Nat.shiftRight_eq_div_pow]; omega
theorem nib_lo (b : BitVec 8) : (b &&& 15#8).toNat < 16 := by
  rw [BitVec.toNat_and]
  exact Nat.lt_of_le_of_lt Nat.and_le_right (by decide)
theorem ub_nib {x : BitVec 8} (h : x.toNat < 16) : ub x < 16 := by unfold ub; omega
def hexL (l : List (BitVec 8)) (n : Nat) : List (BitVec 8) := (List.range n).flatMap fun k => [hexD (l.getD k 0 >>> 4), hexD (l.getD k 0 &&& 15#8)]
theorem hexL_zero (l : List (BitVec 8)) : hexL l 0 = [] := rfl
theorem hexL_succ (l : List (BitVec 8)) (n : Nat) : hexL l (n + 1) = hexL l n ++ [hexD (l.getD n 0 >>> 4), hexD (l.getD n 0 &&& 15#8)] := by simp [hexL, List.range_succ]
theorem hexL_len (l : List (BitVec 8)) (n : Nat) : (hexL l n).length = 2 * n := by
  induction n with
  | zero => rfl
  | succ n ih => rw [hexL_succ, List.length_append, ih]; simp; omega
/-- A text out of bytes. -/
def txt (l : List (BitVec 8)) : ByteArray := strOfNums (l.map ub)
set_option maxHeartbeats 10000000 in
theorem hex_ct (l : List (BitVec 8)) (hl : l.length = 32) : Fn Try.prog 14 [.agg (bl l)] [.p (.str (txt (hexL l 32)))] := by
  refine Fn.of_body Try.func14 rfl ?_
  repeat (first | ((first | (with_reducible first | refine zP fun K_ hK_ => ?_ | refine zQ fun K_ hK_ => ?_ | refine zT ?_ | refine zU ?_ | refine zV ?_ | refine zW ?_ | refine zX ?_ | refine zY ?_) | ((with_reducible first | refine zR ?_ ?_ fun K_ hK_ => ?_ | refine zS ?_ ?_ fun K_ hK_ => ?_); (focus kernel_rfl); (focus kernel_rfl))); first | (simp (maxSteps := 1000000) (disch := refine hold_ ?_; first | (simp [-List.getD_eq_getElem?_getD]; done) | omega) [-List.getD_eq_getElem?_getD]; try first | (with_reducible refine zZ ?_) | subst hK_) | subst hK_) | (with_reducible first | refine zA ?_ | refine zB ?_ | refine zC ?_ | refine zD ?_ | refine zE ?_ | refine zF ?_ | refine zG ?_ | refine zH ?_ | refine zI ?_ | refine zJ ?_ | refine zK ?_ | refine zL ?_ | refine zM ?_ | refine zN ?_ | refine zO ?_) | ((with_reducible refine yG ?_ ?_); (focus decide)) | ((with_reducible refine yA ?_); refine yB rfl ?_; (with_reducible first | refine yC ?_ | refine yD ?_)))
  refine AW.nilRow 3 (bl []) 3 _ rfl rfl ?_
  refine AW.iter (false :: false :: false :: true :: false :: false :: true :: true :: false :: false :: false :: false :: false :: false :: false :: false :: false :: false :: false :: false :: false :: false :: []) 32 (fun k => ⟨(V.junk :: V.junk :: V.junk :: .row (bl (hexL l k)) 0 0 (k == 0) :: V.junk :: V.junk :: .p (.agg (bl l)) :: .p (.int .i64 k) :: V.junk :: V.junk :: V.junk :: V.junk :: V.junk :: V.junk :: V.junk :: V.junk :: V.junk :: V.junk :: V.junk :: V.junk :: V.junk :: V.junk :: []), ⟨[], [(0, 0)]⟩⟩) ?_ ?_
  · simp (maxSteps := 1000000) (disch := refine hold_ ?_; first | (simp [hexL_zero, hl, -List.getD_eq_getElem?_getD]; done) | omega) [hexL_zero, hl, -List.getD_eq_getElem?_getD]
    set_option pp.deepTerms true in set_option pp.maxSteps 1000000 in trace_state
  intro k hk
  have g0 : IntKind.i64.wrap ((k : Int) + 1) = k + 1 := wrap_i64 _ (by omega) (by omega)
  repeat (first | ((first | (with_reducible first | refine zP fun K_ hK_ => ?_ | refine zQ fun K_ hK_ => ?_ | refine zT ?_ | refine zU ?_ | refine zV ?_ | refine zW ?_ | refine zX ?_ | refine zY ?_) | ((with_reducible first | refine zR ?_ ?_ fun K_ hK_ => ?_ | refine zS ?_ ?_ fun K_ hK_ => ?_); (focus kernel_rfl); (focus kernel_rfl))); first | (simp (maxSteps := 1000000) (disch := refine hold_ ?_; first | (simp [hl, -List.getD_eq_getElem?_getD]; done) | omega) [hl, -List.getD_eq_getElem?_getD]; try first | (with_reducible refine zZ ?_) | subst hK_) | subst hK_) | (with_reducible first | refine zA ?_ | refine zB ?_ | refine zC ?_ | refine zD ?_ | refine zE ?_ | refine zF ?_ | refine zG ?_ | refine zH ?_ | refine zI ?_ | refine zJ ?_ | refine zK ?_ | refine zL ?_ | refine zM ?_ | refine zN ?_ | refine zO ?_) | ((with_reducible refine yG ?_ ?_); (focus decide)) | ((with_reducible refine yA ?_); refine yB rfl ?_; (with_reducible first | refine yC ?_ | refine yD ?_)))
  first | refine AW.condD rfl (fun hc => ?_) (fun hc => ?_) | refine AW.cond rfl (fun hc => ?_) (fun hc => ?_)
  · have hk2 : k < 32 := by omega
    have hds : (ByteArray.mk #[48, 49, 50, 51, 52, 53, 54, 55, 56, 57, 97, 98, 99, 100, 101, 102]).size = 16 := rfl
    have h1 := nib_hi (l.getD k 0#8)
    have h2 := nib_lo (l.getD k 0#8)
    have h3 := ub_nib h1
    have h4 := ub_nib h2
    have h5 := (ub_lt (l.getD k 0#8 >>> 4)).1
    have h6 := (ub_lt (l.getD k 0#8 &&& 15#8)).1
    have h7 := hexD_at _ h1
    have h8 := hexD_at _ h2
    have h9 := hexL_len l k
    have h10 : 2 * k + 2 ≤ 140737488355328 := by omega
    repeat (first | ((first | (with_reducible first | refine zP fun K_ hK_ => ?_ | refine zQ fun K_ hK_ => ?_ | refine zT ?_ | refine zU ?_ | refine zV ?_ | refine zW ?_ | refine zX ?_ | refine zY ?_) | ((with_reducible first | refine zR ?_ ?_ fun K_ hK_ => ?_ | refine zS ?_ ?_ fun K_ hK_ => ?_); (focus kernel_rfl); (focus kernel_rfl))); first | (simp (maxSteps := 1000000) (disch := refine hold_ ?_; first | (simp [g0, hk2, hl, hds, h3, h4, h5, h6, h7, h8, h9, h10, -List.getD_eq_getElem?_getD]; done) | omega) [g0, hk2, hl, hds, h3, h4, h5, h6, h7, h8, h9, h10, -List.getD_eq_getElem?_getD]; try first | (with_reducible refine zZ ?_) | subst hK_) | subst hK_) | (with_reducible first | refine zA ?_ | refine zB ?_ | refine zC ?_ | refine zD ?_ | refine zE ?_ | refine zF ?_ | refine zG ?_ | refine zH ?_ | refine zI ?_ | refine zJ ?_ | refine zK ?_ | refine zL ?_ | refine zM ?_ | refine zN ?_ | refine zO ?_) | ((with_reducible refine yG ?_ ?_); (focus decide)) | ((with_reducible refine yA ?_); refine yB rfl ?_; (with_reducible first | refine yC ?_ | refine yD ?_)))
    refine ⟨hk2, ?_⟩
    simp (maxSteps := 1000000) (disch := refine hold_ ?_; first | (simp [hexL_succ, -List.getD_eq_getElem?_getD]; done) | omega) [hexL_succ, -List.getD_eq_getElem?_getD]
  · have hk2 : k = 32 := by omega
    subst hk2
    generalize hexL l 32 = O at *
    repeat (first | ((first | (with_reducible first | refine zP fun K_ hK_ => ?_ | refine zQ fun K_ hK_ => ?_ | refine zT ?_ | refine zU ?_ | refine zV ?_ | refine zW ?_ | refine zX ?_ | refine zY ?_) | ((with_reducible first | refine zR ?_ ?_ fun K_ hK_ => ?_ | refine zS ?_ ?_ fun K_ hK_ => ?_); (focus kernel_rfl); (focus kernel_rfl))); first | (simp (maxSteps := 1000000) (disch := refine hold_ ?_; first | (simp [-List.getD_eq_getElem?_getD]; done) | omega) [-List.getD_eq_getElem?_getD]; try first | (with_reducible refine zZ ?_) | subst hK_) | subst hK_) | (with_reducible first | refine zA ?_ | refine zB ?_ | refine zC ?_ | refine zD ?_ | refine zE ?_ | refine zF ?_ | refine zG ?_ | refine zH ?_ | refine zI ?_ | refine zJ ?_ | refine zK ?_ | refine zL ?_ | refine zM ?_ | refine zN ?_ | refine zO ?_) | ((with_reducible refine yG ?_ ?_); (focus decide)) | ((with_reducible refine yA ?_); refine yB rfl ?_; (with_reducible first | refine yC ?_ | refine yD ?_)))
    simp (maxSteps := 1000000) (disch := refine hold_ ?_; first | (simp [txt, -List.getD_eq_getElem?_getD]; done) | omega) [txt, -List.getD_eq_getElem?_getD]
    set_option pp.deepTerms true in set_option pp.maxSteps 1000000 in trace_state
end Go.Av.Sha
end

section
set_option linter.unusedSimpArgs false
set_option linter.unusedVariables false
open Go Go.Av Go.Proofs
namespace Go.Av.Sha
/-! ### what is known of abc -/
def abcS : List (BitVec 8) := [186#8, 120#8, 22#8, 191#8, 143#8, 1#8, 207#8, 234#8, 65#8, 65#8, 64#8, 222#8, 93#8, 174#8, 34#8, 35#8, 176#8, 3#8, 97#8, 163#8, 150#8, 23#8, 122#8, 156#8, 180#8, 16#8, 255#8, 97#8, 242#8, 0#8, 21#8, 173#8]
set_option maxRecDepth 100000 in
theorem sha_abc : shaL [97#8, 98#8, 99#8] = abcS := by kernel_rfl
theorem sum_abc : Fn Try.prog 13 [.sl (.vals 1 [.sl (.ints .u8 [97, 98, 99]) false]) false] [.p (.agg (bl abcS))] := by
  have h := sum_ct [([97#8, 98#8, 99#8], false)] false (by decide) (by decide)
  have e : cat [([97#8, 98#8, 99#8], false)] [(([97#8, 98#8, 99#8] : List (BitVec 8)), false)].length = [97#8, 98#8, 99#8] := rfl
  rw [e, sha_abc] at h
  exact h
def abcT : ByteArray := ⟨#[98, 97, 55, 56, 49, 54, 98, 102, 56, 102, 48, 49, 99, 102, 101, 97, 52, 49, 52, 49, 52, 48, 100, 101, 53, 100, 97, 101, 50, 50, 50, 51, 98, 48, 48, 51, 54, 49, 97, 51, 57, 54, 49, 55, 55, 97, 57, 99, 98, 52, 49, 48, 102, 102, 54, 49, 102, 50, 48, 48, 49, 53, 97, 100]⟩
theorem hex_abc : strBin .eql (txt (hexL abcS 32)) (ByteArray.mk #[98, 97, 55, 56, 49, 54, 98, 102, 56, 102, 48, 49, 99, 102, 101, 97, 52, 49, 52, 49, 52, 48, 100, 101, 53, 100, 97, 101, 50, 50, 50, 51, 98, 48, 48, 51, 54, 49, 97, 51, 57, 54, 49, 55, 55, 97, 57, 99, 98, 52, 49, 48, 102, 102, 54, 49, 102, 50, 48, 48, 49, 53, 97, 100]) = some (.bool true) := by kernel_rfl
set_option maxRecDepth 100000 in
set_option maxHeartbeats 10000000 in
theorem awake_ct : Fn Try.prog 11 [] [.p (.bool true)] := by
  refine Fn.of_body Try.func11 rfl ?_
  repeat (first | ((with_reducible first | refine callK_at 13 ?_ | refine callK_at 14 ?_); refine callK_p ?_; simp (maxSteps := 1000000) (disch := refine hold_ ?_; first | (simp [hex_abc, -List.getD_eq_getElem?_getD]; done) | omega) [hex_abc, -List.getD_eq_getElem?_getD]; (first | ((with_reducible refine k1_at 13 ?_); refine callK1_of (Fn.ct sum_abc Try.call13) ?_) | ((with_reducible refine k1_at 14 ?_); refine callK1_of (Fn.ct (hex_ct abcS rfl) Try.call14) ?_)); (try simp (maxSteps := 1000000) (disch := refine hold_ ?_; first | (simp [hex_abc, -List.getD_eq_getElem?_getD]; done) | omega) [hex_abc, -List.getD_eq_getElem?_getD]); try first | (with_reducible refine zZ ?_) | subst hK_) | ((first | (with_reducible first | refine zP fun K_ hK_ => ?_ | refine zQ fun K_ hK_ => ?_ | refine zT ?_ | refine zU ?_ | refine zV ?_ | refine zW ?_ | refine zX ?_ | refine zY ?_) | ((with_reducible first | refine zR ?_ ?_ fun K_ hK_ => ?_ | refine zS ?_ ?_ fun K_ hK_ => ?_); (focus kernel_rfl); (focus kernel_rfl))); first | (simp (maxSteps := 1000000) (disch := refine hold_ ?_; first | (simp [hex_abc, -List.getD_eq_getElem?_getD]; done) | omega) [hex_abc, -List.getD_eq_getElem?_getD]; try first | (with_reducible refine zZ ?_) | subst hK_) | subst hK_) | (with_reducible first | refine zA ?_ | refine zB ?_ | refine zC ?_ | refine zD ?_ | refine zE ?_ | refine zF ?_ | refine zG ?_ | refine zH ?_ | refine zI ?_ | refine zJ ?_ | refine zK ?_ | refine zL ?_ | refine zM ?_ | refine zN ?_ | refine zO ?_) | ((with_reducible refine yG ?_ ?_); (focus decide)) | ((with_reducible refine yA ?_); refine yB rfl ?_; (with_reducible first | refine yC ?_ | refine yD ?_)))
  simp (maxSteps := 1000000) (disch := refine hold_ ?_; first | (simp [-List.getD_eq_getElem?_getD]; done) | omega) [-List.getD_eq_getElem?_getD]
end Go.Av.Sha
end

section
set_option linter.unusedSimpArgs false
set_option linter.unusedVariables false
open Go Go.Av Go.Proofs
namespace Go.Av.Sha
theorem txt_list (l : List (BitVec 8)) : (txt l).data.toList = l.map fun x => UInt8.ofBitVec x := by
  unfold txt strOfNums
  simp [ub]
theorem txt_size (l : List (BitVec 8)) : (txt l).size = l.length := by
  show (txt l).data.size = _
  rw [← Array.length_toList, txt_list]; simp
theorem txt_get (l : List (BitVec 8)) (i : Nat) : (((txt l).data.toList.getD i 0).toNat : Int) = ub (l.getD i 0) := by
  rw [txt_list]
  simp only [List.getD_eq_getElem?_getD, List.getElem?_map]
  cases l[i]? <;> simp [ub]
def nib (S : List (BitVec 8)) (k i : Nat) : BitVec 8 := if i = 0 then S.getD k 0 >>> 4 else S.getD k 0 &&& 15#8
theorem hexL_get (S : List (BitVec 8)) (n : Nat) : ∀ (k i : Nat), k < n → i < 2 → (hexL S n).getD (2 * k + i) 0 = hexD (nib S k i) := by
  induction n with
  | zero => intro k i hk; omega
  | succ n ih =>
    intro k i hk hi
    rw [hexL_succ]
    have hl := hexL_len S n
    by_cases h : k < n
    · have : (hexL S n ++ [hexD (S.getD n 0 >>> 4), hexD (S.getD n 0 &&& 15#8)]).getD (2 * k + i) 0 = (hexL S n).getD (2 * k + i) 0 := by
        simp only [List.getD_eq_getElem?_getD]
        rw [List.getElem?_append_left (by omega)]
      rw [this]; exact ih k i h hi
    · have hkn : k = n := by omega
      subst hkn
      simp only [List.getD_eq_getElem?_getD]
      rw [List.getElem?_append_right (by omega), hl]
      have : i = 0 ∨ i = 1 := by omega
      rcases this with rfl | rfl
      · simp [nib]
      · rw [show 2 * k + 1 - 2 * k = 1 by omega]; simp [nib]
theorem nib_lt (S : List (BitVec 8)) (k i : Nat) : (nib S k i).toNat < 16 := by
  unfold nib; split
  · exact nib_hi _
  · exact nib_lo _
theorem nib_byte (x : BitVec 8) : ub x = 16 * ub (x >>> 4) + ub (x &&& 15#8) := by
  have key : ∀ n : Fin 256, ub (BitVec.ofFin n) = 16 * ub (BitVec.ofFin (w := 8) n >>> 4) + ub (BitVec.ofFin (w := 8) n &&& 15#8) := by
    intro n
    have h := n.isLt
    simp only [ub, BitVec.toNat_ofFin, BitVec.toNat_ushiftRight, BitVec.toNat_and, Nat.shiftRight_eq_div_pow]
    rw [show (15#8 : BitVec 8).toNat = 2 ^ 4 - 1 from rfl, Nat.and_two_pow_sub_one_eq_mod]
    omega
  exact key x.toFin
theorem hexD_cases (x : BitVec 8) (h : x.toNat < 16) : (48 ≤ ub (hexD x) ∧ ub (hexD x) ≤ 57 ∧ ub (hexD x) = ub x + 48) ∨ (97 ≤ ub (hexD x) ∧ ub (hexD x) ≤ 102 ∧ ub (hexD x) = ub x + 87) := by
  unfold hexD
  split
  · left
    have : ub (x + 48#8) = ub x + 48 := by simp [ub, BitVec.toNat_add]; omega
    rw [this]; unfold ub; omega
  · right
    have : ub (x + 87#8) = ub x + 87 := by simp [ub, BitVec.toNat_add]; omega
    rw [this]; unfold ub; omega
/-- What has been read of a byte's digits. -/
def nv (S : List (BitVec 8)) (k : Nat) : Nat → Int
  | 0 => 0
  | 1 => ub (S.getD k 0 >>> 4)
  | _ => ub (S.getD k 0)
theorem nv_succ (S : List (BitVec 8)) (k i : Nat) (hi : i < 2) : nv S k (i + 1) = 16 * nv S k i + ub (nib S k i) := by
  have : i = 0 ∨ i = 1 := by omega
  rcases this with rfl | rfl
  · simp [nv, nib]
  · have := nib_byte (S.getD k 0)
    simp only [nv, nib]; rw [this]; simp
theorem nv_bd (S : List (BitVec 8)) (k i : Nat) : 0 ≤ nv S k i ∧ nv S k i < 256 := by
  unfold nv
  split
  · omega
  · exact ub_lt _
  · exact ub_lt _
set_option maxRecDepth 100000 in
set_option maxHeartbeats 10000000 in
theorem digits_ct (S : List (BitVec 8)) (hS : S.length = 32) : Fn Try.prog 6 [.agg (bl S)] [.p (.bool true)] := by
  have hT : (txt (hexL S 32)).size = 64 := by rw [txt_size, hexL_len]
  have hG : ∀ (k i : Nat), k < 32 → i < 2 → (((txt (hexL S 32)).data.toList.getD (2 * k + i) 0).toNat : Int) = ub (hexD (nib S k i)) := by
    intro k i hk hi; rw [txt_get, hexL_get S 32 k i hk hi]
  refine Fn.of_body Try.func6 rfl ?_
  repeat (first | ((with_reducible first | refine callK_at 11 ?_ | refine callK_at 14 ?_); refine callK_p ?_; simp (maxSteps := 1000000) (disch := refine hold_ ?_; first | (simp [hT, hS, -List.getD_eq_getElem?_getD]; done) | omega) [hT, hS, -List.getD_eq_getElem?_getD]; (first | ((with_reducible refine k1_at 11 ?_); refine callK1_of (Fn.ct awake_ct Try.call11) ?_) | ((with_reducible refine k1_at 14 ?_); refine callK1_of (Fn.ct (hex_ct S hS) Try.call14) ?_)); (try simp (maxSteps := 1000000) (disch := refine hold_ ?_; first | (simp [hT, hS, -List.getD_eq_getElem?_getD]; done) | omega) [hT, hS, -List.getD_eq_getElem?_getD]); try first | (with_reducible refine zZ ?_) | subst hK_) | ((first | (with_reducible first | refine zP fun K_ hK_ => ?_ | refine zQ fun K_ hK_ => ?_ | refine zT ?_ | refine zU ?_ | refine zV ?_ | refine zW ?_ | refine zX ?_ | refine zY ?_) | ((with_reducible first | refine zR ?_ ?_ fun K_ hK_ => ?_ | refine zS ?_ ?_ fun K_ hK_ => ?_); (focus kernel_rfl); (focus kernel_rfl))); first | (simp (maxSteps := 1000000) (disch := refine hold_ ?_; first | (simp [hT, hS, -List.getD_eq_getElem?_getD]; done) | omega) [hT, hS, -List.getD_eq_getElem?_getD]; try first | (with_reducible refine zZ ?_) | subst hK_) | subst hK_) | (with_reducible first | refine zA ?_ | refine zB ?_ | refine zC ?_ | refine zD ?_ | refine zE ?_ | refine zF ?_ | refine zG ?_ | refine zH ?_ | refine zI ?_ | refine zJ ?_ | refine zK ?_ | refine zL ?_ | refine zM ?_ | refine zN ?_ | refine zO ?_) | ((with_reducible refine yG ?_ ?_); (focus decide)) | ((with_reducible refine yA ?_); refine yB rfl ?_; (with_reducible first | refine yC ?_ | refine yD ?_)))
  generalize txt (hexL S 32) = s at *
  refine AW.iter (false :: true :: false :: true :: false :: false :: false :: false :: false :: false :: false :: false :: false :: false :: false :: true :: false :: false :: false :: false :: false :: false :: false :: false :: false :: false :: false :: false :: false :: false :: false :: false :: false :: false :: false :: false :: false :: false :: false :: false :: false :: false :: false :: false :: false :: false :: false :: false :: false :: false :: false :: false :: false :: false :: false :: false :: false :: false :: false :: false :: false :: false :: []) 32 (fun k => ⟨(V.junk :: .ptr 1 0 0 :: V.junk :: .p (.str s) :: V.junk :: V.junk :: V.junk :: V.junk :: V.junk :: V.junk :: V.junk :: V.junk :: V.junk :: V.junk :: V.junk :: .p (.int .i64 k) :: V.junk :: V.junk :: V.junk :: V.junk :: V.junk :: V.junk :: V.junk :: V.junk :: V.junk :: V.junk :: V.junk :: V.junk :: V.junk :: V.junk :: V.junk :: V.junk :: V.junk :: V.junk :: V.junk :: V.junk :: V.junk :: V.junk :: V.junk :: V.junk :: V.junk :: V.junk :: V.junk :: V.junk :: V.junk :: V.junk :: V.junk :: V.junk :: V.junk :: V.junk :: V.junk :: V.junk :: V.junk :: V.junk :: V.junk :: V.junk :: V.junk :: V.junk :: V.junk :: V.junk :: V.junk :: V.junk :: []), ⟨[(1, 0, .row (bl S))], []⟩⟩) ?_ ?_
  · simp (maxSteps := 1000000) (disch := refine hold_ ?_; first | (simp [-List.getD_eq_getElem?_getD]; done) | omega) [-List.getD_eq_getElem?_getD]
  intro k hk
  have g0 : IntKind.i64.wrap ((k : Int) + 1) = k + 1 := wrap_i64 _ (by omega) (by omega)
  repeat (first | ((first | (with_reducible first | refine zP fun K_ hK_ => ?_ | refine zQ fun K_ hK_ => ?_ | refine zT ?_ | refine zU ?_ | refine zV ?_ | refine zW ?_ | refine zX ?_ | refine zY ?_) | ((with_reducible first | refine zR ?_ ?_ fun K_ hK_ => ?_ | refine zS ?_ ?_ fun K_ hK_ => ?_); (focus kernel_rfl); (focus kernel_rfl))); first | (simp (maxSteps := 1000000) (disch := refine hold_ ?_; first | (simp [-List.getD_eq_getElem?_getD]; done) | omega) [-List.getD_eq_getElem?_getD]; try first | (with_reducible refine zZ ?_) | subst hK_) | subst hK_) | (with_reducible first | refine zA ?_ | refine zB ?_ | refine zC ?_ | refine zD ?_ | refine zE ?_ | refine zF ?_ | refine zG ?_ | refine zH ?_ | refine zI ?_ | refine zJ ?_ | refine zK ?_ | refine zL ?_ | refine zM ?_ | refine zN ?_ | refine zO ?_) | ((with_reducible refine yG ?_ ?_); (focus decide)) | ((with_reducible refine yA ?_); refine yB rfl ?_; (with_reducible first | refine yC ?_ | refine yD ?_)))
  first | refine AW.condD rfl (fun hc => ?_) (fun hc => ?_) | refine AW.cond rfl (fun hc => ?_) (fun hc => ?_)
  · have hk2 : k < 32 := by omega
    repeat (first | ((first | (with_reducible first | refine zP fun K_ hK_ => ?_ | refine zQ fun K_ hK_ => ?_ | refine zT ?_ | refine zU ?_ | refine zV ?_ | refine zW ?_ | refine zX ?_ | refine zY ?_) | ((with_reducible first | refine zR ?_ ?_ fun K_ hK_ => ?_ | refine zS ?_ ?_ fun K_ hK_ => ?_); (focus kernel_rfl); (focus kernel_rfl))); first | (simp (maxSteps := 1000000) (disch := refine hold_ ?_; first | (simp [-List.getD_eq_getElem?_getD]; done) | omega) [-List.getD_eq_getElem?_getD]; try first | (with_reducible refine zZ ?_) | subst hK_) | subst hK_) | (with_reducible first | refine zA ?_ | refine zB ?_ | refine zC ?_ | refine zD ?_ | refine zE ?_ | refine zF ?_ | refine zG ?_ | refine zH ?_ | refine zI ?_ | refine zJ ?_ | refine zK ?_ | refine zL ?_ | refine zM ?_ | refine zN ?_ | refine zO ?_) | ((with_reducible refine yG ?_ ?_); (focus decide)) | ((with_reducible refine yA ?_); refine yB rfl ?_; (with_reducible first | refine yC ?_ | refine yD ?_)))
    refine AW.iter (false :: true :: false :: true :: true :: true :: false :: false :: false :: false :: false :: false :: false :: false :: false :: true :: false :: false :: true :: false :: false :: false :: false :: false :: false :: false :: false :: false :: false :: false :: false :: false :: false :: false :: false :: false :: false :: false :: false :: false :: false :: false :: false :: false :: false :: false :: false :: false :: false :: false :: false :: false :: false :: false :: false :: false :: false :: false :: false :: false :: false :: false :: []) 2 (fun i => ⟨(V.junk :: .ptr 1 0 0 :: V.junk :: .p (.str s) :: .p (.int .i64 k) :: .p (.int .i64 (nv S k i)) :: V.junk :: V.junk :: V.junk :: V.junk :: V.junk :: V.junk :: V.junk :: V.junk :: V.junk :: .p (.int .i64 k) :: V.junk :: V.junk :: .p (.int .i64 i) :: V.junk :: V.junk :: V.junk :: V.junk :: V.junk :: V.junk :: V.junk :: V.junk :: V.junk :: V.junk :: V.junk :: V.junk :: V.junk :: V.junk :: V.junk :: V.junk :: V.junk :: V.junk :: V.junk :: V.junk :: V.junk :: V.junk :: V.junk :: V.junk :: V.junk :: V.junk :: V.junk :: V.junk :: V.junk :: V.junk :: V.junk :: V.junk :: V.junk :: V.junk :: V.junk :: V.junk :: V.junk :: V.junk :: V.junk :: V.junk :: V.junk :: V.junk :: V.junk :: []), ⟨[(1, 0, .row (bl S))], []⟩⟩) ?_ ?_
    · simp (maxSteps := 1000000) (disch := refine hold_ ?_; first | (simp [nv, -List.getD_eq_getElem?_getD]; done) | omega) [nv, -List.getD_eq_getElem?_getD]
    intro i hi
    have f0 : IntKind.i64.wrap ((i : Int) + 1) = i + 1 := wrap_i64 _ (by omega) (by omega)
    have f1 : IntKind.i64.wrap (2 * (k : Int)) = 2 * (k : Int) := wrap_i64 _ (by omega) (by omega)
    have f2 : IntKind.i64.wrap (2 * (k : Int) + i) = 2 * (k : Int) + i := wrap_i64 _ (by omega) (by omega)
    have f3 : (2 * (k : Int) + i).toNat = 2 * k + i := by omega
    repeat (first | ((first | (with_reducible first | refine zP fun K_ hK_ => ?_ | refine zQ fun K_ hK_ => ?_ | refine zT ?_ | refine zU ?_ | refine zV ?_ | refine zW ?_ | refine zX ?_ | refine zY ?_) | ((with_reducible first | refine zR ?_ ?_ fun K_ hK_ => ?_ | refine zS ?_ ?_ fun K_ hK_ => ?_); (focus kernel_rfl); (focus kernel_rfl))); first | (simp (maxSteps := 1000000) (disch := refine hold_ ?_; first | (simp [-List.getD_eq_getElem?_getD]; done) | omega) [-List.getD_eq_getElem?_getD]; try first | (with_reducible refine zZ ?_) | subst hK_) | subst hK_) | (with_reducible first | refine zA ?_ | refine zB ?_ | refine zC ?_ | refine zD ?_ | refine zE ?_ | refine zF ?_ | refine zG ?_ | refine zH ?_ | refine zI ?_ | refine zJ ?_ | refine zK ?_ | refine zL ?_ | refine zM ?_ | refine zN ?_ | refine zO ?_) | ((with_reducible refine yG ?_ ?_); (focus decide)) | ((with_reducible refine yA ?_); refine yB rfl ?_; (with_reducible first | refine yC ?_ | refine yD ?_)))
    first | refine AW.condD rfl (fun hc => ?_) (fun hc => ?_) | refine AW.cond rfl (fun hc => ?_) (fun hc => ?_)
    · have hi2 : i < 2 := by omega
      have f4 := hG k i hk2 hi2
      have f5 : 2 * (k : Int) + i < 64 := by omega
      have f6 : 0 ≤ 2 * (k : Int) + i := by omega
      have f7 := nv_succ S k i hi2
      have f8 := nv_bd S k i
      have f9 := nv_bd S k (i + 1)
      have fx := (ub_lt (nib S k i)).1
      have fw : IntKind.i64.wrap (16 * nv S k i) = 16 * nv S k i := wrap_i64 _ (by omega) (by omega)
      have fv : IntKind.i64.wrap (16 * nv S k i + ub (nib S k i)) = nv S k (i + 1) := by rw [f7]; exact wrap_i64 _ (by omega) (by omega)
      have fu : IntKind.i64.wrap (ub (nib S k i)) = ub (nib S k i) := wrap_i64 _ (by omega) (by have := (ub_lt (nib S k i)).2; omega)
      rcases hexD_cases (nib S k i) (nib_lt S k i) with ⟨h1, h2, h3⟩ | ⟨h1, h2, h3⟩
      · have h4 : IntKind.u8.wrap (ub (hexD (nib S k i)) - 48) = ub (nib S k i) := by rw [wrap_u8]; omega
        generalize hcc : ub (hexD (nib S k i)) = cc at *
        generalize ub (nib S k i) = v at *
        repeat (first | ((first | (with_reducible first | refine zP fun K_ hK_ => ?_ | refine zQ fun K_ hK_ => ?_ | refine zT ?_ | refine zU ?_ | refine zV ?_ | refine zW ?_ | refine zX ?_ | refine zY ?_) | ((with_reducible first | refine zR ?_ ?_ fun K_ hK_ => ?_ | refine zS ?_ ?_ fun K_ hK_ => ?_); (focus kernel_rfl); (focus kernel_rfl))); first | (simp (maxSteps := 1000000) (disch := refine hold_ ?_; first | (simp [hT, f0, f1, f2, f3, f4, f5, f6, h1, h2, h4, fw, fv, fu, -List.getD_eq_getElem?_getD]; done) | omega) [hT, f0, f1, f2, f3, f4, f5, f6, h1, h2, h4, fw, fv, fu, -List.getD_eq_getElem?_getD]; try first | (with_reducible refine zZ ?_) | subst hK_) | subst hK_) | (with_reducible first | refine zA ?_ | refine zB ?_ | refine zC ?_ | refine zD ?_ | refine zE ?_ | refine zF ?_ | refine zG ?_ | refine zH ?_ | refine zI ?_ | refine zJ ?_ | refine zK ?_ | refine zL ?_ | refine zM ?_ | refine zN ?_ | refine zO ?_) | ((with_reducible refine yG ?_ ?_); (focus decide)) | ((with_reducible refine yA ?_); refine yB rfl ?_; (with_reducible first | refine yC ?_ | refine yD ?_)))
        exact ⟨hi2, by simp (maxSteps := 1000000) (disch := refine hold_ ?_; first | (simp [-List.getD_eq_getElem?_getD]; done) | omega) [-List.getD_eq_getElem?_getD]⟩
      · have h4 : IntKind.u8.wrap (ub (hexD (nib S k i)) - 97) = ub (nib S k i) - 10 := by rw [wrap_u8]; omega
        have h5 : ¬ ub (hexD (nib S k i)) ≤ 57 := by omega
        have h6 : 48 ≤ ub (hexD (nib S k i)) := by omega
        have ft : IntKind.i64.wrap (ub (nib S k i) - 10) = ub (nib S k i) - 10 := wrap_i64 _ (by omega) (by have := (ub_lt (nib S k i)).2; omega)
        have fs : IntKind.i64.wrap (16 * nv S k i + (ub (nib S k i) - 10)) = nv S k (i + 1) - 10 := (wrap_i64 _ (by omega) (by have := (ub_lt (nib S k i)).2; omega)).trans (by omega)
        have fr : IntKind.i64.wrap (nv S k (i + 1)) = nv S k (i + 1) := wrap_i64 _ (by omega) (by omega)
        generalize hcc : ub (hexD (nib S k i)) = cc at *
        generalize ub (nib S k i) = v at *
        repeat (first | ((first | (with_reducible first | refine zP fun K_ hK_ => ?_ | refine zQ fun K_ hK_ => ?_ | refine zT ?_ | refine zU ?_ | refine zV ?_ | refine zW ?_ | refine zX ?_ | refine zY ?_) | ((with_reducible first | refine zR ?_ ?_ fun K_ hK_ => ?_ | refine zS ?_ ?_ fun K_ hK_ => ?_); (focus kernel_rfl); (focus kernel_rfl))); first | (simp (maxSteps := 1000000) (disch := refine hold_ ?_; first | (simp [hT, f0, f1, f2, f3, f4, f5, f6, h1, h2, h4, h5, h6, fw, ft, fs, fr, -List.getD_eq_getElem?_getD]; done) | omega) [hT, f0, f1, f2, f3, f4, f5, f6, h1, h2, h4, h5, h6, fw, ft, fs, fr, -List.getD_eq_getElem?_getD]; try first | (with_reducible refine zZ ?_) | subst hK_) | subst hK_) | (with_reducible first | refine zA ?_ | refine zB ?_ | refine zC ?_ | refine zD ?_ | refine zE ?_ | refine zF ?_ | refine zG ?_ | refine zH ?_ | refine zI ?_ | refine zJ ?_ | refine zK ?_ | refine zL ?_ | refine zM ?_ | refine zN ?_ | refine zO ?_) | ((with_reducible refine yG ?_ ?_); (focus decide)) | ((with_reducible refine yA ?_); refine yB rfl ?_; (with_reducible first | refine yC ?_ | refine yD ?_)))
        exact ⟨hi2, by simp (maxSteps := 1000000) (disch := refine hold_ ?_; first | (simp [-List.getD_eq_getElem?_getD]; done) | omega) [-List.getD_eq_getElem?_getD]⟩
    · have hi2 : i = 2 := by omega
      subst hi2
      have fu : IntKind.i64.wrap (ub (S.getD k 0#8)) = ub (S.getD k 0#8) := wrap_i64 _ (by have := (ub_lt (S.getD k 0#8)).1; omega) (by have := (ub_lt (S.getD k 0#8)).2; omega)
      repeat (first | ((first | (with_reducible first | refine zP fun K_ hK_ => ?_ | refine zQ fun K_ hK_ => ?_ | refine zT ?_ | refine zU ?_ | refine zV ?_ | refine zW ?_ | refine zX ?_ | refine zY ?_) | ((with_reducible first | refine zR ?_ ?_ fun K_ hK_ => ?_ | refine zS ?_ ?_ fun K_ hK_ => ?_); (focus kernel_rfl); (focus kernel_rfl))); first | (simp (maxSteps := 1000000) (disch := refine hold_ ?_; first | (simp [hS, hk2, g0, nv, fu, -List.getD_eq_getElem?_getD]; done) | omega) [hS, hk2, g0, nv, fu, -List.getD_eq_getElem?_getD]; try first | (with_reducible refine zZ ?_) | subst hK_) | subst hK_) | (with_reducible first | refine zA ?_ | refine zB ?_ | refine zC ?_ | refine zD ?_ | refine zE ?_ | refine zF ?_ | refine zG ?_ | refine zH ?_ | refine zI ?_ | refine zJ ?_ | refine zK ?_ | refine zL ?_ | refine zM ?_ | refine zN ?_ | refine zO ?_) | ((with_reducible refine yG ?_ ?_); (focus decide)) | ((with_reducible refine yA ?_); refine yB rfl ?_; (with_reducible first | refine yC ?_ | refine yD ?_)))
      exact ⟨hk2, by simp (maxSteps := 1000000) (disch := refine hold_ ?_; first | (simp [-List.getD_eq_getElem?_getD]; done) | omega) [-List.getD_eq_getElem?_getD]⟩
  · have hk2 : k = 32 := by omega
    subst hk2
    repeat (first | ((first | (with_reducible first | refine zP fun K_ hK_ => ?_ | refine zQ fun K_ hK_ => ?_ | refine zT ?_ | refine zU ?_ | refine zV ?_ | refine zW ?_ | refine zX ?_ | refine zY ?_) | ((with_reducible first | refine zR ?_ ?_ fun K_ hK_ => ?_ | refine zS ?_ ?_ fun K_ hK_ => ?_); (focus kernel_rfl); (focus kernel_rfl))); first | (simp (maxSteps := 1000000) (disch := refine hold_ ?_; first | (simp [-List.getD_eq_getElem?_getD]; done) | omega) [-List.getD_eq_getElem?_getD]; try first | (with_reducible refine zZ ?_) | subst hK_) | subst hK_) | (with_reducible first | refine zA ?_ | refine zB ?_ | refine zC ?_ | refine zD ?_ | refine zE ?_ | refine zF ?_ | refine zG ?_ | refine zH ?_ | refine zI ?_ | refine zJ ?_ | refine zK ?_ | refine zL ?_ | refine zM ?_ | refine zN ?_ | refine zO ?_) | ((with_reducible refine yG ?_ ?_); (focus decide)) | ((with_reducible refine yA ?_); refine yB rfl ?_; (with_reducible first | refine yC ?_ | refine yD ?_)))
    simp (maxSteps := 1000000) (disch := refine hold_ ?_; first | (simp [-List.getD_eq_getElem?_getD]; done) | omega) [-List.getD_eq_getElem?_getD]
end Go.Av.Sha
end
