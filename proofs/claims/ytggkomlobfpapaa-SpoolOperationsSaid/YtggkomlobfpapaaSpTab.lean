/- The type table of the seat, printed by a program out of the translation; each row is checked against the program by the kernel. -/
import Derived.Test.YtggkomlobfpapaaProg
import Derived.Test.YtggkomlobfpapaaSLA
import Derived.Test.YtggkomlobfpapaaSLB
import Derived.Test.YtggkomlobfpapaaSLC
namespace Go.Proofs.Try
open Go.SL

def sizes : List (Option Nat) := [some 1, some 1, some 1, some 1, some 1, some 1, some 1, some 4, some 4, some 1, some 1, some 1, some 1, some 2, some 2, some 1, some 1, some 1, some 1, some 1, some 1, some 1, some 1, some 1, some 1, some 1, some 1, some 1, some 1, some 32, some 32, some 1, some 1, some 1, some 1, some 1, some 34, some 34, some 37, some 37, some 1, some 1, some 1, some 34, some 34, some 1, some 1, some 1, some 1, some 2, some 2, some 1, some 1, some 1, some 1, some 1, some 1, some 1, some 1, some 1, some 1, some 1, some 1, some 1, some 1, some 1, some 1, some 1, some 1, some 1, some 1, some 1, some 1, some 1, some 4, some 4, some 2, some 2, some 1, some 1, some 1, some 1, some 1, some 1, some 1, some 1, some 1, some 1, some 1, some 1, some 1, some 1, some 1, some 1, some 1, some 1, some 1, some 1, some 1, some 1, some 1, some 1, some 2, some 2, some 1, some 1, some 1, some 1, some 1, some 1, some 1, some 1, some 1, some 1, some 1, some 4, some 4, some 0, some 0, some 0, some 1, some 1, some 1, some 1, some 1, some 1, some 1, some 11, some 11, some 1]
def bytess : List (Option Nat) := [some 0, some 8, some 8, some 8, some 1, some 1, some 1, some 24, some 24, some 16, some 16, some 16, some 8, some 24, some 24, some 8, some 8, some 8, some 8, some 8, some 16, some 4, some 24, some 8, some 8, some 8, some 0, some 8, some 8, some 32, some 32, some 0, some 8, some 8, some 24, some 8, some 56, some 56, some 80, some 80, some 8, some 8, some 8, some 48, some 48, some 8, some 8, some 8, some 24, some 32, some 32, some 0, some 8, some 8, some 8, some 24, some 0, some 8, some 0, some 8, some 8, some 8, some 8, some 0, some 8, some 8, some 8, some 8, some 8, some 8, some 8, some 8, some 8, some 8, some 48, some 48, some 24, some 24, some 8, some 8, some 8, some 8, some 24, some 8, some 0, some 0, some 8, some 8, some 8, some 8, some 8, some 8, some 8, some 0, some 8, some 24, some 0, some 8, some 8, some 8, some 8, some 8, some 32, some 32, some 8, some 8, some 8, some 8, some 24, some 8, some 8, some 8, some 8, some 8, some 8, some 40, some 40, some 0, some 0, some 0, some 4, some 1, some 1, some 8, some 8, some 4, some 4, some 48, some 48, some 8]
def kinds : List (Option Bool) := [some false, some false, some false, some false, some false, some false, some false, some true, some true, some false, some false, some false, some false, some true, some true, some false, some false, some false, some true, some true, some false, some false, some false, some false, some false, some false, some false, some false, some false, some true, some true, some false, some false, some false, some false, some false, some true, some true, some true, some true, some false, some false, some false, some true, some true, some false, some false, some false, some false, some true, some true, some false, some false, some false, some false, some false, some false, some false, some false, some false, some false, some false, some false, some false, some false, some false, some false, some false, some false, some false, some false, some false, some false, some false, some true, some true, some true, some true, some false, some false, some false, some false, some false, some false, some false, some false, some false, some false, some false, some false, some false, some false, some false, some false, some false, some false, some false, some false, some false, some false, some false, some false, some true, some true, some false, some false, some false, some false, some false, some false, some false, some false, some false, some false, some false, some true, some true, some true, some true, some true, some false, some false, some false, some false, some false, some false, some false, some true, some true, some false]
def slices : List (Option TypeId) := [none, none, none, none, none, none, none, none, none, none, none, none, none, none, none, none, none, none, none, none, none, none, some 5, none, none, none, none, none, none, none, none, none, none, none, some 39, none, none, none, none, none, none, none, none, none, none, none, none, none, some 37, none, none, none, none, none, none, some 30, none, none, none, none, none, none, none, none, none, none, none, none, none, none, none, none, none, none, none, none, none, none, none, none, none, none, some 44, none, none, none, none, none, none, none, none, none, none, none, none, some 29, none, none, none, none, none, none, none, none, none, none, none, none, some 4, none, none, none, none, none, none, none, none, none, none, none, none, none, none, none, none, none, none, none, none, none]
def zeros : List (Option (List Value)) := [some ([Value.tuple #[]]),
  some ([Value.nilFunc]),
  some ([Value.int .i64 0]),
  some ([Value.int .i64 0]),
  some ([Value.bool false]),
  some ([Value.int .u8 0]),
  some ([Value.int .u8 0]),
  some ([Value.int .i64 0, Value.int .i64 0, Value.bool false, Value.int .u8 0]),
  some ([Value.int .i64 0, Value.int .i64 0, Value.bool false, Value.int .u8 0]),
  some ([Value.string .empty]),
  some ([Value.string .empty]),
  some ([Value.string .empty]),
  some ([Value.int .u64 0]),
  some ([Value.string .empty, Value.int .u64 0]),
  some ([Value.string .empty, Value.int .u64 0]),
  some ([Value.pointer none]),
  some ([Value.pointer none]),
  some ([Value.pointer none]),
  some ([Value.pointer none]),
  some ([Value.pointer none]),
  some ([Value.nilIface]),
  some ([Value.int .i32 0]),
  some ([Value.slice none 0 0]),
  some ([Value.nilFunc]),
  some ([Value.pointer none]),
  some ([Value.int .i64 0]),
  some ([Value.tuple #[Value.pointer none, Value.int .i64 0]]),
  some ([Value.nilFunc]),
  some ([Value.nilFunc]),
  some (List.replicate 32 (Value.int .u8 0)),
  some (List.replicate 32 (Value.int .u8 0)),
  some ([Value.tuple #[Value.string .empty, Value.int .i64 0]]),
  some ([Value.nilFunc]),
  some ([Value.nilFunc]),
  some ([Value.slice none 0 0]),
  some ([Value.nilFunc]),
  some (List.replicate 32 (Value.int .u8 0) ++ [Value.string .empty] ++ [Value.int .i64 0]),
  some (List.replicate 32 (Value.int .u8 0) ++ [Value.string .empty] ++ [Value.int .i64 0]),
  some ([Value.int .i64 0] ++ List.replicate 32 (Value.int .u8 0) ++ [Value.string .empty] ++ [Value.int .i64 0, Value.int .i64 0, Value.int .i64 0]),
  some ([Value.int .i64 0] ++ List.replicate 32 (Value.int .u8 0) ++ [Value.string .empty] ++ [Value.int .i64 0, Value.int .i64 0, Value.int .i64 0]),
  some ([Value.nilFunc]),
  some ([Value.nilFunc]),
  some ([Value.nilFunc]),
  some (List.replicate 32 (Value.int .u8 0) ++ [Value.int .i64 0, Value.int .i64 0]),
  some (List.replicate 32 (Value.int .u8 0) ++ [Value.int .i64 0, Value.int .i64 0]),
  some ([Value.nilFunc]),
  some ([Value.nilFunc]),
  some ([Value.nilFunc]),
  some ([Value.slice none 0 0]),
  some ([Value.int .i64 0, Value.slice none 0 0]),
  some ([Value.int .i64 0, Value.slice none 0 0]),
  some ([Value.tuple #[Value.pointer none, Value.agg ([Value.int .i64 0, Value.slice none 0 0]).toArray, Value.bool false]]),
  some ([Value.nilFunc]),
  some ([Value.nilFunc]),
  some ([Value.nilFunc]),
  some ([Value.slice none 0 0]),
  some ([Value.tuple #[Value.slice none 0 0, Value.int .i64 0]]),
  some ([Value.nilFunc]),
  some ([Value.tuple #[Value.agg (List.replicate 32 (Value.int .u8 0) ++ [Value.int .i64 0, Value.int .i64 0]).toArray, Value.bool false]]),
  some ([Value.nilFunc]),
  some ([Value.nilFunc]),
  some ([Value.nilFunc]),
  some ([Value.nilFunc]),
  some ([Value.tuple #[Value.agg ([Value.int .i64 0, Value.slice none 0 0]).toArray, Value.bool false]]),
  some ([Value.nilFunc]),
  some ([Value.nilFunc]),
  some ([Value.nilFunc]),
  some ([Value.nilFunc]),
  some ([Value.nilFunc]),
  some ([Value.nilFunc]),
  some ([Value.nilFunc]),
  some ([Value.nilFunc]),
  some ([Value.nilFunc]),
  some ([Value.map none]),
  some ([Value.int .i64 0, Value.int .i64 0, Value.map none, Value.slice none 0 0]),
  some ([Value.int .i64 0, Value.int .i64 0, Value.map none, Value.slice none 0 0]),
  some ([Value.int .i64 0, Value.string .empty]),
  some ([Value.int .i64 0, Value.string .empty]),
  some ([Value.nilFunc]),
  some ([Value.nilFunc]),
  some ([Value.nilFunc]),
  some ([Value.nilFunc]),
  some ([Value.slice none 0 0]),
  some ([Value.nilFunc]),
  some ([Value.tuple #[Value.agg ([Value.int .i64 0, Value.string .empty]).toArray, Value.bool false]]),
  some ([Value.tuple #[Value.agg ([Value.int .i64 0, Value.slice none 0 0]).toArray, Value.int .i64 0]]),
  some ([Value.nilFunc]),
  some ([Value.nilFunc]),
  some ([Value.nilFunc]),
  some ([Value.nilFunc]),
  some ([Value.nilFunc]),
  some ([Value.nilFunc]),
  some ([Value.nilFunc]),
  some ([Value.tuple #[Value.string .empty, Value.int .i64 0]]),
  some ([Value.nilFunc]),
  some ([Value.slice none 0 0]),
  some ([Value.tuple #[Value.slice none 0 0, Value.int .i64 0]]),
  some ([Value.nilFunc]),
  some ([Value.nilFunc]),
  some ([Value.nilFunc]),
  some ([Value.nilFunc]),
  some ([Value.pointer none]),
  some ([Value.slice none 0 0, Value.int .i64 0]),
  some ([Value.slice none 0 0, Value.int .i64 0]),
  some ([Value.nilFunc]),
  some ([Value.nilFunc]),
  some ([Value.nilFunc]),
  some ([Value.nilFunc]),
  some ([Value.slice none 0 0]),
  some ([Value.nilFunc]),
  some ([Value.int .u64 0]),
  some ([Value.int .u64 0]),
  some ([Value.nilFunc]),
  some ([Value.nilFunc]),
  some ([Value.nilFunc]),
  some ([Value.pointer none, Value.pointer none, Value.pointer none, Value.string .empty]),
  some ([Value.pointer none, Value.pointer none, Value.pointer none, Value.string .empty]),
  some ([]),
  some ([]),
  some ([]),
  some ([Value.int .u32 0]),
  some ([Value.int .u8 0]),
  some ([Value.int .u8 0]),
  some ([Value.nilFunc]),
  some ([Value.pointer none]),
  some ([Value.int .i32 0]),
  some ([Value.int .i32 0]),
  some ([Value.int .u64 0, Value.int .u64 0, Value.int .u32 0, Value.int .u8 0, Value.int .u8 0, Value.int .u8 0, Value.int .u8 0, Value.nilFunc, Value.pointer none, Value.int .i32 0, Value.int .i32 0]),
  some ([Value.int .u64 0, Value.int .u64 0, Value.int .u32 0, Value.int .u8 0, Value.int .u8 0, Value.int .u8 0, Value.int .u8 0, Value.nilFunc, Value.pointer none, Value.int .i32 0, Value.int .i32 0]),
  some ([Value.pointer none])]
theorem sizes_eq : (List.range 130).map (sizeB Try.prog) = sizes := by kernel_rfl
theorem bytess_eq : (List.range 130).map (bytesB Try.prog) = bytess := by kernel_rfl
theorem kinds_eq : (List.range 130).map (kindB Try.prog) = kinds := by kernel_rfl
theorem slices_eq : (List.range 130).map (sliceB Try.prog) = slices := by kernel_rfl
theorem zeros_eq : (List.range 130).map (zeroB Try.prog) = zeros := by kernel_rfl
theorem szT {t n : Nat} (h : sizes[t]? = some (some n)) : sizeB Try.prog t = some n := tab_get sizes_eq h
theorem byT {t n : Nat} (h : bytess[t]? = some (some n)) : bytesB Try.prog t = some n := tab_get bytess_eq h
theorem kdT {t : Nat} {b : Bool} (h : kinds[t]? = some (some b)) : kindB Try.prog t = some b := tab_get kinds_eq h
theorem slT {t e : Nat} (h : slices[t]? = some (some e)) : sliceB Try.prog t = some e := tab_get slices_eq h
theorem zeT {t : Nat} {z : List Value} (h : zeros[t]? = some (some z)) : zeroB Try.prog t = some z := tab_get zeros_eq h
def flds : List (List (Option Nat)) := [[], [], [], [], [], [], [], [some 0, some 1, some 2, some 3, none, none, none, none, none, none, none], [some 0, some 1, some 2, some 3, none, none, none, none, none, none, none], [], [], [], [], [some 0, some 1, none, none, none, none, none, none, none, none, none], [some 0, some 1, none, none, none, none, none, none, none, none, none], [], [], [], [some 0, none, none, none, none, none, none, none, none, none, none], [some 0, none, none, none, none, none, none, none, none, none, none], [], [], [], [], [], [], [], [], [], [], [], [], [], [], [], [], [some 0, some 32, some 33, none, none, none, none, none, none, none, none], [some 0, some 32, some 33, none, none, none, none, none, none, none, none], [some 0, some 1, some 35, some 36, none, none, none, none, none, none, none], [some 0, some 1, some 35, some 36, none, none, none, none, none, none, none], [], [], [], [some 0, some 32, some 33, none, none, none, none, none, none, none, none], [some 0, some 32, some 33, none, none, none, none, none, none, none, none], [], [], [], [], [some 0, some 1, none, none, none, none, none, none, none, none, none], [some 0, some 1, none, none, none, none, none, none, none, none, none], [], [], [], [], [], [], [], [], [], [], [], [], [], [], [], [], [], [], [], [], [], [], [], [some 0, some 1, some 2, some 3, none, none, none, none, none, none, none], [some 0, some 1, some 2, some 3, none, none, none, none, none, none, none], [some 0, some 1, none, none, none, none, none, none, none, none, none], [some 0, some 1, none, none, none, none, none, none, none, none, none], [], [], [], [], [], [], [], [], [], [], [], [], [], [], [], [], [], [], [], [], [], [], [], [], [some 0, some 1, none, none, none, none, none, none, none, none, none], [some 0, some 1, none, none, none, none, none, none, none, none, none], [], [], [], [], [], [], [], [], [], [], [], [some 0, some 1, some 2, some 3, none, none, none, none, none, none, none], [some 0, some 1, some 2, some 3, none, none, none, none, none, none, none], [], [none, none, none, none, none, none, none, none, none, none, none], [none, none, none, none, none, none, none, none, none, none, none], [], [], [], [], [], [], [], [some 0, some 1, some 2, some 3, some 4, some 5, some 6, some 7, some 8, some 9, some 10], [some 0, some 1, some 2, some 3, some 4, some 5, some 6, some 7, some 8, some 9, some 10], []]
theorem flds_eq : (List.range 130).map (fun s => match Try.prog.underlying s with | some (.struct _) => (List.range 11).map (fieldB Try.prog s) | _ => []) = flds := by kernel_rfl
theorem flT {s f off : Nat} (h : (flds[s]?).bind (·[f]?) = some (some off)) : fieldB Try.prog s f = some off := by
  obtain ⟨r, hr, hf⟩ := Option.bind_eq_some_iff.1 h
  have := tab_get flds_eq hr
  split at this
  · subst this
    exact tab_get rfl hf
  · subst this; cases hf
def arrs : List (Option (Nat × TypeId)) := [none, none, none, none, none, none, none, none, none, none, none, none, none, none, none, none, none, none, none, none, none, none, none, none, none, none, none, none, none, some (32, 5), some (32, 5), none, none, none, none, none, none, none, none, none, none, none, none, none, none, none, none, none, none, none, none, none, none, none, none, none, none, none, none, none, none, none, none, none, none, none, none, none, none, none, none, none, none, none, none, none, none, none, none, none, none, none, none, none, none, none, none, none, none, none, none, none, none, none, none, none, none, none, none, none, none, none, none, none, none, none, none, none, none, none, none, none, none, none, none, none, none, some (0, 16), none, none, none, none, none, none, none, none, none, none, none, none]
theorem arrs_eq : (List.range 130).map (arrayB Try.prog) = arrs := by kernel_rfl
theorem arT {t n e : Nat} (h : arrs[t]? = some (some (n, e))) : arrayB Try.prog t = some (n, e) := tab_get arrs_eq h
def ints : List (Option IntKind) := [none, none, some .i64, some .i64, none, some .u8, some .u8, none, none, none, none, none, some .u64, none, none, none, none, none, none, none, none, some .i32, none, none, none, some .i64, none, none, none, none, none, none, none, none, none, none, none, none, none, none, none, none, none, none, none, none, none, none, none, none, none, none, none, none, none, none, none, none, none, none, none, none, none, none, none, none, none, none, none, none, none, none, none, none, none, none, none, none, none, none, none, none, none, none, none, none, none, none, none, none, none, none, none, none, none, none, none, none, none, none, none, none, none, none, none, none, none, none, none, none, some .u64, some .u64, none, none, none, none, none, none, none, none, some .u32, some .u8, some .u8, none, none, some .i32, some .i32, none, none, none]
theorem ints_eq : (List.range 130).map (intB Try.prog) = ints := by kernel_rfl
theorem inT {t : Nat} {k : IntKind} (h : ints[t]? = some (some k)) : intB Try.prog t = some k := tab_get ints_eq h
def bodies : List Bool := [false, false, true, true, true, true, true, true, true, true, true, true, true, true, true, true, true, true, true, true, true, true, true, true, true, true, true, true, true, true, true, true, true, true, true, true, true, true, true, true, true, true, true, true, true, true, true, true, true, true, true, true, true, true, true, true, true, true, true, true, true, true, false, false, false, false, false, false, false, false, false, false, false, false, false, false, false, false]
theorem bodies_eq : (List.range 78).map (callB Try.prog) = bodies := by kernel_rfl
theorem cbT {f : Nat} (h : bodies[f]? = some true) : callB Try.prog f = true := tab_get bodies_eq h
def uns : List (Option TypeDesc) := [none, none, some (.int .i64), some (.int .i64), some .bool, some (.int .u8), some (.int .u8), none, none, some .string, some .string, some .string, some (.int .u64), none, none, some (.pointer 116), some (.pointer 119), some (.pointer 128), none, none, none, some (.int .i32), some (.slice 5), none, some (.pointer 75), some (.int .i64), none, none, none, some (.array 32 5), some (.array 32 5), none, none, none, some (.slice 39), none, none, none, none, none, none, none, none, none, none, none, none, none, some (.slice 37), none, none, none, none, none, none, some (.slice 30), none, none, none, none, none, none, none, none, none, none, none, none, none, none, none, none, none, some (.map 30 77), none, none, none, none, none, none, none, none, some (.slice 44), none, none, none, none, none, none, none, none, none, none, none, none, some (.slice 29), none, none, none, none, none, some (.pointer 103), none, none, none, none, none, none, some (.slice 4), none, some (.int .u64), some (.int .u64), none, none, none, none, none, some (.array 0 16), none, none, some (.int .u32), some (.int .u8), some (.int .u8), none, some (.pointer 5), some (.int .i32), some (.int .i32), none, none, none]
theorem uns_eq : (List.range 130).map (simB Try.prog) = uns := by kernel_rfl
theorem unT {t : Nat} {d : TypeDesc} (h : uns[t]? = some (some d)) : Try.prog.underlying t = some d := simB_und (tab_get uns_eq h)
def pls : List (Option (List (Nat × Nat))) := [none, none, none, none, none, none, none, some [(0, 1), (1, 1), (2, 1), (3, 1)], some [(0, 1), (1, 1), (2, 1), (3, 1)], none, none, none, none, some [(0, 1), (1, 1)], some [(0, 1), (1, 1)], none, none, none, some [(0, 1)], some [(0, 1)], none, none, none, none, none, none, none, none, none, none, none, none, none, none, none, none, some [(0, 32), (32, 1), (33, 1)], some [(0, 32), (32, 1), (33, 1)], some [(0, 1), (1, 34), (35, 1), (36, 1)], some [(0, 1), (1, 34), (35, 1), (36, 1)], none, none, none, some [(0, 32), (32, 1), (33, 1)], some [(0, 32), (32, 1), (33, 1)], none, none, none, none, some [(0, 1), (1, 1)], some [(0, 1), (1, 1)], none, none, none, none, none, none, none, none, none, none, none, none, none, none, none, none, none, none, none, none, none, none, none, some [(0, 1), (1, 1), (2, 1), (3, 1)], some [(0, 1), (1, 1), (2, 1), (3, 1)], some [(0, 1), (1, 1)], some [(0, 1), (1, 1)], none, none, none, none, none, none, none, none, none, none, none, none, none, none, none, none, none, none, none, none, none, none, none, none, some [(0, 1), (1, 1)], some [(0, 1), (1, 1)], none, none, none, none, none, none, none, none, none, none, none, some [(0, 1), (1, 1), (2, 1), (3, 1)], some [(0, 1), (1, 1), (2, 1), (3, 1)], none, some [(0, 0)], some [(0, 0)], none, none, none, none, none, none, none, some [(0, 1), (1, 1), (2, 1), (3, 1), (4, 1), (5, 1), (6, 1), (7, 1), (8, 1), (9, 1), (10, 1)], some [(0, 1), (1, 1), (2, 1), (3, 1), (4, 1), (5, 1), (6, 1), (7, 1), (8, 1), (9, 1), (10, 1)], none]
theorem pls_eq : (List.range 130).map (placesB Try.prog) = pls := by kernel_rfl
theorem plT {t : Nat} {d : List (Nat × Nat)} (h : pls[t]? = some (some d)) : placesB Try.prog t = some d := tab_get pls_eq h
theorem mixed : Try.prog.follows .mixedOrders = true := by kernel_rfl
end Go.Proofs.Try
