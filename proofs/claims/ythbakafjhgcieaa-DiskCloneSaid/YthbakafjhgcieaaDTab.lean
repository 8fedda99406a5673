/- The type table of the seat, printed by a program out of the translation; each row is checked against the program by the kernel. -/
import Derived.Test.YthbakafjhgcieaaProg
import Derived.Test.YthbakafjhgcieaaSLMore2
namespace Go.Proofs.Try
open Go.SL

def sizes : List (Option Nat) := [some 1, some 1, some 1, some 1, some 1, some 1, some 1, some 4, some 4, some 1, some 1, some 1, some 1, some 2, some 2, some 1, some 1, some 1, some 1, some 1, some 1, some 1, some 1, some 1, some 1, some 1, some 1, some 1, some 1, some 1, some 1, some 1, some 1, some 1, some 1, some 1, some 1, some 1, some 1, some 1, some 1, some 1, some 1, some 1, some 5, some 5, some 1, some 1, some 1, some 2, some 2, some 1, some 1, some 1, some 1, some 4, some 4, some 1, some 1, some 6, some 6, some 1, some 1, some 1, some 1, some 1, some 1, some 1, some 1, some 1, some 7, some 7, some 256, some 256, some 257, some 257, some 1, some 1, some 1, some 1, some 1, some 3, some 1, some 1, some 1, some 2, some 1, some 1, some 1, some 1, some 1, some 1, some 1, some 1, some 1, some 1, some 1, some 1, some 1, some 1, some 1, some 1, some 1, some 1, some 1, some 4, some 4, some 0, some 0, some 0, some 1, some 1, some 1, some 1, some 1, some 1, some 1, some 11, some 11, some 1]
def bytess : List (Option Nat) := [some 0, some 8, some 8, some 8, some 1, some 1, some 1, some 24, some 24, some 16, some 16, some 16, some 8, some 24, some 24, some 8, some 8, some 8, some 8, some 8, some 16, some 4, some 8, some 8, some 8, some 0, some 8, some 8, some 24, some 8, some 24, some 0, some 8, some 8, some 24, some 8, some 8, some 8, some 8, some 8, some 24, some 8, some 24, some 24, some 72, some 72, some 0, some 8, some 8, some 32, some 32, some 8, some 8, some 8, some 8, some 80, some 80, some 0, some 8, some 56, some 56, some 0, some 8, some 8, some 8, some 8, some 8, some 8, some 8, some 24, some 72, some 72, some 256, some 256, some 264, some 264, some 8, some 8, some 8, some 8, some 8, some 24, some 8, some 8, some 8, some 32, some 8, some 8, some 8, some 0, some 8, some 8, some 8, some 8, some 8, some 8, some 8, some 8, some 8, some 8, some 8, some 8, some 0, some 8, some 8, some 40, some 40, some 0, some 0, some 0, some 4, some 1, some 1, some 8, some 8, some 4, some 4, some 48, some 48, some 8]
def kinds : List (Option Bool) := [some false, some false, some false, some false, some false, some false, some false, some true, some true, some false, some false, some false, some false, some true, some true, some false, some false, some false, some true, some true, some false, some false, some false, some false, some false, some false, some false, some false, some false, some false, some false, some false, some false, some false, some false, some false, some false, some false, some false, some false, some false, some false, some false, some false, some true, some true, some false, some false, some false, some true, some true, some false, some false, some false, some false, some true, some true, some false, some false, some true, some true, some false, some false, some false, some false, some false, some false, some false, some false, some false, some true, some true, some true, some true, some true, some true, some false, some false, some false, some false, some false, some true, some false, some false, some false, some true, some false, some false, some false, some false, some false, some false, some false, some false, some false, some false, some false, some false, some false, some false, some false, some false, some false, some false, some false, some true, some true, some true, some true, some true, some false, some false, some false, some false, some false, some false, some false, some true, some true, some false]
def slices : List (Option TypeId) := [none, none, none, none, none, none, none, none, none, none, none, none, none, none, none, none, none, none, none, none, none, none, none, none, none, none, none, none, some 50, none, some 5, none, none, none, some 4, none, none, none, none, none, some 60, none, some 30, some 85, none, none, none, none, none, none, none, none, none, none, none, none, none, none, none, none, none, none, none, none, none, none, none, none, none, some 75, none, none, none, none, none, none, none, none, none, none, none, none, none, none, none, none, none, none, none, none, none, none, none, none, none, none, none, none, none, none, none, none, none, none, none, none, none, none, none, none, none, none, none, none, none, none, none, none, none, none]
def zeros : List (Option (List Value)) := [some ([.tuple #[]]),
  some ([.nilFunc]),
  some ([.int .i64 0]),
  some ([.int .i64 0]),
  some ([.bool false]),
  some ([.int .u8 0]),
  some ([.int .u8 0]),
  some ([.int .i64 0, .int .i64 0, .bool false, .int .u8 0]),
  some ([.int .i64 0, .int .i64 0, .bool false, .int .u8 0]),
  some ([.string .empty]),
  some ([.string .empty]),
  some ([.string .empty]),
  some ([.int .u64 0]),
  some ([.string .empty, .int .u64 0]),
  some ([.string .empty, .int .u64 0]),
  some ([.pointer none]),
  some ([.pointer none]),
  some ([.pointer none]),
  some ([.pointer none]),
  some ([.pointer none]),
  some ([.nilIface]),
  some ([.int .i32 0]),
  some ([.nilFunc]),
  some ([.pointer none]),
  some ([.int .i64 0]),
  some ([.tuple #[.pointer none, .int .i64 0]]),
  some ([.nilFunc]),
  some ([.nilFunc]),
  some ([.slice none 0 0]),
  some ([.nilFunc]),
  some ([.slice none 0 0]),
  some ([.tuple #[.slice none 0 0, .int .i64 0]]),
  some ([.nilFunc]),
  some ([.nilFunc]),
  some ([.slice none 0 0]),
  some ([.nilFunc]),
  some ([.nilFunc]),
  some ([.nilFunc]),
  some ([.nilFunc]),
  some ([.nilFunc]),
  some ([.slice none 0 0]),
  some ([.nilFunc]),
  some ([.slice none 0 0]),
  some ([.slice none 0 0]),
  some ([.slice none 0 0, .slice none 0 0, .int .i64 0, .bool false, .int .i64 0]),
  some ([.slice none 0 0, .slice none 0 0, .int .i64 0, .bool false, .int .i64 0]),
  some ([.tuple #[.pointer none, .agg ([.slice none 0 0, .slice none 0 0, .int .i64 0, .bool false, .int .i64 0]).toArray, .bool false]]),
  some ([.nilFunc]),
  some ([.nilFunc]),
  some ([.int .i64 0, .slice none 0 0]),
  some ([.int .i64 0, .slice none 0 0]),
  some ([.nilFunc]),
  some ([.nilFunc]),
  some ([.nilFunc]),
  some ([.nilFunc]),
  some ([.int .u8 0, .slice none 0 0, .slice none 0 0, .slice none 0 0]),
  some ([.int .u8 0, .slice none 0 0, .slice none 0 0, .slice none 0 0]),
  some ([.tuple #[.agg ([.slice none 0 0, .slice none 0 0, .int .i64 0, .bool false, .int .i64 0]).toArray, .int .i64 0]]),
  some ([.nilFunc]),
  some ([.int .i64 0, .int .i64 0, .int .i64 0, .int .u8 0, .int .u8 0, .slice none 0 0]),
  some ([.int .i64 0, .int .i64 0, .int .i64 0, .int .u8 0, .int .u8 0, .slice none 0 0]),
  some ([.tuple #[.agg ([.slice none 0 0, .slice none 0 0, .int .i64 0, .bool false, .int .i64 0]).toArray, .bool false]]),
  some ([.nilFunc]),
  some ([.nilFunc]),
  some ([.nilFunc]),
  some ([.nilFunc]),
  some ([.nilFunc]),
  some ([.nilFunc]),
  some ([.map none]),
  some ([.slice none 0 0]),
  some ([.int .i64 0, .map none, .slice none 0 0, .int .i64 0, .bool false, .int .i64 0, .bool false]),
  some ([.int .i64 0, .map none, .slice none 0 0, .int .i64 0, .bool false, .int .i64 0, .bool false]),
  some (List.replicate 256 (.int .u8 0)),
  some (List.replicate 256 (.int .u8 0)),
  some ([.int .i64 0] ++ List.replicate 256 (.int .u8 0)),
  some ([.int .i64 0] ++ List.replicate 256 (.int .u8 0)),
  some ([.nilFunc]),
  some ([.nilFunc]),
  some ([.nilFunc]),
  some ([.nilFunc]),
  some ([.nilFunc]),
  some ([.nilFunc, .nilFunc, .nilFunc]),
  some ([.nilFunc]),
  some ([.nilFunc]),
  some ([.nilFunc]),
  some ([.int .i64 0, .slice none 0 0]),
  some ([.nilFunc]),
  some ([.nilFunc]),
  some ([.nilFunc]),
  some ([.tuple #[.slice none 0 0, .int .i64 0]]),
  some ([.nilFunc]),
  some ([.nilFunc]),
  some ([.nilFunc]),
  some ([.nilFunc]),
  some ([.nilFunc]),
  some ([.nilFunc]),
  some ([.nilFunc]),
  some ([.nilFunc]),
  some ([.nilFunc]),
  some ([.nilFunc]),
  some ([.nilFunc]),
  some ([.nilFunc]),
  some ([.tuple #[.agg (List.replicate 256 (.int .u8 0)).toArray, .bool false]]),
  some ([.nilFunc]),
  some ([.nilFunc]),
  some ([.pointer none, .pointer none, .pointer none, .string .empty]),
  some ([.pointer none, .pointer none, .pointer none, .string .empty]),
  some ([]),
  some ([]),
  some ([]),
  some ([.int .u32 0]),
  some ([.int .u8 0]),
  some ([.int .u8 0]),
  some ([.nilFunc]),
  some ([.pointer none]),
  some ([.int .i32 0]),
  some ([.int .i32 0]),
  some ([.int .u64 0, .int .u64 0, .int .u32 0, .int .u8 0, .int .u8 0, .int .u8 0, .int .u8 0, .nilFunc, .pointer none, .int .i32 0, .int .i32 0]),
  some ([.int .u64 0, .int .u64 0, .int .u32 0, .int .u8 0, .int .u8 0, .int .u8 0, .int .u8 0, .nilFunc, .pointer none, .int .i32 0, .int .i32 0]),
  some ([.pointer none])]
theorem sizes_eq : (List.range 120).map (sizeB Try.prog) = sizes := by kernel_rfl
theorem bytess_eq : (List.range 120).map (bytesB Try.prog) = bytess := by kernel_rfl
theorem kinds_eq : (List.range 120).map (kindB Try.prog) = kinds := by kernel_rfl
theorem slices_eq : (List.range 120).map (sliceB Try.prog) = slices := by kernel_rfl
theorem zeros_eq : (List.range 120).map (zeroB Try.prog) = zeros := by kernel_rfl
theorem szT {t n : Nat} (h : sizes[t]? = some (some n)) : sizeB Try.prog t = some n := tab_get sizes_eq h
theorem byT {t n : Nat} (h : bytess[t]? = some (some n)) : bytesB Try.prog t = some n := tab_get bytess_eq h
theorem kdT {t : Nat} {b : Bool} (h : kinds[t]? = some (some b)) : kindB Try.prog t = some b := tab_get kinds_eq h
theorem slT {t e : Nat} (h : slices[t]? = some (some e)) : sliceB Try.prog t = some e := tab_get slices_eq h
theorem zeT {t : Nat} {z : List Value} (h : zeros[t]? = some (some z)) : zeroB Try.prog t = some z := tab_get zeros_eq h
def flds : List (List (Option Nat)) := [[], [], [], [], [], [], [], [some 0, some 1, some 2, some 3, none, none, none, none, none, none, none], [some 0, some 1, some 2, some 3, none, none, none, none, none, none, none], [], [], [], [], [some 0, some 1, none, none, none, none, none, none, none, none, none], [some 0, some 1, none, none, none, none, none, none, none, none, none], [], [], [], [some 0, none, none, none, none, none, none, none, none, none, none], [some 0, none, none, none, none, none, none, none, none, none, none], [], [], [], [], [], [], [], [], [], [], [], [], [], [], [], [], [], [], [], [], [], [], [], [], [some 0, some 1, some 2, some 3, some 4, none, none, none, none, none, none], [some 0, some 1, some 2, some 3, some 4, none, none, none, none, none, none], [], [], [], [some 0, some 1, none, none, none, none, none, none, none, none, none], [some 0, some 1, none, none, none, none, none, none, none, none, none], [], [], [], [], [some 0, some 1, some 2, some 3, none, none, none, none, none, none, none], [some 0, some 1, some 2, some 3, none, none, none, none, none, none, none], [], [], [some 0, some 1, some 2, some 3, some 4, some 5, none, none, none, none, none], [some 0, some 1, some 2, some 3, some 4, some 5, none, none, none, none, none], [], [], [], [], [], [], [], [], [], [some 0, some 1, some 2, some 3, some 4, some 5, some 6, none, none, none, none], [some 0, some 1, some 2, some 3, some 4, some 5, some 6, none, none, none, none], [], [], [some 0, some 1, none, none, none, none, none, none, none, none, none], [some 0, some 1, none, none, none, none, none, none, none, none, none], [], [], [], [], [], [], [], [], [], [some 0, some 1, none, none, none, none, none, none, none, none, none], [], [], [], [], [], [], [], [], [], [], [], [], [], [], [], [], [], [], [], [some 0, some 1, some 2, some 3, none, none, none, none, none, none, none], [some 0, some 1, some 2, some 3, none, none, none, none, none, none, none], [], [none, none, none, none, none, none, none, none, none, none, none], [none, none, none, none, none, none, none, none, none, none, none], [], [], [], [], [], [], [], [some 0, some 1, some 2, some 3, some 4, some 5, some 6, some 7, some 8, some 9, some 10], [some 0, some 1, some 2, some 3, some 4, some 5, some 6, some 7, some 8, some 9, some 10], []]
theorem flds_eq : (List.range 120).map (fun s => match Try.prog.underlying s with | some (.struct _) => (List.range 11).map (fieldB Try.prog s) | _ => []) = flds := by kernel_rfl
theorem flT {s f off : Nat} (h : (flds[s]?).bind (·[f]?) = some (some off)) : fieldB Try.prog s f = some off := by
  obtain ⟨r, hr, hf⟩ := Option.bind_eq_some_iff.1 h
  have := tab_get flds_eq hr
  split at this
  · subst this
    exact tab_get rfl hf
  · subst this; cases hf
def arrs : List (Option (Nat × TypeId)) := [none, none, none, none, none, none, none, none, none, none, none, none, none, none, none, none, none, none, none, none, none, none, none, none, none, none, none, none, none, none, none, none, none, none, none, none, none, none, none, none, none, none, none, none, none, none, none, none, none, none, none, none, none, none, none, none, none, none, none, none, none, none, none, none, none, none, none, none, none, none, none, none, some (256, 5), some (256, 5), none, none, none, none, none, none, none, some (3, 80), none, none, none, none, none, none, none, none, none, none, none, none, none, none, none, none, none, none, none, none, none, none, none, none, none, some (0, 16), none, none, none, none, none, none, none, none, none, none, none, none]
theorem arrs_eq : (List.range 120).map (arrayB Try.prog) = arrs := by kernel_rfl
theorem arT {t n e : Nat} (h : arrs[t]? = some (some (n, e))) : arrayB Try.prog t = some (n, e) := tab_get arrs_eq h
def ints : List (Option IntKind) := [none, none, some .i64, some .i64, none, some .u8, some .u8, none, none, none, none, none, some .u64, none, none, none, none, none, none, none, none, some .i32, none, none, some .i64, none, none, none, none, none, none, none, none, none, none, none, none, none, none, none, none, none, none, none, none, none, none, none, none, none, none, none, none, none, none, none, none, none, none, none, none, none, none, none, none, none, none, none, none, none, none, none, none, none, none, none, none, none, none, none, none, none, none, none, none, none, none, none, none, none, none, none, none, none, none, none, none, none, none, none, none, none, none, none, none, none, none, none, none, none, some .u32, some .u8, some .u8, none, none, some .i32, some .i32, none, none, none]
theorem ints_eq : (List.range 120).map (intB Try.prog) = ints := by kernel_rfl
theorem inT {t : Nat} {k : IntKind} (h : ints[t]? = some (some k)) : intB Try.prog t = some k := tab_get ints_eq h
def bodies : List Bool := [false, false, true, true, true, true, true, true, true, true, true, true, true, true, true, true, true, true, true, true, true, true, true, true, true, true, true, true, true, true, true, true, true, true, true, true, true, true, true, true, true, true, true, true, true, true, true, true, true, true, true, true, true, true, false, true, true, false, false, false, false, false, false, false, false, false, false, false, false, false, false, false, false]
theorem bodies_eq : (List.range 73).map (callB Try.prog) = bodies := by kernel_rfl
theorem cbT {f : Nat} (h : bodies[f]? = some true) : callB Try.prog f = true := tab_get bodies_eq h
def uns : List (Option TypeDesc) := [none, none, some (.int .i64), some (.int .i64), some .bool, some (.int .u8), some (.int .u8), none, none, some .string, some .string, some .string, some (.int .u64), none, none, some (.pointer 106), some (.pointer 109), some (.pointer 118), none, none, none, some (.int .i32), none, some (.pointer 71), some (.int .i64), none, none, none, some (.slice 50), none, some (.slice 5), none, none, none, some (.slice 4), none, none, none, none, none, some (.slice 60), none, some (.slice 30), some (.slice 85), none, none, none, none, none, none, none, none, none, none, none, none, none, none, none, none, none, none, none, none, none, none, none, none, some (.map 3 73), some (.slice 75), none, none, some (.array 256 5), some (.array 256 5), none, none, none, none, none, none, none, some (.array 3 80), none, none, none, none, none, none, none, none, none, none, none, none, none, none, none, none, none, none, none, none, none, none, none, none, none, some (.array 0 16), none, none, some (.int .u32), some (.int .u8), some (.int .u8), none, some (.pointer 5), some (.int .i32), some (.int .i32), none, none, none]
theorem uns_eq : (List.range 120).map (simB Try.prog) = uns := by kernel_rfl
theorem unT {t : Nat} {d : TypeDesc} (h : uns[t]? = some (some d)) : Try.prog.underlying t = some d := simB_und (tab_get uns_eq h)
def pls : List (Option (List (Nat × Nat))) := [none, none, none, none, none, none, none, some [(0, 1), (1, 1), (2, 1), (3, 1)], some [(0, 1), (1, 1), (2, 1), (3, 1)], none, none, none, none, some [(0, 1), (1, 1)], some [(0, 1), (1, 1)], none, none, none, some [(0, 1)], some [(0, 1)], none, none, none, none, none, none, none, none, none, none, none, none, none, none, none, none, none, none, none, none, none, none, none, none, some [(0, 1), (1, 1), (2, 1), (3, 1), (4, 1)], some [(0, 1), (1, 1), (2, 1), (3, 1), (4, 1)], none, none, none, some [(0, 1), (1, 1)], some [(0, 1), (1, 1)], none, none, none, none, some [(0, 1), (1, 1), (2, 1), (3, 1)], some [(0, 1), (1, 1), (2, 1), (3, 1)], none, none, some [(0, 1), (1, 1), (2, 1), (3, 1), (4, 1), (5, 1)], some [(0, 1), (1, 1), (2, 1), (3, 1), (4, 1), (5, 1)], none, none, none, none, none, none, none, none, none, some [(0, 1), (1, 1), (2, 1), (3, 1), (4, 1), (5, 1), (6, 1)], some [(0, 1), (1, 1), (2, 1), (3, 1), (4, 1), (5, 1), (6, 1)], none, none, some [(0, 1), (1, 256)], some [(0, 1), (1, 256)], none, none, none, none, none, none, none, none, none, some [(0, 1), (1, 1)], none, none, none, none, none, none, none, none, none, none, none, none, none, none, none, none, none, none, none, some [(0, 1), (1, 1), (2, 1), (3, 1)], some [(0, 1), (1, 1), (2, 1), (3, 1)], none, some [(0, 0)], some [(0, 0)], none, none, none, none, none, none, none, some [(0, 1), (1, 1), (2, 1), (3, 1), (4, 1), (5, 1), (6, 1), (7, 1), (8, 1), (9, 1), (10, 1)], some [(0, 1), (1, 1), (2, 1), (3, 1), (4, 1), (5, 1), (6, 1), (7, 1), (8, 1), (9, 1), (10, 1)], none]
theorem pls_eq : (List.range 120).map (placesB Try.prog) = pls := by kernel_rfl
theorem plT {t : Nat} {d : List (Nat × Nat)} (h : pls[t]? = some (some d)) : placesB Try.prog t = some d := tab_get pls_eq h
theorem mixed : Try.prog.follows .mixedOrders = true := by kernel_rfl
end Go.Proofs.Try
