/- Further laws: strings made out of bytes; comparisons by decision. -/
import Derived.Test.YtjklnjpmjdbogaaSLMore
import Derived.Test.YtjklnjpmjdbogaaSLUp
namespace Go.SL
open Go.RowKit
section
variable {P : Program} {w w' : World} {I J : Gh} {L M : List Ch} {b b' : Nat} {E : TypeId} {cs xs ys : List Value} {v u : Value} {n m k sz : Nat} {p : Addr}
variable {a : Act} {K : Act → World → Prop} {Q : Exit → Act → World → Prop} {dst : Option Tmp} {x y z : Operand} {t ty : TypeId} {pos : String} {af : Array Edge} {gd : Option (Nat × Bool)}
theorem ex_eqlStrL {l r : List UInt8} {yt : TypeId} (hx : a.eval x = .string ⟨l.toArray⟩) (hy : a.eval y = .string ⟨r.toArray⟩) : Ex P a ⟨dst, .binOp .eql t x y yt, ty, pos, af, gd⟩ w (.bool (l == r)) := by
  have := ex_eqlStr (P := P) (dst := dst) (t := t) (ty := ty) (pos := pos) (af := af) (gd := gd) (w := w) (yt := yt) hx hy
  rwa [ByteArray.toList_mk, ByteArray.toList_mk] at this
theorem ex_neqStrL {l r : List UInt8} {yt : TypeId} (hx : a.eval x = .string ⟨l.toArray⟩) (hy : a.eval y = .string ⟨r.toArray⟩) : Ex P a ⟨dst, .binOp .neq t x y yt, ty, pos, af, gd⟩ w (.bool (l != r)) := by
  have := ex_neqStr (P := P) (dst := dst) (t := t) (ty := ty) (pos := pos) (af := af) (gd := gd) (w := w) (yt := yt) hx hy
  rwa [ByteArray.toList_mk, ByteArray.toList_mk] at this
theorem ex_neqBoolS {r : Bool} {yt : TypeId} (hx : a.eval x = .bool r) (hy : a.eval y = .bool r) (hu : P.underlying t = some .bool) : Ex P a ⟨dst, .binOp .neq t x y yt, ty, pos, af, gd⟩ w (.bool false) := by
  have := ex_neqBool (P := P) (dst := dst) (t := t) (ty := ty) (pos := pos) (af := af) (gd := gd) (w := w) (yt := yt) hx hy hu
  simpa using this
theorem Rds.all (h : Rds I [] v xs) : Rds I L v xs := fun w X hS => h w (X ++ L) (by rw [List.append_nil]; exact hS)
theorem Rds.rd0 (h : Rds I [] v xs) (hS : Sat w I L) : RdS w v xs := h w L (by rw [List.append_nil]; exact hS)
end
end Go.SL
