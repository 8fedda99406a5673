/- Struct literals whose fields are one cell each, in order: the value is the list itself. -/
import Derived.Test.YtjklnjpmjdbogaaSLMore2
namespace Go.SL
open Go.RowKit
def Ones (a : Act) (place : Nat → Option (Nat × Nat)) : Nat → List (Nat × Operand) → List Value → Prop
  | _, [], vs => vs = []
  | k, (i, x) :: r, vs => ∃ v u, vs = v :: u ∧ place i = some (k, 1) ∧ a.eval x = v ∧ v.oneCell' = true ∧ Ones a place (k + 1) r u
theorem Ones.nil {a : Act} {place : Nat → Option (Nat × Nat)} {k : Nat} : Ones a place k [] [] := rfl
theorem Ones.cons {a : Act} {place : Nat → Option (Nat × Nat)} {k i : Nat} {x : Operand} {r : List (Nat × Operand)} {v : Value} {u : List Value}
    (h1 : place i = some (k, 1)) (h2 : a.eval x = v) (h3 : v.oneCell' = true) (h4 : Ones a place (k + 1) r u) : Ones a place k ((i, x) :: r) (v :: u) := ⟨v, u, rfl, h1, h2, h3, h4⟩
theorem Ones.fills {a : Act} {place : Nat → Option (Nat × Nat)} : ∀ {parts : List (Nat × Operand)} {pre zs vs : List Value}, Ones a place pre.length parts vs → zs.length = vs.length →
    Fills a place parts (pre ++ zs) (pre ++ vs) := by
  intro parts
  induction parts with
  | nil => intro pre zs vs h hl; cases h; cases List.eq_nil_of_length_eq_zero hl; rfl
  | cons q parts ih =>
    obtain ⟨i, x⟩ := q
    intro pre zs vs h hl
    obtain ⟨v, u, rfl, h1, h2, h3, h4⟩ := h
    match zs, hl with
    | z :: zs, hl =>
      refine ⟨pre.length, 1, v, [v], h1, h2, cellsL1 h3, rfl, by simp, ?_⟩
      have e : splice (pre ++ z :: zs) pre.length [v] = (pre ++ [v]) ++ zs := by simp [splice]
      rw [e]
      have := ih (pre := pre ++ [v]) (zs := zs) (vs := u) (by simpa using h4) (by simpa using hl)
      simpa using this
theorem Ones.run {a : Act} {place : Nat → Option (Nat × Nat)} {parts : List (Nat × Operand)} {zs vs : List Value} (h : Ones a place 0 parts vs) (hl : zs.length = vs.length) : Fills a place parts zs vs :=
  Ones.fills (pre := []) h hl
end Go.SL
