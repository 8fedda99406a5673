/- Opening what came in: a kit of small 'shapes' that read cells as plain data. -/
import Derived.Test.YtjklnjpmjdbogaaSLOpen
import Derived.Test.YtjklnjpmjdbogaaSLMore2
set_option linter.unusedVariables false
set_option linter.unusedSimpArgs false
namespace Go.SL
open Go.ChangeShapes Go.WideShapes Go.RowKit
section
variable {H : Type} {enc : TypeId × Value → H} {P : Program} {W : World}
/-- What the cells of a type that were read say: 'S cs x'. -/
def Opens (enc : TypeId × Value → H) (P : Program) (W : World) (t : TypeId) {α : Type} (S : List Value → α → Prop) : Prop :=
  ∀ fuel cs y, DataW.trod enc P W 0 (fun _ => true) true fuel t cs = some y → ∃ x, S cs x
theorem opens_int {t : TypeId} {k : IntKind} (ht : P.underlying t = some (.int k)) : Opens enc P W t (fun cs (z : Int) => cs = [.int k z] ∧ (Lit.int k z).wf = true) := by
  intro fuel cs y h
  obtain ⟨z, hz, _, hw⟩ := DataW.trod_int ht h
  exact ⟨z, hz, hw⟩
theorem opens_byte {t : TypeId} (ht : P.underlying t = some (.int .u8)) : Opens enc P W t (fun cs (z : UInt8) => cs = [byteV z]) := by
  intro fuel cs y h
  obtain ⟨z, hz, _, hw⟩ := DataW.trod_int ht h
  obtain ⟨c, hc⟩ := byte_of hw
  exact ⟨c, by rw [hz, hc]⟩
theorem opens_bool {t : TypeId} (ht : P.underlying t = some .bool) : Opens enc P W t (fun cs (z : Bool) => cs = [.bool z]) := by
  intro fuel cs y h
  obtain ⟨z, hz, _⟩ := DataW.trod_bool ht h
  exact ⟨z, hz⟩
theorem opens_string {t : TypeId} (ht : P.underlying t = some .string) : Opens enc P W t (fun cs (z : ByteArray) => cs = [.string z]) := by
  intro fuel cs y h
  obtain ⟨z, hz, _⟩ := DataW.trod_string ht h
  exact ⟨z, hz⟩
theorem list_choose {α : Type} {n : Nat} {p : Nat → α → Prop} (h : ∀ i, i < n → ∃ x, p i x) : ∃ l : List α, l.length = n ∧ ∀ i x, l[i]? = some x → p i x := by
  induction n with
  | zero => exact ⟨[], rfl, fun i x hx => by simp at hx⟩
  | succ n ih =>
    obtain ⟨l, hl, hp⟩ := ih (fun i hi => h i (by omega))
    obtain ⟨x, hx⟩ := h n (by omega)
    refine ⟨l ++ [x], by simp [hl], fun i y hy => ?_⟩
    rcases Nat.lt_or_ge i n with hi | hi
    · rw [List.getElem?_append_left (by omega)] at hy
      exact hp i y hy
    · have : i = n := by
        rcases Nat.lt_or_ge n i with h2 | h2
        · rw [List.getElem?_eq_none (by simp [hl]; omega)] at hy; cases hy
        · omega
      subst this
      rw [List.getElem?_append_right (by omega), hl, Nat.sub_self] at hy
      simp at hy; subst hy; exact hx
/-- A slice that came in: its elements, each read by S. -/
structure SlA {α : Type} (I : Gh) (sz : Nat) (S : List Value → α → Prop) (v : Value) (l : List α) : Prop where
  is : IsSl v l.length
  max : l.length ≤ maxLen
  ex : ∃ xs, xs.length = l.length * sz ∧ Rds I [] v xs ∧ ∀ i x, l[i]? = some x → S (sub xs (i * sz) sz) x
theorem opens_slice {t e : TypeId} {sz : Nat} {α : Type} {S : List Value → α → Prop} (ht : P.underlying t = some (.slice e)) (hc : P.cellsOf e = sz) (hS : Opens enc P W e S) :
    Opens enc P W t (fun cs (l : List α) => ∃ v, cs = [v] ∧ SlA (Gh.of W) sz S v l) := by
  intro fuel cs y h
  have hcs : ∃ a len cap, cs = [.slice a len cap] := by
    rcases Deep.open_slice ht h with ⟨hcs, _⟩ | ⟨a, len', cap', m, n, D, Pl, hcs, _⟩
    · exact ⟨_, _, _, hcs⟩
    · exact ⟨_, _, _, hcs⟩
  obtain ⟨a, len, cap, rfl⟩ := hcs
  obtain ⟨d, ps⟩ := y
  obtain ⟨n, xs, h1, h2, h3, h4, h5⟩ := open_sl (v := .slice a len cap) (sz := sz) ht hc ⟨_, _, _, rfl⟩ ⟨fuel, h⟩
  obtain ⟨l, hl, hp⟩ := list_choose (n := n) (p := fun i x => S (sub xs (i * sz) sz) x) (fun i hi => by
    obtain ⟨f2, y2, hy2⟩ := h5 i hi
    exact hS f2 _ y2 hy2)
  subst hl
  exact ⟨l, _, rfl, h1, h3, xs, h2, h4, hp⟩
/-- The fields of a struct that was read, one after another. -/
def FieldsT (enc : TypeId × Value → H) (P : Program) (W : World) : List Field → List Value → Prop
  | [], _ => True
  | f :: r, cs => (∃ fuel y, DataW.trod enc P W 0 (fun _ => true) true fuel f.type (sub cs f.offset (P.cellsOf f.type)) = some y) ∧ FieldsT enc P W r cs
theorem opens_fields {t : TypeId} {fs : Array Field} (ht : P.underlying t = some (.struct fs)) {fuel : Nat} {cs : List Value} {y : DataW H × List MemPlace} (h : DataW.trod enc P W 0 (fun _ => true) true fuel t cs = some y) :
    cs.length = P.cellsOf t ∧ ∀ (i : Nat) (f : Field), fs[i]? = some f → ∃ fuel y, DataW.trod enc P W 0 (fun _ => true) true fuel f.type (sub cs f.offset (P.cellsOf f.type)) = some y := by
  obtain ⟨xs, n, _, _, hl, hlen, hf⟩ := DataW.trod_struct ht h
  refine ⟨hl, fun i f hi => ?_⟩
  have h1 := hf i f hi
  have h2 : i < xs.length := by rw [hlen]; exact (Array.getElem?_eq_some_iff.1 hi).1
  rw [List.getElem?_eq_getElem h2] at h1
  exact ⟨n, _, h1⟩
theorem opens_fieldsL {t : TypeId} {fs : List Field} (ht : P.underlying t = some (.struct fs.toArray)) {fuel : Nat} {cs : List Value} {y : DataW H × List MemPlace} (h : DataW.trod enc P W 0 (fun _ => true) true fuel t cs = some y) :
    cs.length = P.cellsOf t ∧ FieldsT enc P W fs cs := by
  obtain ⟨hl, hf⟩ := opens_fields ht h
  refine ⟨hl, ?_⟩
  have hf' : ∀ f ∈ fs, ∃ fuel y, DataW.trod enc P W 0 (fun _ => true) true fuel f.type (sub cs f.offset (P.cellsOf f.type)) = some y := by
    intro f hm
    obtain ⟨i, hi⟩ := List.getElem?_of_mem hm
    exact hf i f (by simpa using hi)
  clear hf ht h
  induction fs with
  | nil => trivial
  | cons f r ih => exact ⟨hf' f (by simp), ih (fun g hg => hf' g (by simp [hg]))⟩
theorem opens_arg {t : TypeId} {v : Value} {d : DataW H} {ps : List MemPlace} {α : Type} {S : List Value → α → Prop} (hS : Opens enc P W t S) (h : DataW.Trod enc P W 0 (fun _ => true) true t v d ps) : ∃ x, S v.cells.toList x := by
  obtain ⟨fuel, hf⟩ := h
  exact hS fuel _ _ hf
theorem opens_sliceArg {t e : TypeId} {sz : Nat} {α : Type} {S : List Value → α → Prop} {v : Value} {d : DataW H} {ps : List MemPlace} (ht : P.underlying t = some (.slice e)) (hc : P.cellsOf e = sz) (hS : Opens enc P W e S) (hs : ∃ a len cap, v = .slice a len cap) (h : DataW.Trod enc P W 0 (fun _ => true) true t v d ps) :
    ∃ l : List α, SlA (Gh.of W) sz S v l := by
  obtain ⟨l, u, hu, hl⟩ := opens_arg (opens_slice ht hc hS) h
  obtain ⟨a, len, cap, rfl⟩ := hs
  simp [Value.cells] at hu
  subst hu
  exact ⟨l, hl⟩
theorem SlA.bytes {I : Gh} {v : Value} {l : List UInt8} (h : SlA I 1 (fun cs (z : UInt8) => cs = [byteV z]) v l) : IsSl v l.length ∧ Rds I [] v (l.map byteV) := by
  obtain ⟨xs, hl, hr, hx⟩ := h.ex
  have : xs = l.map byteV := by
    apply List.ext_getElem?
    intro i
    rcases Nat.lt_or_ge i l.length with hi | hi
    · have h1 := hx i l[i] (List.getElem?_eq_getElem hi)
      have h2 : (sub xs (i * 1) 1)[0]? = some (byteV l[i]) := by rw [h1]; rfl
      simp [sub, List.getElem?_drop] at h2
      simp [h2, hi]
    · rw [List.getElem?_eq_none (by omega), List.getElem?_eq_none (by simpa using hi)]
  subst this
  exact ⟨h.is, hr⟩
theorem cons_of_sub {cs : List Value} {k : Nat} {v : Value} (h : sub cs k 1 = [v]) : cs[k]? = some v := by
  have h2 : (sub cs k 1)[0]? = some v := by rw [h]; rfl
  simpa [sub, List.getElem?_drop] using h2
end
end Go.SL
