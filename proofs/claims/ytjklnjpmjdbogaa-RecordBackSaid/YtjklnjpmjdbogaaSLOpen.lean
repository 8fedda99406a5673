/- What an argument's reading says of the memory: slices by their elements. -/
import Derived.Test.YtjklnjpmjdbogaaSLLaw
import Derived.Test.YtjklnjpmjdbogaaSLMore
import Derived.Deep.Slices
set_option linter.unusedVariables false
set_option linter.unusedSimpArgs false
namespace Go.SL
open Go.ChangeShapes Go.WideShapes Go.RowKit
section
variable {H : Type} {enc : TypeId × Value → H} {P : Program}
theorem cells_some {w : World} {a : Addr} {n : Nat} {cs : List Value} (h : w.cells? 0 a n = some cs) : cs.length = n ∧ ∀ j, j < n → w.cell? (a.add j) = cs[j]? := by
  obtain ⟨_, h1, h2⟩ := World.cells?_some h
  exact ⟨h1, h2⟩
/-- A slice that came in: its elements' cells, and what each reads as. -/
theorem open_sl {W : World} {t e : TypeId} {v : Value} {d : DataW H} {ps : List MemPlace} {sz : Nat} (ht : P.underlying t = some (.slice e)) (hc : P.cellsOf e = sz) (hs : ∃ a len cap, v = .slice a len cap) (h : DataW.Trod enc P W 0 (fun _ => true) true t v d ps) :
    ∃ n xs, IsSl v n ∧ xs.length = n * sz ∧ n ≤ maxLen ∧ Rds (Gh.of W) [] v xs ∧ ∀ i, i < n → ∃ fuel y, DataW.trod enc P W 0 (fun _ => true) true fuel e (sub xs (i * sz) sz) = some y := by
  obtain ⟨a0, len, cap, rfl⟩ := hs
  obtain ⟨fuel, hf⟩ := h
  rcases Deep.open_slice ht hf with ⟨hcs, _⟩ | ⟨a, len', cap', m, n, D, Pl, hcs, _, hl, hm, hmm, _, hel⟩
  · simp [Value.cells] at hcs
    obtain ⟨rfl, rfl, rfl⟩ := hcs
    exact ⟨0, [], IsSl.nil, by simp, Nat.zero_le _, (fun w X hS p n c e => by cases e), fun i hi => by omega⟩
  · simp [Value.cells] at hcs
    obtain ⟨rfl, rfl, rfl⟩ := hcs
    rw [hc] at hel
    have hlm : len ≤ m := by rw [hmm]; split <;> omega
    obtain ⟨C, hC⟩ := Deep.choose_lt (α := List Value) (p := fun i cs' => W.cells? 0 (a.add (i * sz)) sz = some cs' ∧ DataW.trod enc P W 0 (fun _ => true) true n e cs' = some (D i, Pl i)) (fun i (hi : i < len) => by
      obtain ⟨cs', h1, h2⟩ := hel i (by omega)
      exact ⟨cs', h1, h2⟩)
    have hlen : ∀ i, i < len → (C i).length = sz := fun i hi => (cells_some (hC i hi).1).1
    have flen : ∀ k, k ≤ len → ((List.range k).flatMap C).length = k * sz := by
      intro k
      induction k with
      | zero => intro _; simp
      | succ k ih =>
        intro hk
        rw [List.range_succ, List.flatMap_append, List.length_append, ih (by omega), Nat.succ_mul]
        simp [hlen k (by omega)]
    have fsub : ∀ k, k ≤ len → ∀ i, i < k → sub ((List.range k).flatMap C) (i * sz) sz = C i := by
      intro k
      induction k with
      | zero => intro _ i hi; omega
      | succ k ih =>
        intro hk i hi
        rw [List.range_succ, List.flatMap_append]
        have hk2 := flen k (by omega)
        by_cases hik : i = k
        · subst hik
          simp only [sub]
          rw [List.drop_append, List.drop_eq_nil_of_le (by omega), hk2]
          rw [Nat.sub_self, List.drop_zero]
          simp [List.take_of_length_le (Nat.le_of_eq (hlen i (by omega)))]
        · have h3 : i < k := by omega
          have := ih (by omega) i h3
          rw [← this]
          simp only [sub]
          have h4 : i * sz + sz ≤ k * sz := by rw [← Nat.succ_mul]; exact Nat.mul_le_mul_right _ h3
          rw [List.drop_append_of_le_length (by omega), List.take_append_of_le_length (by rw [List.length_drop]; omega)]
    refine ⟨len, (List.range len).flatMap C, ⟨_, _, rfl, hl, fun e => by cases e⟩, flen len (Nat.le_refl _), by omega, ?_, ?_⟩
    · intro w X hS p n' c' e' j u hu
      injection e' with e1 _ _
      injection e1 with e1
      subst e1
      have hj : j < len * sz := by
        rw [← flen len (Nat.le_refl _)]
        rcases Nat.lt_or_ge j ((List.range len).flatMap C).length with h | h
        · exact h
        · rw [List.getElem?_eq_none h] at hu; cases hu
      have hsz : 0 < sz := by
        rcases Nat.eq_zero_or_pos sz with e | e
        · subst e; simp at hj
        · exact e
      have hi : j / sz < len := Nat.div_lt_of_lt_mul (by rw [Nat.mul_comm]; exact hj)
      have hjm : j = j / sz * sz + j % sz := by rw [Nat.mul_comm]; exact (Nat.div_add_mod j sz).symm
      have hmod := Nat.mod_lt j hsz
      have hcell := (cells_some (hC _ hi).1).2 (j % sz) hmod
      rw [Addr.add_add, ← hjm] at hcell
      have hu2 : (C (j / sz))[j % sz]? = some u := by
        rw [← fsub len (Nat.le_refl _) _ hi, sub, List.getElem?_take, if_pos hmod, List.getElem?_drop, ← hjm]
        exact hu
      rw [hu2] at hcell
      -- the cell is one of the old world's, and these stay
      have : immCell (Gh.of W) (a.add j) = some u := by
        unfold World.cell? at hcell
        exact hcell
      have h9 := hS.rdI (xs := [u]) (p := a.add j) (fun j' u' hu' => by
        cases j' with
        | zero => simp at hu'; subst hu'; rw [Addr.add_zero']; exact this
        | succ j' => simp at hu') 0 u rfl
      rwa [Addr.add_zero'] at h9
    · intro i hi
      rw [fsub len (Nat.le_refl _) i hi]
      exact ⟨n, _, (hC i hi).2⟩
theorem list_of {α : Type} [Inhabited α] (g : α → Value) {n : Nat} {xs : List Value} (hl : xs.length = n * 1) (h : ∀ i, i < n → ∃ x, sub xs (i * 1) 1 = [g x]) : ∃ l : List α, xs = l.map g ∧ l.length = n := by
  obtain ⟨F, hF⟩ := Deep.choose_lt h
  refine ⟨(List.range n).map F, ?_, by simp⟩
  apply List.ext_getElem?
  intro i
  by_cases hi : i < n
  · have := hF i hi
    have h2 : xs[i]? = some (g (F i)) := by
      have e : (sub xs (i * 1) 1)[0]? = some (g (F i)) := by rw [this]; rfl
      simpa [sub, List.getElem?_drop] using e
    rw [h2]
    simp [hi]
  · simp [hi]; omega
theorem open_bools {W : World} {t e : TypeId} {v : Value} {d : DataW H} {ps : List MemPlace} (ht : P.underlying t = some (.slice e)) (he : P.underlying e = some .bool) (hc : P.cellsOf e = 1) (hs : ∃ a len cap, v = .slice a len cap) (h : DataW.Trod enc P W 0 (fun _ => true) true t v d ps) :
    ∃ ks : List Bool, IsSl v ks.length ∧ ks.length ≤ maxLen ∧ Rds (Gh.of W) [] v (ks.map .bool) := by
  obtain ⟨n, xs, h1, h2, h3, h4, h5⟩ := open_sl ht hc hs h
  obtain ⟨l, rfl, rfl⟩ := list_of Value.bool h2 (fun i hi => by
    obtain ⟨fuel, y, hy⟩ := h5 i hi
    obtain ⟨b, hb, _⟩ := DataW.trod_bool he hy
    exact ⟨b, hb⟩)
  exact ⟨l, h1, h3, h4⟩
theorem byte_of {z : Int} (h : (Lit.int .u8 z).wf = true) : ∃ c : UInt8, Value.int .u8 z = byteV c := by
  have hb : 0 ≤ z ∧ z ≤ 255 := bounds_u8 h
  refine ⟨UInt8.ofNat z.toNat, ?_⟩
  simp only [byteV, UInt8.toNat_ofNat']
  congr 1
  have : z.toNat % 2 ^ 8 = z.toNat := Nat.mod_eq_of_lt (by omega)
  rw [this]
  omega
theorem open_bytes {W : World} {t e : TypeId} {v : Value} {d : DataW H} {ps : List MemPlace} (ht : P.underlying t = some (.slice e)) (he : P.underlying e = some (.int .u8)) (hc : P.cellsOf e = 1) (hs : ∃ a len cap, v = .slice a len cap) (h : DataW.Trod enc P W 0 (fun _ => true) true t v d ps) :
    ∃ bs : List UInt8, IsSl v bs.length ∧ bs.length ≤ maxLen ∧ Rds (Gh.of W) [] v (bs.map byteV) := by
  obtain ⟨n, xs, h1, h2, h3, h4, h5⟩ := open_sl ht hc hs h
  obtain ⟨l, rfl, rfl⟩ := list_of byteV h2 (fun i hi => by
    obtain ⟨fuel, y, hy⟩ := h5 i hi
    obtain ⟨z, hb, _, hw⟩ := DataW.trod_int he hy
    obtain ⟨c, hc⟩ := byte_of hw
    exact ⟨c, by rw [hb, hc]⟩)
  exact ⟨l, h1, h3, h4⟩
end
end Go.SL
