/- Opening what came in, with the form's own reach: how long each slice may be. -/
import Derived.Test.YtjklnjpmjdbogaaSLOpen2
import Derived.SizedLaws
set_option linter.unusedVariables false
set_option linter.unusedSimpArgs false
namespace Go.SL
open Go.ChangeShapes Go.WideShapes Go.RowKit
section
variable {H : Type} {enc : TypeId × Value → H} {P : Program} {W : World}
def Wok (P : Program) (t : TypeId) (d : DataW H) : Prop := ∀ k ∈ d.weights P t, k ≤ reachBytes
theorem mem_weightsAll {e : TypeId} {d : DataW H} {k : Nat} : ∀ {l : List (DataW H)}, d ∈ l → k ∈ d.weights P e → k ∈ DataW.weightsAll P e l
  | x :: l, h, hk => by
    simp only [DataW.weightsAll]
    rcases List.mem_cons.1 h with rfl | h
    · exact List.mem_append_left _ hk
    · exact List.mem_append_right _ (mem_weightsAll h hk)
def OpensZ (enc : TypeId × Value → H) (P : Program) (W : World) (t : TypeId) {α : Type} (S : List Value → α → Prop) : Prop :=
  ∀ fuel cs y, DataW.trod enc P W 0 (fun _ => true) true fuel t cs = some y → Wok P t y.1 → ∃ x, S cs x
theorem Opens.z {t : TypeId} {α : Type} {S : List Value → α → Prop} (h : Opens enc P W t S) : OpensZ enc P W t S := fun fuel cs y hy _ => h fuel cs y hy
/-- A slice that came in: its elements' cells, and what each reads as. -/
theorem open_slZ {W : World} {t e : TypeId} {v : Value} {sz : Nat} (ht : P.underlying t = some (.slice e)) (hc : P.cellsOf e = sz) (hs : ∃ a len cap, v = .slice a len cap) {fuel : Nat} {y0 : DataW H × List MemPlace} (hf : DataW.trod enc P W 0 (fun _ => true) true fuel t v.cells.toList = some y0) (hw : Wok P t y0.1) :
    ∃ n xs, IsSl v n ∧ xs.length = n * sz ∧ n ≤ maxLen ∧ Rds (Gh.of W) [] v xs ∧ ∀ i, i < n → ∃ fuel y, DataW.trod enc P W 0 (fun _ => true) true fuel e (sub xs (i * sz) sz) = some y ∧ Wok P e y.1 := by
  obtain ⟨a0, len, cap, rfl⟩ := hs
  rcases Deep.open_slice ht hf with ⟨hcs, _⟩ | ⟨a, len', cap', m, n, D, Pl, hcs, _, hl, hm, hmm, hy, hel⟩
  · simp [Value.cells] at hcs
    obtain ⟨rfl, rfl, rfl⟩ := hcs
    exact ⟨0, [], IsSl.nil, by simp, Nat.zero_le _, (fun w X hS p n c e => by cases e), fun i hi => by omega⟩
  · simp [Value.cells] at hcs
    obtain ⟨rfl, rfl, rfl⟩ := hcs
    rw [hc] at hel
    have hlm : len ≤ m := by rw [hmm]; split <;> omega
    obtain ⟨C, hC⟩ := Deep.choose_lt (α := List Value) (p := fun i cs' => W.cells? 0 (a.add (i * sz)) sz = some cs' ∧ DataW.trod enc P W 0 (fun _ => true) true n e cs' = some (D i, Pl i)) (fun i (hi : i < len) => by
      obtain ⟨cs', h1, h2⟩ := hel i (by omega)
      exact ⟨cs', h1, h2⟩)
    have hlen : ∀ i, i < len → (C i).length = sz := fun i hi => (cells_some (hC i hi).1).1
    have flen : ∀ k, k ≤ len → ((List.range k).flatMap C).length = k * sz := by
      intro k
      induction k with
      | zero => intro _; simp
      | succ k ih =>
        intro hk
        rw [List.range_succ, List.flatMap_append, List.length_append, ih (by omega), Nat.succ_mul]
        simp [hlen k (by omega)]
    have fsub : ∀ k, k ≤ len → ∀ i, i < k → sub ((List.range k).flatMap C) (i * sz) sz = C i := by
      intro k
      induction k with
      | zero => intro _ i hi; omega
      | succ k ih =>
        intro hk i hi
        rw [List.range_succ, List.flatMap_append]
        have hk2 := flen k (by omega)
        by_cases hik : i = k
        · subst hik
          simp only [sub]
          rw [List.drop_append, List.drop_eq_nil_of_le (by omega), hk2]
          rw [Nat.sub_self, List.drop_zero]
          simp [List.take_of_length_le (Nat.le_of_eq (hlen i (by omega)))]
        · have h3 : i < k := by omega
          have := ih (by omega) i h3
          rw [← this]
          simp only [sub]
          have h4 : i * sz + sz ≤ k * sz := by rw [← Nat.succ_mul]; exact Nat.mul_le_mul_right _ h3
          rw [List.drop_append_of_le_length (by omega), List.take_append_of_le_length (by rw [List.length_drop]; omega)]
    refine ⟨len, (List.range len).flatMap C, ⟨_, _, rfl, hl, fun e => by cases e⟩, flen len (Nat.le_refl _), by omega, ?_, ?_⟩
    · intro w X hS p n' c' e' j u hu
      injection e' with e1 _ _
      injection e1 with e1
      subst e1
      have hj : j < len * sz := by
        rw [← flen len (Nat.le_refl _)]
        rcases Nat.lt_or_ge j ((List.range len).flatMap C).length with h | h
        · exact h
        · rw [List.getElem?_eq_none h] at hu; cases hu
      have hsz : 0 < sz := by
        rcases Nat.eq_zero_or_pos sz with e | e
        · subst e; simp at hj
        · exact e
      have hi : j / sz < len := Nat.div_lt_of_lt_mul (by rw [Nat.mul_comm]; exact hj)
      have hjm : j = j / sz * sz + j % sz := by rw [Nat.mul_comm]; exact (Nat.div_add_mod j sz).symm
      have hmod := Nat.mod_lt j hsz
      have hcell := (cells_some (hC _ hi).1).2 (j % sz) hmod
      rw [Addr.add_add, ← hjm] at hcell
      have hu2 : (C (j / sz))[j % sz]? = some u := by
        rw [← fsub len (Nat.le_refl _) _ hi, sub, List.getElem?_take, if_pos hmod, List.getElem?_drop, ← hjm]
        exact hu
      rw [hu2] at hcell
      -- the cell is one of the old world's, and these stay
      have : immCell (Gh.of W) (a.add j) = some u := by
        unfold World.cell? at hcell
        exact hcell
      have h9 := hS.rdI (xs := [u]) (p := a.add j) (fun j' u' hu' => by
        cases j' with
        | zero => simp at hu'; subst hu'; rw [Addr.add_zero']; exact this
        | succ j' => simp at hu') 0 u rfl
      rwa [Addr.add_zero'] at h9
    · intro i hi
      rw [fsub len (Nat.le_refl _) i hi]
      refine ⟨n, _, (hC i hi).2, fun k hk => hw k ?_⟩
      rw [hy]
      simp only [DataW.weights, ht]
      exact List.mem_cons_of_mem _ (List.mem_append_left _ (mem_weightsAll (List.mem_map.2 ⟨i, List.mem_range.2 hi, rfl⟩) hk))
theorem opens_sliceZ {t e : TypeId} {sz : Nat} {α : Type} {S : List Value → α → Prop} (ht : P.underlying t = some (.slice e)) (hc : P.cellsOf e = sz) (hS : OpensZ enc P W e S) :
    OpensZ enc P W t (fun cs (l : List α) => ∃ v, cs = [v] ∧ SlA (Gh.of W) sz S v l) := by
  intro fuel cs y h hw
  have hcs : ∃ a len cap, cs = [.slice a len cap] := by
    rcases Deep.open_slice ht h with ⟨hcs, _⟩ | ⟨a, len', cap', m, n, D, Pl, hcs, _⟩
    · exact ⟨_, _, _, hcs⟩
    · exact ⟨_, _, _, hcs⟩
  obtain ⟨a, len, cap, rfl⟩ := hcs
  obtain ⟨n, xs, h1, h2, h3, h4, h5⟩ := open_slZ (v := .slice a len cap) (sz := sz) ht hc ⟨_, _, _, rfl⟩ (fuel := fuel) (y0 := y) h hw
  obtain ⟨l, hl, hp⟩ := list_choose (n := n) (p := fun i x => S (sub xs (i * sz) sz) x) (fun i hi => by
    obtain ⟨f2, y2, hy2, hw2⟩ := h5 i hi
    exact hS f2 _ y2 hy2 hw2)
  subst hl
  exact ⟨l, _, rfl, h1, h3, xs, h2, h4, hp⟩
/-- How many elements a slice may have. -/
theorem slice_reach {t e : TypeId} (ht : P.underlying t = some (.slice e)) {fuel : Nat} {v : Value} {y : DataW H × List MemPlace} (h : DataW.trod enc P W 0 (fun _ => true) true fuel t [v] = some y) (hw : Wok P t y.1) {n : Nat} (hv : IsSl v n) : n * P.bytesOf e ≤ reachBytes := by
  obtain ⟨q, c, rfl, hnc, hq⟩ := hv.ex
  rcases Deep.open_slice ht h with ⟨hcs, _⟩ | ⟨a, len', cap', m, k, D, Pl, hcs, _, hl, hm, hmm, hy, _⟩
  · simp at hcs
    rw [hcs.2.1]; simp
  · simp at hcs
    obtain ⟨_, rfl, _⟩ := hcs
    have := hw ((n + (m - n)) * P.bytesOf e) (by rw [hy]; simp [DataW.weights, ht])
    exact Nat.le_trans (Nat.mul_le_mul_right _ (by omega)) this
def FieldsZ (enc : TypeId × Value → H) (P : Program) (W : World) : List Field → List Value → Prop
  | [], _ => True
  | f :: r, cs => (∃ fuel y, DataW.trod enc P W 0 (fun _ => true) true fuel f.type (sub cs f.offset (P.cellsOf f.type)) = some y ∧ Wok P f.type y.1) ∧ FieldsZ enc P W r cs
theorem opens_fieldsZ {t : TypeId} {fs : List Field} (ht : P.underlying t = some (.struct fs.toArray)) {fuel : Nat} {cs : List Value} {y : DataW H × List MemPlace} (h : DataW.trod enc P W 0 (fun _ => true) true fuel t cs = some y) (hw : Wok P t y.1) :
    cs.length = P.cellsOf t ∧ FieldsZ enc P W fs cs := by
  obtain ⟨xs, n, _, hy, hl, hlen, hf⟩ := DataW.trod_struct ht h
  refine ⟨hl, ?_⟩
  have hf' : ∀ f ∈ fs, ∃ fuel y, DataW.trod enc P W 0 (fun _ => true) true fuel f.type (sub cs f.offset (P.cellsOf f.type)) = some y ∧ Wok P f.type y.1 := by
    intro f hm
    obtain ⟨i, hi⟩ := List.getElem?_of_mem hm
    have h1 := hf i f (by simpa using hi)
    have h2 : i < xs.length := by rw [hlen]; have := (List.getElem?_eq_some_iff.1 hi).1; simpa using this
    rw [List.getElem?_eq_getElem h2] at h1
    refine ⟨n, _, h1, fun k hk => hw k ?_⟩
    rw [hy]
    simp only [DataW.weights, ht]
    refine DataW.weights_mem_each (j := i) (t := f.type) (by simp [hi]) (by simp [List.getElem?_eq_getElem h2]) k hk
  clear hf ht h hw hy hlen hl
  induction fs with
  | nil => trivial
  | cons f r ih => exact ⟨hf' f (by simp), ih (fun g hg => hf' g (by simp [hg]))⟩
end
end Go.SL
