/- Which article is the oldest: sorting the indices, and picking the first again and again. -/
import Derived.Test.YtggkomlobfpapaaSpRef
set_option linter.unusedVariables false
set_option linter.unusedSimpArgs false
namespace Go.SP
open Go.SL Go.SS
variable {α : Type} {lt : α → α → Bool}
theorem ins_perm (P : List α) (x : α) : (ins lt P x).Perm (x :: P) := by
  induction P with
  | nil => exact List.Perm.refl _
  | cons y P ih =>
    rw [ins]
    split
    · exact List.Perm.refl _
    · exact (List.Perm.cons y ih).trans (List.Perm.swap ..)
theorem ssort_perm (l : List α) : (ssort lt l).Perm l := by
  induction l using snocInd with
  | h0 => exact List.Perm.refl _
  | h1 l x ih =>
    rw [ssort_snoc]
    exact (ins_perm _ _).trans ((List.Perm.cons x ih).trans (List.perm_append_singleton x l).symm)
def ltI (m : Nat → Int) (i j : Nat) : Bool := decide (m i < m j)
def lex (m : Nat → Int) (i j : Nat) : Prop := m i < m j ∨ (m i = m j ∧ i < j)
theorem ins_lex (m : Nat → Int) (x : Nat) : ∀ (P : List Nat), P.Pairwise (lex m) → (∀ y ∈ P, y < x) → (ins (ltI m) P x).Pairwise (lex m)
  | [], _, _ => by simp [ins]
  | y :: P, hP, hx => by
    obtain ⟨h1, h2⟩ := List.pairwise_cons.1 hP
    have hyx := hx y (by simp)
    rw [ins]
    by_cases h : m x < m y
    · rw [if_pos (by simpa [ltI] using h)]
      refine List.pairwise_cons.2 ⟨fun z hz => ?_, hP⟩
      rcases List.mem_cons.1 hz with rfl | hz
      · exact .inl h
      · have := h1 z hz; unfold lex at this; left; omega
    · rw [if_neg (by simpa [ltI] using h)]
      refine List.pairwise_cons.2 ⟨fun z hz => ?_, ins_lex m x P h2 (fun z hz => hx z (by simp [hz]))⟩
      rcases mem_ins.1 hz with rfl | hz
      · unfold lex; omega
      · exact h1 z hz
theorem ssort_lex (m : Nat → Int) : ∀ n : Nat, (ssort (ltI m) (List.range n)).Pairwise (lex m)
  | 0 => by simp [ssort]
  | n + 1 => by
    rw [List.range_succ, ssort_snoc]
    refine ins_lex m n _ (ssort_lex m n) (fun y hy => ?_)
    have := mem_ssort.1 hy
    simpa using this
theorem lex_irrefl {m : Nat → Int} {i : Nat} (h : lex m i i) : False := by unfold lex at h; omega
theorem lex_asymm {m : Nat → Int} {i j : Nat} (h : lex m i j) (h2 : lex m j i) : False := by unfold lex at *; omega
theorem lex_trans {m : Nat → Int} {i j k : Nat} (h : lex m i j) (h2 : lex m j k) : lex m i k := by unfold lex at *; omega
theorem lex_total {m : Nat → Int} {i j : Nat} (h : ¬ lex m i j) (hne : i ≠ j) : lex m j i := by unfold lex at *; omega
theorem takeFree_none {need free : Int} (h : need ≤ free) (l : List Art) : takeFree need free l = [] := by cases l with | nil => rfl | cons a l => rw [takeFree, if_pos h]
/-- The i-th article. -/
def artAt (s : SpS) (i : Nat) : Art := (s.arts[i]?).getD ⟨zeroId, [], 0⟩
def order (s : SpS) : List Nat := ssort (ltI fun i => (artAt s i).min) (List.range s.arts.length)
theorem arts_map (s : SpS) : (List.range s.arts.length).map (artAt s) = s.arts := by
  apply List.ext_getElem?
  intro i
  simp only [List.getElem?_map]
  rcases Nat.lt_or_ge i s.arts.length with h | h
  · rw [List.getElem?_range h]; simp [artAt, h]
  · rw [List.getElem?_eq_none (by simpa using h), List.getElem?_eq_none h]; rfl
theorem order_map (s : SpS) : (order s).map (artAt s) = ssort less s.arts := by
  conv => rhs; rw [← arts_map s]
  exact (ssort_map (lt := ltI fun i => (artAt s i).min) (artAt s) (fun x y => rfl) _).symm
theorem order_lex (s : SpS) : (order s).Pairwise (lex fun i => (artAt s i).min) := ssort_lex _ _
theorem order_mem (s : SpS) (i : Nat) : i ∈ order s ↔ i < s.arts.length := by unfold order; rw [mem_ssort]; simp
theorem order_sum (s : SpS) : ((order s).map fun i => (artAt s i).text.length).sum = s.bytes := by
  have h1 : ((order s).map fun i => (artAt s i).text.length).Perm (s.arts.map fun a => a.text.length) := by
    have := (ssort_perm (lt := ltI fun i => (artAt s i).min) (List.range s.arts.length)).map fun i => (artAt s i).text.length
    refine this.trans ?_
    conv => rhs; rw [← arts_map s]
    rw [List.map_map]; exact List.Perm.refl _
  exact h1.sum_nat
theorem order_nodup (s : SpS) : (order s).Nodup := (ssort_perm _).nodup_iff.2 List.nodup_range
/-- What the search for the oldest one finds. -/
theorem best_is {s : SpS} {D R : List Nat} {r b : Nat} (hσ : order s = D ++ r :: R) (hb : b < s.arts.length) (hbD : b ∉ D) (hmin : ∀ j, j < s.arts.length → j ∉ D → j = b ∨ lex (fun i => (artAt s i).min) b j) : b = r := by
  have hp := order_lex s
  rw [hσ, List.pairwise_append] at hp
  obtain ⟨_, hp2, hp3⟩ := hp
  obtain ⟨hp4, _⟩ := List.pairwise_cons.1 hp2
  have hrm : r ∈ order s := by rw [hσ]; simp
  have hrD : r ∉ D := fun h => lex_irrefl (hp3 r h r (by simp))
  have hbm : b ∈ order s := (order_mem s b).2 hb
  rw [hσ] at hbm
  rcases List.mem_append.1 hbm with h | h
  · exact absurd h hbD
  · rcases List.mem_cons.1 h with h | h
    · exact h
    · rcases hmin r ((order_mem s r).1 hrm) hrD with h1 | h1
      · exact h1.symm
      · exact (lex_asymm (hp4 b h) h1).elim
end Go.SP
