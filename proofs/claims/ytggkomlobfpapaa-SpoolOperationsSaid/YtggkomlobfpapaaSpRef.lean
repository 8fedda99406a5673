/- The reference of spools, as plain data. -/
import Derived.Test.YtggkomlobfpapaaSpModel
set_option linter.unusedVariables false
set_option linter.unusedSimpArgs false
namespace Go.SP
open Go.SL Go.SS Go.RowKit
def artC (a : Art) : List Value := idC a.id ++ [.string ⟨a.text.toArray⟩, .int .i64 a.min]
theorem elArt : ElT artC 34 := ⟨fun a => by simp [artC, idC_len], fun a => Oc.append (elId.oc a.id) (Oc.of_all rfl)⟩
theorem artGet (a : Art) : (artC a)[32]? = some (.string ⟨a.text.toArray⟩) ∧ (artC a)[33]? = some (.int .i64 a.min) ∧ sub (artC a) 0 32 = idC a.id := by
  have h := idC_len a.id
  unfold artC
  refine ⟨?_, ?_, ?_⟩
  · rw [List.getElem?_append_right (by omega), h]; rfl
  · rw [List.getElem?_append_right (by omega), h]; rfl
  · unfold sub; rw [List.drop_zero, List.take_left' h]
def rfindFrom (i : Id32) : List Art → Nat → Int
  | [], _ => -1
  | a :: l, k => if a.id = i then k else rfindFrom i l (k + 1)
def rfind (s : SpS) (i : Id32) : Int := rfindFrom i s.arts 0
theorem rfindFrom_spec (i : Id32) : ∀ (l : List Art) (k : Nat), (rfindFrom i l k = -1 ∧ (l.find? fun a => decide (a.id = i)) = none) ∨ ∃ (n : Nat) (a : Art), rfindFrom i l k = ((k + n : Nat) : Int) ∧ l[n]? = some a ∧ a.id = i ∧ (l.find? fun a => decide (a.id = i)) = some a ∧ ∀ (m : Nat) (b : Art), m < n → l[m]? = some b → b.id ≠ i
  | [], k => .inl ⟨rfl, rfl⟩
  | a :: l, k => by
    by_cases h : a.id = i
    · right
      exact ⟨0, a, by rw [rfindFrom, if_pos h]; rfl, rfl, h, by rw [List.find?_cons, decide_eq_true h], fun m b hm => by omega⟩
    · rw [rfindFrom, if_neg h, List.find?_cons, decide_eq_false h]
      rcases rfindFrom_spec i l (k + 1) with ⟨h1, h2⟩ | ⟨n, b, h1, h2, h3, h4, h5⟩
      · exact .inl ⟨h1, h2⟩
      · refine .inr ⟨n + 1, b, by rw [h1]; congr 1; omega, by simpa using h2, h3, h4, ?_⟩
        intro m c hm hc
        cases m with
        | zero => simp at hc; subst hc; exact h
        | succ m => exact h5 m c (by omega) (by simpa using hc)
theorem rfind_spec (s : SpS) (i : Id32) : (rfind s i = -1 ∧ s.find i = none) ∨ ∃ (n : Nat) (a : Art), rfind s i = (n : Int) ∧ s.arts[n]? = some a ∧ a.id = i ∧ s.find i = some a ∧ ∀ (m : Nat) (b : Art), m < n → s.arts[m]? = some b → b.id ≠ i := by
  have := rfindFrom_spec i s.arts 0
  simpa [rfind, SpS.find] using this
/-- Without the article. -/
def remove (s : SpS) (i : Id32) : SpS × Int := if rfind s i < 0 then (s, 8) else (⟨s.budget, s.arts.eraseIdx (rfind s i).toNat⟩, 0)
theorem sum_erase : ∀ (l : List Art) (n : Nat) (a : Art), l[n]? = some a → ((l.eraseIdx n).map fun a => a.text.length).sum + a.text.length = (l.map fun a => a.text.length).sum
  | [], n, a, h => by simp at h
  | b :: l, 0, a, h => by simp at h; subst h; simp; omega
  | b :: l, n + 1, a, h => by
    have := sum_erase l n a (by simpa using h)
    simp only [List.eraseIdx_cons_succ, List.map_cons, List.sum_cons]; omega
theorem remove_ok {s : SpS} (h : SpOk s) (i : Id32) : SpOk (remove s i).1 := by
  unfold remove
  split
  · exact h
  · rename_i hr
    rcases rfind_spec s i with ⟨h1, _⟩ | ⟨n, a, h1, h2, _⟩
    · omega
    · rw [h1, Int.toNat_natCast]
      have hs := sum_erase s.arts n a h2
      have hb := h.by_
      unfold SpS.bytes at hb
      refine ⟨h.b1, h.b2, by simp only [SpS.bytes]; omega, fun b hb => h.arts b (List.mem_of_mem_eraseIdx hb), ?_⟩
      exact h.nodup.sublist ((List.eraseIdx_sublist _ _).map _)
end Go.SP
