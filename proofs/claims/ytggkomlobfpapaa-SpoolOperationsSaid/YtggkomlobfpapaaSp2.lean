/- Removing an article: the map's entries. -/
import Derived.Test.YtggkomlobfpapaaSpRef
set_option linter.unusedVariables false
set_option linter.unusedSimpArgs false
namespace Go.SP
open Go.SL Go.SS Go.RowKit
theorem gDel_filter {α β : Type} [DecidableEq α] (k : α) : ∀ (kv : List (α × β)), (kv.map Prod.fst).Nodup → gDel kv k = kv.filter fun p => !decide (p.1 = k)
  | [], _ => rfl
  | (j, u) :: r, h => by
    simp only [List.map_cons, List.nodup_cons] at h
    rw [gDel, List.filter_cons]
    by_cases hj : j = k
    · subst hj
      simp only [if_true, decide_true, Bool.not_true, Bool.false_eq_true, if_false]
      symm
      rw [List.filter_eq_self]
      intro p hp
      have : p.1 ≠ j := fun e => h.1 (e ▸ List.mem_map.2 ⟨p, hp, rfl⟩)
      simp [this]
    · rw [if_neg hj, gDel_filter k r h.2]
      simp [hj]
theorem gDel_perm {α β : Type} [DecidableEq α] (k : α) {kv kv' : List (α × β)} (h : kv.Perm kv') (hn : (kv.map Prod.fst).Nodup) : (gDel kv k).Perm (gDel kv' k) := by
  rw [gDel_filter k kv hn, gDel_filter k kv' ((h.map _).nodup_iff.1 hn)]
  exact h.filter _
theorem gDel_arts (i : Id32) : ∀ (l : List Art) (n : Nat) (a : Art), l[n]? = some a → a.id = i → (∀ (m : Nat) (b : Art), m < n → l[m]? = some b → b.id ≠ i) → gDel (l.map artKV) i = (l.eraseIdx n).map artKV
  | [], n, a, h, _, _ => by simp at h
  | b :: l, 0, a, h, he, _ => by
    simp at h; subst h
    simp [gDel, artKV, he]
  | b :: l, n + 1, a, h, he, hn => by
    have hb : b.id ≠ i := hn 0 b (by omega) rfl
    have := gDel_arts i l n a (by simpa using h) he (fun m c hm hc => hn (m + 1) c (by omega) (by simpa using hc))
    simp only [List.map_cons, gDel, artKV, List.eraseIdx_cons_succ]
    rw [if_neg hb]
    congr 1
theorem map_erase {α β : Type} (f : α → β) : ∀ (l : List α) (n : Nat), (l.map f).eraseIdx n = (l.eraseIdx n).map f
  | [], _ => rfl
  | _ :: _, 0 => rfl
  | a :: l, n + 1 => by simp only [List.map_cons, List.eraseIdx_cons_succ, map_erase f l n]
end Go.SP
