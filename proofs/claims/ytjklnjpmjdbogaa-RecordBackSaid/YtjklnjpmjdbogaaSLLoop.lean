/- Loops whose measure is part of what holds at the head. -/
import Derived.Test.YtjklnjpmjdbogaaSLVal3
namespace Go.SL
section
variable {P : Program} {w w' : World} {Q : Exit → Act → World → Prop}
def LpM (ms : List Bool) (l : List Value) (ds : List Deferred) (R : Nat → (Nat → Value) → World → Prop) (n : Nat) : Act → World → Prop := fun a' w' =>
  ∃ f', a' = ⟨(havoc ms l f' 0).toArray, ds⟩ ∧ f' = nth (havoc ms l f' 0) ∧ ∃ n', n' < n ∧ R n' f' w'
theorem least {p : Nat → Prop} : ∀ {n : Nat}, p n → ∃ m, p m ∧ ∀ k, p k → m ≤ k := by
  intro n
  induction n using Nat.strongRecOn with
  | ind n ih =>
    intro hn
    by_cases h : ∃ m, m < n ∧ p m
    · obtain ⟨m, hm, hp⟩ := h
      exact ih m hm hp
    · refine ⟨n, hn, fun k hk => ?_⟩
      rcases Nat.lt_or_ge k n with h2 | h2
      · exact absurd ⟨k, h2, hk⟩ h
      · exact h2
open Classical in
noncomputable def leastOf (p : Nat → Prop) : Nat := if h : ∃ n, p n then Classical.choose (least h.choose_spec) else 0
theorem leastOf_spec {p : Nat → Prop} {n : Nat} (h : p n) : p (leastOf p) ∧ leastOf p ≤ n := by
  have h0 : ∃ n, p n := ⟨n, h⟩
  have h1 := Classical.choose_spec (least h0.choose_spec)
  unfold leastOf
  rw [dif_pos h0]
  exact ⟨h1.1, h1.2 n h⟩
theorem wp_loopM {c : Code} {l : List Value} {ds : List Deferred} (ms : List Bool) (R : Nat → (Nat → Value) → World → Prop) (h0 : havoc ms l (nth l) 0 = l) (n0 : Nat) (hR : R n0 (nth l) w)
    (round : ∀ n f w, R n f w → c.wp P (Exit.then (LpM ms l ds R n) Q) ⟨(havoc ms l f 0).toArray, ds⟩ w) : (Code.loop c).wp P Q ⟨l.toArray, ds⟩ w := by
  refine wp_loopR ms (fun f w => ∃ n, R n f w) (fun f w => leastOf (fun n => R n f w)) h0 ⟨n0, hR⟩ ?_
  rintro f w ⟨n, hn⟩
  have h1 := leastOf_spec (p := fun n => R n f w) hn
  refine Code.wp_mono ?_ (round _ f w h1.1)
  intro e a2 w2 h
  cases e with
  | normal =>
    obtain ⟨f2, e1, e2, n', hlt, hR2⟩ := h
    exact ⟨f2, e1, e2, ⟨n', hR2⟩, Nat.lt_of_le_of_lt (leastOf_spec (p := fun n => R n f2 w2) hR2).2 hlt⟩
  | _ => exact h
theorem loopEndM {l l' : List Value} {ds : List Deferred} {ms : List Bool} {R : Nat → (Nat → Value) → World → Prop} {n : Nat} (hl : havoc ms l (nth l') 0 = l') (n' : Nat) (hR : R n' (nth l') w) (hm : n' < n) :
    LpM ms l ds R n ⟨l'.toArray, ds⟩ w :=
  ⟨nth l', by rw [hl], by rw [hl], n', hm, hR⟩
end
end Go.SL
