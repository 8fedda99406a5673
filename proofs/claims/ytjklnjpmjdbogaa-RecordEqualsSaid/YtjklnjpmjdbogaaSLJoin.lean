/- Several ways through a piece of code, brought together. -/
import Derived.Test.YtjklnjpmjdbogaaSLLoop
namespace Go.SL
section
variable {P : Program} {w w' : World} {Q : Exit → Act → World → Prop}
def JnQ (ms : List Bool) (l : List Value) (ds : List Deferred) (R : (Nat → Value) → World → Prop) : Exit → Act → World → Prop
  | .normal, a', w' => ∃ f, a' = ⟨(havoc ms l f 0).toArray, ds⟩ ∧ R f w'
  | _, _, _ => False
theorem wp_join {c : Code} {l : List Value} {ds : List Deferred} (ms : List Bool) (R : (Nat → Value) → World → Prop)
    (h : c.wp P (JnQ ms l ds R) ⟨l.toArray, ds⟩ w)
    (k : ∀ f w, R f w → Q .normal ⟨(havoc ms l f 0).toArray, ds⟩ w) : c.wp P Q ⟨l.toArray, ds⟩ w := by
  refine Code.wp_mono ?_ h
  intro e a' w' hj
  cases e with
  | normal => obtain ⟨f, rfl, hR⟩ := hj; exact k f w' hR
  | _ => exact hj.elim
theorem joinEnd {l l' : List Value} {ds : List Deferred} {ms : List Bool} {R : (Nat → Value) → World → Prop} (hl : havoc ms l (nth l') 0 = l') (hR : R (nth l') w) :
    JnQ ms l ds R .normal ⟨l'.toArray, ds⟩ w := ⟨nth l', by rw [hl], hR⟩
end
end Go.SL
