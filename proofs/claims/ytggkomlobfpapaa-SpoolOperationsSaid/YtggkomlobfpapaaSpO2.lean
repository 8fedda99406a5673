/- The arguments of the laws: operations. -/
import Derived.Test.YtggkomlobfpapaaSpO1
import Derived.Test.YtggkomlobfpapaaSpOp
import Derived.Test.YtggkomlobfpapaaSLB
namespace Go.Proofs.Try
open Go.ChangeShapes Go.WideShapes Go.RowKit Go.SL Go.SP
set_option maxRecDepth 100000
set_option linter.unusedSimpArgs false
set_option linter.unusedVariables false
section
variable {H : Type} {enc : TypeId × Value → H} {W : World}
theorem opens_id : Opens enc Try.prog W 29 (fun cs (i : Id32) => cs = idC i) := by
  intro fuel cs y h
  obtain ⟨l, h1, h2, h3⟩ := opens_array (sz := 1) Try.underlying29 (by kernel_rfl) (opens_byte Try.underlying5) fuel cs y h
  have ec : Try.prog.cellsOf 29 = 32 := by kernel_rfl
  rw [ec] at h2
  exact ⟨⟨l, h1⟩, bytes_of_subs l cs (by omega) h3⟩
theorem opens_art : Opens enc Try.prog W 37 (fun cs (a : Art) => cs = artC a) := by
  intro fuel cs y h
  obtain ⟨hl, ⟨_, _, f0⟩, ⟨_, _, f1⟩, ⟨_, _, f2⟩, -⟩ := opens_fieldsL Try.underlying37 h
  have e0 : Try.prog.cellsOf 29 = 32 := by kernel_rfl
  have e1 : Try.prog.cellsOf 9 = 1 := by kernel_rfl
  have e2 : Try.prog.cellsOf 3 = 1 := by kernel_rfl
  have ec : Try.prog.cellsOf 37 = 34 := by kernel_rfl
  rw [ec] at hl
  simp only [e0, e1, e2] at f0 f1 f2
  obtain ⟨i, hi⟩ := opens_id _ _ _ f0
  obtain ⟨tx, ht⟩ := opens_string Try.underlying9 _ _ _ f1
  obtain ⟨mn, hm, -⟩ := opens_int Try.underlying3 _ _ _ f2
  obtain ⟨t, rfl⟩ := bytes_list tx
  refine ⟨⟨i, t, mn⟩, ?_⟩
  have h1 : sub cs 0 32 ++ (sub cs 32 1 ++ sub cs 33 1) = cs := by
    rw [sub_join cs 32 1 1]
    have := sub_join cs 0 32 2
    rw [Nat.zero_add] at this
    rw [this, sub_whole hl]
  rw [← h1]
  unfold artC
  rw [hi, ht, hm]
  rfl
theorem opens_op : Opens enc Try.prog W 39 (fun cs (o : SpOp) => cs = opC o) := by
  intro fuel cs y h
  obtain ⟨hl, ⟨_, _, f0⟩, ⟨_, _, f1⟩, ⟨_, _, f2⟩, ⟨_, _, f3⟩, -⟩ := opens_fieldsL Try.underlying39 h
  have e0 : Try.prog.cellsOf 37 = 34 := by kernel_rfl
  have e2 : Try.prog.cellsOf 3 = 1 := by kernel_rfl
  have ec : Try.prog.cellsOf 39 = 37 := by kernel_rfl
  rw [ec] at hl
  simp only [e0, e2] at f0 f1 f2 f3
  obtain ⟨k, hk, -⟩ := opens_int Try.underlying3 _ _ _ f0
  obtain ⟨a, ha⟩ := opens_art _ _ _ f1
  obtain ⟨fr, hf, -⟩ := opens_int Try.underlying3 _ _ _ f2
  obtain ⟨cn, hc, -⟩ := opens_int Try.underlying3 _ _ _ f3
  refine ⟨⟨k, a, fr, cn⟩, ?_⟩
  have h1 : sub cs 0 1 ++ (sub cs 1 34 ++ (sub cs 35 1 ++ sub cs 36 1)) = cs := by
    rw [sub_join cs 35 1 1, sub_join cs 1 34 2]
    have := sub_join cs 0 1 36
    rw [Nat.zero_add] at this
    rw [this, sub_whole hl]
  rw [← h1]
  unfold opC
  rw [hk, ha, hf, hc]
  rfl
theorem opsOk_of {v : Value} {l : List SpOp} (h : SlA (Gh.of W) 37 (fun cs (o : SpOp) => cs = opC o) v l) : IsSl v l.length ∧ l.length ≤ 9223372036854775807 ∧ Rds (Gh.of W) [] v (flatE opC l) := by
  obtain ⟨xs, hl, hr, hx⟩ := h.ex
  rw [flat_of_subs elOp l xs hl hx] at hr
  exact ⟨h.is, h.max, hr⟩
end
end Go.Proofs.Try
