/- The arguments of the laws: payloads, runs. -/
import Derived.Test.YtjklnjpmjdbogaaFO2
import Derived.Test.YtjklnjpmjdbogaaK2
namespace Go.Proofs.Try
open Go.ChangeShapes Go.WideShapes Go.RowKit Go.SL Go.RC
set_option maxRecDepth 100000
set_option linter.unusedSimpArgs false
set_option linter.unusedVariables false
section
variable {H : Type} {enc : TypeId × Value → H} {W : World}
theorem opens_pay : Opens enc Try.prog W 22 (fun cs (l : List UInt8) => ∃ v, cs = [v] ∧ SlA (Gh.of W) 1 (fun cs (z : UInt8) => cs = [byteV z]) v l) :=
  opens_slice Try.underlying22 (by kernel_rfl) (opens_byte Try.underlying5)
theorem paysOk_of {v : Value} {ps : List (List UInt8)} (h : SlA (Gh.of W) 1 (fun cs (l : List UInt8) => ∃ v, cs = [v] ∧ SlA (Gh.of W) 1 (fun cs (z : UInt8) => cs = [byteV z]) v l) v ps) : PaysOk (Gh.of W) v ps := by
  obtain ⟨cs, _, hr, hx⟩ := h.ex
  refine ⟨h.is, cs, hr, fun i p hi => ?_⟩
  obtain ⟨u, hu, hb⟩ := hx i p hi
  exact ⟨u, by have := cons_of_sub hu; rwa [Nat.mul_one] at this, hb.bytes.1, hb.bytes.2⟩
theorem opens_run : OpensZ enc Try.prog W 75 (fun cs (x : RunS) => cs = runCells x ∧ RunOk (Gh.of W) x) := by
  intro fuel cs y h hw
  obtain ⟨hl, ⟨_, _, f0, w0⟩, ⟨_, _, f1, w1⟩, ⟨_, _, f2, w2⟩, ⟨_, _, f3, w3⟩, ⟨_, _, f4, w4⟩, ⟨_, _, f5, w5⟩, -⟩ := opens_fieldsZ Try.underlying75 h hw
  have e1 : Try.prog.cellsOf 3 = 1 := by kernel_rfl
  have e5 : Try.prog.cellsOf 5 = 1 := by kernel_rfl
  have e2 : Try.prog.cellsOf 52 = 1 := by kernel_rfl
  have e3 : Try.prog.cellsOf 67 = 1 := by kernel_rfl
  have es : Try.prog.cellsOf 22 = 1 := by kernel_rfl
  have ec : Try.prog.cellsOf 75 = 6 := by kernel_rfl
  rw [ec] at hl
  simp only [e1, e5, es, e2, e3] at f0 f1 f2 f3 f4 f5
  obtain ⟨x0, h0, -⟩ := opens_int Try.underlying3 _ _ _ f0
  obtain ⟨x1, h1, -⟩ := opens_int Try.underlying3 _ _ _ f1
  obtain ⟨ps, v2, hv2, hsl2⟩ := opens_slice Try.underlying52 es opens_pay _ _ _ f2
  obtain ⟨os, v3, hv3, hsl3⟩ := opens_sliceZ Try.underlying67 (by kernel_rfl) opens_sector _ _ _ f3 w3
  obtain ⟨zs, v4, hv4, hsl4⟩ := opens_slice Try.underlying22 e5 (opens_byte Try.underlying5) _ _ _ f4
  obtain ⟨x5, h5⟩ := opens_byte Try.underlying5 _ _ _ f5
  obtain ⟨c0, c1, c2, c3, c4, c5, rfl⟩ : ∃ c0 c1 c2 c3 c4 c5, cs = [c0, c1, c2, c3, c4, c5] := by
    match cs, hl with
    | [c0, c1, c2, c3, c4, c5], _ => exact ⟨_, _, _, _, _, _, rfl⟩
  obtain rfl : c0 = _ := by have := cons_of_sub h0; simpa using this
  obtain rfl : c1 = _ := by have := cons_of_sub h1; simpa using this
  obtain rfl : c2 = _ := by have := cons_of_sub hv2; simpa using this
  obtain rfl : c3 = _ := by have := cons_of_sub hv3; simpa using this
  obtain rfl : c4 = _ := by have := cons_of_sub hv4; simpa using this
  obtain rfl : c5 = _ := by have := cons_of_sub h5; simpa using this
  exact ⟨⟨x0, x1, ps, _, os, _, zs, _, x5⟩, rfl, ⟨paysOk_of hsl2, secsOk_of hsl3, hsl4.bytes.1, hsl4.bytes.2⟩⟩
end
end Go.Proofs.Try
