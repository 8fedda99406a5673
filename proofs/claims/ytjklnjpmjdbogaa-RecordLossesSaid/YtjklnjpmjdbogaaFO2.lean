/- The arguments of the laws: sectors as they are described. -/
import Derived.Test.YtjklnjpmjdbogaaFO
import Derived.Test.YtjklnjpmjdbogaaHB
import Derived.Test.YtjklnjpmjdbogaaSLB
namespace Go.Proofs.Try
open Go.ChangeShapes Go.WideShapes Go.RowKit Go.SL Go.RC
set_option maxRecDepth 100000
set_option linter.unusedSimpArgs false
set_option linter.unusedVariables false
section
variable {H : Type} {enc : TypeId × Value → H} {W : World}
theorem opens_sector : OpensZ enc Try.prog W 40 (fun cs (x : SecS) => cs = secCells x ∧ SecOk (Gh.of W) x) := by
  intro fuel cs y h hw
  obtain ⟨hl, ⟨_, _, f0, w0⟩, ⟨_, _, f1, w1⟩, ⟨_, _, f2, w2⟩, ⟨_, _, f3, w3⟩, ⟨_, _, f4, w4⟩, ⟨_, _, f5, w5⟩, -⟩ := opens_fieldsZ Try.underlying40 h hw
  have e5 : Try.prog.cellsOf 5 = 1 := by kernel_rfl
  have eb : Try.prog.bytesOf 5 = 1 := by kernel_rfl
  have ep : Try.prog.cellsOf 24 = 6 := by kernel_rfl
  have es : Try.prog.cellsOf 22 = 1 := by kernel_rfl
  have ec : Try.prog.cellsOf 40 = 16 := by kernel_rfl
  rw [ec] at hl
  simp only [e5, es, ep] at f0 f1 f2 f3 f4 f5
  obtain ⟨x0, h0⟩ := opens_byte Try.underlying5 _ _ _ f0
  obtain ⟨⟨P, pv⟩, h1, pi, pr⟩ := opens_part _ _ _ f1
  obtain ⟨⟨O, ov⟩, h2, oi, orr⟩ := opens_part _ _ _ f2
  obtain ⟨x3, h3⟩ := opens_byte Try.underlying5 _ _ _ f3
  obtain ⟨x4, h4⟩ := opens_byte Try.underlying5 _ _ _ f4
  obtain ⟨ch, v, hv, hsl⟩ := opens_slice Try.underlying22 e5 (opens_byte Try.underlying5) _ _ _ f5
  rw [hv] at f5
  have hre := slice_reach Try.underlying22 f5 w5 hsl.bytes.1
  rw [eb, Nat.mul_one] at hre
  simp only at h1 h2 pi pr oi orr
  match cs, hl with
  | [c0, c1, c2, c3, c4, c5, c6, c7, c8, c9, c10, c11, c12, c13, c14, c15], _ =>
    simp [sub] at h0 h1 h2 h3 h4 hv
    obtain ⟨rfl, rfl, rfl, rfl, rfl, rfl⟩ := h1
    obtain ⟨rfl, rfl, rfl, rfl, rfl, rfl⟩ := h2
    subst h0 h3 h4 hv
    exact ⟨⟨x0, P, c6, O, c12, x3, x4, ch, c15⟩, rfl, ⟨pi, pr, oi, orr, hsl.bytes.1, hsl.bytes.2, hre⟩⟩
theorem secsOk_of {v : Value} {xs : List SecS} (h : SlA (Gh.of W) 16 (fun cs (x : SecS) => cs = secCells x ∧ SecOk (Gh.of W) x) v xs) : SecsOk (Gh.of W) v xs := by
  obtain ⟨cs, _, hr, hx⟩ := h.ex
  exact ⟨h.is, cs, hr, fun i x hi => hx i x hi⟩
end
end Go.Proofs.Try
