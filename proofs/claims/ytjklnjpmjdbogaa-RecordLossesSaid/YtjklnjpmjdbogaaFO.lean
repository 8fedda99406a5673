/- The arguments of the laws: parts and records. -/
import Derived.Test.YtjklnjpmjdbogaaRTab
import Derived.Test.YtjklnjpmjdbogaaRecA
import Derived.Test.YtjklnjpmjdbogaaSLB
namespace Go.Proofs.Try
open Go.ChangeShapes Go.WideShapes Go.RowKit Go.SL Go.RC
set_option maxRecDepth 100000
set_option linter.unusedSimpArgs false
set_option linter.unusedVariables false
section
variable {H : Type} {enc : TypeId × Value → H} {W : World}
theorem opens_part : Opens enc Try.prog W 24 (fun cs (x : PartS × Value) => cs = [.int .i64 x.1.kind, .int .i64 x.1.gen, .int .i64 x.1.num, .int .i64 x.1.idx, .int .i64 x.1.cnt, x.2] ∧ IsSl x.2 x.1.bytes.length ∧ Rds (Gh.of W) [] x.2 (x.1.bytes.map byteV)) := by
  intro fuel cs y h
  obtain ⟨hl, ⟨_, _, f0⟩, ⟨_, _, f1⟩, ⟨_, _, f2⟩, ⟨_, _, f3⟩, ⟨_, _, f4⟩, ⟨_, _, f5⟩, -⟩ := opens_fieldsL Try.underlying24 h
  have e5 : Try.prog.cellsOf 5 = 1 := by kernel_rfl
  have ei : Try.prog.cellsOf 3 = 1 := by kernel_rfl
  have es : Try.prog.cellsOf 22 = 1 := by kernel_rfl
  have ec : Try.prog.cellsOf 24 = 6 := by kernel_rfl
  rw [ec] at hl
  simp only [ei, es] at f0 f1 f2 f3 f4 f5
  obtain ⟨x0, h0, -⟩ := opens_int Try.underlying3 _ _ _ f0
  obtain ⟨x1, h1, -⟩ := opens_int Try.underlying3 _ _ _ f1
  obtain ⟨x2, h2, -⟩ := opens_int Try.underlying3 _ _ _ f2
  obtain ⟨x3, h3, -⟩ := opens_int Try.underlying3 _ _ _ f3
  obtain ⟨x4, h4, -⟩ := opens_int Try.underlying3 _ _ _ f4
  obtain ⟨ch, v, hv, hsl⟩ := opens_slice Try.underlying22 e5 (opens_byte Try.underlying5) _ _ _ f5
  match cs, hl with
  | [c0, c1, c2, c3, c4, c5], _ =>
    simp [sub] at h0 h1 h2 h3 h4 hv
    subst h0 h1 h2 h3 h4 hv
    exact ⟨(⟨x0, x1, x2, x3, x4, ch⟩, c5), rfl, hsl.bytes.1, hsl.bytes.2⟩
theorem opens_rec : Opens enc Try.prog W 49 (fun cs (x : RecS × Value) => cs = [.int .i64 x.1.kind, .int .i64 x.1.gen, .int .i64 x.1.num, x.2] ∧ IsSl x.2 x.1.pay.length ∧ Rds (Gh.of W) [] x.2 (x.1.pay.map byteV)) := by
  intro fuel cs y h
  obtain ⟨hl, ⟨_, _, f0⟩, ⟨_, _, f1⟩, ⟨_, _, f2⟩, ⟨_, _, f3⟩, -⟩ := opens_fieldsL Try.underlying49 h
  have e5 : Try.prog.cellsOf 5 = 1 := by kernel_rfl
  have ei : Try.prog.cellsOf 3 = 1 := by kernel_rfl
  have es : Try.prog.cellsOf 22 = 1 := by kernel_rfl
  have ec : Try.prog.cellsOf 49 = 4 := by kernel_rfl
  rw [ec] at hl
  simp only [ei, es] at f0 f1 f2 f3
  obtain ⟨x0, h0, -⟩ := opens_int Try.underlying3 _ _ _ f0
  obtain ⟨x1, h1, -⟩ := opens_int Try.underlying3 _ _ _ f1
  obtain ⟨x2, h2, -⟩ := opens_int Try.underlying3 _ _ _ f2
  obtain ⟨ch, v, hv, hsl⟩ := opens_slice Try.underlying22 e5 (opens_byte Try.underlying5) _ _ _ f3
  match cs, hl with
  | [c0, c1, c2, c3], _ =>
    simp [sub] at h0 h1 h2 hv
    subst h0 h1 h2 hv
    exact ⟨(⟨x0, x1, x2, ch⟩, c3), rfl, hsl.bytes.1, hsl.bytes.2⟩
end
end Go.Proofs.Try
