/- The argument of DiskFlushed. -/
import Derived.Test.YthbakafjhgcieaaDO1
namespace Go.Proofs.Try
open Go.ChangeShapes Go.WideShapes Go.RowKit Go.SL Go.DK
set_option maxRecDepth 100000
set_option linter.unusedSimpArgs false
set_option linter.unusedVariables false
section
variable {H : Type} {enc : TypeId × Value → H} {W : World}
structure CrashA where
  c : UInt8
  lv : Value
  mv : Value
  cv : Value
  ops : List (OpS × Value)
  more : List (OpS × Value)
  ch : List UInt8
theorem opens_crash : Opens enc Try.prog W 56 (fun cs (x : CrashA) => cs = [byteV x.c, x.lv, x.mv, x.cv] ∧ SlA (Gh.of W) 6 (OpSh (Gh.of W)) x.lv x.ops ∧ SlA (Gh.of W) 6 (OpSh (Gh.of W)) x.mv x.more ∧ IsSl x.cv x.ch.length ∧ Rds (Gh.of W) [] x.cv (x.ch.map byteV)) := by
  intro fuel cs y h
  obtain ⟨hl, ⟨_, _, f0⟩, ⟨_, _, f1⟩, ⟨_, _, f2⟩, ⟨_, _, f3⟩, -⟩ := opens_fieldsL Try.underlying56 h
  have e5 : Try.prog.cellsOf 5 = 1 := by kernel_rfl
  have es : Try.prog.cellsOf 30 = 1 := by kernel_rfl
  have eo : Try.prog.cellsOf 40 = 1 := by kernel_rfl
  have e6 : Try.prog.cellsOf 60 = 6 := by kernel_rfl
  have ec : Try.prog.cellsOf 56 = 4 := by kernel_rfl
  rw [ec] at hl
  simp only [e5, es, eo] at f0 f1 f2 f3
  obtain ⟨x, hx⟩ := opens_byte Try.underlying5 _ _ _ f0
  obtain ⟨ops, lv, hlv, hso⟩ := opens_slice Try.underlying40 e6 opens_op _ _ _ f1
  obtain ⟨more, mv, hmv, hsm⟩ := opens_slice Try.underlying40 e6 opens_op _ _ _ f2
  obtain ⟨ch, v, hv, hsl⟩ := opens_slice Try.underlying30 e5 (opens_byte Try.underlying5) _ _ _ f3
  match cs, hl with
  | [c0, c1, c2, c3], _ =>
    simp [sub] at hx hlv hmv hv
    subst hx hlv hmv hv
    exact ⟨⟨x, c1, c2, c3, ops, more, ch⟩, rfl, hso, hsm, hsl.bytes.1, hsl.bytes.2⟩
end
end Go.Proofs.Try
