/- The laws' operations that came in. -/
import Derived.Test.YthbakafjhgcieaaDD2
import Derived.Test.YthbakafjhgcieaaSLOpen2
import Derived.Test.YthbakafjhgcieaaRows
namespace Go.Proofs.Try
open Go.ChangeShapes Go.WideShapes Go.RowKit Go.SL Go.DK
set_option maxRecDepth 100000
set_option linter.unusedSimpArgs false
set_option linter.unusedVariables false
section
variable {H : Type} {enc : TypeId × Value → H} {W : World}
def OpSh (I : Gh) (cs : List Value) (x : OpS × Value) : Prop := cs = [.int .i64 x.1.kind, .int .i64 x.1.sector, .int .i64 x.1.at_, byteV x.1.first, byteV x.1.step, x.2] ∧ IsSl x.2 x.1.ch.length ∧ Rds I [] x.2 (x.1.ch.map byteV) ∧ x.1.at_ ≤ 9223372036854775807
theorem opens_op : Opens enc Try.prog W 60 (OpSh (Gh.of W)) := by
  intro fuel cs y h
  obtain ⟨hl, ⟨_, _, f0⟩, ⟨_, _, f1⟩, ⟨_, _, f2⟩, ⟨_, _, f3⟩, ⟨_, _, f4⟩, ⟨_, _, f5⟩, -⟩ := opens_fieldsL Try.underlying60 h
  have e3 : Try.prog.cellsOf 3 = 1 := by kernel_rfl
  have e5 : Try.prog.cellsOf 5 = 1 := by kernel_rfl
  have es : Try.prog.cellsOf 30 = 1 := by kernel_rfl
  have ec : Try.prog.cellsOf 60 = 6 := by kernel_rfl
  rw [ec] at hl
  simp only [e3, e5, es] at f0 f1 f2 f3 f4 f5
  obtain ⟨k, hk, _⟩ := opens_int Try.underlying3 _ _ _ f0
  obtain ⟨s, hs, _⟩ := opens_int Try.underlying3 _ _ _ f1
  obtain ⟨a, ha, hw⟩ := opens_int Try.underlying3 _ _ _ f2
  obtain ⟨x, hx⟩ := opens_byte Try.underlying5 _ _ _ f3
  obtain ⟨z, hz⟩ := opens_byte Try.underlying5 _ _ _ f4
  obtain ⟨ch, v, hv, hsl⟩ := opens_slice Try.underlying30 e5 (opens_byte Try.underlying5) _ _ _ f5
  match cs, hl with
  | [c0, c1, c2, c3, c4, c5], _ =>
    simp [sub] at hk hs ha hx hz hv
    subst hk hs ha hx hz hv
    have hb := bounds_i64 hw
    exact ⟨(⟨k, s, a, x, z, ch⟩, c5), rfl, hsl.bytes.1, hsl.bytes.2, hb.2⟩
theorem opsA {I : Gh} {v : Value} {l : List (OpS × Value)} (h : SlA I 6 (OpSh I) v l) : OpsA I v (l.map Prod.fst) := by
  obtain ⟨xs, hl, hr, hx⟩ := h.ex
  refine ⟨by simpa using h.is, xs, hr, fun i o ho => ?_⟩
  simp only [List.getElem?_map, Option.map_eq_some_iff] at ho
  obtain ⟨p, hp, rfl⟩ := ho
  obtain ⟨h1, h2, h3, h4⟩ := hx i p hp
  exact ⟨p.2, h1, h2, h3, h4⟩
end
end Go.Proofs.Try
