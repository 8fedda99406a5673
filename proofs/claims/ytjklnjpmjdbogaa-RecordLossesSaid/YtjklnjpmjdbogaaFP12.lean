/- At every input, 'RecordLosses' returns true and leaves what was there alone. No condition. -/
import Derived.Test.YtjklnjpmjdbogaaRows
import Derived.Test.YtjklnjpmjdbogaaK4
import Derived.Test.YtjklnjpmjdbogaaFO3
namespace Go.Proofs.Ytjklnjpmjdbogaa.recordLosses
open Go.ChangeShapes Go.WideShapes Go.ChangeAt Go.RowKit Go.SL Go.Proofs.Try
set_option linter.unusedVariables false
set_option linter.unusedSimpArgs false
theorem own : ownKnob Try.prog.godebug = none := by kernel_rfl
theorem laid : laidOutB Try.prog = true := by kernel_rfl
set_option maxRecDepth 100000 in
theorem lifted (os : Os) (started : os.Started) (H : Type) (enc : TypeId × Value → H) :
    ReturnsInHanded {} Try.checked os 12 .any (Rows.recordLossesSpec.pre6 enc Try.prog Try.f12 Rows.recordLossesRow.domain false) (Rows.recordLossesSpec.post enc Try.prog Try.f12 false true false false) := by
  refine returnsInHanded_of_change_sized (C := Try.checked) own started (by kernel_rfl) Try.func12
    (ChangeSpec.witness6 (enc := enc) (C := Try.checked) false ⟨#[], #[.slice none 0 0, .int .u8 0, .int .u8 0], []⟩ 8 (by kernel_rfl) (by kernel_rfl) (by kernel_rfl) (by kernel_rfl)) ?_
  intro W base args ds gs before hval0 hW hcnd hsz _
  have hval : ∀ (j : Nat) t v, Try.f12.params[j]? = some t → args[j]? = some v → Value.okWide Try.prog W .any base t v := hval0
  have hW' := hW
  obtain ⟨p, q, hA0, hV, rfl, hfz, hnd⟩ := hW
  have hA : DataW.TrodAll enc Try.prog W 0 (fun _ => true) true Try.f12.params.toList args.toList ds p := hA0
  rw [Try.params12] at hA hval
  obtain ⟨v0, vs0, d0, ds0, p0, q0, hargs, rfl, rfl, h0, r0⟩ := trodAll_cons hA
  obtain ⟨v1, vs1, d1, ds1, p1, q1, rfl, rfl, rfl, h1, r1⟩ := trodAll_cons r0
  obtain ⟨v2, vs2, d2, ds2, p2, q2, rfl, rfl, rfl, h2, r2⟩ := trodAll_cons r1
  obtain ⟨rfl, rfl, rfl⟩ := trodAll_nil r2
  obtain rfl : args = #[v0, v1, v2] := by cases args; simp_all
  obtain ⟨sa0, sn0, sc0, rfl⟩ := okWide_slice Try.underlying52 (hval 0 _ v0 rfl rfl)
  obtain ⟨fuel0, hf0⟩ := h0
  obtain ⟨l0, u0, hu0, sl0⟩ := opens_sliceZ Try.underlying52 (by kernel_rfl) opens_pay.z fuel0 _ _ hf0 (fun k hk => by
      have := List.all_eq_true.1 hsz k (DataW.weights_mem_each (j := 0) (t := 52) (d := d0) rfl rfl k hk)
      simpa using this)
  simp [Value.cells] at hu0
  subst hu0
  obtain ⟨z1, rfl, rfl, rfl, w1⟩ := open_int Try.underlying5 (hval 1 _ v1 rfl rfl) h1
  obtain ⟨a1, hz1⟩ := byte_of w1
  obtain ⟨z2, rfl, rfl, rfl, w2⟩ := open_int Try.underlying5 (hval 2 _ v2 rfl rfl) h2
  obtain ⟨a2, hz2⟩ := byte_of w2
  have hct := recordLosses_ct _ l0 a1 a2 (paysOk_of sl0) (Sat.init W)
  rw [← hz1, ← hz2] at hct
  refine hct.mono fun e W' ⟨he, hS⟩ => ?_
  subst he
  exact ⟨_, rfl, post_law laid (by kernel_rfl) rfl rfl Try.underlying4 hW' rfl rfl rfl (hS.below (Gh.le.refl _))⟩

theorem over : Rows.recordLossesRow.holds Try.pinned (OpenSpec.ofChange Rows.recordLossesSpec) :=
  OpenClaim.holds_of_wide 12 Try.f12 rfl rfl rfl rfl rfl rfl rfl ⟨rfl, rfl, rfl, rfl, rfl⟩ rfl rfl rfl rfl rfl (by kernel_rfl) Try.func12 (by kernel_rfl)
    (of_decide_eq_true (by kernel_rfl)) (by unfold Func.isWrapper; first | (rw [if_pos (by decide +kernel)]; kernel_rfl) | (rw [if_neg (by decide +kernel)]; exact ⟨rfl, rfl⟩))
    (fun os started H enc _ => lifted os started H enc)

theorem proved : Rows.RecordLossesSaid := over
#print axioms proved
end Go.Proofs.Ytjklnjpmjdbogaa.recordLosses
