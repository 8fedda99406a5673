/- At every input, 'RecordJoins' returns true and leaves what was there alone. No condition. -/
import Derived.Test.YtjklnjpmjdbogaaRows
import Derived.Test.YtjklnjpmjdbogaaK1
import Derived.Test.YtjklnjpmjdbogaaFO2
namespace Go.Proofs.Ytjklnjpmjdbogaa.recordJoins
open Go.ChangeShapes Go.WideShapes Go.ChangeAt Go.RowKit Go.SL Go.Proofs.Try
set_option linter.unusedVariables false
set_option linter.unusedSimpArgs false
theorem own : ownKnob Try.prog.godebug = none := by kernel_rfl
theorem laid : laidOutB Try.prog = true := by kernel_rfl
set_option maxRecDepth 100000 in
theorem lifted (os : Os) (started : os.Started) (H : Type) (enc : TypeId × Value → H) :
    ReturnsInHanded {} Try.checked os 9 .any (Rows.recordJoinsSpec.pre6 enc Try.prog Try.f9 Rows.recordJoinsRow.domain false) (Rows.recordJoinsSpec.post enc Try.prog Try.f9 false true false false) := by
  refine returnsInHanded_of_change_sized (C := Try.checked) own started (by kernel_rfl) Try.func9
    (ChangeSpec.witness6 (enc := enc) (C := Try.checked) false ⟨#[], #[.slice none 0 0], []⟩ 8 (by kernel_rfl) (by kernel_rfl) (by kernel_rfl) (by kernel_rfl)) ?_
  intro W base args ds gs before hval0 hW hcnd hsz _
  have hval : ∀ (j : Nat) t v, Try.f9.params[j]? = some t → args[j]? = some v → Value.okWide Try.prog W .any base t v := hval0
  have hW' := hW
  obtain ⟨p, q, hA0, hV, rfl, hfz, hnd⟩ := hW
  have hA : DataW.TrodAll enc Try.prog W 0 (fun _ => true) true Try.f9.params.toList args.toList ds p := hA0
  rw [Try.params9] at hA hval
  obtain ⟨v0, vs0, d0, ds0, p0, q0, hargs, rfl, rfl, h0, r0⟩ := trodAll_cons hA
  obtain ⟨rfl, rfl, rfl⟩ := trodAll_nil r0
  obtain rfl : args = #[v0] := by cases args; simp_all
  obtain ⟨sa0, sn0, sc0, rfl⟩ := okWide_slice Try.underlying67 (hval 0 _ v0 rfl rfl)
  obtain ⟨fuel0, hf0⟩ := h0
  obtain ⟨l0, u0, hu0, sl0⟩ := opens_sliceZ Try.underlying67 (by kernel_rfl) opens_sector fuel0 _ _ hf0 (fun k hk => by
      have := List.all_eq_true.1 hsz k (DataW.weights_mem_each (j := 0) (t := 67) (d := d0) rfl rfl k hk)
      simpa using this)
  simp [Value.cells] at hu0
  subst hu0
  refine (recordJoins_ct _ l0 (secsOk_of sl0) (Sat.init W)).mono fun e W' ⟨he, hS⟩ => ?_
  subst he
  exact ⟨_, rfl, post_law laid (by kernel_rfl) rfl rfl Try.underlying4 hW' rfl rfl rfl (hS.below (Gh.le.refl _))⟩

theorem over : Rows.recordJoinsRow.holds Try.pinned (OpenSpec.ofChange Rows.recordJoinsSpec) :=
  OpenClaim.holds_of_wide 9 Try.f9 rfl rfl rfl rfl rfl rfl rfl ⟨rfl, rfl, rfl, rfl, rfl⟩ rfl rfl rfl rfl rfl (by kernel_rfl) Try.func9 (by kernel_rfl)
    (of_decide_eq_true (by kernel_rfl)) (by unfold Func.isWrapper; first | (rw [if_pos (by decide +kernel)]; kernel_rfl) | (rw [if_neg (by decide +kernel)]; exact ⟨rfl, rfl⟩))
    (fun os started H enc _ => lifted os started H enc)

theorem proved : Rows.RecordJoinsSaid := over
#print axioms proved
end Go.Proofs.Ytjklnjpmjdbogaa.recordJoins
