/- At every input, 'SpoolOperations' returns true and leaves what was there alone. No condition. -/
import Derived.Test.YtggkomlobfpapaaRows
import Derived.Test.YtggkomlobfpapaaSpL2
import Derived.Test.YtggkomlobfpapaaSpO2
namespace Go.Proofs.Ytggkomlobfpapaa.spoolOperations
open Go.ChangeShapes Go.WideShapes Go.ChangeAt Go.RowKit Go.SL Go.Proofs.Try
set_option linter.unusedVariables false
set_option linter.unusedSimpArgs false
theorem own : ownKnob Try.prog.godebug = none := by kernel_rfl
theorem laid : laidOutB Try.prog = true := by kernel_rfl
set_option maxRecDepth 100000 in
theorem lifted (os : Os) (started : os.Started) (H : Type) (enc : TypeId × Value → H) :
    ReturnsInHanded {} Try.checked os 5 .any (Rows.spoolOperationsSpec.pre6 enc Try.prog Try.f5 Rows.spoolOperationsRow.domain false) (Rows.spoolOperationsSpec.post enc Try.prog Try.f5 false true false false) := by
  refine returnsInHanded_of_change_sized (C := Try.checked) own started (by kernel_rfl) Try.func5
    (ChangeSpec.witness6 (enc := enc) (C := Try.checked) false ⟨#[], #[.int .i64 0, .slice none 0 0], []⟩ 8 (by kernel_rfl) (by kernel_rfl) (by kernel_rfl) (by kernel_rfl)) ?_
  intro W base args ds gs before hval0 hW hcnd hsz _
  have hval : ∀ (j : Nat) t v, Try.f5.params[j]? = some t → args[j]? = some v → Value.okWide Try.prog W .any base t v := hval0
  have hW' := hW
  obtain ⟨p, q, hA0, hV, rfl, hfz, hnd⟩ := hW
  have hA : DataW.TrodAll enc Try.prog W 0 (fun _ => true) true Try.f5.params.toList args.toList ds p := hA0
  rw [Try.params5] at hA hval
  obtain ⟨v0, vs0, d0, ds0, p0, q0, hargs, rfl, rfl, h0, r0⟩ := trodAll_cons hA
  obtain ⟨v1, vs1, d1, ds1, p1, q1, rfl, rfl, rfl, h1, r1⟩ := trodAll_cons r0
  obtain ⟨rfl, rfl, rfl⟩ := trodAll_nil r1
  obtain rfl : args = #[v0, v1] := by cases args; simp_all
  obtain ⟨a0, rfl, rfl, rfl, w0⟩ := open_int Try.underlying3 (hval 0 _ v0 rfl rfl) h0
  obtain ⟨sa1, sn1, sc1, rfl⟩ := okWide_slice Try.underlying34 (hval 1 _ v1 rfl rfl)
  obtain ⟨fuel1, hf1⟩ := h1
  obtain ⟨l1, u1, hu1, sl1⟩ := opens_sliceZ Try.underlying34 (by kernel_rfl) opens_op.z fuel1 _ _ hf1 (fun k hk => by
      have := List.all_eq_true.1 hsz k (DataW.weights_mem_each (j := 1) (t := 34) (d := d1) rfl rfl k hk)
      simpa using this)
  simp [Value.cells] at hu1
  subst hu1
  obtain ⟨is1, len1, rd1⟩ := opsOk_of sl1
  refine (spoolOperations_ct a0 _ l1 len1 is1 rd1 (Sat.init W)).mono fun e W' ⟨J, he, hJ, hS⟩ => ?_
  subst he
  exact ⟨_, rfl, post_law laid (by kernel_rfl) rfl rfl Try.underlying4 hW' rfl rfl rfl (hS.below hJ)⟩

theorem over : Rows.spoolOperationsRow.holds Try.pinned (OpenSpec.ofChange Rows.spoolOperationsSpec) :=
  OpenClaim.holds_of_wide 5 Try.f5 rfl rfl rfl rfl rfl rfl rfl ⟨rfl, rfl, rfl, rfl, rfl⟩ rfl rfl rfl rfl rfl (by kernel_rfl) Try.func5 (by kernel_rfl)
    (of_decide_eq_true (by kernel_rfl)) (by unfold Func.isWrapper; first | (rw [if_pos (by decide +kernel)]; kernel_rfl) | (rw [if_neg (by decide +kernel)]; exact ⟨rfl, rfl⟩))
    (fun os started H enc _ => lifted os started H enc)

theorem proved : Rows.SpoolOperationsSaid := over
#print axioms proved
end Go.Proofs.Ytggkomlobfpapaa.spoolOperations
