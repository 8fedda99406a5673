/- At every input, 'DiskClone' returns true and leaves what was there alone. No condition. -/
import Derived.Test.YthbakafjhgcieaaRows
import Derived.Test.YthbakafjhgcieaaDL6
import Derived.Test.YthbakafjhgcieaaDO1
namespace Go.Proofs.Ythbakafjhgcieaa.diskClone
open Go.ChangeShapes Go.WideShapes Go.ChangeAt Go.RowKit Go.SL Go.Proofs.Try
set_option linter.unusedVariables false
set_option linter.unusedSimpArgs false
theorem own : ownKnob Try.prog.godebug = none := by kernel_rfl
theorem laid : laidOutB Try.prog = true := by kernel_rfl
set_option maxRecDepth 100000 in
theorem lifted (os : Os) (started : os.Started) (H : Type) (enc : TypeId × Value → H) :
    ReturnsInHanded {} Try.checked os 8 .any (Rows.diskCloneSpec.pre6 enc Try.prog Try.f8 Rows.diskCloneRow.domain false) (Rows.diskCloneSpec.post enc Try.prog Try.f8 false true false false) := by
  refine returnsInHanded_of_change (C := Try.checked) own started (by kernel_rfl) Try.func8
    (ChangeSpec.witness6 (enc := enc) (C := Try.checked) false ⟨#[], #[.int .u8 0, .slice none 0 0, .slice none 0 0], []⟩ 8 (by kernel_rfl) (by kernel_rfl) (by kernel_rfl) (by kernel_rfl)) ?_
  intro W base args ds gs before hval0 hW hcnd _
  have hval : ∀ (j : Nat) t v, Try.f8.params[j]? = some t → args[j]? = some v → Value.okWide Try.prog W .any base t v := hval0
  have hW' := hW
  obtain ⟨p, q, hA0, hV, rfl, hfz, hnd⟩ := hW
  have hA : DataW.TrodAll enc Try.prog W 0 (fun _ => true) true Try.f8.params.toList args.toList ds p := hA0
  rw [Try.params8] at hA hval
  obtain ⟨v0, vs0, d0, ds0, p0, q0, hargs, rfl, rfl, h0, r0⟩ := trodAll_cons hA
  obtain ⟨v1, vs1, d1, ds1, p1, q1, rfl, rfl, rfl, h1, r1⟩ := trodAll_cons r0
  obtain ⟨v2, vs2, d2, ds2, p2, q2, rfl, rfl, rfl, h2, r2⟩ := trodAll_cons r1
  obtain ⟨rfl, rfl, rfl⟩ := trodAll_nil r2
  obtain rfl : args = #[v0, v1, v2] := by cases args; simp_all
  obtain ⟨z0, rfl, rfl, rfl, w0⟩ := open_int Try.underlying5 (hval 0 _ v0 rfl rfl) h0
  obtain ⟨a0, hz0⟩ := byte_of w0
  obtain ⟨a1, sl1⟩ := opens_sliceArg Try.underlying40 (by kernel_rfl) opens_op (okWide_slice Try.underlying40 (hval 1 _ v1 rfl rfl)) h1
  obtain ⟨a2, sl2⟩ := opens_sliceArg Try.underlying40 (by kernel_rfl) opens_op (okWide_slice Try.underlying40 (hval 2 _ v2 rfl rfl)) h2
  have hct := diskClone_ct a0 v1 v2 (a1.map Prod.fst) (a2.map Prod.fst) (opsA sl1) (opsA sl2) (Sat.init W)
  rw [← hz0] at hct
  refine hct.mono fun e W' ⟨J, he, hJ, hS⟩ => ?_
  subst he
  exact ⟨_, rfl, post_law laid (by kernel_rfl) rfl rfl Try.underlying4 hW' rfl rfl rfl (hS.below hJ)⟩

theorem over : Rows.diskCloneRow.holds Try.pinned (OpenSpec.ofChange Rows.diskCloneSpec) :=
  OpenClaim.holds_of_wide 8 Try.f8 rfl rfl rfl rfl rfl rfl rfl ⟨rfl, rfl, rfl, rfl, rfl⟩ rfl rfl rfl rfl rfl (by kernel_rfl) Try.func8 (by kernel_rfl)
    (of_decide_eq_true (by kernel_rfl)) (by unfold Func.isWrapper; first | (rw [if_pos (by decide +kernel)]; kernel_rfl) | (rw [if_neg (by decide +kernel)]; exact ⟨rfl, rfl⟩))
    (fun os started H enc _ => lifted os started H enc)

theorem proved : Rows.DiskCloneSaid := over
#print axioms proved
end Go.Proofs.Ythbakafjhgcieaa.diskClone
