/- At every input, 'RecordSalvages' returns true and leaves what was there alone. No condition. -/
import Derived.Test.YtjklnjpmjdbogaaRows
import Derived.Test.YtjklnjpmjdbogaaK3
import Derived.Test.YtjklnjpmjdbogaaFO3
namespace Go.Proofs.Ytjklnjpmjdbogaa.recordSalvages
open Go.ChangeShapes Go.WideShapes Go.ChangeAt Go.RowKit Go.SL Go.Proofs.Try
set_option linter.unusedVariables false
set_option linter.unusedSimpArgs false
theorem own : ownKnob Try.prog.godebug = none := by kernel_rfl
theorem laid : laidOutB Try.prog = true := by kernel_rfl
set_option maxRecDepth 100000 in
theorem lifted (os : Os) (started : os.Started) (H : Type) (enc : TypeId × Value → H) :
    ReturnsInHanded {} Try.checked os 14 .any (Rows.recordSalvagesSpec.pre6 enc Try.prog Try.f14 Rows.recordSalvagesRow.domain false) (Rows.recordSalvagesSpec.post enc Try.prog Try.f14 false true false false) := by
  refine returnsInHanded_of_change_sized (C := Try.checked) own started (by kernel_rfl) Try.func14
    (ChangeSpec.witness6 (enc := enc) (C := Try.checked) false ⟨#[], #[.agg #[.int .i64 0, .int .i64 0, .slice none 0 0, .slice none 0 0, .slice none 0 0, .int .u8 0], .slice none 0 0], []⟩ 8 (by kernel_rfl) (by kernel_rfl) (by kernel_rfl) (by kernel_rfl)) ?_
  intro W base args ds gs before hval0 hW hcnd hsz _
  have hval : ∀ (j : Nat) t v, Try.f14.params[j]? = some t → args[j]? = some v → Value.okWide Try.prog W .any base t v := hval0
  have hW' := hW
  obtain ⟨p, q, hA0, hV, rfl, hfz, hnd⟩ := hW
  have hA : DataW.TrodAll enc Try.prog W 0 (fun _ => true) true Try.f14.params.toList args.toList ds p := hA0
  rw [Try.params14] at hA hval
  obtain ⟨v0, vs0, d0, ds0, p0, q0, hargs, rfl, rfl, h0, r0⟩ := trodAll_cons hA
  obtain ⟨v1, vs1, d1, ds1, p1, q1, rfl, rfl, rfl, h1, r1⟩ := trodAll_cons r0
  obtain ⟨rfl, rfl, rfl⟩ := trodAll_nil r1
  obtain rfl : args = #[v0, v1] := by cases args; simp_all
  obtain ⟨xs0, rfl, hsz0⟩ := okWide_struct Try.underlying75 (hval 0 _ v0 rfl rfl)
  obtain ⟨fuel0, hf0⟩ := h0
  obtain ⟨x0, hx0⟩ := opens_run fuel0 _ _ hf0 (fun k hk => by
      have := List.all_eq_true.1 hsz k (DataW.weights_mem_each (j := 0) (t := 75) (d := d0) rfl rfl k hk)
      simpa using this)
  obtain ⟨sa1, sn1, sc1, rfl⟩ := okWide_slice Try.underlying67 (hval 1 _ v1 rfl rfl)
  obtain ⟨fuel1, hf1⟩ := h1
  obtain ⟨l1, u1, hu1, sl1⟩ := opens_sliceZ Try.underlying67 (by kernel_rfl) opens_sector fuel1 _ _ hf1 (fun k hk => by
      have := List.all_eq_true.1 hsz k (DataW.weights_mem_each (j := 1) (t := 67) (d := d1) rfl rfl k hk)
      simpa using this)
  simp [Value.cells] at hu1
  subst hu1
  obtain ⟨hc, hok⟩ := hx0
  have hxs : xs0 = (runCells x0).toArray := by simp only [Value.cells] at hc; rw [← hc]
  subst hxs
  refine (recordSalvages_ct x0 _ l1 hok (secsOk_of sl1) (Sat.init W)).mono fun e W' ⟨he, hS⟩ => ?_
  subst he
  exact ⟨_, rfl, post_law laid (by kernel_rfl) rfl rfl Try.underlying4 hW' rfl rfl rfl (hS.below (Gh.le.refl _))⟩

theorem over : Rows.recordSalvagesRow.holds Try.pinned (OpenSpec.ofChange Rows.recordSalvagesSpec) :=
  OpenClaim.holds_of_wide 14 Try.f14 rfl rfl rfl rfl rfl rfl rfl ⟨rfl, rfl, rfl, rfl, rfl⟩ rfl rfl rfl rfl rfl (by kernel_rfl) Try.func14 (by kernel_rfl)
    (of_decide_eq_true (by kernel_rfl)) (by unfold Func.isWrapper; first | (rw [if_pos (by decide +kernel)]; kernel_rfl) | (rw [if_neg (by decide +kernel)]; exact ⟨rfl, rfl⟩))
    (fun os started H enc _ => lifted os started H enc)

theorem proved : Rows.RecordSalvagesSaid := over
#print axioms proved
end Go.Proofs.Ytjklnjpmjdbogaa.recordSalvages
