/- At every input, 'RecordBack' returns true and leaves what was there alone. No condition. -/
import Derived.Test.YtjklnjpmjdbogaaRows
import Derived.Test.YtjklnjpmjdbogaaHB
import Derived.Test.YtjklnjpmjdbogaaFO2
namespace Go.Proofs.Ytjklnjpmjdbogaa.recordBack
open Go.ChangeShapes Go.WideShapes Go.ChangeAt Go.RowKit Go.SL Go.Proofs.Try
set_option linter.unusedVariables false
set_option linter.unusedSimpArgs false
theorem own : ownKnob Try.prog.godebug = none := by kernel_rfl
theorem laid : laidOutB Try.prog = true := by kernel_rfl
set_option maxRecDepth 100000 in
theorem lifted (os : Os) (started : os.Started) (H : Type) (enc : TypeId × Value → H) :
    ReturnsInHanded {} Try.checked os 10 .any (Rows.recordBackSpec.pre6 enc Try.prog Try.f10 Rows.recordBackRow.domain false) (Rows.recordBackSpec.post enc Try.prog Try.f10 false true false false) := by
  refine returnsInHanded_of_change_sized (C := Try.checked) own started (by kernel_rfl) Try.func10
    (ChangeSpec.witness6 (enc := enc) (C := Try.checked) false ⟨#[], #[.agg #[.int .i64 0, .int .i64 0, .int .i64 0, .slice none 0 0], .slice none 0 0, .int .u8 0], []⟩ 8 (by kernel_rfl) (by kernel_rfl) (by kernel_rfl) (by kernel_rfl)) ?_
  intro W base args ds gs before hval0 hW hcnd hsz _
  have hval : ∀ (j : Nat) t v, Try.f10.params[j]? = some t → args[j]? = some v → Value.okWide Try.prog W .any base t v := hval0
  have hW' := hW
  obtain ⟨p, q, hA0, hV, rfl, hfz, hnd⟩ := hW
  have hA : DataW.TrodAll enc Try.prog W 0 (fun _ => true) true Try.f10.params.toList args.toList ds p := hA0
  rw [Try.params10] at hA hval
  obtain ⟨v0, vs0, d0, ds0, p0, q0, hargs, rfl, rfl, h0, r0⟩ := trodAll_cons hA
  obtain ⟨v1, vs1, d1, ds1, p1, q1, rfl, rfl, rfl, h1, r1⟩ := trodAll_cons r0
  obtain ⟨v2, vs2, d2, ds2, p2, q2, rfl, rfl, rfl, h2, r2⟩ := trodAll_cons r1
  obtain ⟨rfl, rfl, rfl⟩ := trodAll_nil r2
  obtain rfl : args = #[v0, v1, v2] := by cases args; simp_all
  obtain ⟨xs0, rfl, hsz0⟩ := okWide_struct Try.underlying49 (hval 0 _ v0 rfl rfl)
  obtain ⟨x0, hx0⟩ := opens_arg opens_rec h0
  obtain ⟨z2, rfl, rfl, rfl, w2⟩ := open_int Try.underlying5 (hval 2 _ v2 rfl rfl) h2
  obtain ⟨a2, hz2⟩ := byte_of w2
  obtain ⟨⟨R, v⟩, hc, hvi, hvr⟩ : ∃ y : Go.RC.RecS × Value, (Value.agg xs0).cells.toList = [.int .i64 y.1.kind, .int .i64 y.1.gen, .int .i64 y.1.num, y.2] ∧ IsSl y.2 y.1.pay.length ∧ Rds (Gh.of W) [] y.2 (y.1.pay.map byteV) := ⟨x0, hx0⟩
  have hxs : xs0 = [Value.int .i64 R.kind, .int .i64 R.gen, .int .i64 R.num, v].toArray := by simp only [Value.cells] at hc; rw [← hc]
  subst hxs
  obtain ⟨sa, sn, sc, rfl⟩ := okWide_slice Try.underlying67 (hval 1 _ v1 rfl rfl)
  obtain ⟨ms, hms⟩ : ∃ ms : List SecS, SecsOk (Gh.of W) (.slice sa sn sc) ms := by
    obtain ⟨fuel, hf⟩ := h1
    obtain ⟨l, u, hu, hsl⟩ := opens_sliceZ Try.underlying67 (by kernel_rfl) opens_sector fuel _ _ hf (fun k hk => by
      have := List.all_eq_true.1 hsz k (DataW.weights_mem_each (j := 1) (t := 67) (d := d1) rfl rfl k hk)
      simpa using this)
    simp [Value.cells] at hu
    subst hu
    exact ⟨l, secsOk_of hsl⟩
  have hct := recordBack_ct R v _ ms a2 hvi hvr hms (Sat.init W)
  rw [← hz2] at hct
  refine hct.mono fun e W' ⟨he, hS⟩ => ?_
  subst he
  exact ⟨_, rfl, post_law laid (by kernel_rfl) rfl rfl Try.underlying4 hW' rfl rfl rfl (hS.below (Gh.le.refl _))⟩

theorem over : Rows.recordBackRow.holds Try.pinned (OpenSpec.ofChange Rows.recordBackSpec) :=
  OpenClaim.holds_of_wide 10 Try.f10 rfl rfl rfl rfl rfl rfl rfl ⟨rfl, rfl, rfl, rfl, rfl⟩ rfl rfl rfl rfl rfl (by kernel_rfl) Try.func10 (by kernel_rfl)
    (of_decide_eq_true (by kernel_rfl)) (by unfold Func.isWrapper; first | (rw [if_pos (by decide +kernel)]; kernel_rfl) | (rw [if_neg (by decide +kernel)]; exact ⟨rfl, rfl⟩))
    (fun os started H enc _ => lifted os started H enc)

theorem proved : Rows.RecordBackSaid := over
#print axioms proved
end Go.Proofs.Ytjklnjpmjdbogaa.recordBack
