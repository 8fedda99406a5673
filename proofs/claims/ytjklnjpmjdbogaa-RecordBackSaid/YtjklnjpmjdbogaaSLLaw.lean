/- The last step of a law: out of a contract over 'Sat', its row. -/
import Derived.Test.YtjklnjpmjdbogaaSLBase
import Derived.ProofKit
import Derived.OpenShut
namespace Go.SL
open Go.ChangeShapes Go.WideShapes Go.RowKit
section
variable {H : Type} {enc : TypeId × Value → H} {P : Program}
theorem trodAll_stays (hl : laidOutB P = true) {W W' : World} {sp : Nat → Bool} : ∀ {ts : List TypeId} {vs : List Value} {ds : List (DataW H)} {ps : List MemPlace}, (ts.all fun t => P.readableRec t && decide (t < P.types.size)) = true →
    DataW.TrodAll enc P W 0 (fun _ => true) true ts vs ds ps → (∀ p ∈ ps, W.sameAt W' p) → (∀ p ∈ ps, sp p.block = true) → DataW.TrodAll enc P W' 0 sp true ts vs ds ps
  | [], _, _, _, _, h, _, _ => by
    obtain ⟨rfl, rfl, rfl⟩ := trodAll_nil h
    exact rfl
  | t :: ts, _, _, _, hr, h, h1, h2 => by
    obtain ⟨v, vs, d, ds, a, b, rfl, rfl, rfl, x, y⟩ := trodAll_cons h
    simp only [List.all_cons, Bool.and_eq_true, decide_eq_true_eq] at hr
    exact ⟨a, b, WideElems.Trod_stays hl hr.1.1 hr.1.2 x (fun p hp => h1 p (List.mem_append.2 (.inl hp))) (fun p hp => h2 p (List.mem_append.2 (.inl hp))),
      trodAll_stays hl hr.2 y (fun p hp => h1 p (List.mem_append.2 (.inr hp))) (fun p hp => h2 p (List.mem_append.2 (.inr hp))), rfl⟩
/-- A law that returned true and left what was there alone. -/
theorem post_law {f : Func} {s : ChangeSpec} {apart fresh handsOn again : Bool} {W W' : World} {args : Array Value} {ds gs : List (DataW H)} {before : List MemPlace} {tb : TypeId} (hl : laidOutB P = true)
    (hr : (f.params.toList.all fun t => P.readableRec t && decide (t < P.types.size)) = true) (hv : s.vars = []) (hb1 : f.resultTypes = #[tb]) (hub : P.underlying tb = some .bool)
    (hW : DataW.Whole enc P f.params.toList s.vars apart W args.toList ds gs before) (h1 : (s.fn H ds).results = [.lit (.bool true)]) (h2 : (s.fn H ds).args = ds) (h3 : (s.fn H ds).vars = [])
    (hb : Below W.heap.size W W') : s.post enc P f apart fresh handsOn again W args (.bool true) W' := by
  have hold : ∀ p ∈ before, (fun b => decide (b < W.heap.size)) p.block = true := fun p hp => by simpa using hW.lt p hp
  obtain ⟨p, q, hA, hV, hps, hz, hn⟩ := id hW
  rw [hv] at hV
  obtain ⟨rfl, rfl⟩ := trodVars_none hV
  have hpb : before = p := by rw [hps, List.append_nil]
  subst hpb
  have hsame : ∀ x ∈ before, W.sameAt W' x := fun x hx => hb.same (hW.lt x hx)
  have hargs : ∀ sp : Nat → Bool, (∀ x ∈ before, sp x.block = true) → DataW.TrodAll enc P W' 0 sp true f.params.toList args.toList (s.fn H (ds ++ [])).args before := fun sp hsp => by
    rw [List.append_nil, h2]; exact trodAll_stays hl hr hA hsame hsp
  have hres : ∀ (b : Nat) (sp : Nat → Bool) (hd : Bool), DataW.TrodAll enc P W' b sp hd f.resultTypes.toList ((Value.bool true).resultList f.resultTypes.size) (s.fn H (ds ++ [])).results [] := fun b sp hd => by
    rw [List.append_nil, h1, hb1]; exact trodAll_cons_mk (shut_bool hub _) trodAll_mk0
  have hvars : ∀ sp : Nat → Bool, DataW.TrodVars enc P W' sp s.vars (s.fn H (ds ++ [])).vars [] := fun sp => by
    rw [List.append_nil, h3, hv]; exact rfl
  refine ⟨ds, [], before, [], before, [], hW, hres _ _ _, hargs _ hold, hvars _, World.keptBut_mono (fun x hx => ⟨hx, .inr (.inl hx)⟩) (hb.frame _), fun _ => ?_⟩
  refine ⟨ok_one hb1 rfl (okWide_bool_mk hub _), _, _, ([] ++ before) ++ [], ⟨[] ++ before, [], trodAll_append (hargs _ (fun _ _ => rfl)) (hres _ _ _), hvars _, rfl, ?_, ?_⟩, ?_⟩
  · intro b off hp
    have hp' : MemPlace.cell b off ∈ before := by simpa using hp
    rw [hb.frozen (hW.lt _ hp')]
    exact hz b off (by rw [hps]; simpa using hp')
  · intro ha
    have := hn ha
    rw [hps] at this
    simpa using this
  · intro x hx _
    simpa using hx
end
end Go.SL
