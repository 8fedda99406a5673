/- A range over a function, over 'Sat': the loop's record and its block of deferred calls are chunks. -/
import Derived.Test.YtjklnjpmjdbogaaSLMap
import Derived.RangeFuncLeaves
import Derived.RangeFuncIn
import Derived.RangeFuncRecord
import Derived.TacticsIn
set_option linter.unusedVariables false
set_option linter.unusedSimpArgs false
namespace Go.SL
open Go.RowKit

section
variable {P : Program} {w w' : World} {I J : Gh} {L M : List Ch} {c d : Ch} {b b' : Nat} {o o' : Obj} {E : TypeId} {cs xs ys news : List Value} {v u : Value} {n m k sz : Nat} {p : Addr}
variable {a : Act} {K : Act → World → Prop} {Q : Exit → Act → World → Prop} {dst : Option Tmp} {x y z : Operand} {t ty : TypeId} {pos : String} {af : Array Edge} {gd : Option (Nat × Bool)}
variable {ops : Array Oper} {rest : List Oper} {l l' : List Value} {ds : List Deferred} {q : Oper} {e j : Nat}

theorem Sat.putBlk (h : Sat w I (Blk b o :: L)) : Sat (w.putObj b o') I (Blk b o' :: L) := by
  have hb := (Array.getElem?_eq_some_iff.1 h.blk0).1
  exact h.write (World.putObj_heap_same hb) (fun k hk => World.putObj_heap_other hk) rfl rfl rfl

def noDefer (o : Oper) : Bool := match o.op with | .defer _ => false | _ => true
theorem oper_in {o : Oper} (hd : noDefer o = true) (h : o.wp P a w K Q) : o.wpIn (Fence.wide.inRound j) n P a w K Q := by
  refine ⟨fun _ _ => trivial, ?_⟩
  rw [Oper.semAt_eq _ _ _ (fun c hc => by simp [noDefer, hc] at hd)]
  unfold Oper.wp at h
  unfold Oper.upon at h
  unfold Oper.uponIn
  split at h
  · rename_i e; simpa [e] using h
  · rename_i e; simpa [e] using h
  · rename_i e; simpa [e] using h
  · rename_i e; simp only [e]; exact ⟨(fun h => by cases h), callsIn_wide.2 h⟩
  · rename_i f args w1 e
    simp only [e]
    refine ⟨(fun h => by cases h), ?_⟩
    intro c cs _
    obtain ⟨v, w', r, s⟩ := h c cs
    exact ⟨v, w', r, stepsIn_wide.2 s⟩
  · rename_i e; simpa [e] using h
  · exact h.elim
theorem list_in (hq : ∀ a w, ¬ Q .outgrown a w) : ∀ (ol : List Oper) (a : Act) (w : World), ol.all noDefer = true → wpList P ops Q ol a w → wpListIn (Fence.wide.inRound j) n P ops Q ol a w
  | [], a, w, _, h => h
  | o :: r, a, w, hd, h => by
    simp only [List.all_cons, Bool.and_eq_true] at hd
    unfold wpList at h
    unfold wpListIn
    split
    · rename_i hw
      rw [if_pos hw] at h
      rcases h with h | ⟨_, a1, w1, h⟩
      · refine oper_in hd.1 ?_
        exact Oper.wp_mono (fun a w h => list_in hq r a w hd.2 h) h
      · exact (hq _ _ h).elim
    · rename_i hw
      rw [if_neg hw] at h
      exact ⟨fun _ _ => trivial, list_in hq r _ w hd.2 h⟩
theorem wi_region {id : Nat} {ol : List Oper} (hd : ol.all noDefer = true) (hq : ∀ a w, ¬ Q .outgrown a w) (h0 : WL P ol.toArray Q ol a w) : (Code.region id ol.toArray false).wpIn (Fence.wide.inRound j) n P Q a w :=
  wpIn_region_lit (list_in hq ol a w hd h0.ok)

/-! the region in which the iterator calls yield: walked at the wide fence -/
theorem wp_region_F {id : Nat} {ol : List Oper} (h : wpListIn Fence.wide 10 P ol.toArray Q ol a w) : (Code.region id ol.toArray false).wp P Q a w := (wpIn_wide (n := 10)).1 (wpIn_region_lit h)
theorem wf_of (hw : Region.wanted q (yielded ops a.tmps) = true) (h : q.wpIn Fence.wide 10 P a w (wpListIn Fence.wide 10 P ops Q rest) Q) : wpListIn Fence.wide 10 P ops Q (q :: rest) a w := by
  unfold wpListIn; rw [if_pos hw]; exact h
theorem wf_val (hw : Region.wanted q (yielded ops l.toArray) = true) (hd : q.dst = some e) (hx : Ex P ⟨l.toArray, ds⟩ q w v) (hl : lset l e v = l')
    (h : wpListIn Fence.wide 10 P ops Q rest ⟨l'.toArray, ds⟩ w) : wpListIn Fence.wide 10 P ops Q (q :: rest) ⟨l.toArray, ds⟩ w := by
  refine wf_of hw ⟨fun _ _ => trivial, ?_⟩
  rw [show Oper.semAt Fence.wide.round (Act.eval ⟨l.toArray, ds⟩) q = execOp (Act.eval ⟨l.toArray, ds⟩) q from rfl]
  rw [show (execOp (Act.eval ⟨l.toArray, ds⟩) q).run P w = .ok (.value v) w from hx]
  show wpListIn Fence.wide 10 P ops Q rest (Act.put _ q.dst v) w
  rw [hd, put_lit, hl]
  exact h
theorem wf_put {v : Value} (hl : lset l e v = l') (h : wpListIn Fence.wide 10 P ops Q rest ⟨l'.toArray, ds⟩ w) : wpListIn Fence.wide 10 P ops Q rest (Act.put ⟨l.toArray, ds⟩ (some e) v) w := by
  rw [put_lit, hl]; exact h

/-- One round's way out, over 'Sat'. -/
def rndPost (I : Gh) (l : Nat) (rec : Loop) (R : Option Code → Gh → List Ch → Prop) : Exit → Act → World → Prop
  | .normal, _, w => ∃ J M, Sat w J (Blk l (.loop { rec with state := .busy }) :: M) ∧ R none J M
  | .ret, _, w => ∃ J M, Sat w J (Blk l (.loop { rec with state := .busy }) :: M) ∧ R (some .ret) J M
  | .exit id, _, w => ∃ J M, Sat w J (Blk l (.loop { rec with state := .busy }) :: M) ∧ R (some (.exit id)) J M
  | .goto t, _, w => ∃ J M, Sat w J (Blk l (.loop { rec with state := .busy }) :: M) ∧ R (some (.goto t)) J M
  | _, _, _ => False
/-- A call of yield: a round. Behind it: the record ready for another, or done, a jump pending. -/
theorem wf_yield {i : Nat} {args : List Operand} {vs : List Value} {rec : Loop} {ats : Array TypeId} (hx : a.eval x = .func (.yield i) #[] #[]) (hv : EvL a args vs) (hS : Sat w I (Blk i (.loop rec) :: L)) (hr : rec.state = .ready) (hpd : rec.pending = none) (hps : rec.params.size = vs.length)
    (R : Option Code → Gh → List Ch → Prop)
    (ha : rec.assign.wpIn (Fence.wide.inRound i) 9 P (Exit.then (fun a1 w1 => ∃ M, Sat w1 I (Blk i (.loop rec) :: M) ∧ ∀ w2, Sat w2 I (Blk i (.loop { rec with state := .busy }) :: M) →
      rec.body.wpIn (Fence.wide.inRound i) 9 P (rndPost I i rec R) a1 w2) (fun _ _ _ => False)) ⟨(rec.params.zip vs.toArray).foldl (fun tmps (t, a) => tmps.setIfInBounds t a) rec.tmps, []⟩ w)
    (hn : ∀ J M w', R none J M → Sat w' J (Blk i (.loop rec) :: M) → K (a.put dst (.bool true)) w')
    (hj : ∀ c J M w', R (some c) J M → Sat w' J (Blk i (.loop { rec with state := .done, pending := some c }) :: M) → K (a.put dst (.bool false)) w') :
    Oper.wpIn Fence.wide 10 P ⟨dst, .call ⟨.value x, args.toArray, ats⟩, ty, pos, af, gd⟩ a w K Q := by
  refine ⟨fun _ _ => trivial, ?_⟩
  have hy := run_yield (P := P) (args := vs.toArray) hS.blk0 (by simp [hps])
  have hrun : (execOp a.eval ⟨dst, .call ⟨.value x, args.toArray, ats⟩, ty, pos, af, gd⟩).run P w = .ok (.round i rec.fn ((rec.params.zip vs.toArray).foldl (fun tmps (t, a) => tmps.setIfInBounds t a) rec.tmps) rec.assign rec.body) w := by
    simp [execOp, resolve, hx, Deferred.ofValue, invoke, callFunc, hv.eq, hy]
  rw [show Oper.semAt Fence.wide.round a.eval ⟨dst, .call ⟨.value x, args.toArray, ats⟩, ty, pos, af, gd⟩ = execOp a.eval ⟨dst, .call ⟨.value x, args.toArray, ats⟩, ty, pos, af, gd⟩ from rfl, hrun]
  rw [Oper.uponIn_round]
  refine ⟨(fun h => by cases h), roundIn_of_wpIn trivial ?_⟩
  refine wpIn_mono ha ?_
  intro e1 a1 w1 h1
  cases e1 with
  | normal =>
    obtain ⟨M, hM, hB⟩ := h1
    refine ⟨_, run_beginRound hM.blk0 hr, wpIn_mono (hB _ hM.putBlk) ?_⟩
    intro e2 a2 w2 h2
    cases e2 with
    | normal =>
      obtain ⟨J, M', hS2, hR⟩ := h2
      refine ⟨_, _, run_endRound none hS2.blk0, ?_⟩
      refine hn J M' _ hR ?_
      have := hS2.putBlk (o' := .loop { { rec with state := .busy } with state := if (none : Option Code).isNone then .ready else .done, pending := none })
      cases rec; simp_all
    | ret =>
      obtain ⟨J, M', hS2, hR⟩ := h2
      exact ⟨_, _, run_endRound (some .ret) hS2.blk0, hj _ J M' _ hR (hS2.putBlk)⟩
    | exit id =>
      obtain ⟨J, M', hS2, hR⟩ := h2
      exact ⟨_, _, run_endRound (some (.exit id)) hS2.blk0, hj _ J M' _ hR (hS2.putBlk)⟩
    | goto t =>
      obtain ⟨J, M', hS2, hR⟩ := h2
      exact ⟨_, _, run_endRound (some (.goto t)) hS2.blk0, hj _ J M' _ hR (hS2.putBlk)⟩
    | panic _ => exact h2.elim
    | outgrown => exact h2.elim
  | _ => exact h1.elim

/-- The loop: the iterator's call, over the record. -/
theorem wp_rangeFuncS {g : Operand} {ps : Array Tmp} {assign body : Code} {gf : Nat} {lb : List Value} (hg : a.eval g = .func (.func gf) #[] lb.toArray) (hcb : callB P gf = true) (hS : Sat w I L)
    (h : ∀ fn i D w1, Sat w1 I (Blk i (.loop { state := .ready, pending := none, fn, tmps := a.tmps, params := ps, assign, body, defers := D }) :: Blk D (.deferred (some [])) :: L) →
      Calls P gf ((.func (.yield i) #[] #[] :: lb).toArray) w1 fun e w2 => (∃ v, e = .returned v) ∧ ∃ st pe J M, st ≠ .busy ∧ Sat w2 J (Blk i (.loop { state := st, pending := pe, fn, tmps := a.tmps, params := ps, assign, body, defers := D }) :: M) ∧
        ∀ w3, Sat w3 J M → match pe with
          | none => Q .normal { a with defers := ⟨.collected D, #[]⟩ :: a.defers } w3
          | some c => c.wp P Q { a with defers := ⟨.collected D, #[]⟩ :: a.defers } w3) :
    (Code.rangeFunc g ps assign body).wp P Q a w := by
  refine (wpIn_wide (n := 20)).1 (wpIn_rangeFunc ?_)
  intro fn _
  unfold callB at hcb
  split at hcb
  case h_2 => cases hcb
  rename_i f hf
  simp only [Bool.and_eq_true, bne_iff_ne] at hcb
  refine ⟨w.heap.size + 1, [⟨.collected w.heap.size, #[]⟩], (w.alloc (.deferred (some []))).alloc (.loop { state := .ready, pending := none, fn, tmps := a.tmps, params := ps, assign, body, defers := w.heap.size }), ⟨.fn (.func gf) lb.toArray, #[.func (.yield (w.heap.size + 1)) #[] #[]]⟩, (w.alloc (.deferred (some []))).alloc (.loop { state := .ready, pending := none, fn, tmps := a.tmps, params := ps, assign, body, defers := w.heap.size }), gf, (.func (.yield (w.heap.size + 1)) #[] #[] :: lb).toArray, (w.alloc (.deferred (some []))).alloc (.loop { state := .ready, pending := none, fn, tmps := a.tmps, params := ps, assign, body, defers := w.heap.size }), run_enterLoop_outer _ _ _ _ _, ?_, fun _ _ => trivial, ?_, (fun h => by cases h), ?_⟩
  · simp only [resolve, hg]
    simp [go_sem]
  · simp [invoke, callFunc, hf, hcb.2, Option.isSome_iff_ne_none.1 hcb.1, go_sem]
  · refine callsIn_wide.2 ?_
    have hS1 := ((hS.alloc (.deferred (some []))).alloc (.loop { state := .ready, pending := none, fn, tmps := a.tmps, params := ps, assign, body, defers := w.heap.size }))
    rw [World.size_alloc] at hS1
    refine (h fn _ _ _ hS1).mono ?_
    rintro e w2 ⟨⟨v, rfl⟩, st, pe, J, M, hst, hS2, hK⟩
    refine ⟨pe, _, run_endLoop hS2.blk0 hst, ?_⟩
    have := hK _ (hS2.putBlk (o' := .loop { state := .exhausted, pending := pe, fn, tmps := a.tmps, params := ps, assign, body, defers := w.heap.size })).drop
    cases pe with
    | none => exact this
    | some c => exact wpIn_wide.2 this
def noPan (Q : Exit → Act → World → Prop) : Exit → Act → World → Prop
  | .panic _, _, _ => False
  | e, a, w => Q e a w
theorem calls_marks {f : FuncId} {fn : Func} {c : Code} {args : Array Value} {R : Ending → World → Prop} (hf : P.funcs[f]? = some fn) (hb : fn.body = some c)
    (h : c.wp P (noPan (bodyPostM Fence.wide 9 P fn R)) ⟨args ++ Array.replicate (fn.ntmps - args.size) undef, []⟩ w) : Calls P f args w R :=
  callsIn_wide.1 (callsIn_of_wp_marks (F := Fence.wide) (n := 9) hf hb trivial (wpIn_wide.2 (Code.wp_mono (fun e a w h => by cases e <;> first | exact h | exact h.elim) h)))
/-- The end of a function that holds such a loop: its mark is taken up. -/
theorem endM {fn : Func} {R : Ending → World → Prop} {l : List Value} {vs : List Value} {rs : List ResultVar} {e : Exit} {D : Nat} (he : e = .ret ∨ e = .normal) (hf : fn.results = rs.toArray)
    (hS : Sat w I (Blk D (.deferred (some [])) :: L)) (h : ∀ w', Sat w' I L → ResL P w' l rs vs) (hR : ∀ w', Sat w' I L → R (.returned (if h : vs.toArray.size = 1 then vs.toArray[0] else .tuple vs.toArray)) w') : noPan (bodyPostM Fence.wide 9 P fn R) e ⟨l.toArray, [⟨.collected D, #[]⟩]⟩ w := by
  have hS' := (hS.putBlk (o' := .deferred none)).drop
  have key : LeavesInM Fence.wide 9 P fn l.toArray R [⟨.collected D, #[]⟩] .returning w :=
    ⟨(fun h => by cases h), .inl ⟨D, _, rfl, run_takeDeferred hS.blk0, _, res_run hf (h _ hS'), hR _ hS'⟩⟩
  rcases he with rfl | rfl <;> exact key
end
end Go.SL
