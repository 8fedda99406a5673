/- The laws' operations, as plain data. -/
import Derived.Test.YtggkomlobfpapaaSpRef
set_option linter.unusedVariables false
set_option linter.unusedSimpArgs false
namespace Go.SP
open Go.SL Go.SS Go.RowKit
structure SpOp where
  kind : Int
  art : Art
  frm : Int
  cnt : Int
def opC (o : SpOp) : List Value := .int .i64 o.kind :: (artC o.art ++ [.int .i64 o.frm, .int .i64 o.cnt])
theorem elOp : ElT opC 37 := ⟨fun o => by simp [opC, elArt.len], fun o => Oc.append (xs := [.int .i64 o.kind]) (Oc.of_all rfl) (Oc.append (elArt.oc o.art) (Oc.of_all rfl))⟩
theorem opGet (o : SpOp) : (opC o)[0]? = some (.int .i64 o.kind) ∧ sub (opC o) 1 32 = idC o.art.id ∧ sub (opC o) 1 34 = artC o.art ∧ (opC o)[33]? = some (.string ⟨o.art.text.toArray⟩) ∧ (opC o)[34]? = some (.int .i64 o.art.min) ∧ (opC o)[35]? = some (.int .i64 o.frm) ∧ (opC o)[36]? = some (.int .i64 o.cnt) := by
  have h := elArt.len o.art
  obtain ⟨h1, h2, h3⟩ := artGet o.art
  unfold opC
  refine ⟨rfl, ?_, ?_, ?_, ?_, ?_, ?_⟩
  · rw [← h3]; unfold sub
    rw [List.drop_succ_cons, List.drop_zero, List.drop_zero, List.take_append_of_le_length (by omega)]
  · unfold sub; rw [List.drop_succ_cons, List.drop_zero, List.take_left' h]
  · rw [List.getElem?_cons_succ, List.getElem?_append_left (by omega)]; exact h1
  · rw [List.getElem?_cons_succ, List.getElem?_append_left (by omega)]; exact h2
  · rw [List.getElem?_cons_succ, List.getElem?_append_right (by omega), h]; rfl
  · rw [List.getElem?_cons_succ, List.getElem?_append_right (by omega), h]; rfl
def SpOp.go (o : SpOp) (s : SpS) : SpS := if o.kind = 0 then (put s o.art).1 else if o.kind = 1 then (remove s o.art.id).1 else s
theorem go_ok {s : SpS} (h : SpOk s) (o : SpOp) : SpOk (o.go s) := by
  unfold SpOp.go
  split
  · exact put_ok h _
  · split
    · exact remove_ok h _
    · exact h
def runOps (s : SpS) : List SpOp → SpS
  | [] => s
  | o :: l => runOps (o.go s) l
theorem runOps_ok : ∀ (l : List SpOp) {s : SpS}, SpOk s → SpOk (runOps s l)
  | [], _, h => h
  | o :: l, _, h => runOps_ok l (go_ok h o)
theorem put_budget (s : SpS) (a : Art) : (put s a).1.budget = s.budget := by unfold put; (repeat' split) <;> rfl
theorem remove_budget (s : SpS) (i : Id32) : (remove s i).1.budget = s.budget := by unfold remove; split <;> rfl
theorem go_budget (o : SpOp) (s : SpS) : (o.go s).budget = s.budget := by
  unfold SpOp.go
  split
  · exact put_budget _ _
  · split
    · exact remove_budget _ _
    · rfl
theorem runOps_budget : ∀ (l : List SpOp) (s : SpS), (runOps s l).budget = s.budget
  | [], _ => rfl
  | o :: l, s => by rw [runOps, runOps_budget l, go_budget]
def smallOps (l : List SpOp) : Bool := l.all (fun o => decide (o.art.text.length ≤ 200)) && decide (l.length ≤ 40)
theorem flat_of_subs {α : Type} {enc : α → List Value} {sz : Nat} (hE : ElT enc sz) : ∀ (l : List α) (xs : List Value), xs.length = l.length * sz → (∀ (i : Nat) (x : α), l[i]? = some x → sub xs (i * sz) sz = enc x) → xs = flatE enc l
  | [], xs, h, _ => by simp at h; simp [h, flatE]
  | a :: l, xs, h, hs => by
    have h0 := hs 0 a rfl
    rw [Nat.zero_mul] at h0
    have hl : (xs.drop sz).length = l.length * sz := by rw [List.length_drop, h, List.length_cons, Nat.succ_mul]; omega
    have := flat_of_subs hE l (xs.drop sz) hl (fun i x hx => by
      rw [← hs (i + 1) x (by simpa using hx)]
      unfold sub
      rw [List.drop_drop, Nat.succ_mul, Nat.add_comm])
    rw [flatE, List.flatMap_cons, ← flatE, ← this, ← h0]
    unfold sub
    rw [List.drop_zero, List.take_append_drop]
end Go.SP
