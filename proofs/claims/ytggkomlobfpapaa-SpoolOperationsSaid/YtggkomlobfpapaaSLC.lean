/- Laws that the proofs share, brought together out of several texts. -/
import Derived.Test.YtggkomlobfpapaaSLB
import Derived.Test.YtggkomlobfpapaaSLA
set_option linter.unusedVariables false
set_option linter.unusedSimpArgs false

/- Maps with keys of any type, as chunks: 'key' is how a key lies in a value, 'ok' what holds of each key. Printed out of SLMap, SLMap2, SLMapIt by gen_mapg.py. -/
set_option linter.unusedVariables false
set_option linter.unusedSimpArgs false
namespace Go.SL
open Go.RowKit
section
variable {α : Type}
def gSet [DecidableEq α] {β : Type} : List (α × β) → α → β → List (α × β)
  | [], k, v => [(k, v)]
  | (j, u) :: r, k, v => if j = k then (j, v) :: r else (j, u) :: gSet r k v
def gDel [DecidableEq α] {β : Type} : List (α × β) → α → List (α × β)
  | [], _ => []
  | (j, u) :: r, k => if j = k then r else (j, u) :: gDel r k
def gGet [DecidableEq α] {β : Type} : List (α × β) → α → Option β
  | [], _ => none
  | (j, u) :: r, k => if j = k then some u else gGet r k

theorem gSet_keys [DecidableEq α] {β : Type} (kv : List (α × β)) (k : α) (v : β) : (gSet kv k v).map Prod.fst = if k ∈ kv.map Prod.fst then kv.map Prod.fst else kv.map Prod.fst ++ [k] := by
  induction kv with
  | nil => simp [gSet]
  | cons p r ih =>
    obtain ⟨j, u⟩ := p
    simp only [gSet]
    by_cases h : j = k
    · simp [h]
    · simp only [h, if_false, List.map_cons, ih, List.mem_cons]
      have : ¬ k = j := fun e => h e.symm
      by_cases h2 : k ∈ r.map Prod.fst
      · simp [h2]
      · simp [h2, this]
theorem gDel_sub [DecidableEq α] {β : Type} (kv : List (α × β)) (k : α) : ((gDel kv k).map Prod.fst).Sublist (kv.map Prod.fst) := by
  induction kv with
  | nil => simp [gDel]
  | cons p r ih =>
    obtain ⟨j, u⟩ := p
    simp only [gDel]
    by_cases h : j = k
    · simp [h]
    · simp [h, ih]
theorem gGet_none [DecidableEq α] {β : Type} {kv : List (α × β)} {k : α} : gGet kv k = none ↔ k ∉ kv.map Prod.fst := by
  induction kv with
  | nil => simp [gGet]
  | cons p r ih =>
    obtain ⟨j, u⟩ := p
    simp only [gGet]
    by_cases h : j = k
    · simp [h]
    · have : ¬ k = j := fun e => h e.symm
      simp [h, ih, this]
theorem gGet_set [DecidableEq α] {β : Type} (kv : List (α × β)) (k j : α) (v : β) : gGet (gSet kv k v) j = if j = k then some v else gGet kv j := by
  induction kv with
  | nil =>
    simp only [gSet, gGet]
    by_cases h : j = k
    · simp [h]
    · have : ¬ k = j := fun e => h e.symm
      simp [h, this]
  | cons p r ih =>
    obtain ⟨i, u⟩ := p
    simp only [gSet]
    by_cases h : i = k
    · subst h
      simp only [if_true, gGet]
      by_cases h2 : i = j
      · simp [h2]
      · have : ¬ j = i := fun e => h2 e.symm
        simp [h2, this]
    · simp only [h, if_false, gGet, ih]
      by_cases h2 : i = j
      · subst h2; simp [h]
      · simp [h2]
theorem gGet_del [DecidableEq α] {β : Type} (kv : List (α × β)) (hn : (kv.map Prod.fst).Nodup) (k j : α) : gGet (gDel kv k) j = if j = k then none else gGet kv j := by
  induction kv with
  | nil => simp [gDel, gGet]
  | cons p r ih =>
    obtain ⟨i, u⟩ := p
    simp only [List.map_cons, List.nodup_cons] at hn
    simp only [gDel]
    by_cases h : i = k
    · subst h
      simp only [if_true, gGet]
      by_cases h2 : i = j
      · subst h2; simp [gGet_none.2 hn.1]
      · have : ¬ j = i := fun e => h2 e.symm
        simp [h2, this]
    · simp only [h, if_false, gGet, ih hn.2]
      by_cases h2 : i = j
      · subst h2; simp [h]
      · simp [h2]

theorem gGet_map [DecidableEq α] {β γ : Type} (f : β → γ) (k : α) : ∀ (kv : List (α × β)), gGet (kv.map fun p => (p.1, f p.2)) k = (gGet kv k).map f
  | [] => rfl
  | (j, u) :: r => by simp only [List.map_cons, gGet]; by_cases h : j = k <;> simp [h, gGet_map f k r]
theorem gSet_map [DecidableEq α] {β γ : Type} (f : β → γ) (k : α) (v : β) : ∀ (kv : List (α × β)), gSet (kv.map fun p => (p.1, f p.2)) k (f v) = (gSet kv k v).map fun p => (p.1, f p.2)
  | [] => rfl
  | (j, u) :: r => by simp only [List.map_cons, gSet]; by_cases h : j = k <;> simp [h, gSet_map f k v r]
theorem gDel_map [DecidableEq α] {β γ : Type} (f : β → γ) (k : α) : ∀ (kv : List (α × β)), gDel (kv.map fun p => (p.1, f p.2)) k = (gDel kv k).map fun p => (p.1, f p.2)
  | [] => rfl
  | (j, u) :: r => by simp only [List.map_cons, gDel]; by_cases h : j = k <;> simp [h, gDel_map f k r]


theorem gSet_ok [DecidableEq α] {ok : α → Prop} {kv : List (α × Value)} {j : α} {v : Value} (h : ∀ p ∈ kv, ok p.1) (hj : ok j) : ∀ p ∈ gSet kv j v, ok p.1 := by
  intro p hp
  have h1 : p.1 ∈ (gSet kv j v).map Prod.fst := List.mem_map.2 ⟨p, hp, rfl⟩
  rw [gSet_keys] at h1
  have h2 : ∀ k ∈ kv.map Prod.fst, ok k := fun k hk => by obtain ⟨q, hq, rfl⟩ := List.mem_map.1 hk; exact h q hq
  split at h1
  · exact h2 _ h1
  · rcases List.mem_append.1 h1 with h3 | h3
    · exact h2 _ h3
    · simp at h3; rw [h3]; exact hj
theorem gDel_ok [DecidableEq α] {ok : α → Prop} {kv : List (α × Value)} {j : α} (h : ∀ p ∈ kv, ok p.1) : ∀ p ∈ gDel kv j, ok p.1 := by
  intro p hp
  have h1 : p.1 ∈ (gDel kv j).map Prod.fst := List.mem_map.2 ⟨p, hp, rfl⟩
  obtain ⟨q, hq, he⟩ := List.mem_map.1 ((gDel_sub kv j).subset h1)
  rw [← he]; exact h q hq
theorem gGet_idx [DecidableEq α] (k : α) : ∀ (kv : List (α × Value)), (kv.findIdx? (fun p => p.1 == k)).isSome = (gGet kv k).isSome
  | [] => rfl
  | (j, u) :: r => by
    simp only [List.findIdx?_cons, gGet]
    by_cases hj : j = k
    · simp [hj]
    · have hj' : (j == k) = false := by simpa using hj
      simp [hj', hj, gGet_idx k r]
theorem gSet_some [DecidableEq α] (k : α) (v : Value) : ∀ (kv : List (α × Value)) (i : Nat), kv.findIdx? (fun p => p.1 == k) = some i → gSet kv k v = kv.modify i (fun p => (p.1, v)) ∧ (kv[i]?).map Prod.fst = some k ∧ i < kv.length
  | [], i, h => by simp at h
  | (j, u) :: r, i, h => by
    simp only [List.findIdx?_cons] at h
    by_cases hj : j = k
    · simp [hj] at h; subst h; simp [gSet, hj]
    · have hj' : (j == k) = false := by simpa using hj
      simp only [hj', Bool.false_eq_true, if_false, Option.map_eq_some_iff] at h
      obtain ⟨m, hm, rfl⟩ := h
      obtain ⟨a, b, c⟩ := gSet_some k v r m hm
      exact ⟨by simp [gSet, hj, a], by simpa using b, by simpa using c⟩
theorem gSet_none [DecidableEq α] (k : α) (v : Value) : ∀ (kv : List (α × Value)), kv.findIdx? (fun p => p.1 == k) = none → gSet kv k v = kv ++ [(k, v)]
  | [], _ => rfl
  | (j, u) :: r, h => by
    simp only [List.findIdx?_cons] at h
    by_cases hj : j = k
    · simp [hj] at h
    · have hj' : (j == k) = false := by simpa using hj
      simp only [hj', Bool.false_eq_true, if_false, Option.map_eq_none_iff] at h
      simp [gSet, hj, gSet_none k v r h]
theorem gDel_some [DecidableEq α] (k : α) : ∀ (kv : List (α × Value)) (i : Nat), kv.findIdx? (fun p => p.1 == k) = some i → gDel kv k = kv.eraseIdx i
  | [], i, h => by simp at h
  | (j, u) :: r, i, h => by
    simp only [List.findIdx?_cons] at h
    by_cases hj : j = k
    · simp [hj] at h; subst h; simp [gDel, hj]
    · have hj' : (j == k) = false := by simpa using hj
      simp only [hj', Bool.false_eq_true, if_false, Option.map_eq_some_iff] at h
      obtain ⟨m, hm, rfl⟩ := h
      simp [gDel, hj, gDel_some k r m hm]
theorem gDel_none [DecidableEq α] (k : α) : ∀ (kv : List (α × Value)), kv.findIdx? (fun p => p.1 == k) = none → gDel kv k = kv
  | [], _ => rfl
  | (j, u) :: r, h => by
    simp only [List.findIdx?_cons] at h
    by_cases hj : j = k
    · simp [hj] at h
    · have hj' : (j == k) = false := by simpa using hj
      simp only [hj', Bool.false_eq_true, if_false, Option.map_eq_none_iff] at h
      simp [gDel, hj, gDel_none k r h]


/-- Block m is a map whose entries are kv, in the order in which they came. -/
def MapK (key : α → Value) (ok : α → Prop) (m : Nat) (kv : List (α × Value)) : Ch := fun f => ∃ es clock, f m = some (.map es clock) ∧ es.toList.map (fun e => (e.key, e.val)) = kv.map (fun p => (key p.1, p.2)) ∧
  (kv.map Prod.fst).Nodup ∧ (es.toList.map (·.born)).Nodup ∧ (∀ e ∈ es.toList, e.born < clock) ∧ ∀ p ∈ kv, ok p.1
/-- What a key type must be for: to be found, to be checked, to stay. -/
structure KeyT [DecidableEq α] (P : Program) (kt : TypeId) (key : α → Value) (ok : α → Prop) : Prop where
  find : ∀ (w : World) (j : α) (es : List MapEntry) (kv : List (α × Value)), ok j → (∀ p ∈ kv, ok p.1) → es.map (fun e => (e.key, e.val)) = kv.map (fun p => (key p.1, p.2)) →
    (Instr.findKey kt (key j) es).run P w = .ok (match kv.findIdx? (fun p => p.1 == j) with | some i => (gGet kv j).map fun v => (i, v) | none => none) w
  check : ∀ (w : World) (q : Bool) (j : α), ok j → (Instr.checkKey q 10000 kt (key j)).run P w = .ok () w
  stays : ∀ j, ok j → Instr.sameBits 10000 (key j) (key j) = true
theorem findAsking_of [DecidableEq α] {P : Program} {kt : TypeId} {key : α → Value} {ok : α → Prop} (he : ∀ (w : World) (j k : α), ok j → ok k → (Op.equal kt (key j) (key k)).run P w = .ok (j == k) w) (w : World) (j : α) (hj : ok j) :
    ∀ (es : List MapEntry) (kv : List (α × Value)) (i : Nat), (∀ p ∈ kv, ok p.1) → es.map (fun e => (e.key, e.val)) = kv.map (fun p => (key p.1, p.2)) →
    (Instr.findAsking kt (key j) es i).run P w = .ok (match kv.findIdx? (fun p => p.1 == j) with | some n => (gGet kv j).map fun v => (i + n, v) | none => none) w
  | [], kv, i, _, h => by
    have : kv = [] := by cases kv <;> simp at h ⊢
    subst this
    simp [Instr.findAsking]
  | e :: es, kv, i, hok, h => by
    cases kv with
    | nil => simp at h
    | cons p r =>
      obtain ⟨k, u⟩ := p
      simp only [List.map_cons, List.cons.injEq, Prod.mk.injEq] at h
      obtain ⟨⟨hk, hv⟩, hr⟩ := h
      have hok1 : ok k := hok (k, u) (by simp)
      have ih := findAsking_of he w j hj es r (i + 1) (fun p hp => hok p (by simp [hp])) hr
      simp only [Instr.findAsking, hk, Sem.run_bind, he w j k hj hok1, Result.andThen_ok, List.findIdx?_cons, gGet]
      by_cases hjk : k = j
      · subst hjk; simp [hv]
      · have hj1 : (k == j) = false := by simpa using hjk
        have hj2 : (j == k) = false := by simpa using fun e => hjk e.symm
        simp only [hj1, hj2, hjk, if_false, Bool.false_eq_true]
        rw [ih]
        cases hf : r.findIdx? (fun p => p.1 == j) with
        | none => simp
        | some m => simp; cases gGet r j <;> simp; omega
theorem KeyT.of_eq [DecidableEq α] {P : Program} {kt : TypeId} {key : α → Value} {ok : α → Prop} (hwide : (match P.underlying kt with | some (.array _ _) | some (.struct _) => true | _ => false) = true)
    (he : ∀ (w : World) (j k : α), ok j → ok k → (Op.equal kt (key j) (key k)).run P w = .ok (j == k) w) (hc : ∀ (w : World) (q : Bool) (j : α), ok j → (Instr.checkKey q 10000 kt (key j)).run P w = .ok () w)
    (hs : ∀ j, ok j → Instr.sameBits 10000 (key j) (key j) = true) : KeyT P kt key ok :=
  ⟨fun w j es kv hj hok h => by
    rw [run_findKey_eq w hwide]
    have := findAsking_of he w j hj es kv 0 hok h
    simpa using this, hc, hs⟩
end
section
variable {α : Type}
/-- Block m is the map kv, block r its iterator: 'todo' is still to come, 'cur' came last. -/
def MapItK (key : α → Value) (ok : α → Prop) (m r : Nat) (kv todo : List (α × Value)) (cur : Option (α × Value)) : Ch := fun f => ∃ es clock seen, (f m = some (.map es clock) ∧ f r = some (.mapIter (some m) clock seen clock)) ∧
  es.toList.map (fun e => (e.key, e.val)) = kv.map (fun p => (key p.1, p.2)) ∧ (kv.map Prod.fst).Nodup ∧ (es.toList.map (·.born)).Nodup ∧ (∀ e ∈ es.toList, e.born < clock) ∧ (∀ p ∈ kv, ok p.1) ∧
  (leftOf es seen).toList.map (fun e => (e.key, e.val)) = todo.map (fun p => (key p.1, p.2)) ∧
  (∀ c, cur = some c → ∃ e ∈ es.toList, e.key = key c.1 ∧ e.val = c.2 ∧ ∃ s0 : Array Nat, seen = s0.push e.born)
end
class HasMapK {α : outParam Type} (L : List Ch) (m : Nat) (key : outParam (α → Value)) (ok : outParam (α → Prop)) (kv : outParam (List (α × Value))) (rep : outParam (Ch → List Ch)) : Prop where
  has : ∃ i, L[i]? = some (MapK key ok m kv) ∧ ∀ c, rep c = L.set i c
instance HasMapK.here {α : Type} {key : α → Value} {ok : α → Prop} {m : Nat} {kv : List (α × Value)} {L : List Ch} : HasMapK (MapK key ok m kv :: L) m key ok kv (fun c => c :: L) := ⟨0, rfl, fun _ => rfl⟩
instance (priority := 500) HasMapK.there {α : Type} {key : α → Value} {ok : α → Prop} {m : Nat} {kv : List (α × Value)} {L : List Ch} {x : Ch} {rep : Ch → List Ch} [h : HasMapK L m key ok kv rep] : HasMapK (x :: L) m key ok kv (fun c => x :: rep c) :=
  ⟨let ⟨i, a, e⟩ := h.has; ⟨i + 1, by simpa using a, fun c => by simp [e c]⟩⟩
instance HasMapK.past {α : Type} {key : α → Value} {ok : α → Prop} {m : Nat} {kv : List (α × Value)} {X L : List Ch} {rep : Ch → List Ch} [h : HasMapK L m key ok kv rep] : HasMapK (X ++ L) m key ok kv (fun c => X ++ rep c) :=
  ⟨let ⟨i, a, e⟩ := h.has; ⟨X.length + i, by rw [List.getElem?_append_right (Nat.le_add_right _ _), Nat.add_sub_cancel_left]; exact a,
    fun c => by rw [e c, List.set_append_right _ _ (Nat.le_add_right _ _), Nat.add_sub_cancel_left]⟩⟩
section
variable {P : Program} {w w' : World} {I J : Gh} {L M : List Ch} {c d : Ch} {b b' m r : Nat} {o o' : Obj} {E : TypeId} {cs xs ys news : List Value} {v u : Value} {n k sz : Nat} {p : Addr} {α : Type} {key : α → Value} {ok : α → Prop} {kv todo : List (α × Value)} {j : α} {cur : Option (α × Value)}
variable {a : Act} {K : Act → World → Prop} {Q : Exit → Act → World → Prop} {dst : Option Tmp} {x y z : Operand} {t ty : TypeId} {pos : String} {af : Array Edge} {gd : Option (Nat × Bool)}
theorem Sat.map0K (h : Sat w I (MapK key ok m kv :: L)) : ∃ es clock, w.heap[m]? = some (.map es clock) ∧ Sat w I (Blk m (.map es clock) :: L) ∧ es.toList.map (fun e => (e.key, e.val)) = kv.map (fun p => (key p.1, p.2)) ∧
    (kv.map Prod.fst).Nodup ∧ (es.toList.map (·.born)).Nodup ∧ (∀ e ∈ es.toList, e.born < clock) ∧ ∀ p ∈ kv, ok p.1 := by
  obtain ⟨es, h⟩ := Sat.ex_head h
  obtain ⟨clock, h⟩ := Sat.ex_head h
  have h2 : Sat w I ((fun f => (es.toList.map (fun e => (e.key, e.val)) = kv.map (fun p => (key p.1, p.2)) ∧ (kv.map Prod.fst).Nodup ∧ (es.toList.map (·.born)).Nodup ∧ (∀ e ∈ es.toList, e.born < clock) ∧ ∀ p ∈ kv, ok p.1) ∧ Blk m (.map es clock) f) :: L) :=
    h.head fun f hf => ⟨hf.2, hf.1⟩
  obtain ⟨hp, h3⟩ := Sat.and_head h2
  exact ⟨es, clock, h3.blk0, h3, hp⟩
theorem Sat.mapNodupK {rep : Ch → List Ch} (hS : Sat w I L) [hi : HasMapK L m key ok kv rep] : (kv.map Prod.fst).Nodup := by
  obtain ⟨i, hi, _⟩ := hi.has
  obtain ⟨_, _, _, _, _, h, _⟩ := (hS.pull i hi).map0K
  exact h
/-- 'm[k]': the value, or the zero value. -/
theorem ex_lookupK [DecidableEq α] {kt et : TypeId} {zv : Value} {rep : Ch → List Ch} (hx : a.eval x = .map (some m)) (hy : a.eval y = key j) (hu : P.underlying t = some (.map kt et)) (hk : KeyT P kt key ok) (hj : ok j)
    (hS : Sat w I L) [hi : HasMapK L m key ok kv rep] (hz : ∀ w : World, (zeroValue et).run P w = .ok zv w) : Ex P a ⟨dst, .lookup t x y false, ty, pos, af, gd⟩ w ((gGet kv j).getD zv) := by
  obtain ⟨i, hi, _⟩ := hi.has
  obtain ⟨es, clock, hh, _, he, _, _, _, hok⟩ := (hS.pull i hi).map0K
  have hf := hk.find w j _ _ hj hok he
  have hidx := gGet_idx j kv
  unfold Ex execOp
  simp only [hx, hy, Instr.lookup, Sem.run_bind, run_underlying hu, Result.andThen_ok, run_getMap hh, Sem.run_pure, hk.check w es.isEmpty j hj, hf]
  cases hq : kv.findIdx? (fun p => p.1 == j) with
  | none =>
    rw [hq] at hidx
    have : gGet kv j = none := by cases hg : gGet kv j <;> simp [hg] at hidx ⊢
    simp [this, hz]
  | some q =>
    rw [hq] at hidx
    obtain ⟨v, hv⟩ := Option.isSome_iff_exists.1 hidx.symm
    simp [hv]
theorem ex_lookupOkK [DecidableEq α] {kt et : TypeId} {zv : Value} {rep : Ch → List Ch} (hx : a.eval x = .map (some m)) (hy : a.eval y = key j) (hu : P.underlying t = some (.map kt et)) (hk : KeyT P kt key ok) (hj : ok j)
    (hS : Sat w I L) [hi : HasMapK L m key ok kv rep] (hz : ∀ w : World, (zeroValue et).run P w = .ok zv w) : Ex P a ⟨dst, .lookup t x y true, ty, pos, af, gd⟩ w (.tuple #[(gGet kv j).getD zv, .bool (gGet kv j).isSome]) := by
  obtain ⟨i, hi, _⟩ := hi.has
  obtain ⟨es, clock, hh, _, he, _, _, _, hok⟩ := (hS.pull i hi).map0K
  have hf := hk.find w j _ _ hj hok he
  have hidx := gGet_idx j kv
  unfold Ex execOp
  simp only [hx, hy, Instr.lookup, Sem.run_bind, run_underlying hu, Result.andThen_ok, run_getMap hh, Sem.run_pure, hk.check w es.isEmpty j hj, hf]
  cases hq : kv.findIdx? (fun p => p.1 == j) with
  | none =>
    rw [hq] at hidx
    have : gGet kv j = none := by cases hg : gGet kv j <;> simp [hg] at hidx ⊢
    simp [this, hz]
  | some q =>
    rw [hq] at hidx
    obtain ⟨v, hv⟩ := Option.isSome_iff_exists.1 hidx.symm
    simp [hv]
theorem wp_makeMapK (hS : Sat w I L) (h : ∀ m w', Sat w' I (MapK key ok m [] :: L) → K (a.put dst (.map (some m))) w') : Oper.wp P ⟨dst, .makeMap t none, ty, pos, af, gd⟩ a w K Q := by
  unfold Oper.wp execOp
  simp only [Instr.makeMap, Option.map_none, Sem.run_bind, Sem.run_pure, Result.andThen_ok, run_newObj]
  refine h _ _ ((hS.alloc (.map #[] 0)).head fun f hf => ⟨#[], 0, hf, rfl, by simp, by simp, (fun e he => by cases he), (fun p hp => by cases hp)⟩)
theorem Sat.mapSetK {rep : Ch → List Ch} {es es' : Array MapEntry} {clock clock' : Nat} {kv' : List (α × Value)} {i : Nat} (hi : L[i]? = some (MapK key ok m kv)) (e : ∀ c, rep c = L.set i c) (hb : Sat w I (Blk m (.map es clock) :: L.eraseIdx i))
    (h1 : es'.toList.map (fun e => (e.key, e.val)) = kv'.map (fun p => (key p.1, p.2))) (h2 : (kv'.map Prod.fst).Nodup) (h3 : (es'.toList.map (·.born)).Nodup) (h4 : ∀ e ∈ es'.toList, e.born < clock') (h5 : ∀ p ∈ kv', ok p.1) :
    Sat { w with heap := w.heap.setIfInBounds m (.map es' clock') } I (rep (MapK key ok m kv')) := by
  rw [e]
  refine Sat.push i hi ?_
  have hlt : m < w.heap.size := (Array.getElem?_eq_some_iff.1 hb.blk0).1
  refine (hb.write (w' := { w with heap := w.heap.setIfInBounds m (.map es' clock') }) (o' := .map es' clock') (by simp [hlt]) (fun k hk => by simp [Array.getElem?_setIfInBounds_ne (Ne.symm hk)]) rfl rfl rfl).head fun f hf => ⟨es', clock', hf, h1, h2, h3, h4, h5⟩
/-- 'm[k] = v' -/
theorem wp_mapUpdateK [DecidableEq α] {kt et : TypeId} {rep : Ch → List Ch} (hx : a.eval x = .map (some m)) (hy : a.eval y = key j) (hv : a.eval z = v) (hu : P.underlying t = some (.map kt et)) (hk : KeyT P kt key ok) (hj : ok j)
    (hS : Sat w I L) [hi : HasMapK L m key ok kv rep] (h : ∀ w', Sat w' I (rep (MapK key ok m (gSet kv j v))) → K (a.put dst undef) w') : Oper.wp P ⟨dst, .mapUpdate t x y z, ty, pos, af, gd⟩ a w K Q := by
  obtain ⟨i, hi, e⟩ := hi.has
  obtain ⟨es, clock, hh, hb, he, hn, hbn, hlt, hok⟩ := (hS.pull i hi).map0K
  have hf := hk.find w j _ _ hj hok he
  have hidx := gGet_idx j kv
  have hlen : es.toList.length = kv.length := by have := congrArg List.length he; simpa using this
  unfold Oper.wp execOp
  simp only [hx, hy, hv, Instr.mapUpdate, Sem.run_bind, run_underlying hu, Result.andThen_ok, run_getMap hh, hk.check w false j hj, hf]
  cases hq : kv.findIdx? (fun p => p.1 == j) with
  | none =>
    have e2 := gSet_none j v kv hq
    have hnot : j ∉ kv.map Prod.fst := by
      rw [hq] at hidx
      exact gGet_none.1 (by cases hg : gGet kv j <;> simp [hg] at hidx ⊢)
    simp only [run_setMap hh, Result.andThen_ok, Sem.run_pure]
    refine h _ (Sat.mapSetK hi e hb ?_ ?_ ?_ ?_ (gSet_ok hok hj))
    · rw [e2]; simp [he]
    · rw [gSet_keys, if_neg hnot]
      exact List.nodup_append.2 ⟨hn, by simp, by simp; intro x y hxy e; subst e; exact hnot (List.mem_map.2 ⟨_, hxy, rfl⟩)⟩
    · simp only [Array.toList_push, List.map_append, List.map_cons, List.map_nil]
      refine List.nodup_append.2 ⟨hbn, by simp, ?_⟩
      intro x hx1 y hy1
      simp at hy1; subst hy1
      obtain ⟨en, hen, rfl⟩ := List.mem_map.1 hx1
      exact Nat.ne_of_lt (hlt en hen)
    · intro en hen
      simp at hen
      rcases hen with hen | rfl
      · exact Nat.lt_succ_of_lt (hlt en (by simpa using hen))
      · exact Nat.lt_succ_self _
  | some q =>
    obtain ⟨e2, e3, e4⟩ := gSet_some j v kv q hq
    rw [hq] at hidx
    obtain ⟨u, hu'⟩ := Option.isSome_iff_exists.1 hidx.symm
    have hkey : ((es[q]?).map (·.key)) = some (key j) := by
      have h1 := congrArg (fun l => (l[q]?).map Prod.fst) he
      simp only [List.getElem?_map, Option.map_map] at h1
      rw [show es[q]? = es.toList[q]? from by simp]
      have : (Option.map (Prod.fst ∘ fun p : α × Value => (key p.1, p.2)) kv[q]?) = some (key j) := by
        cases hkq : kv[q]? with
        | none => rw [hkq] at e3; simp at e3
        | some pp => rw [hkq] at e3; simp at e3; simp [e3]
      rw [this] at h1
      exact h1
    have hstay : (Instr.keyThatStays (((es[q]?).map (·.key)).getD (key j)) (key j)).run P w = .ok (key j) w := by
      rw [hkey]
      simp [Instr.keyThatStays, hk.stays j hj]
    simp only [hu', Option.map_some, Sem.run_bind, hstay, Result.andThen_ok, run_setMap hh, Sem.run_pure]
    refine h _ (Sat.mapSetK hi e hb ?_ ?_ ?_ ?_ (gSet_ok hok hj))
    · rw [e2, Array.toList_modify, map_modify (fun e : MapEntry => (e.key, e.val)) _ (fun _ => (key j, v)) (fun _ => rfl), he]
      apply List.ext_getElem?
      intro r
      simp only [List.getElem?_modify, List.getElem?_map]
      by_cases hr : q = r
      · subst hr
        cases hkq : kv[q]? with
        | none => simp
        | some pp => rw [hkq] at e3; simp at e3; simp [e3]
      · simp [hr]
    · rw [gSet_keys, if_pos (Classical.byContradiction fun hc => by rw [gGet_none.2 hc] at hu'; cases hu')]; exact hn
    · rw [Array.toList_modify, map_modify (fun e : MapEntry => e.born) (fun e => { e with key := key j, val := v }) id (fun _ => rfl)]
      rw [show (es.toList.map (·.born)).modify q id = es.toList.map (·.born) from by simp]
      exact hbn
    · intro en hen
      rw [Array.toList_modify] at hen
      have : en.born ∈ (es.toList.modify q fun e => { e with key := key j, val := v }).map (·.born) := List.mem_map.2 ⟨en, hen, rfl⟩
      rw [map_modify (fun e : MapEntry => e.born) (fun e => { e with key := key j, val := v }) id (fun _ => rfl), show (es.toList.map (·.born)).modify q id = es.toList.map (·.born) from by simp] at this
      obtain ⟨e0, he0, e1⟩ := List.mem_map.1 this
      rw [← e1]; exact hlt e0 he0
/-- 'delete(m, k)' -/
theorem wp_deleteK [DecidableEq α] {kt et : TypeId} {rep : Ch → List Ch} {at_ : TypeId} (hx : a.eval x = .map (some m)) (hy : a.eval y = key j) (hu : P.underlying t = some (.map kt et)) (hk : KeyT P kt key ok) (hj : ok j)
    (hS : Sat w I L) [hi : HasMapK L m key ok kv rep] (h : ∀ w', Sat w' I (rep (MapK key ok m (gDel kv j))) → K (a.put dst (.tuple #[])) w') : Oper.wp P ⟨dst, .call ⟨.builtin .delete, #[x, y], #[t, at_]⟩, ty, pos, af, gd⟩ a w K Q := by
  obtain ⟨i, hi, e⟩ := hi.has
  obtain ⟨es, clock, hh, hb, he, hn, hbn, hlt, hok⟩ := (hS.pull i hi).map0K
  have hf := hk.find w j _ _ hj hok he
  have hidx := gGet_idx j kv
  have hn' : ((gDel kv j).map Prod.fst).Nodup := hn.sublist (gDel_sub kv j)
  unfold Oper.wp
  simp only [BigFrame.execOp_builtin, BigFrame.builtin_delete, List.map_toArray, List.map_cons, List.map_nil, hx, hy, Sem.run_bind]
  cases hq : kv.findIdx? (fun p => p.1 == j) with
  | none =>
    have e2 := gDel_none j kv hq
    rw [hq] at hf
    have hr : (Builtin.delete_ #[t, at_] ty #[.map (some m), key j]).run P w = .ok (.tuple #[]) { w with heap := w.heap.setIfInBounds m (.map es clock) } := by
      simp [Builtin.delete_, run_underlying hu, run_getMap hh, hk.check w es.isEmpty j hj, hf, run_setMap hh]
    rw [hr]
    exact h _ (Sat.mapSetK hi e hb (by rw [e2]; exact he) hn' hbn hlt (by rw [e2]; exact hok))
  | some q =>
    have e2 := gDel_some j kv q hq
    rw [hq] at hf hidx
    obtain ⟨u, hu'⟩ := Option.isSome_iff_exists.1 hidx.symm
    rw [hu'] at hf
    have hr : (Builtin.delete_ #[t, at_] ty #[.map (some m), key j]).run P w = .ok (.tuple #[]) { w with heap := w.heap.setIfInBounds m (.map (es.eraseIdxIfInBounds q) clock) } := by
      simp [Builtin.delete_, run_underlying hu, run_getMap hh, hk.check w es.isEmpty j hj, hf, run_setMap hh]
    rw [hr]
    have et : (es.eraseIdxIfInBounds q).toList = es.toList.eraseIdx q := by
      unfold Array.eraseIdxIfInBounds
      split
      · simp
      · rename_i hge
        rw [List.eraseIdx_of_length_le (by simpa using hge)]
    refine h _ (Sat.mapSetK hi e hb ?_ hn' ?_ ?_ (gDel_ok hok))
    · rw [et, e2, map_eraseIdx, he, map_eraseIdx]
    · rw [et, map_eraseIdx]; exact hbn.sublist (List.eraseIdx_sublist _ _)
    · intro en hen
      rw [et] at hen
      exact hlt en (List.mem_of_mem_eraseIdx hen)

theorem gSet_new [DecidableEq α] [DecidableEq α] {kv : List (α × Value)} {j : α} (h : gGet kv j = none) (v : Value) : gSet kv j v = kv ++ [(j, v)] := by
  refine gSet_none j v kv ?_
  have := gGet_idx j kv
  rw [h] at this
  cases hf : kv.findIdx? (fun p => p.1 == j) with
  | none => rfl
  | some _ => rw [hf] at this; cases this
theorem ex_lookupKT [DecidableEq α] [DecidableEq α] {kt et : TypeId} {zv : Value} {rep : Ch → List Ch} (hx : a.eval x = .map (some m)) (hy : a.eval y = key j) (hu : P.underlying t = some (.map kt et)) (hk : KeyT P kt key ok) (hj : ok j)
    (hS : Sat w I L) [hi : HasMapK L m key ok kv rep] (hz : ∀ w : World, (zeroValue et).run P w = .ok zv w) (hv : (gGet kv j).getD zv = v) : Ex P a ⟨dst, .lookup t x y false, ty, pos, af, gd⟩ w v := by
  subst hv
  exact ex_lookupK hx hy hu hk hj hS hz
theorem ex_lookupOkKT [DecidableEq α] [DecidableEq α] {kt et : TypeId} {zv : Value} {rep : Ch → List Ch} {r : Bool} (hx : a.eval x = .map (some m)) (hy : a.eval y = key j) (hu : P.underlying t = some (.map kt et)) (hk : KeyT P kt key ok) (hj : ok j)
    (hS : Sat w I L) [hi : HasMapK L m key ok kv rep] (hz : ∀ w : World, (zeroValue et).run P w = .ok zv w) (hv : (gGet kv j).getD zv = v) (hr : (gGet kv j).isSome = r) : Ex P a ⟨dst, .lookup t x y true, ty, pos, af, gd⟩ w (.tuple #[v, .bool r]) := by
  subst hv; subst hr
  exact ex_lookupOkK hx hy hu hk hj hS hz
theorem wp_mapsCloneK [DecidableEq α] {f : FuncId} {fn : Func} {ats : Array TypeId} {kv : List (α × Value)} {rep : Ch → List Ch} (hx : a.eval x = .iface t (.map (some m))) (hf : P.funcs[f]? = some fn) (h1 : (fn.name == "runtime.NumGoroutine") = false) (h2 : fn.body.isNone = true)
    (h3 : Extern.findNext fn = none) (h4 : Extern.find fn = some Extern.MapsClone.clone) (hS : Sat w I L) [hi : HasMapK L m key ok kv rep]
    (h : ∀ m' w', Sat w' I (MapK key ok m' kv :: L) → K (a.put dst (.iface t (.map (some m')))) w') : Oper.wp P ⟨dst, .call ⟨.value (.func f), #[x], ats⟩, ty, pos, af, gd⟩ a w K Q := by
  obtain ⟨i, hi, e⟩ := hi.has
  obtain ⟨es, clock, hh, hb, he, hn, hbn, hlt, hok⟩ := (hS.pull i hi).map0K
  have e1 : Extern.MapsClone.clone #[.iface t (.map (some m))] = (getObj m >>= fun o => match o with
      | .map entries clock => (newObj (.map entries clock) >>= fun n => pure (.iface t (.map (some n))))
      | _ => stuck "maps.clone: a map expected") := rfl
  have hrun : (execOp a.eval ⟨dst, .call ⟨.value (.func f), #[x], ats⟩, ty, pos, af, gd⟩).run P w = .ok (.value (.iface t (.map (some w.heap.size)))) (w.alloc (.map es clock)) := by
    have h5 := run_callFunc_extern (P := P) hf h1 h2 h3 h4 #[.iface t (.map (some m))] w
    have h6 : (callFunc f #[.iface t (.map (some m))]).run P w = .ok (.value (.iface t (.map (some w.heap.size)))) (w.alloc (.map es clock)) := by
      rw [h5, e1]
      simp [MapKept.run_getObj_map hh, Result.andThen, go_sem]
    simp [execOp, resolve, Deferred.ofValue, invoke, hx, show a.eval (.func f) = Value.func (.func f) #[] #[] from rfl, h6]
  unfold Oper.wp
  rw [hrun]
  refine h _ _ ?_
  have h7 := hS.alloc (.map es clock)
  exact h7.head fun f hf => ⟨es, clock, hf, he, hn, hbn, hlt, hok⟩
theorem Sat.mapIt0K (h : Sat w I (MapItK key ok m r kv todo cur :: L)) : ∃ es clock seen, Sat w I (Blk m (.map es clock) :: Blk r (.mapIter (some m) clock seen clock) :: L) ∧
    es.toList.map (fun e => (e.key, e.val)) = kv.map (fun p => (key p.1, p.2)) ∧ (kv.map Prod.fst).Nodup ∧ (es.toList.map (·.born)).Nodup ∧ (∀ e ∈ es.toList, e.born < clock) ∧ (∀ p ∈ kv, ok p.1) ∧
    (leftOf es seen).toList.map (fun e => (e.key, e.val)) = todo.map (fun p => (key p.1, p.2)) ∧
    (∀ c, cur = some c → ∃ e ∈ es.toList, e.key = key c.1 ∧ e.val = c.2 ∧ ∃ s0 : Array Nat, seen = s0.push e.born) := by
  obtain ⟨⟨f, ⟨g, k, dj, e, ⟨es, clock, seen, ⟨hm, hr⟩, h1, h2, h3, h4, hok, h5, h6⟩, hL⟩, hf⟩, r1, r2, r3, r4⟩ := h
  refine ⟨es, clock, seen, ⟨⟨f, ?_, hf⟩, r1, r2, r3, r4⟩, h1, h2, h3, h4, hok, h5, h6⟩
  have hmr : m ≠ r := by rintro rfl; rw [hm] at hr; cases hr
  refine ⟨fun k => if k = m then g m else none, Fp.join (fun k => if k = m then none else g k) k, ?_, ?_, by simpa [Blk] using hm, ?_⟩
  · intro q
    by_cases hq : q = m
    · subst hq
      right
      rcases dj q with d | d
      · rw [hm] at d; cases d
      · simp [Fp.join, d]
    · left; simp [hq]
  · rw [e]; funext q
    simp only [Fp.join]
    by_cases hq : q = m
    · subst hq; simp [hm]
    · simp [hq]
  · refine ⟨fun k => if k = m then none else g k, k, ?_, rfl, by simp [Blk, Ne.symm hmr, hr], hL⟩
    intro q
    rcases dj q with d | d
    · left; by_cases hq : q = m <;> simp [hq, d]
    · right; exact d
theorem Sat.mkMapItK {es : Array MapEntry} {clock : Nat} {seen : Array Nat} (h : Sat w I (Blk m (.map es clock) :: Blk r (.mapIter (some m) clock seen clock) :: L)) (h1 : es.toList.map (fun e => (e.key, e.val)) = kv.map (fun p => (key p.1, p.2))) (h2 : (kv.map Prod.fst).Nodup) (h3 : (es.toList.map (·.born)).Nodup) (h4 : ∀ e ∈ es.toList, e.born < clock) (hok : ∀ p ∈ kv, ok p.1)
    (h5 : (leftOf es seen).toList.map (fun e => (e.key, e.val)) = todo.map (fun p => (key p.1, p.2)))
    (h6 : ∀ c, cur = some c → ∃ e ∈ es.toList, e.key = key c.1 ∧ e.val = c.2 ∧ ∃ s0 : Array Nat, seen = s0.push e.born) : Sat w I (MapItK key ok m r kv todo cur :: L) := by
  have h7 := Sat.unstar (L := [Blk m (.map es clock), Blk r (.mapIter (some m) clock seen clock)]) (M := L) h
  refine h7.head ?_
  rintro f ⟨g, k, dj, e, hm, g2, k2, dj2, e2, hr, -⟩
  refine ⟨es, clock, seen, ⟨?_, ?_⟩, h1, h2, h3, h4, hok, h5, h6⟩
  · have hm : g m = _ := hm
    rw [e]; simp [Fp.join, hm]
  · have hr : g2 r = _ := hr
    rw [e, e2]
    simp only [Fp.join]
    rcases dj r with d | d
    · simp [d, hr]
    · rw [e2] at d; simp [Fp.join, hr] at d
theorem Sat.mapItEndK (h : Sat w I (MapItK key ok m r kv todo cur :: L)) : Sat w I (MapK key ok m kv :: L) := by
  obtain ⟨es, clock, seen, hS, h1, h2, h3, h4, hok, -, -⟩ := h.mapIt0K
  have := hS.swap.drop
  exact this.head fun f hf => ⟨es, clock, hf, h1, h2, h3, h4, hok⟩
theorem wp_rangeMapK {kt e : TypeId} (hx : a.eval x = .map (some m)) (hu : P.underlying t = some (.map kt e)) (hS : Sat w I (MapK key ok m kv :: L))
    (h : ∀ r w', Sat w' I (MapItK key ok m r kv kv none :: L) → K (a.put dst (.pointer (some ⟨r, 0, none⟩))) w') : Oper.wp P ⟨dst, .range t x, ty, pos, af, gd⟩ a w K Q := by
  obtain ⟨es, clock, hh, hb, he, hn, hbn, hlt, hok⟩ := hS.map0K
  unfold Oper.wp execOp
  simp only [Instr.range, run_underlying hu, getObj, Sem.run_bind, Sem.run, hx, hh, Result.andThen, newObj]
  refine h _ _ ?_
  have h7 := hb.alloc (.mapIter (some m) clock #[] clock)
  refine Sat.mkMapItK (es := es) (clock := clock) (seen := #[]) h7.swap he hn hbn hlt hok ?_ (fun c hc => by cases hc)
  have : leftOf es #[] = es := by unfold leftOf; exact Array.filter_eq_self.2 (by simp)
  rw [this]; exact he
theorem wp_nextMapK (hx : a.eval x = .pointer (some ⟨r, 0, none⟩)) (hS : Sat w I (MapItK key ok m r kv todo cur :: L))
    (h0 : todo = [] → K (a.put dst (.tuple #[.bool false])) w)
    (h1 : ∀ pre c post w', todo = pre ++ c :: post → Sat w' I (MapItK key ok m r kv (pre ++ post) (some c) :: L) → K (a.put dst (.tuple #[.bool true, key c.1, c.2])) w') : Oper.wp P ⟨dst, .next x false, ty, pos, af, gd⟩ a w K Q := by
  obtain ⟨es, clock, seen, hB, e1, e2, e3, e4, hok, e5, e6⟩ := hS.mapIt0K
  have hm := hB.blk0
  have hr := hB.swap.blk0
  unfold Oper.wp execOp
  rcases run_next_at (P := P) w ty r m clock clock seen es clock hr hm e4 (Nat.le_refl _) with ⟨h2, h3⟩ | ⟨e, he, w1, hw1, h3⟩
  · simp only [Sem.run_bind, hx, h3, Result.andThen]
    refine h0 ?_
    have : (leftOf es seen).toList = [] := List.eq_nil_of_length_eq_zero (by simpa using h2)
    rw [this] at e5
    simpa using e5.symm
  · simp only [Sem.run_bind, hx, h3, Result.andThen]
    obtain ⟨pre, post, hl⟩ := List.append_of_mem he
    obtain ⟨pre', c', post', f1, f2, f3, f4⟩ := map_split e5 hl
    simp only [Prod.mk.injEq] at f3
    rw [f3.1, f3.2]
    refine h1 pre' c' post' _ f1 ?_
    have hem : e ∈ es.toList := by
      have : e ∈ (leftOf es seen).toList := he
      unfold leftOf at this
      simp at this
      simpa using this.1
    have hS1 : Sat w1 I (Blk m (.map es clock) :: Blk r (.mapIter (some m) clock seen clock) :: L) := by
      rcases hw1 with rfl | rfl
      · exact hB
      · exact hB.drew
    have hlt : r < w1.heap.size := (Array.getElem?_eq_some_iff.1 hS1.swap.blk0).1
    have hS2 : Sat (ChangeMaps.setBlock w1 r (.mapIter (some m) clock (seen.push e.born) clock)) I (Blk r (.mapIter (some m) clock (seen.push e.born) clock) :: Blk m (.map es clock) :: L) :=
      hS1.swap.write (by simp [ChangeMaps.setBlock, hlt]) (fun k hk => by simp [ChangeMaps.setBlock, Array.getElem?_setIfInBounds_ne (Ne.symm hk)]) rfl rfl rfl
    refine Sat.mkMapItK hS2.swap e1 e2 e3 e4 hok ?_ (fun c hc => ?_)
    · have hnd : ((leftOf es seen).toList.map (·.born)).Nodup := by
        unfold leftOf
        have : (Array.filter (fun e => !seen.contains e.born) es).toList.Sublist es.toList := by rw [Array.toList_filter]; exact List.filter_sublist
        exact e3.sublist (this.map _)
      have hleft : (leftOf es (seen.push e.born)).toList = pre ++ post := by
        have g1 : (leftOf es (seen.push e.born)).toList = (leftOf es seen).toList.filter (fun q => !(q.born == e.born)) := by
          unfold leftOf
          rw [Array.toList_filter, Array.toList_filter, List.filter_filter]
          congr 1; funext q
          rw [Bool.eq_iff_iff]
          simp [Array.mem_push, not_or, and_comm]
        rw [g1, hl, List.filter_append, List.filter_cons]
        rw [hl, List.map_append, List.map_cons, List.nodup_append] at hnd
        obtain ⟨-, n2, n3⟩ := hnd
        rw [List.nodup_cons] at n2
        simp only [beq_self_eq_true, Bool.not_true, Bool.false_eq_true, if_false]
        congr 1
        · rw [List.filter_eq_self]
          intro q hq
          have := n3 q.born (List.mem_map.2 ⟨q, hq, rfl⟩) e.born (by simp)
          simpa using this
        · rw [List.filter_eq_self]
          intro q hq
          have := n2.1
          simp only [List.mem_map, not_exists, not_and] at this
          simpa using this q hq
      rw [hleft, List.map_append, f2, f4, ← List.map_append]
    · injection hc with hc; subst hc
      exact ⟨e, hem, f3.1, f3.2, seen, rfl⟩
theorem ex_entryMapK {c : α × Value} (hx : a.eval x = .pointer (some ⟨r, 0, none⟩)) (hS : Sat w I (MapItK key ok m r kv todo (some c) :: L)) : Ex P a ⟨dst, .entry x, ty, pos, af, gd⟩ w (.tuple #[key c.1, c.2]) := by
  obtain ⟨es, clock, seen, hB, e1, e2, e3, e4, hok, e5, e6⟩ := hS.mapIt0K
  obtain ⟨e, he, k1, k2, s0, rfl⟩ := e6 c rfl
  unfold Ex execOp
  simp only [Sem.run_bind, hx, run_entry_at (P := P) w r m clock s0 es clock e hB.swap.blk0 hB.blk0 he e3, Result.andThen, k1, k2]
  rfl
theorem ex_lenMapK {kt e : TypeId} {rep : Ch → List Ch} (hx : a.eval x = .map (some m)) (hu : P.underlying t = some (.map kt e)) (hS : Sat w I L) [hi : HasMapK L m key ok kv rep] : Ex P a ⟨dst, .call ⟨.builtin .len, #[x], #[t]⟩, ty, pos, af, gd⟩ w (.int .i64 kv.length) := by
  obtain ⟨i, hi, _⟩ := hi.has
  obtain ⟨es, clock, hh, hb, he, hn, hbn, hlt, hok⟩ := (hS.pull i hi).map0K
  have hl : es.size = kv.length := by have := congrArg List.length he; simpa using this
  unfold Ex
  simp [execOp, resolve, Deferred.ofValue, invoke, hx, builtin, Builtin.len_, run_underlying hu, MapKept.run_getObj_map hh, hl]
  rfl
end
section

/-- Keys that are arrays of bytes. -/
def keyB (j : List UInt8) : Value := .agg (j.map byteV).toArray
theorem sameBits_bytes (n : Nat) : ∀ (j : List UInt8), ((j.map byteV).zip (j.map byteV)).all (fun (x, y) => Instr.sameBits (n + 1) x y) = true
  | [] => rfl
  | c :: j => by
    have := sameBits_bytes n j
    simp only [List.map_cons, List.zip_cons_cons, List.all_cons, this, Bool.and_true]
    simp [byteV, Instr.sameBits]
theorem run_part_byte {P : Program} {el : TypeId} (he : P.underlying el = some (.int .u8)) (w : World) (j : List UInt8) (i : Nat) (c : UInt8) (h : j[i]? = some c) : (part el (j.map byteV).toArray i).run P w = .ok (byteV c) w := by
  have hk : kindB P el = some false := by simp [kindB, he]
  simp [part, run_isAgg hk, h]
theorem keyT_bytes {P : Program} {kt el : TypeId} {n : Nat} (hu : P.underlying kt = some (.array n el)) (he : P.underlying el = some (.int .u8)) (hs : sizeB P el = some 1) : KeyT P kt keyB (fun j => j.length = n) := by
  refine KeyT.of_eq (by rw [hu]) ?_ ?_ ?_
  · intro w j k hj hk
    have h1 := run_equalIn_bytes (P := P) w 9998 kt el n hu he (fun w => run_sizeOf hs w) j k hj hk
    have h2 : (@BEq.beq (List UInt8) List.instBEq j k) = (@BEq.beq (List UInt8) instBEqOfDecidableEq j k) := by
      rw [Bool.eq_iff_iff]; simp
    rw [h2] at h1
    exact h1
  · intro w q j hj
    unfold keyB
    rw [show (10000 : Nat) = 9999 + 1 from rfl, Instr.checkKey]
    simp only [Sem.run_bind, run_underlying hu, Result.andThen_ok]
    simp only [Std.Legacy.Range.forIn_eq_forIn_range', Std.Legacy.Range.size, Nat.sub_zero, Nat.add_one_sub_one, Nat.div_one]
    have each : ∀ i ∈ List.range' 0 n, ∃ c, j[i]? = some c := by
      intro i hi
      simp [List.mem_range'] at hi
      exact ⟨_, List.getElem?_eq_getElem (by omega)⟩
    generalize List.range' 0 n = is at each
    induction is with
    | nil => simp
    | cons i is ih =>
      obtain ⟨c, hc⟩ := each i (by simp)
      have p1 := run_part_byte he w j i c hc
      have p2 : (Instr.checkKey q 9999 el (byteV c)).run P w = .ok () w := by
        rw [show (9999 : Nat) = 9998 + 1 from rfl, Instr.checkKey]
        simp [run_underlying he, byteV]
      simp only [List.forIn_cons, Sem.run_bind, run_sizeOf hs w, Result.andThen_ok, Nat.mul_one, p1, p2, Sem.run_pure]
      exact ih (fun y hy => each y (by simp [hy]))
  · intro j hj
    unfold keyB
    rw [show (10000 : Nat) = 9999 + 1 from rfl, Instr.sameBits]
    have := sameBits_bytes 9998 j
    simp only [List.size_toArray, List.length_map, beq_self_eq_true, Bool.true_and]
    exact this
end
end Go.SL

/- Rows of elements: the cells of a row, element by element. -/
set_option linter.unusedVariables false
set_option linter.unusedSimpArgs false
namespace Go.SL
open Go.RowKit
/-- How an element lies in its cells. -/
structure ElT {α : Type} (enc : α → List Value) (sz : Nat) : Prop where
  len : ∀ x, (enc x).length = sz
  oc : ∀ x, Oc (enc x)
def flatE {α : Type} (enc : α → List Value) (as : List α) : List Value := as.flatMap enc
section
variable {α : Type} {enc : α → List Value} {sz : Nat}
theorem flatE_len (hE : ElT enc sz) (as : List α) : (flatE enc as).length = as.length * sz := by
  induction as with
  | nil => simp [flatE]
  | cons a as ih => simp only [flatE, List.flatMap_cons, List.length_append, List.length_cons, hE.len] at ih ⊢; rw [ih, Nat.succ_mul]; omega
theorem flatE_oc (hE : ElT enc sz) (as : List α) : Oc (flatE enc as) := by
  intro u hu
  obtain ⟨a, _, hu⟩ := List.mem_flatMap.1 hu
  exact hE.oc a u hu
theorem flatE_app (as bs : List α) : flatE enc (as ++ bs) = flatE enc as ++ flatE enc bs := by simp [flatE]
theorem flatE_one (a : α) : flatE enc [a] = enc a := by simp [flatE]
theorem flatE_nil : flatE enc ([] : List α) = [] := rfl
theorem sub_flatE (hE : ElT enc sz) : ∀ {as : List α} {i : Nat} {a : α}, as[i]? = some a → sub (flatE enc as) (i * sz) sz = enc a
  | [], i, a, h => by simp at h
  | b :: as, 0, a, h => by
    simp at h; subst h
    simp only [sub, flatE, List.flatMap_cons, Nat.zero_mul, List.drop_zero]
    exact List.take_left' (hE.len b)
  | b :: as, i + 1, a, h => by
    have ih := sub_flatE hE (as := as) (i := i) (a := a) (by simpa using h)
    rw [← ih]
    simp only [sub, flatE, List.flatMap_cons]
    rw [Nat.succ_mul, Nat.add_comm, ← List.drop_drop, List.drop_left' (hE.len b)]
theorem splice_flatE (hE : ElT enc sz) (x : α) : ∀ {as : List α} {i : Nat}, i < as.length → splice (flatE enc as) (i * sz) (enc x) = flatE enc (as.set i x)
  | [], i, h => by simp at h
  | b :: as, 0, h => by
    simp only [splice, flatE, List.flatMap_cons, Nat.zero_mul, List.take_zero, List.nil_append, List.set_cons_zero, Nat.zero_add, hE.len]
    rw [List.drop_left' (hE.len b)]
  | b :: as, i + 1, h => by
    have ih := splice_flatE hE x (as := as) (i := i) (by simpa using h)
    have hl := flatE_len hE as
    simp only [flatE, List.flatMap_cons, List.set_cons_succ] at ih hl ⊢
    rw [← ih]
    simp only [splice, hE.len]
    rw [show (i + 1) * sz = sz + i * sz from by rw [Nat.succ_mul, Nat.add_comm], List.take_append, hE.len, Nat.add_sub_cancel_left, List.take_of_length_le (by rw [hE.len]; omega), List.append_assoc, List.append_assoc, List.drop_append, hE.len, show sz + i * sz + sz - sz = i * sz + sz from by omega, List.drop_of_length_le (by rw [hE.len]; omega)]
    simp
variable {P : Program} {w w' : World} {I J : Gh} {L M : List Ch} {E : TypeId} {as : List α} {x : α} {v u : Value} {n m i : Nat}
variable {a : Act} {K : Act → World → Prop} {Q : Exit → Act → World → Prop} {dst : Option Tmp} {px py : Operand} {t ty : TypeId} {pos : String} {af : Array Edge} {gd : Option (Nat × Bool)}
theorem ldEl (hE : ElT enc sz) (hr : RdS w v (flatE enc as)) (hv : IsSl v n) (hn : i < n) (hi : as[i]? = some x) (hk : kindB P t = some true) (hs : sizeB P t = some sz) : (loadVar t (ea v (i * sz))).run P w = .ok (.agg (enc x).toArray) w :=
  ldEN hr hv hn hk hs (sub_flatE hE hi) (hE.len x)
theorem wp_storeEl {rep : Ch → List Ch} (hE : ElT enc sz) (hp : a.eval px = .pointer (some (ea v (i * sz)))) (hy : a.eval py = .agg (enc x).toArray) (hS : Sat w I L) [hi : HasRow L v E sz n (flatE enc as) rep] (hs : sizeB P t = some sz) (hn : as.length = n) (hlt : i < n)
    (h : ∀ w', Sat w' I (rep (Row v E sz n (flatE enc (as.set i x)))) → K (a.put dst undef) w') : Oper.wp P ⟨dst, .store t px py, ty, pos, af, gd⟩ a w K Q := by
  refine wp_storeEN hp hy hS (by rw [hE.len]; exact hs) (by omega) ?_ (hE.oc x) fun w' hS' => h w' ?_
  · rw [flatE_len hE, hE.len, hn]
    have : (i + 1) * sz ≤ n * sz := Nat.mul_le_mul_right _ hlt
    rw [Nat.succ_mul] at this
    exact this
  · rw [splice_flatE hE x (by omega)] at hS'
    exact hS'
end
end Go.SL

/- Stable sorting, plain: insertion, merging, and how a merge parts in two. -/
namespace Go.SS
variable {α β : Type}
theorem snocInd {motive : List α → Prop} (h0 : motive []) (h1 : ∀ l x, motive l → motive (l ++ [x])) (l : List α) : motive l := by
  have : ∀ r : List α, motive r.reverse := by
    intro r
    induction r with
    | nil => exact h0
    | cons x r ih => rw [List.reverse_cons]; exact h1 _ _ ih
  have h := this l.reverse
  rwa [List.reverse_reverse] at h
/-- x goes behind all that are not after it. -/
def ins (lt : α → α → Bool) : List α → α → List α
  | [], x => [x]
  | y :: P, x => if lt x y then x :: y :: P else y :: ins lt P x
def ssort (lt : α → α → Bool) (l : List α) : List α := l.foldl (ins lt) []
def mrg (lt : α → α → Bool) : List α → List α → List α
  | [], Q => Q
  | p :: P, [] => p :: P
  | p :: P, q :: Q => if lt q p then q :: mrg lt (p :: P) Q else p :: mrg lt P (q :: Q)
termination_by P Q => P.length + Q.length
/-- The order: no element is before one that is before it, and so on. -/
structure Ord (lt : α → α → Bool) : Prop where
  trans : ∀ x y z, lt y x = false → lt z y = false → lt z x = false
  asymm : ∀ x y, lt x y = true → lt y x = false
variable {lt : α → α → Bool}
theorem Ord.irrefl (h : Ord lt) (x : α) : lt x x = false := by
  cases e : lt x x with
  | false => rfl
  | true => have := h.asymm x x e; rw [e] at this; exact this
theorem Ord.lt_of_lt_of_le (h : Ord lt) {x y z : α} (h1 : lt x y = true) (h2 : lt z y = false) : lt x z = true := by
  cases e : lt x z with
  | true => rfl
  | false => have := h.trans y z x h2 e; rw [h1] at this; cases this
theorem Ord.lt_of_le_of_lt (h : Ord lt) {x y z : α} (h1 : lt y x = false) (h2 : lt y z = true) : lt x z = true := by
  cases e : lt x z with
  | true => rfl
  | false => have := h.trans z x y e h1; rw [h2] at this; cases this
theorem Ord.lt_trans (h : Ord lt) {x y z : α} (h1 : lt x y = true) (h2 : lt y z = true) : lt x z = true := h.lt_of_le_of_lt (h.asymm x y h1) h2
/-- In order: none is before one that stands ahead of it. -/
def Srt (lt : α → α → Bool) (l : List α) : Prop := l.Pairwise (fun x y => lt y x = false)
theorem mrg_nil (P : List α) : mrg lt P [] = P := by cases P <;> simp [mrg]
theorem nil_mrg (Q : List α) : mrg lt [] Q = Q := by simp [mrg]
theorem mrg_cons (p q : α) (P Q : List α) : mrg lt (p :: P) (q :: Q) = if lt q p then q :: mrg lt (p :: P) Q else p :: mrg lt P (q :: Q) := by rw [mrg]
theorem ins_length (P : List α) (x : α) : (ins lt P x).length = P.length + 1 := by
  induction P with
  | nil => rfl
  | cons y P ih => rw [ins]; split <;> simp [ih]
theorem mem_ins {P : List α} {x z : α} : z ∈ ins lt P x ↔ z = x ∨ z ∈ P := by
  induction P with
  | nil => simp [ins]
  | cons y P ih =>
    rw [ins]; split
    · simp
    · simp [ih]; grind
theorem ssort_snoc (l : List α) (x : α) : ssort lt (l ++ [x]) = ins lt (ssort lt l) x := by simp [ssort]
theorem ssort_length (l : List α) : (ssort lt l).length = l.length := by
  have : ∀ (l P : List α), (l.foldl (ins lt) P).length = P.length + l.length := by
    intro l
    induction l with
    | nil => simp
    | cons x l ih => intro P; simp [ih, ins_length]; omega
  simpa [ssort] using this l []
theorem mem_ssort {l : List α} {z : α} : z ∈ ssort lt l ↔ z ∈ l := by
  have : ∀ (l P : List α), z ∈ l.foldl (ins lt) P ↔ z ∈ P ∨ z ∈ l := by
    intro l
    induction l with
    | nil => simp
    | cons x l ih => intro P; simp [ih, mem_ins]; grind
  simpa [ssort] using this l []
theorem ins_srt (h : Ord lt) {P : List α} (hP : Srt lt P) (x : α) : Srt lt (ins lt P x) := by
  induction P with
  | nil => simp [ins, Srt]
  | cons y P ih =>
    obtain ⟨h1, h2⟩ := List.pairwise_cons.1 hP
    rw [ins]
    by_cases hxy : lt x y = true
    · rw [if_pos hxy]
      refine List.pairwise_cons.2 ⟨fun z hz => ?_, hP⟩
      rcases List.mem_cons.1 hz with rfl | hz
      · exact h.asymm _ _ hxy
      · exact h.trans x y z (h.asymm _ _ hxy) (h1 z hz)
    · rw [if_neg hxy]
      refine List.pairwise_cons.2 ⟨fun z hz => ?_, ih h2⟩
      rcases mem_ins.1 hz with rfl | hz
      · simpa using hxy
      · exact h1 z hz
theorem ssort_srt (h : Ord lt) (l : List α) : Srt lt (ssort lt l) := by
  have : ∀ (l P : List α), Srt lt P → Srt lt (l.foldl (ins lt) P) := by
    intro l
    induction l with
    | nil => intro P hP; exact hP
    | cons x l ih => intro P hP; exact ih _ (ins_srt h hP x)
  exact this l [] List.Pairwise.nil
/-- Where the insertion of a sort ends. -/
theorem ins_parts (h : Ord lt) {S1 S2 : List α} {x : α} (hS : Srt lt (S1 ++ S2)) (h1 : ∀ y ∈ S2.head?, lt x y = true) (h2 : ∀ y ∈ S1.getLast?, lt x y = false) : ins lt (S1 ++ S2) x = S1 ++ x :: S2 := by
  induction S1 with
  | nil =>
    cases S2 with
    | nil => rfl
    | cons y S2 => simp [ins, h1 y (by simp)]
  | cons y S1 ih =>
    have hS' := hS
    simp only [List.cons_append] at hS'
    obtain ⟨g1, g2⟩ := List.pairwise_cons.1 hS'
    have hy : lt x y = false := by
      cases hl : S1.getLast? with
      | none => rw [List.getLast?_eq_none_iff] at hl; subst hl; exact h2 y (by simp)
      | some z =>
        have hz : z ∈ S1 := List.mem_of_getLast? hl
        have := h2 z (by rw [List.getLast?_cons, hl]; simp)
        exact h.trans y z x (g1 z (by simp [hz])) this
    rw [List.cons_append, ins, if_neg (by rw [hy]; simp), ih g2 (fun z hz => h2 z (by
      rw [List.getLast?_cons, show S1.getLast? = some z from hz]; simp))]
    rfl
theorem mrg_ins (h : Ord lt) (x : α) : ∀ (P Q : List α), ins lt (mrg lt P Q) x = mrg lt P (ins lt Q x)
  | [], Q => by rw [nil_mrg, nil_mrg]
  | p :: P, [] => by
    rw [mrg_nil]
    simp only [ins]
    rw [mrg_cons]
    split
    · rw [mrg_nil]
    · have := mrg_ins h x P []
      rw [mrg_nil] at this
      rw [this]; rfl
  | p :: P, q :: Q => by
    rw [mrg_cons]
    by_cases hqp : lt q p = true
    · rw [if_pos hqp, ins, ins]
      by_cases hxq : lt x q = true
      · rw [if_pos hxq, if_pos hxq, mrg_cons, if_pos (h.lt_trans hxq hqp), mrg_cons, if_pos hqp]
      · rw [if_neg hxq, if_neg hxq, mrg_cons, if_pos hqp, mrg_ins h x (p :: P) Q]
    · rw [if_neg hqp, ins, ins]
      have hqp' : lt q p = false := by simpa using hqp
      by_cases hxq : lt x q = true
      · rw [if_pos hxq]
        by_cases hxp : lt x p = true
        · rw [if_pos hxp, mrg_cons, if_pos hxp, mrg_cons, if_neg hqp]
        · rw [if_neg hxp, mrg_cons, if_neg hxp, mrg_ins h x P (q :: Q), ins, if_pos hxq]
      · have hxq' : lt x q = false := by simpa using hxq
        have hxp : lt x p = false := h.trans p q x hqp' hxq'
        rw [if_neg hxq, if_neg (by rw [hxp]; simp), mrg_cons, if_neg hqp, mrg_ins h x P (q :: Q), ins, if_neg hxq]
termination_by P Q => P.length + Q.length
theorem mrg_ssort (h : Ord lt) (P : List α) (hP : True) : ∀ (B : List α), mrg lt P (ssort lt B) = B.foldl (ins lt) P := by
  intro B
  induction B using snocInd with
  | h0 => simp [ssort, mrg_nil]
  | h1 B x ih => rw [ssort_snoc, ← mrg_ins h, ih]; simp
theorem mrg_ssort2 (h : Ord lt) (A B : List α) : mrg lt (ssort lt A) (ssort lt B) = ssort lt (A ++ B) := by
  rw [mrg_ssort h _ trivial]; simp [ssort]
/-- A merge parts in two. -/
theorem mrg_parts : ∀ (L1 R1 L2 R2 : List α), (∀ x ∈ L1, ∀ y ∈ R2, lt y x = false) → (∀ x ∈ L2, ∀ y ∈ R1, lt y x = true) → mrg lt (L1 ++ L2) (R1 ++ R2) = mrg lt L1 R1 ++ mrg lt L2 R2
  | [], [], L2, R2, _, _ => by simp [nil_mrg]
  | [], y :: R1, L2, R2, h1, h2 => by
    have ih := mrg_parts [] R1 L2 R2 (by simp) (fun x hx z hz => h2 x hx z (by simp [hz]))
    rw [nil_mrg] at ih
    simp only [List.nil_append, nil_mrg] at ih ⊢
    cases L2 with
    | nil => simp [nil_mrg]
    | cons x L2 => rw [List.cons_append, mrg_cons, if_pos (h2 x (by simp) y (by simp)), ih]; rfl
  | x :: L1, [], L2, R2, h1, h2 => by
    have ih := mrg_parts L1 [] L2 R2 (fun z hz y hy => h1 z (by simp [hz]) y hy) (by simp)
    rw [mrg_nil] at ih
    simp only [List.nil_append, mrg_nil] at ih ⊢
    cases R2 with
    | nil => simp [mrg_nil]
    | cons y R2 => rw [List.cons_append, mrg_cons, if_neg (by rw [h1 x (by simp) y (by simp)]; simp), ih]; rfl
  | x :: L1, y :: R1, L2, R2, h1, h2 => by
    simp only [List.cons_append]
    rw [mrg_cons, mrg_cons]
    split
    · rw [← List.cons_append, mrg_parts (x :: L1) R1 L2 R2 h1 (fun z hz w hw => h2 z hz w (by simp [hw]))]; rfl
    · rw [← List.cons_append, mrg_parts L1 (y :: R1) L2 R2 (fun z hz w hw => h1 z (by simp [hz]) w hw) h2]; rfl
termination_by L1 R1 => L1.length + R1.length
theorem mrg_length : ∀ (P Q : List α), (mrg lt P Q).length = P.length + Q.length
  | [], Q => by simp [nil_mrg]
  | p :: P, [] => by simp [mrg_nil]
  | p :: P, q :: Q => by
    rw [mrg_cons]; split
    · simp [mrg_length (p :: P) Q]; omega
    · simp [mrg_length P (q :: Q)]; omega
termination_by P Q => P.length + Q.length
theorem mem_mrg {z : α} : ∀ (P Q : List α), z ∈ mrg lt P Q ↔ z ∈ P ∨ z ∈ Q
  | [], Q => by simp [nil_mrg]
  | p :: P, [] => by simp [mrg_nil]
  | p :: P, q :: Q => by
    rw [mrg_cons]; split
    · simp [mem_mrg (p :: P) Q]; grind
    · simp [mem_mrg P (q :: Q)]; grind
termination_by P Q => P.length + Q.length
theorem ins_map (f : α → β) {lt' : β → β → Bool} (hf : ∀ x y, lt' (f x) (f y) = lt x y) (P : List α) (x : α) : ins lt' (P.map f) (f x) = (ins lt P x).map f := by
  induction P with
  | nil => rfl
  | cons y P ih => simp only [List.map_cons, ins, hf]; split <;> simp [ih]
theorem ssort_map (f : α → β) {lt' : β → β → Bool} (hf : ∀ x y, lt' (f x) (f y) = lt x y) (l : List α) : ssort lt' (l.map f) = (ssort lt l).map f := by
  have : ∀ (l P : List α), (l.map f).foldl (ins lt') (P.map f) = (l.foldl (ins lt) P).map f := by
    intro l
    induction l with
    | nil => intro P; rfl
    | cons x l ih => intro P; simp only [List.map_cons, List.foldl_cons, ins_map f hf, ih]
  exact this l []
theorem ssort_append_srt (h : Ord lt) {A : List α} (hA : Srt lt A) : ssort lt A = A := by
  induction A using snocInd with
  | h0 => rfl
  | h1 A x ih =>
    rw [ssort_snoc, ih (List.pairwise_append.1 hA).1]
    have := ins_parts (S1 := A) (S2 := []) (x := x) h (by rw [List.append_nil]; exact (List.pairwise_append.1 hA).1) (by simp) (fun y hy => (List.pairwise_append.1 hA).2.2 y (List.mem_of_getLast? hy) x (by simp))
    rwa [List.append_nil] at this

/-! symMerge -/
theorem mrg_one {x : α} {Y1 Y2 : List α} (h1 : ∀ y ∈ Y1, lt y x = true) (h2 : ∀ y ∈ Y2, lt y x = false) : mrg lt [x] (Y1 ++ Y2) = Y1 ++ x :: Y2 := by
  have := mrg_parts (lt := lt) [] Y1 [x] Y2 (by simp) (by simpa using h1)
  simp only [List.nil_append, nil_mrg] at this
  rw [this]
  congr 1
  cases Y2 with
  | nil => simp [mrg_nil]
  | cons y Y2 => rw [mrg_cons, if_neg (by rw [h2 y (by simp)]; simp), nil_mrg]
theorem mrg_last {y : α} {X1 X2 : List α} (h1 : ∀ x ∈ X1, lt y x = false) (h2 : ∀ x ∈ X2, lt y x = true) : mrg lt (X1 ++ X2) [y] = X1 ++ y :: X2 := by
  have := mrg_parts (lt := lt) X1 [] X2 [y] (by simpa using h1) (by simp)
  simp only [List.nil_append, mrg_nil] at this
  rw [this]
  congr 1
  cases X2 with
  | nil => simp [nil_mrg]
  | cons x X2 => rw [mrg_cons, if_pos (h2 x (by simp)), mrg_nil]
theorem srt_get {l : List α} (h : Srt lt l) {i j : Nat} {x y : α} (hi : l[i]? = some x) (hj : l[j]? = some y) (hij : i < j) : lt y x = false := by
  obtain ⟨h1, rfl⟩ := List.getElem?_eq_some_iff.1 hi
  obtain ⟨h2, rfl⟩ := List.getElem?_eq_some_iff.1 hj
  exact List.pairwise_iff_getElem.1 h i j h1 h2 hij
theorem srt_le (hO : Ord lt) {l : List α} (h : Srt lt l) {i j : Nat} {x y : α} (hi : l[i]? = some x) (hj : l[j]? = some y) (hij : i ≤ j) : lt y x = false := by
  rcases Nat.lt_or_eq_of_le hij with h1 | h1
  · exact srt_get h hi hj h1
  · subst h1; rw [hi] at hj; cases hj; exact hO.irrefl x
theorem mem_take_get {l : List α} {k : Nat} {x : α} (h : x ∈ l.take k) : ∃ i, i < k ∧ l[i]? = some x := by
  obtain ⟨i, hi⟩ := List.getElem?_of_mem h
  rw [List.getElem?_take] at hi
  split at hi
  · exact ⟨i, by assumption, hi⟩
  · cases hi
theorem mem_drop_get {l : List α} {k : Nat} {x : α} (h : x ∈ l.drop k) : ∃ i, k ≤ i ∧ l[i]? = some x := by
  obtain ⟨i, hi⟩ := List.getElem?_of_mem h
  rw [List.getElem?_drop] at hi
  exact ⟨k + i, by omega, hi⟩
/-- Every block of bs elements sorted by itself. -/
def sb (lt : α → α → Bool) (bs : Nat) (l : List α) : List α := if h : bs < l.length ∧ 0 < bs then ssort lt (l.take bs) ++ sb lt bs (l.drop bs) else ssort lt l
termination_by l.length
decreasing_by simp; omega
theorem sb_small {bs : Nat} {l : List α} (h : l.length ≤ bs) : sb lt bs l = ssort lt l := by rw [sb, dif_neg (by omega)]
theorem sb_step {bs : Nat} {l : List α} (h0 : 0 < bs) (h : bs ≤ l.length) : sb lt bs l = ssort lt (l.take bs) ++ sb lt bs (l.drop bs) := by
  rcases Nat.lt_or_eq_of_le h with h1 | h1
  · rw [sb, dif_pos ⟨h1, h0⟩]
  · rw [sb_small (by omega), List.take_of_length_le (by omega), List.drop_of_length_le (by omega), sb_small (by simp)]
    simp [ssort]
theorem sb_length {bs : Nat} (h0 : 0 < bs) : ∀ (n : Nat) (l : List α), l.length = n → (sb lt bs l).length = n := by
  intro n
  induction n using Nat.strongRecOn with
  | ind n ih =>
    intro l hl
    by_cases h : l.length ≤ bs
    · rw [sb_small h, ssort_length, hl]
    · rw [sb_step h0 (by omega), List.length_append, ssort_length, ih (n - bs) (by omega) (l.drop bs) (by simp; omega)]
      simp; omega
end Go.SS

/- Strings whose bytes are written out. -/
set_option linter.unusedVariables false
set_option linter.unusedSimpArgs false
namespace Go.SL
open Go.RowKit
section
variable {P : Program} {w : World} {a : Act} {dst : Option Tmp} {x y z : Operand} {t ty : TypeId} {pos : String} {af : Array Edge} {gd : Option (Nat × Bool)} {l r : List UInt8}
theorem ex_lenStrL (hx : a.eval x = .string ⟨l.toArray⟩) (hu : P.underlying t = some .string) : Ex P a ⟨dst, .call ⟨.builtin .len, #[x], #[t]⟩, ty, pos, af, gd⟩ w (.int .i64 l.length) := by
  have h := ex_lenStr (P := P) (dst := dst) (ty := ty) (pos := pos) (af := af) (gd := gd) (w := w) hx hu
  have e : (ByteArray.size ⟨l.toArray⟩) = l.length := by simp [ByteArray.size]
  rwa [e] at h
theorem ex_eqlStrT {b : Bool} {yt : TypeId} (hx : a.eval x = .string ⟨l.toArray⟩) (hy : a.eval y = .string ⟨r.toArray⟩) (hb : decide (l = r) = b) : Ex P a ⟨dst, .binOp .eql t x y yt, ty, pos, af, gd⟩ w (.bool b) := by
  have h := ex_eqlStrL (P := P) (dst := dst) (t := t) (ty := ty) (pos := pos) (af := af) (gd := gd) (w := w) (yt := yt) hx hy
  have e : (l == r) = b := by rw [← hb, Bool.eq_iff_iff]; simp
  rwa [e] at h
theorem ex_neqStrT {b : Bool} {yt : TypeId} (hx : a.eval x = .string ⟨l.toArray⟩) (hy : a.eval y = .string ⟨r.toArray⟩) (hb : (!decide (l = r)) = b) : Ex P a ⟨dst, .binOp .neq t x y yt, ty, pos, af, gd⟩ w (.bool b) := by
  have h := ex_neqStrL (P := P) (dst := dst) (t := t) (ty := ty) (pos := pos) (af := af) (gd := gd) (w := w) (yt := yt) hx hy
  have e : (l != r) = b := by rw [← hb, Bool.eq_iff_iff]; simp
  rwa [e] at h
theorem byteAt {bs : List UInt8} {k j : Nat} {c : UInt8} (h : bs[j]? = some c) (hk : k = j) : (bs.map byteV)[k]? = some (byteV c) := by subst hk; simp [h]
theorem extract_list (l : List UInt8) (i j : Nat) : ByteArray.extract ⟨l.toArray⟩ i j = ⟨((l.drop i).take (j - i)).toArray⟩ := by
  apply ByteArray.ext
  rw [ByteArray.data_extract, List.extract_toArray]
theorem size_list (l : List UInt8) : ByteArray.size ⟨l.toArray⟩ = l.length := by simp [ByteArray.size]
theorem ex_sliceStrL {k1 : IntKind} {i : Nat} (hx : a.eval x = .string ⟨l.toArray⟩) (hy : a.eval y = .int k1 (i : Int)) (hu : P.underlying t = some .string) (hi : i ≤ l.length) :
    Ex P a ⟨dst, .slice t x (some y) none none, ty, pos, af, gd⟩ w (.string ⟨(l.drop i).toArray⟩) := by
  have h1 : (Instr.sliceBound (.int k1 (i : Int)) l.length .sliceB).run P w = .ok i w := run_sliceBound (by omega) (by omega)
  unfold Ex execOp
  simp [Instr.sliceAt, Instr.slice, run_underlying hu, hx, hy, Instr.sliceBounds, size_list, h1, extract_list]
  exact List.take_of_length_le (by simp)
theorem ex_sliceStrH {k1 : IntKind} {i : Nat} (hx : a.eval x = .string ⟨l.toArray⟩) (hy : a.eval y = .int k1 (i : Int)) (hu : P.underlying t = some .string) (hi : i ≤ l.length) :
    Ex P a ⟨dst, .slice t x none (some y) none, ty, pos, af, gd⟩ w (.string ⟨(l.take i).toArray⟩) := by
  have h1 : (Instr.sliceBound (.int k1 (i : Int)) l.length .sliceAlen).run P w = .ok i w := run_sliceBound (by omega) (by omega)
  unfold Ex execOp
  simp [Instr.sliceAt, Instr.slice, run_underlying hu, hx, hy, Instr.sliceBounds, size_list, h1, extract_list]
theorem ex_sliceStrLH {k1 k2 : IntKind} {i j : Nat} (hx : a.eval x = .string ⟨l.toArray⟩) (hy : a.eval y = .int k1 (i : Int)) (hz : a.eval z = .int k2 (j : Int)) (hu : P.underlying t = some .string) (hij : i ≤ j) (hj : j ≤ l.length) :
    Ex P a ⟨dst, .slice t x (some y) (some z) none, ty, pos, af, gd⟩ w (.string ⟨((l.drop i).take (j - i)).toArray⟩) := by
  have h1 : (Instr.sliceBound (.int k1 (i : Int)) j .sliceB).run P w = .ok i w := run_sliceBound (by omega) (by omega)
  have h2 : (Instr.sliceBound (.int k2 (j : Int)) l.length .sliceAlen).run P w = .ok j w := run_sliceBound (by omega) (by omega)
  unfold Ex execOp
  simp [Instr.sliceAt, Instr.slice, run_underlying hu, hx, hy, hz, Instr.sliceBounds, size_list, h1, h2, extract_list]
theorem append_list (l r : List UInt8) : (ByteArray.mk l.toArray) ++ (ByteArray.mk r.toArray) = ⟨(l ++ r).toArray⟩ := by
  apply ByteArray.ext
  rw [ByteArray.data_append]
  simp
theorem ex_addStr {yt : TypeId} (hx : a.eval x = .string ⟨l.toArray⟩) (hy : a.eval y = .string ⟨r.toArray⟩) (hb : l.length + r.length ≤ 9223372036854775807) : Ex P a ⟨dst, .binOp .add t x y yt, ty, pos, af, gd⟩ w (.string ⟨(l ++ r).toArray⟩) := by
  unfold Ex execOp
  simp [eqGuard, hx, hy, binOp, Op.stringOp, append_list]
  rw [size_list, size_list]; omega
end
end Go.SL

/- slices.Delete of one element: moving down in place, clearing what is left over. -/
set_option linter.unusedVariables false
set_option linter.unusedSimpArgs false
namespace Go.SL
open Go.RowKit
section
variable {P : Program} {w w' : World} {I J : Gh} {L M : List Ch} {E : TypeId} {xs ys : List Value} {v u : Value} {n m k sz g cap : Nat}
variable {a : Act} {K : Act → World → Prop} {Q : Exit → Act → World → Prop} {dst : Option Tmp} {x y z z2 : Operand} {t ty : TypeId} {pos : String} {af : Array Edge} {gd : Option (Nat × Bool)}
def slv3 (v : Value) (i j q sz : Nat) : Value := match v with | .slice b _ _ => .slice (if q = i then b else b.map (·.add (i * sz))) (j - i) (q - i) | x => x
theorem ex_slice3 {el : TypeId} {k1 k2 k3 : IntKind} {i j q : Nat} (hx : a.eval x = v) (hy : a.eval y = .int k1 (i : Int)) (hz : a.eval z = .int k2 (j : Int)) (hz2 : a.eval z2 = .int k3 (q : Int)) (hu : sliceB P t = some el) (hs : sizeB P el = some sz) (hv : IsSl v n) (h1 : i ≤ j) (h2 : j ≤ q) (h3 : q ≤ n) :
    Ex P a ⟨dst, .slice t x (some y) (some z) (some z2), ty, pos, af, gd⟩ w (slv3 v i j q sz) := by
  obtain ⟨b, cp, rfl, hn, hq⟩ := hv.ex
  unfold sliceB at hu
  split at hu
  case h_2 => cases hu
  rename_i el' hu'
  injection hu with hu; subst hu
  have e1 : (Instr.sliceBound (.int k3 (q : Int)) cp .slice3Acap).run P w = .ok q w := by have := run_sliceBound (P := P) (w := w) (k1 := k3) (li := (q : Int)) (yy := cp) (code := .slice3Acap) (by omega) (by omega); simpa using this
  have e2 : (Instr.sliceBound (.int k2 (j : Int)) q .slice3B).run P w = .ok j w := by have := run_sliceBound (P := P) (w := w) (k1 := k2) (li := (j : Int)) (yy := q) (code := .slice3B) (by omega) (by omega); simpa using this
  have e3 : (Instr.sliceBound (.int k1 (i : Int)) j .slice3C).run P w = .ok i w := by have := run_sliceBound (P := P) (w := w) (k1 := k1) (li := (i : Int)) (yy := j) (code := .slice3C) (by omega) (by omega); simpa using this
  unfold Ex execOp
  simp [slv3, Instr.sliceAt, Instr.slice, run_underlying hu', hx, hy, hz, hz2, Instr.sliceBounds, e1, e2, e3, run_sizeOf hs]
/-- What lies behind the end of a row, one element. -/
theorem ex_sliceEnd {el : TypeId} {k1 k2 : IntKind} {q : Nat} (hq : q = n + 1) (hx : a.eval x = .slice (some ⟨g, 0, none⟩) n cap) (hy : a.eval y = .int k1 (n : Int)) (hz : a.eval z = .int k2 (q : Int)) (hu : sliceB P t = some el) (hs : sizeB P el = some sz) (hc : n + 1 ≤ cap) :
    Ex P a ⟨dst, .slice t x (some y) (some z) none, ty, pos, af, gd⟩ w (.slice (some ⟨g, n * sz, none⟩) 1 (cap - n)) := by
  unfold sliceB at hu
  split at hu
  case h_2 => cases hu
  rename_i el' hu'
  injection hu with hu; subst hu
  have e2 : (Instr.sliceBound (.int k2 (q : Int)) cap .sliceAcap).run P w = .ok q w := by have := run_sliceBound (P := P) (w := w) (k1 := k2) (li := (q : Int)) (yy := cap) (code := .sliceAcap) (by omega) (by omega); simpa using this
  have e3 : (Instr.sliceBound (.int k1 (n : Int)) q .sliceB).run P w = .ok n w := by have := run_sliceBound (P := P) (w := w) (k1 := k1) (li := (n : Int)) (yy := q) (code := .sliceB) (by omega) (by omega); simpa using this
  have hcn : ¬ cap = n := by omega
  have hqn : q - n = 1 := by omega
  unfold Ex execOp
  simp [Instr.sliceAt, Instr.slice, run_underlying hu', hx, hy, hz, Instr.sliceBounds, e2, e3, run_sizeOf hs, hcn, Addr.add_lit, hqn]
theorem wp_delAppend {rep : Ch → List Ch} (hx : a.eval x = slv v 0 k sz) (hy : a.eval y = slv v (k + 1) n sz) (hu : sliceB P t = some E) (hs : sizeB P E = some sz) (hS : Sat w I L) [hi : HasRow L v E sz n xs rep] (hk : k < n)
    (h : ∀ g cap w', n ≤ cap → Sat w' I (rep (Row (.slice (some ⟨g, 0, none⟩) (n - 1) cap) E sz (n - 1) (xs.take (k * sz) ++ xs.drop ((k + 1) * sz)))) → K (a.put dst (.slice (some ⟨g, 0, none⟩) (n - 1) cap)) w') :
    Oper.wp P ⟨dst, .call ⟨.builtin .append, #[x, y], #[t, t]⟩, ty, pos, af, gd⟩ a w K Q := by
  have hus := hs
  unfold sliceB at hu
  split at hu
  case h_2 => cases hu
  rename_i el' he
  injection hu with hu; subst hu
  obtain ⟨g, cap, rest, hv, hnc, hxl, hxo, hrl, hb⟩ := hS.rowBlk (hi := hi) (by omega)
  have hxr := (hS.rowH (v := v)).2.2.1
  subst hv
  have hrd := hxr _ _ _ rfl
  have hn1 : (n - 1) * sz = k * sz + (n - (k + 1)) * sz := by rw [← Nat.add_mul]; congr 1; omega
  have hnk : n * sz = k * sz + sz + (n - (k + 1)) * sz := by rw [show k * sz + sz = (k + 1) * sz by rw [Nat.succ_mul], ← Nat.add_mul]; congr 1; omega
  have hcapn : cap * sz = n * sz + (cap - n) * sz := by rw [← Nat.add_mul]; congr 1; omega
  have hk1 : (k + 1) * sz = k * sz + sz := Nat.succ_mul _ _
  have hnews : (xs.drop ((k + 1) * sz)).length = (n - (k + 1)) * sz := by rw [List.length_drop, hxl, hk1]; omega
  have hyl : (xs.take (k * sz) ++ xs.drop ((k + 1) * sz)).length = (n - 1) * sz := by rw [List.length_append, hnews, List.length_take, hxl]; omega
  have hyo : Oc (xs.take (k * sz) ++ xs.drop ((k + 1) * sz)) := Oc.append (fun x hx => hxo x (List.mem_of_mem_take hx)) (fun x hx => hxo x (List.mem_of_mem_drop hx))
  have hcur : ((xs.take (k * sz) ++ xs.drop ((k + 1) * sz)) ++ (xs.drop ((n - 1) * sz) ++ rest)).length = cap * sz := by
    rw [List.length_append, hyl, List.length_append, List.length_drop, hxl, hrl]; omega
  have hS' := hS.updRow (hi := hi) (m := n - 1) (ys := xs.take (k * sz) ++ xs.drop ((k + 1) * sz)) (cur := xs.drop ((n - 1) * sz) ++ rest) rfl (by omega) hyl hyo hcur
  have e0 : slv (.slice (some ⟨g, 0, none⟩) n cap) 0 k sz = .slice (some ⟨g, 0, none⟩) k cap := by
    simp [slv, Addr.add_lit]
  have run : (Builtin.append_ #[t, t] ty #[.slice (some ⟨g, 0, none⟩) k cap, slv (.slice (some ⟨g, 0, none⟩) n cap) (k + 1) n sz]).run P w = .ok (.slice (some ⟨g, 0, none⟩) (n - 1) cap) (w.setRow g ((xs.take (k * sz) ++ xs.drop ((k + 1) * sz)) ++ (xs.drop ((n - 1) * sz) ++ rest)).toArray) := by
    rcases Nat.eq_zero_or_pos (n - (k + 1)) with h0 | h0
    · have hn : n = k + 1 := by omega
      subst hn
      have e1 : slv (.slice (some ⟨g, 0, none⟩) (k + 1) cap) (k + 1) (k + 1) sz = .slice (if cap = k + 1 then some ⟨g, 0, none⟩ else (some ⟨g, 0, none⟩ : Option Addr).map (·.add ((k + 1) * sz))) 0 (cap - (k + 1)) := by simp [slv]
      rw [e1, run_append_zero he hus (by omega)]
      have e2 : (xs.take (k * sz) ++ xs.drop ((k + 1) * sz)) ++ (xs.drop ((k + 1 - 1) * sz) ++ rest) = xs ++ rest := by
        rw [List.drop_of_length_le (Nat.le_of_eq hxl), List.append_nil, Nat.add_sub_cancel, ← List.append_assoc, List.take_append_drop]
      rw [e2, setRow_self w g _ _ _ hb]
      rfl
    · have hcl : ¬ cap = k + 1 := by omega
      have e1 : slv (.slice (some ⟨g, 0, none⟩) n cap) (k + 1) n sz = .slice (some ⟨g, (k + 1) * sz, none⟩) (n - (k + 1)) (cap - (k + 1)) := by simp [slv, hcl, Addr.add_lit]
      rw [e1]
      unfold sizeB at hs
      cases hin : P.info? el' with
      | none => rw [hin] at hs; cases hs
      | some i =>
        rw [hin] at hs
        simp only [Option.map_some, Option.some.injEq] at hs
        have hd := hrd.drop ((k + 1) * sz)
        rw [Addr.add_lit, Nat.zero_add] at hd
        have hr := run_append_room (P := P) w t ty el' i he hin g k cap (xs ++ rest).toArray hb ⟨g, (k + 1) * sz, none⟩ (n - (k + 1)) (cap - (k + 1)) (xs.drop ((k + 1) * sz)) (by rw [hs]; exact hnews) hd (fun x hx => hxo x (List.mem_of_mem_drop hx)) (by omega) (by rw [hs, hnews]; simp only [List.size_toArray, List.length_append, hxl, hrl]; omega)
        rw [hr, hs, show k + (n - (k + 1)) = n - 1 by omega]
        congr 3
        simp only [hnews]
        rw [← hn1, List.take_append_of_le_length (by rw [hxl]; omega), List.drop_append_of_le_length (by rw [hxl]; omega)]
  rw [e0] at hx
  unfold Oper.wp execOp
  simp only [resolve, invoke, builtin, Sem.run_bind, Sem.run_pure, Result.andThen_ok, List.map_toArray, List.map_cons, List.map_nil, hx, hy, run]
  exact h g cap _ hnc hS'
theorem wp_clearEnd {rep : Ch → List Ch} {zs : List Value} {c2 : Nat} (hx : a.eval x = .slice (some ⟨g, n * sz, none⟩) 1 c2) (hu : sliceB P t = some E) (hs : sizeB P E = some sz) (hz : zeroB P E = some zs) (hzl : zs.length = sz) (hzo : Oc zs)
    (hS : Sat w I L) [hi : HasRow L (.slice (some ⟨g, 0, none⟩) n cap) E sz n xs rep] (hc : n + 1 ≤ cap)
    (h : ∀ w', Sat w' I (rep (Row (.slice (some ⟨g, 0, none⟩) n cap) E sz n xs)) → K (a.put dst (.tuple #[])) w') :
    Oper.wp P ⟨dst, .call ⟨.builtin .clear, #[x], #[t]⟩, ty, pos, af, gd⟩ a w K Q := by
  unfold sliceB at hu
  split at hu
  case h_2 => cases hu
  rename_i el' he
  injection hu with hu; subst hu
  obtain ⟨zv, hz1, hz2⟩ := run_zeroValue hz
  obtain ⟨hvi, hxl, hxr, hm, hxo⟩ := hS.rowH (hi := hi)
  obtain ⟨rest, hrl, hb⟩ : ∃ rest, rest.length = (cap - n) * sz ∧ w.heap[g]? = some (.cells (xs ++ rest).toArray el' (0, 0)) := by
    obtain ⟨i, hi', e⟩ := hi.has
    obtain ⟨⟨f, ⟨p, q, dj, e1, ⟨⟨hl, ho⟩, hc'⟩, hL⟩, hf⟩, _⟩ := hS.pull i hi'
    rcases hc' with ⟨hh, _⟩ | ⟨g', cap', rest, hh, hn, hm, hr, hq⟩
    · cases hh
    · injection hh with h1 h2 h3
      injection h1 with h1
      injection h1 with h1
      subst h1; subst h3
      exact ⟨rest, hr, (hf g _ (by rw [e1]; simp only [Fp.join]; rw [hq]; rfl)).1⟩
  have hcapn : cap * sz = n * sz + (cap - n) * sz := by rw [← Nat.add_mul]; congr 1; omega
  have hsz : sz ≤ (cap - n) * sz := by
    have : 1 * sz ≤ (cap - n) * sz := Nat.mul_le_mul_right _ (by omega)
    omega
  have hzc : (Builtin.zeroCells zv.cells 1).toList = zs := by
    have := rep_cells zv.cells 1
    unfold Builtin.zeroCells
    rw [this, hz1]
    simp [SL.rep]
  have hst := run_storeCells_at P g (n * sz) el' zs 0 (xs ++ rest).toArray w hb (by simp only [List.size_toArray, List.length_append, hxl, hrl, hzl]; omega) hzo
  simp only [Nat.add_zero] at hst
  have e1 : (xs ++ rest).take (n * sz) ++ zs ++ (xs ++ rest).drop (n * sz + zs.length) = xs ++ (zs ++ rest.drop sz) := by
    rw [← hxl, List.take_left, ← List.drop_drop, List.drop_left, hzl, List.append_assoc]
  rw [e1] at hst
  have hS' := hS.updRow (hi := hi) (m := n) (ys := xs) (cur := zs ++ rest.drop sz) rfl (by omega) hxl hxo (by simp only [List.length_append, List.length_drop, hxl, hrl, hzl]; omega)
  have run : (Builtin.clear_ #[t] ty #[.slice (some ⟨g, n * sz, none⟩) 1 c2]).run P w = .ok (.tuple #[]) (w.setRow g (xs ++ (zs ++ rest.drop sz)).toArray) := by
    simp [Builtin.clear_, run_underlying he, hz2, hzc, hst]
  unfold Oper.wp
  simp only [BigFrame.execOp_builtin, BigFrame.builtin_clear, List.map_toArray, List.map_cons, List.map_nil, hx, Sem.run_bind, run, Result.andThen_ok, Sem.run_pure]
  exact h _ hS'
end
end Go.SL
