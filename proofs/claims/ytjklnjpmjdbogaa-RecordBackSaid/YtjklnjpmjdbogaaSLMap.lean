/- Maps with int keys, as chunks. -/
import Derived.Test.YtjklnjpmjdbogaaSLVal3
namespace Go.SL
open Go.RowKit

/-- Block m is a map whose entries are kv, in the order in which they came. -/
def MapI (m : Nat) (kv : List (Int × Value)) : Ch := fun f => ∃ es clock, f m = some (.map es clock) ∧ es.toList.map (fun e => (e.key, e.val)) = kv.map (fun p => (Value.int .i64 p.1, p.2)) ∧
  (kv.map Prod.fst).Nodup ∧ (es.toList.map (·.born)).Nodup ∧ ∀ e ∈ es.toList, e.born < clock

def kvSet {β : Type} : List (Int × β) → Int → β → List (Int × β)
  | [], k, v => [(k, v)]
  | (j, u) :: r, k, v => if j = k then (j, v) :: r else (j, u) :: kvSet r k v
def kvDel {β : Type} : List (Int × β) → Int → List (Int × β)
  | [], _ => []
  | (j, u) :: r, k => if j = k then r else (j, u) :: kvDel r k
def kvGet {β : Type} : List (Int × β) → Int → Option β
  | [], _ => none
  | (j, u) :: r, k => if j = k then some u else kvGet r k

theorem kvSet_keys {β : Type} (kv : List (Int × β)) (k : Int) (v : β) : (kvSet kv k v).map Prod.fst = if k ∈ kv.map Prod.fst then kv.map Prod.fst else kv.map Prod.fst ++ [k] := by
  induction kv with
  | nil => simp [kvSet]
  | cons p r ih =>
    obtain ⟨j, u⟩ := p
    simp only [kvSet]
    by_cases h : j = k
    · simp [h]
    · simp only [h, if_false, List.map_cons, ih, List.mem_cons]
      have : ¬ k = j := fun e => h e.symm
      by_cases h2 : k ∈ r.map Prod.fst
      · simp [h2]
      · simp [h2, this]
theorem kvDel_sub {β : Type} (kv : List (Int × β)) (k : Int) : ((kvDel kv k).map Prod.fst).Sublist (kv.map Prod.fst) := by
  induction kv with
  | nil => simp [kvDel]
  | cons p r ih =>
    obtain ⟨j, u⟩ := p
    simp only [kvDel]
    by_cases h : j = k
    · simp [h]
    · simp [h, ih]
theorem kvGet_none {β : Type} {kv : List (Int × β)} {k : Int} : kvGet kv k = none ↔ k ∉ kv.map Prod.fst := by
  induction kv with
  | nil => simp [kvGet]
  | cons p r ih =>
    obtain ⟨j, u⟩ := p
    simp only [kvGet]
    by_cases h : j = k
    · simp [h]
    · have : ¬ k = j := fun e => h e.symm
      simp [h, ih, this]
theorem kvGet_set {β : Type} (kv : List (Int × β)) (k j : Int) (v : β) : kvGet (kvSet kv k v) j = if j = k then some v else kvGet kv j := by
  induction kv with
  | nil =>
    simp only [kvSet, kvGet]
    by_cases h : j = k
    · simp [h]
    · have : ¬ k = j := fun e => h e.symm
      simp [h, this]
  | cons p r ih =>
    obtain ⟨i, u⟩ := p
    simp only [kvSet]
    by_cases h : i = k
    · subst h
      simp only [if_true, kvGet]
      by_cases h2 : i = j
      · simp [h2]
      · have : ¬ j = i := fun e => h2 e.symm
        simp [h2, this]
    · simp only [h, if_false, kvGet, ih]
      by_cases h2 : i = j
      · subst h2; simp [h]
      · simp [h2]
theorem kvGet_del {β : Type} (kv : List (Int × β)) (hn : (kv.map Prod.fst).Nodup) (k j : Int) : kvGet (kvDel kv k) j = if j = k then none else kvGet kv j := by
  induction kv with
  | nil => simp [kvDel, kvGet]
  | cons p r ih =>
    obtain ⟨i, u⟩ := p
    simp only [List.map_cons, List.nodup_cons] at hn
    simp only [kvDel]
    by_cases h : i = k
    · subst h
      simp only [if_true, kvGet]
      by_cases h2 : i = j
      · subst h2; simp [kvGet_none.2 hn.1]
      · have : ¬ j = i := fun e => h2 e.symm
        simp [h2, this]
    · simp only [h, if_false, kvGet, ih hn.2]
      by_cases h2 : i = j
      · subst h2; simp [h]
      · simp [h2]

theorem kvGet_map {β γ : Type} (f : β → γ) (k : Int) : ∀ (kv : List (Int × β)), kvGet (kv.map fun p => (p.1, f p.2)) k = (kvGet kv k).map f
  | [] => rfl
  | (j, u) :: r => by simp only [List.map_cons, kvGet]; by_cases h : j = k <;> simp [h, kvGet_map f k r]
theorem kvSet_map {β γ : Type} (f : β → γ) (k : Int) (v : β) : ∀ (kv : List (Int × β)), kvSet (kv.map fun p => (p.1, f p.2)) k (f v) = (kvSet kv k v).map fun p => (p.1, f p.2)
  | [] => rfl
  | (j, u) :: r => by simp only [List.map_cons, kvSet]; by_cases h : j = k <;> simp [h, kvSet_map f k v r]
theorem kvDel_map {β γ : Type} (f : β → γ) (k : Int) : ∀ (kv : List (Int × β)), kvDel (kv.map fun p => (p.1, f p.2)) k = (kvDel kv k).map fun p => (p.1, f p.2)
  | [] => rfl
  | (j, u) :: r => by simp only [List.map_cons, kvDel]; by_cases h : j = k <;> simp [h, kvDel_map f k r]

/-! the entries -/
theorem findNow_int (kd : IntKind) (k : Int) : ∀ (es : List MapEntry) (kv : List (Int × Value)) (i : Nat), es.map (fun e => (e.key, e.val)) = kv.map (fun p => (Value.int .i64 p.1, p.2)) →
    Instr.findNow (.int kd) (.int .i64 k) es i = some (match kv.findIdx? (fun p => p.1 == k) with | some j => (kvGet kv k).map fun v => (i + j, v) | none => none)
  | [], kv, i, h => by
    have : kv = [] := by cases kv <;> simp at h ⊢
    subst this
    simp [Instr.findNow]
  | e :: es, kv, i, h => by
    cases kv with
    | nil => simp at h
    | cons p r =>
      obtain ⟨j, u⟩ := p
      simp only [List.map_cons, List.cons.injEq, Prod.mk.injEq] at h
      obtain ⟨⟨hk, hv⟩, hr⟩ := h
      simp only [Instr.findNow, hk, Instr.sameNow, if_true, List.findIdx?_cons, kvGet]
      by_cases hj : j = k
      · subst hj; simp [hv]
      · have hj' : (j == k) = false := by simpa using hj
        have hj2 : (k == j) = false := by simpa using fun e => hj e.symm
        simp only [hj', hj2, hj, if_false, Bool.false_eq_true]
        rw [findNow_int kd k es r (i + 1) hr]
        cases hf : r.findIdx? (fun p => p.1 == k) with
        | none => simp
        | some m => simp; cases kvGet r k <;> simp; omega
theorem kvGet_idx (k : Int) : ∀ (kv : List (Int × Value)), (kv.findIdx? (fun p => p.1 == k)).isSome = (kvGet kv k).isSome
  | [] => rfl
  | (j, u) :: r => by
    simp only [List.findIdx?_cons, kvGet]
    by_cases hj : j = k
    · simp [hj]
    · have hj' : (j == k) = false := by simpa using hj
      simp [hj', hj, kvGet_idx k r]
theorem kvSet_some (k : Int) (v : Value) : ∀ (kv : List (Int × Value)) (i : Nat), kv.findIdx? (fun p => p.1 == k) = some i → kvSet kv k v = kv.modify i (fun p => (p.1, v)) ∧ (kv[i]?).map Prod.fst = some k ∧ i < kv.length
  | [], i, h => by simp at h
  | (j, u) :: r, i, h => by
    simp only [List.findIdx?_cons] at h
    by_cases hj : j = k
    · simp [hj] at h; subst h; simp [kvSet, hj]
    · have hj' : (j == k) = false := by simpa using hj
      simp only [hj', Bool.false_eq_true, if_false, Option.map_eq_some_iff] at h
      obtain ⟨m, hm, rfl⟩ := h
      obtain ⟨a, b, c⟩ := kvSet_some k v r m hm
      exact ⟨by simp [kvSet, hj, a], by simpa using b, by simpa using c⟩
theorem kvSet_none (k : Int) (v : Value) : ∀ (kv : List (Int × Value)), kv.findIdx? (fun p => p.1 == k) = none → kvSet kv k v = kv ++ [(k, v)]
  | [], _ => rfl
  | (j, u) :: r, h => by
    simp only [List.findIdx?_cons] at h
    by_cases hj : j = k
    · simp [hj] at h
    · have hj' : (j == k) = false := by simpa using hj
      simp only [hj', Bool.false_eq_true, if_false, Option.map_eq_none_iff] at h
      simp [kvSet, hj, kvSet_none k v r h]
theorem kvDel_some (k : Int) : ∀ (kv : List (Int × Value)) (i : Nat), kv.findIdx? (fun p => p.1 == k) = some i → kvDel kv k = kv.eraseIdx i
  | [], i, h => by simp at h
  | (j, u) :: r, i, h => by
    simp only [List.findIdx?_cons] at h
    by_cases hj : j = k
    · simp [hj] at h; subst h; simp [kvDel, hj]
    · have hj' : (j == k) = false := by simpa using hj
      simp only [hj', Bool.false_eq_true, if_false, Option.map_eq_some_iff] at h
      obtain ⟨m, hm, rfl⟩ := h
      simp [kvDel, hj, kvDel_some k r m hm]
theorem kvDel_none (k : Int) : ∀ (kv : List (Int × Value)), kv.findIdx? (fun p => p.1 == k) = none → kvDel kv k = kv
  | [], _ => rfl
  | (j, u) :: r, h => by
    simp only [List.findIdx?_cons] at h
    by_cases hj : j = k
    · simp [hj] at h
    · have hj' : (j == k) = false := by simpa using hj
      simp only [hj', Bool.false_eq_true, if_false, Option.map_eq_none_iff] at h
      simp [kvDel, hj, kvDel_none k r h]

class HasMap (L : List Ch) (m : Nat) (kv : outParam (List (Int × Value))) (rep : outParam (Ch → List Ch)) : Prop where
  has : ∃ i, L[i]? = some (MapI m kv) ∧ ∀ c, rep c = L.set i c
instance HasMap.here {m : Nat} {kv : List (Int × Value)} {L : List Ch} : HasMap (MapI m kv :: L) m kv (fun c => c :: L) := ⟨0, rfl, fun _ => rfl⟩
instance (priority := 500) HasMap.there {m : Nat} {kv : List (Int × Value)} {L : List Ch} {x : Ch} {rep : Ch → List Ch} [h : HasMap L m kv rep] : HasMap (x :: L) m kv (fun c => x :: rep c) :=
  ⟨let ⟨i, a, e⟩ := h.has; ⟨i + 1, by simpa using a, fun c => by simp [e c]⟩⟩
instance HasMap.past {m : Nat} {kv : List (Int × Value)} {X L : List Ch} {rep : Ch → List Ch} [h : HasMap L m kv rep] : HasMap (X ++ L) m kv (fun c => X ++ rep c) :=
  ⟨let ⟨i, a, e⟩ := h.has; ⟨X.length + i, by rw [List.getElem?_append_right (Nat.le_add_right _ _), Nat.add_sub_cancel_left]; exact a,
    fun c => by rw [e c, List.set_append_right _ _ (Nat.le_add_right _ _), Nat.add_sub_cancel_left]⟩⟩
section
variable {P : Program} {w w' : World} {I J : Gh} {L M : List Ch} {c d : Ch} {b b' : Nat} {o o' : Obj} {E : TypeId} {cs xs ys news : List Value} {v u : Value} {n m k sz : Nat} {p : Addr} {kv : List (Int × Value)} {j : Int}
variable {a : Act} {K : Act → World → Prop} {Q : Exit → Act → World → Prop} {dst : Option Tmp} {x y z : Operand} {t ty : TypeId} {pos : String} {af : Array Edge} {gd : Option (Nat × Bool)}

theorem Sat.map0 (h : Sat w I (MapI m kv :: L)) : ∃ es clock, w.heap[m]? = some (.map es clock) ∧ Sat w I (Blk m (.map es clock) :: L) ∧ es.toList.map (fun e => (e.key, e.val)) = kv.map (fun p => (Value.int .i64 p.1, p.2)) ∧
    (kv.map Prod.fst).Nodup ∧ (es.toList.map (·.born)).Nodup ∧ ∀ e ∈ es.toList, e.born < clock := by
  obtain ⟨es, h⟩ := Sat.ex_head h
  obtain ⟨clock, h⟩ := Sat.ex_head h
  have h2 : Sat w I ((fun f => (es.toList.map (fun e => (e.key, e.val)) = kv.map (fun p => (Value.int .i64 p.1, p.2)) ∧ (kv.map Prod.fst).Nodup ∧ (es.toList.map (·.born)).Nodup ∧ ∀ e ∈ es.toList, e.born < clock) ∧ Blk m (.map es clock) f) :: L) :=
    h.head fun f hf => ⟨hf.2, hf.1⟩
  obtain ⟨hp, h3⟩ := Sat.and_head h2
  exact ⟨es, clock, h3.blk0, h3, hp⟩
theorem Sat.mapNodup {rep : Ch → List Ch} (hS : Sat w I L) [hi : HasMap L m kv rep] : (kv.map Prod.fst).Nodup := by
  obtain ⟨i, hi, _⟩ := hi.has
  obtain ⟨_, _, _, _, _, h, _⟩ := (hS.pull i hi).map0
  exact h
theorem checkKey_int (q : Bool) (n : Nat) {kt : TypeId} {kd ki : IntKind} (hk : P.underlying kt = some (.int kd)) : (Instr.checkKey q (n + 1) kt (.int ki j)).run P w = .ok () w := by
  simp [Instr.checkKey, run_underlying hk]
theorem run_getMap {es : Array MapEntry} {clock : Nat} (h : w.heap[m]? = some (.map es clock)) : (getObj m).run P w = .ok (.map es clock) w := by
  simp [getObj, Sem.run, h]
theorem run_findKey {es : Array MapEntry} {kt : TypeId} {kd : IntKind} (hk : P.underlying kt = some (.int kd)) (he : es.toList.map (fun e => (e.key, e.val)) = kv.map (fun p => (Value.int .i64 p.1, p.2))) :
    (Instr.findKey kt (.int .i64 j) es.toList).run P w = .ok (match kv.findIdx? (fun p => p.1 == j) with | some i => (kvGet kv j).map fun v => (i, v) | none => none) w := by
  have := findNow_int kd j es.toList kv 0 he
  simp only [Nat.zero_add] at this
  simp only [Instr.findKey, Sem.run_bind, run_underlying hk, Result.andThen_ok, this, Sem.run_pure]
/-- 'm[k]': the value, or the zero value. -/
theorem ex_lookup {kt et : TypeId} {zv : Value} {rep : Ch → List Ch} {kd : IntKind} (hx : a.eval x = .map (some m)) (hy : a.eval y = .int .i64 j) (hu : P.underlying t = some (.map kt et)) (hk : P.underlying kt = some (.int kd))
    (hS : Sat w I L) [hi : HasMap L m kv rep] (hz : ∀ w : World, (zeroValue et).run P w = .ok zv w) : Ex P a ⟨dst, .lookup t x y false, ty, pos, af, gd⟩ w ((kvGet kv j).getD zv) := by
  obtain ⟨i, hi, _⟩ := hi.has
  obtain ⟨es, clock, hh, _, he, _⟩ := (hS.pull i hi).map0
  have hf := run_findKey (P := P) (w := w) (j := j) hk he
  have hidx := kvGet_idx j kv
  unfold Ex execOp
  simp only [hx, hy, Instr.lookup, Sem.run_bind, run_underlying hu, Result.andThen_ok, run_getMap hh, Sem.run_pure, checkKey_int (P := P) es.isEmpty 9999 hk, hf]
  cases hq : kv.findIdx? (fun p => p.1 == j) with
  | none =>
    rw [hq] at hidx
    have : kvGet kv j = none := by cases hg : kvGet kv j <;> simp [hg] at hidx ⊢
    simp [this, hz]
  | some q =>
    rw [hq] at hidx
    obtain ⟨v, hv⟩ := Option.isSome_iff_exists.1 hidx.symm
    simp [hv]
theorem ex_lookupOk {kt et : TypeId} {zv : Value} {rep : Ch → List Ch} {kd : IntKind} (hx : a.eval x = .map (some m)) (hy : a.eval y = .int .i64 j) (hu : P.underlying t = some (.map kt et)) (hk : P.underlying kt = some (.int kd))
    (hS : Sat w I L) [hi : HasMap L m kv rep] (hz : ∀ w : World, (zeroValue et).run P w = .ok zv w) : Ex P a ⟨dst, .lookup t x y true, ty, pos, af, gd⟩ w (.tuple #[(kvGet kv j).getD zv, .bool (kvGet kv j).isSome]) := by
  obtain ⟨i, hi, _⟩ := hi.has
  obtain ⟨es, clock, hh, _, he, _⟩ := (hS.pull i hi).map0
  have hf := run_findKey (P := P) (w := w) (j := j) hk he
  have hidx := kvGet_idx j kv
  unfold Ex execOp
  simp only [hx, hy, Instr.lookup, Sem.run_bind, run_underlying hu, Result.andThen_ok, run_getMap hh, Sem.run_pure, checkKey_int (P := P) es.isEmpty 9999 hk, hf]
  cases hq : kv.findIdx? (fun p => p.1 == j) with
  | none =>
    rw [hq] at hidx
    have : kvGet kv j = none := by cases hg : kvGet kv j <;> simp [hg] at hidx ⊢
    simp [this, hz]
  | some q =>
    rw [hq] at hidx
    obtain ⟨v, hv⟩ := Option.isSome_iff_exists.1 hidx.symm
    simp [hv]
theorem wp_makeMap (hS : Sat w I L) (h : ∀ m w', Sat w' I (MapI m [] :: L) → K (a.put dst (.map (some m))) w') : Oper.wp P ⟨dst, .makeMap t none, ty, pos, af, gd⟩ a w K Q := by
  unfold Oper.wp execOp
  simp only [Instr.makeMap, Option.map_none, Sem.run_bind, Sem.run_pure, Result.andThen_ok, run_newObj]
  refine h _ _ ((hS.alloc (.map #[] 0)).head fun f hf => ⟨#[], 0, hf, rfl, by simp, by simp, fun e he => by cases he⟩)
theorem Sat.mapSet {rep : Ch → List Ch} {es es' : Array MapEntry} {clock clock' : Nat} {kv' : List (Int × Value)} {i : Nat} (hi : L[i]? = some (MapI m kv)) (e : ∀ c, rep c = L.set i c) (hb : Sat w I (Blk m (.map es clock) :: L.eraseIdx i))
    (h1 : es'.toList.map (fun e => (e.key, e.val)) = kv'.map (fun p => (Value.int .i64 p.1, p.2))) (h2 : (kv'.map Prod.fst).Nodup) (h3 : (es'.toList.map (·.born)).Nodup) (h4 : ∀ e ∈ es'.toList, e.born < clock') :
    Sat { w with heap := w.heap.setIfInBounds m (.map es' clock') } I (rep (MapI m kv')) := by
  rw [e]
  refine Sat.push i hi ?_
  have hlt : m < w.heap.size := (Array.getElem?_eq_some_iff.1 hb.blk0).1
  refine (hb.write (w' := { w with heap := w.heap.setIfInBounds m (.map es' clock') }) (o' := .map es' clock') (by simp [hlt]) (fun k hk => by simp [Array.getElem?_setIfInBounds_ne (Ne.symm hk)]) rfl rfl rfl).head fun f hf => ⟨es', clock', hf, h1, h2, h3, h4⟩
theorem run_setMap {es es' : Array MapEntry} {clock clock' : Nat} (h : w.heap[m]? = some (.map es clock)) : (setObj m (.map es' clock')).run P w = .ok () { w with heap := w.heap.setIfInBounds m (.map es' clock') } := by
  simp [setObj, Sem.run, h]
theorem map_modify {α β : Type _} (f : α → β) (g : α → α) (g' : β → β) (h : ∀ x, f (g x) = g' (f x)) : ∀ (l : List α) (i : Nat), (l.modify i g).map f = (l.map f).modify i g'
  | [], i => by simp
  | x :: l, 0 => by simp [h]
  | x :: l, i + 1 => by simp [map_modify f g g' h l i]
theorem map_eraseIdx {α β : Type _} (f : α → β) : ∀ (l : List α) (i : Nat), (l.eraseIdx i).map f = (l.map f).eraseIdx i
  | [], i => by simp
  | x :: l, 0 => by simp
  | x :: l, i + 1 => by simp [map_eraseIdx f l i]
/-- 'm[k] = v' -/
theorem wp_mapUpdate {kt et : TypeId} {rep : Ch → List Ch} {kd : IntKind} (hx : a.eval x = .map (some m)) (hy : a.eval y = .int .i64 j) (hv : a.eval z = v) (hu : P.underlying t = some (.map kt et)) (hk : P.underlying kt = some (.int kd))
    (hS : Sat w I L) [hi : HasMap L m kv rep] (h : ∀ w', Sat w' I (rep (MapI m (kvSet kv j v))) → K (a.put dst undef) w') : Oper.wp P ⟨dst, .mapUpdate t x y z, ty, pos, af, gd⟩ a w K Q := by
  obtain ⟨i, hi, e⟩ := hi.has
  obtain ⟨es, clock, hh, hb, he, hn, hbn, hlt⟩ := (hS.pull i hi).map0
  have hf := run_findKey (P := P) (w := w) (j := j) hk he
  have hidx := kvGet_idx j kv
  have hlen : es.toList.length = kv.length := by have := congrArg List.length he; simpa using this
  unfold Oper.wp execOp
  simp only [hx, hy, hv, Instr.mapUpdate, Sem.run_bind, run_underlying hu, Result.andThen_ok, run_getMap hh, checkKey_int (P := P) false 9999 hk, hf]
  cases hq : kv.findIdx? (fun p => p.1 == j) with
  | none =>
    have e2 := kvSet_none j v kv hq
    have hnot : j ∉ kv.map Prod.fst := by
      rw [hq] at hidx
      exact kvGet_none.1 (by cases hg : kvGet kv j <;> simp [hg] at hidx ⊢)
    simp only [run_setMap hh, Result.andThen_ok, Sem.run_pure]
    refine h _ (Sat.mapSet hi e hb ?_ ?_ ?_ ?_)
    · rw [e2]; simp [he]
    · rw [kvSet_keys, if_neg hnot]
      exact List.nodup_append.2 ⟨hn, by simp, by simp; intro x y hxy e; subst e; exact hnot (List.mem_map.2 ⟨_, hxy, rfl⟩)⟩
    · simp only [Array.toList_push, List.map_append, List.map_cons, List.map_nil]
      refine List.nodup_append.2 ⟨hbn, by simp, ?_⟩
      intro x hx1 y hy1
      simp at hy1; subst hy1
      obtain ⟨en, hen, rfl⟩ := List.mem_map.1 hx1
      exact Nat.ne_of_lt (hlt en hen)
    · intro en hen
      simp at hen
      rcases hen with hen | rfl
      · exact Nat.lt_succ_of_lt (hlt en (by simpa using hen))
      · exact Nat.lt_succ_self _
  | some q =>
    obtain ⟨e2, e3, e4⟩ := kvSet_some j v kv q hq
    rw [hq] at hidx
    obtain ⟨u, hu'⟩ := Option.isSome_iff_exists.1 hidx.symm
    have hkey : ((es[q]?).map (·.key)) = some (.int .i64 j) := by
      have h1 := congrArg (fun l => (l[q]?).map Prod.fst) he
      simp only [List.getElem?_map, Option.map_map] at h1
      rw [show es[q]? = es.toList[q]? from by simp]
      have : (Option.map (Prod.fst ∘ fun p : Int × Value => (Value.int .i64 p.1, p.2)) kv[q]?) = some (.int .i64 j) := by
        cases hkq : kv[q]? with
        | none => rw [hkq] at e3; simp at e3
        | some pp => rw [hkq] at e3; simp at e3; simp [e3]
      rw [this] at h1
      exact h1
    have hstay : (Instr.keyThatStays (((es[q]?).map (·.key)).getD (.int .i64 j)) (.int .i64 j)).run P w = .ok (.int .i64 j) w := by
      rw [hkey]
      simp [Instr.keyThatStays, Instr.sameBits]
    simp only [hu', Option.map_some, Sem.run_bind, hstay, Result.andThen_ok, run_setMap hh, Sem.run_pure]
    refine h _ (Sat.mapSet hi e hb ?_ ?_ ?_ ?_)
    · rw [e2, Array.toList_modify, map_modify (fun e : MapEntry => (e.key, e.val)) _ (fun _ => (.int .i64 j, v)) (fun _ => rfl), he]
      apply List.ext_getElem?
      intro r
      simp only [List.getElem?_modify, List.getElem?_map]
      by_cases hr : q = r
      · subst hr
        cases hkq : kv[q]? with
        | none => simp
        | some pp => rw [hkq] at e3; simp at e3; simp [e3]
      · simp [hr]
    · rw [kvSet_keys, if_pos (Classical.byContradiction fun hc => by rw [kvGet_none.2 hc] at hu'; cases hu')]; exact hn
    · rw [Array.toList_modify, map_modify (fun e : MapEntry => e.born) (fun e => { e with key := .int .i64 j, val := v }) id (fun _ => rfl)]
      rw [show (es.toList.map (·.born)).modify q id = es.toList.map (·.born) from by simp]
      exact hbn
    · intro en hen
      rw [Array.toList_modify] at hen
      have : en.born ∈ (es.toList.modify q fun e => { e with key := .int .i64 j, val := v }).map (·.born) := List.mem_map.2 ⟨en, hen, rfl⟩
      rw [map_modify (fun e : MapEntry => e.born) (fun e => { e with key := .int .i64 j, val := v }) id (fun _ => rfl), show (es.toList.map (·.born)).modify q id = es.toList.map (·.born) from by simp] at this
      obtain ⟨e0, he0, e1⟩ := List.mem_map.1 this
      rw [← e1]; exact hlt e0 he0
/-- 'delete(m, k)' -/
theorem wp_delete {kt et : TypeId} {rep : Ch → List Ch} {kd : IntKind} {at_ : TypeId} (hx : a.eval x = .map (some m)) (hy : a.eval y = .int .i64 j) (hu : P.underlying t = some (.map kt et)) (hk : P.underlying kt = some (.int kd))
    (hS : Sat w I L) [hi : HasMap L m kv rep] (h : ∀ w', Sat w' I (rep (MapI m (kvDel kv j))) → K (a.put dst (.tuple #[])) w') : Oper.wp P ⟨dst, .call ⟨.builtin .delete, #[x, y], #[t, at_]⟩, ty, pos, af, gd⟩ a w K Q := by
  obtain ⟨i, hi, e⟩ := hi.has
  obtain ⟨es, clock, hh, hb, he, hn, hbn, hlt⟩ := (hS.pull i hi).map0
  have hf := run_findKey (P := P) (w := w) (j := j) hk he
  have hidx := kvGet_idx j kv
  have hn' : ((kvDel kv j).map Prod.fst).Nodup := hn.sublist (kvDel_sub kv j)
  unfold Oper.wp
  simp only [BigFrame.execOp_builtin, BigFrame.builtin_delete, List.map_toArray, List.map_cons, List.map_nil, hx, hy, Sem.run_bind]
  cases hq : kv.findIdx? (fun p => p.1 == j) with
  | none =>
    have e2 := kvDel_none j kv hq
    rw [hq] at hf
    have hr : (Builtin.delete_ #[t, at_] ty #[.map (some m), .int .i64 j]).run P w = .ok (.tuple #[]) { w with heap := w.heap.setIfInBounds m (.map es clock) } := by
      simp [Builtin.delete_, run_underlying hu, run_getMap hh, checkKey_int (P := P) es.isEmpty 9999 hk, hf, run_setMap hh]
    rw [hr]
    exact h _ (Sat.mapSet hi e hb (by rw [e2]; exact he) hn' hbn hlt)
  | some q =>
    have e2 := kvDel_some j kv q hq
    rw [hq] at hf hidx
    obtain ⟨u, hu'⟩ := Option.isSome_iff_exists.1 hidx.symm
    rw [hu'] at hf
    have hr : (Builtin.delete_ #[t, at_] ty #[.map (some m), .int .i64 j]).run P w = .ok (.tuple #[]) { w with heap := w.heap.setIfInBounds m (.map (es.eraseIdxIfInBounds q) clock) } := by
      simp [Builtin.delete_, run_underlying hu, run_getMap hh, checkKey_int (P := P) es.isEmpty 9999 hk, hf, run_setMap hh]
    rw [hr]
    have et : (es.eraseIdxIfInBounds q).toList = es.toList.eraseIdx q := by
      unfold Array.eraseIdxIfInBounds
      split
      · simp
      · rename_i hge
        rw [List.eraseIdx_of_length_le (by simpa using hge)]
    refine h _ (Sat.mapSet hi e hb ?_ hn' ?_ ?_)
    · rw [et, e2, map_eraseIdx, he, map_eraseIdx]
    · rw [et, map_eraseIdx]; exact hbn.sublist (List.eraseIdx_sublist _ _)
    · intro en hen
      rw [et] at hen
      exact hlt en (List.mem_of_mem_eraseIdx hen)
end
end Go.SL
