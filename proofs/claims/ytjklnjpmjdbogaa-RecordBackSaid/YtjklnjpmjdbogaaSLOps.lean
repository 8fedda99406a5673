/- Laws of single operations over 'Sat': what each operation of the walk does to the chunks. -/
import Derived.Test.YtjklnjpmjdbogaaSLBase
namespace Go.SL
open Go.RowKit

def Rd (w : World) (p : Addr) (xs : List Value) : Prop := ∀ j u, xs[j]? = some u → w.cell? (p.add j) = some u
theorem Rd.drop {w : World} {p : Addr} {xs : List Value} (h : Rd w p xs) (k : Nat) : Rd w (p.add k) (xs.drop k) := by
  intro j u hu
  rw [Addr.add_add]
  exact h _ _ (by simpa [List.getElem?_drop] using hu)
theorem Rd.take {w : World} {p : Addr} {xs : List Value} (h : Rd w p xs) (n : Nat) : Rd w p (xs.take n) := by
  intro j u hu
  refine h _ _ ?_
  rw [List.getElem?_take] at hu
  split at hu
  · exact hu
  · cases hu
theorem Rd.left {w : World} {p : Addr} {xs ys : List Value} (h : Rd w p (xs ++ ys)) : Rd w p xs := by
  have := h.take xs.length
  simpa using this
theorem Rd.of_block {w : World} {b k : Nat} {cs : List Value} {E : TypeId} {fz : Nat × Nat} (h : w.heap[b]? = some (.cells cs.toArray E fz)) : Rd w ⟨b, k, none⟩ (cs.drop k) := by
  intro j u hu
  rw [Addr.add_lit, cell_of_row w b _ _ E fz h]
  simpa [List.getElem?_drop] using hu

/-! slices' values -/
structure IsSl (v : Value) (n : Nat) : Prop where
  ex : ∃ a cap, v = .slice a n cap ∧ n ≤ cap ∧ (a = none → n = 0)
def ea (v : Value) (k : Nat) : Addr := match v with | .slice (some p) _ _ => p.add k | _ => ⟨0, 0, none⟩
theorem IsSl.one {v : Value} {n : Nat} (h : IsSl v n) : v.oneCell' = true := by obtain ⟨_, _, rfl, _⟩ := h.ex; rfl
theorem IsSl.cells {v : Value} {n : Nat} (h : IsSl v n) : v.cells = #[v] := by obtain ⟨_, _, rfl, _⟩ := h.ex; rfl
theorem IsSl.nil : IsSl (.slice none 0 0) 0 := ⟨_, _, rfl, Nat.le_refl _, fun _ => rfl⟩

/-- The cells behind a slice, as they can be read in a world. -/
def RdS (w : World) (v : Value) (xs : List Value) : Prop := ∀ p n c, v = .slice (some p) n c → Rd w p xs

def Oc (xs : List Value) : Prop := ∀ u ∈ xs, u.oneCell' = true
def Row (v : Value) (E : TypeId) (sz n : Nat) (xs : List Value) : Ch := fun f =>
  (xs.length = n * sz ∧ Oc xs) ∧ ((v = .slice none 0 0 ∧ n = 0) ∨
    ∃ g cap rest, v = .slice (some ⟨g, 0, none⟩) n cap ∧ n ≤ cap ∧ cap ≤ maxLen ∧ rest.length = (cap - n) * sz ∧ f g = some (.cells (xs ++ rest).toArray E (0, 0)))

def immCell (I : Gh) (a : Addr) : Option Value :=
  match I.imm a.block with
  | some (.cells c _ _) => if a.spot.isSome then none else c[a.off]?
  | _ => none
def RdI (I : Gh) (p : Addr) (xs : List Value) : Prop := ∀ j u, xs[j]? = some u → immCell I (p.add j) = some u
theorem RdI.mono {I J : Gh} {p : Addr} {xs : List Value} (h : RdI I p xs) (hle : I.le J) : RdI J p xs := by
  intro j u hu
  have := h j u hu
  unfold immCell at this ⊢
  cases hb : I.imm (p.add j).block with
  | none => rw [hb] at this; cases this
  | some o => rw [hle.imm _ _ hb]; rw [hb] at this; exact this
/-- An immutable slice of n elements, all of whose cells are xs. -/
structure SlI (I : Gh) (v : Value) (n : Nat) (xs : List Value) : Prop where
  is : IsSl v n
  oc : Oc xs
  rd : ∀ p m c, v = .slice (some p) m c → RdI I p xs
theorem SlI.mono {I J : Gh} {v : Value} {n : Nat} {xs : List Value} (h : SlI I v n xs) (hle : I.le J) : SlI J v n xs := ⟨h.is, h.oc, fun p m c e => (h.rd p m c e).mono hle⟩
theorem SlI.nil (I : Gh) : SlI I (.slice none 0 0) 0 [] := ⟨IsSl.nil, (fun _ h => by cases h), fun p m c e => by cases e⟩

section
variable {P : Program} {w w' : World} {I J : Gh} {L M : List Ch} {c d : Ch} {b b' : Nat} {o o' : Obj} {E : TypeId} {cs xs ys news : List Value} {v u : Value} {n m k sz : Nat} {p : Addr}

theorem Sat.rdI (h : Sat w I L) (hr : RdI I p xs) : Rd w p xs := by
  intro j u hu
  have := hr j u hu
  unfold immCell at this
  cases hb : I.imm (p.add j).block with
  | none => rw [hb] at this; cases this
  | some o =>
    rw [hb] at this
    have hw := h.imm _ _ hb
    unfold World.cell?
    rw [hw]
    exact this
theorem Sat.rdSI (h : Sat w I L) (hr : SlI I v n xs) : RdS w v xs := fun p m c e => h.rdI (hr.rd p m c e)

theorem Sat.cells (h : Sat w I L) (i : Nat) (hi : L[i]? = some (Cells b E cs)) (k : Nat) : Rd w ⟨b, k, none⟩ (cs.drop k) := Rd.of_block (h.blk i hi)
theorem Sat.row0 (h : Sat w I (Row v E sz n xs :: L)) : IsSl v n ∧ xs.length = n * sz ∧ RdS w v xs ∧ n ≤ maxLen ∧ Oc xs := by
  obtain ⟨⟨f, ⟨g, m, dj, e, ⟨⟨hl, ho⟩, hc⟩, hL⟩, hf⟩, _⟩ := h
  rcases hc with ⟨rfl, rfl⟩ | ⟨q, cap, rest, rfl, hn, hm, hr, hq⟩
  · exact ⟨IsSl.nil, hl, (fun _ _ _ e => by cases e), Nat.zero_le _, ho⟩
  · refine ⟨⟨_, _, rfl, hn, fun e => by cases e⟩, hl, ?_, Nat.le_trans hn hm, ho⟩
    intro p n' c' e'
    injection e' with e1 _ _
    injection e1 with e1
    subst e1
    have hb := (hf q _ (by rw [e]; simp only [Fp.join]; rw [hq]; rfl)).1
    have := Rd.of_block (k := 0) hb
    simp only [List.drop_zero] at this
    exact this.left
theorem Sat.row (h : Sat w I L) (i : Nat) (hi : L[i]? = some (Row v E sz n xs)) : IsSl v n ∧ xs.length = n * sz ∧ RdS w v xs ∧ n ≤ maxLen ∧ Oc xs := (h.pull i hi).row0

theorem Sat.cons_emp (h : Sat w I L) (hc : c Fp.emp) : Sat w I (c :: L) := h.map fun f x => ⟨Fp.emp, f, Fp.emp_disj _, (Fp.emp_join f).symm, hc, x⟩
theorem Sat.rot3 {c1 c2 c3 : Ch} (h : Sat w I (c1 :: c2 :: c3 :: L)) : Sat w I (c2 :: c3 :: c1 :: L) := h.perm ((List.Perm.swap c2 c1 _).trans (List.Perm.cons c2 (List.Perm.swap c3 c1 _)))
theorem Sat.nilRow (h : Sat w I L) (E : TypeId) (sz : Nat) : Sat w I (Row (.slice none 0 0) E sz 0 [] :: L) :=
  h.cons_emp ⟨⟨by simp, fun _ h => by cases h⟩, .inl ⟨rfl, rfl⟩⟩
/-- An owned slice becomes immutable. -/
theorem Sat.freezeRow (h : Sat w I (Row v E sz n xs :: L)) : ∃ J, I.le J ∧ Sat w J L ∧ SlI J v n xs := by
  obtain ⟨hs, _, _, _, ho⟩ := h.row0
  obtain ⟨J, hle, hS, f, ⟨_, hc⟩, hf⟩ := h.freeze
  refine ⟨J, hle, hS, hs, ho, ?_⟩
  intro p m c e j u hu
  rcases hc with ⟨rfl, _⟩ | ⟨q, cap, rest, rfl, hn, hm, hr, hq⟩
  · cases e
  · injection e with e1 _ _
    injection e1 with e1
    subst e1
    have := hf _ _ hq
    simp only [immCell, Addr.add_lit, this]
    have hlt : j < xs.length := by
      rcases Nat.lt_or_ge j xs.length with h | h
      · exact h
      · rw [List.getElem?_eq_none h] at hu; cases hu
    simpa [List.getElem?_append_left hlt] using hu

def lset : List Value → Nat → Value → List Value
  | [], _, _ => []
  | _ :: l, 0, v => v :: l
  | x :: l, n + 1, v => x :: lset l n v
theorem lset_eq : ∀ (l : List Value) (n : Nat) (v : Value), l.set n v = lset l n v
  | [], _, _ => rfl
  | _ :: _, 0, _ => rfl
  | x :: l, n + 1, v => by simp [lset, lset_eq l n v]

/-- Finding a chunk in the list, by the way instances are found: 'rep': the list with another chunk in its place. -/
class HasCells (L : List Ch) (b : Nat) (E : outParam TypeId) (cs : outParam (List Value)) (rep : outParam (Ch → List Ch)) : Prop where
  has : ∃ i, L[i]? = some (Cells b E cs) ∧ ∀ c, rep c = L.set i c
instance HasCells.here {b : Nat} {E : TypeId} {cs : List Value} {L : List Ch} : HasCells (Cells b E cs :: L) b E cs (fun c => c :: L) := ⟨0, rfl, fun _ => rfl⟩
instance (priority := 500) HasCells.there {b : Nat} {E : TypeId} {cs : List Value} {L : List Ch} {x : Ch} {rep : Ch → List Ch} [h : HasCells L b E cs rep] : HasCells (x :: L) b E cs (fun c => x :: rep c) :=
  ⟨let ⟨i, a, e⟩ := h.has; ⟨i + 1, by simpa using a, fun c => by simp [e c]⟩⟩
instance HasCells.past {b : Nat} {E : TypeId} {cs : List Value} {X L : List Ch} {rep : Ch → List Ch} [h : HasCells L b E cs rep] : HasCells (X ++ L) b E cs (fun c => X ++ rep c) :=
  ⟨let ⟨i, a, e⟩ := h.has; ⟨X.length + i, by rw [List.getElem?_append_right (Nat.le_add_right _ _), Nat.add_sub_cancel_left]; exact a,
    fun c => by rw [e c, List.set_append_right _ _ (Nat.le_add_right _ _), Nat.add_sub_cancel_left]⟩⟩
class HasRow (L : List Ch) (v : Value) (E : outParam TypeId) (sz n : outParam Nat) (xs : outParam (List Value)) (rep : outParam (Ch → List Ch)) : Prop where
  has : ∃ i, L[i]? = some (Row v E sz n xs) ∧ ∀ c, rep c = L.set i c
instance HasRow.here {v : Value} {E : TypeId} {sz n : Nat} {xs : List Value} {L : List Ch} : HasRow (Row v E sz n xs :: L) v E sz n xs (fun c => c :: L) := ⟨0, rfl, fun _ => rfl⟩
instance (priority := 500) HasRow.there {v : Value} {E : TypeId} {sz n : Nat} {xs : List Value} {L : List Ch} {x : Ch} {rep : Ch → List Ch} [h : HasRow L v E sz n xs rep] : HasRow (x :: L) v E sz n xs (fun c => x :: rep c) :=
  ⟨let ⟨i, a, e⟩ := h.has; ⟨i + 1, by simpa using a, fun c => by simp [e c]⟩⟩
instance HasRow.past {v : Value} {E : TypeId} {sz n : Nat} {xs : List Value} {X L : List Ch} {rep : Ch → List Ch} [h : HasRow L v E sz n xs rep] : HasRow (X ++ L) v E sz n xs (fun c => X ++ rep c) :=
  ⟨let ⟨i, a, e⟩ := h.has; ⟨X.length + i, by rw [List.getElem?_append_right (Nat.le_add_right _ _), Nat.add_sub_cancel_left]; exact a,
    fun c => by rw [e c, List.set_append_right _ _ (Nat.le_add_right _ _), Nat.add_sub_cancel_left]⟩⟩
/-- What was there when a region began is still there. -/
class HasTail (M L : List Ch) : Prop where
  has : ∃ X, M = X ++ L
instance HasTail.refl {L : List Ch} : HasTail L L := ⟨[], rfl⟩
instance (priority := 500) HasTail.cons {M L : List Ch} {c : Ch} [h : HasTail M L] : HasTail (c :: M) L := ⟨let ⟨X, e⟩ := h.has; ⟨c :: X, by rw [e]; rfl⟩⟩

/-! closed facts on types -/
def kindB (P : Program) (t : TypeId) : Option Bool := (P.underlying t).map fun | .struct _ | .array _ _ => true | _ => false
def sizeB (P : Program) (t : TypeId) : Option Nat := (P.info? t).map (·.size)
def zeroB (P : Program) (t : TypeId) : Option (List Value) := ((P.info? t).bind (·.zero)).map (·.cells.toList)
def bytesB (P : Program) (t : TypeId) : Option Nat := (P.info? t).map (·.bytes)
def sliceB (P : Program) (t : TypeId) : Option TypeId := match P.underlying t with | some (.slice e) => some e | _ => none

theorem tab_get {α : Type} {f : Nat → α} {N : Nat} {l : List α} (h : (List.range N).map f = l) {t : Nat} {x : α} (hx : l[t]? = some x) : f t = x := by
  subst h
  simp only [List.getElem?_map, Option.map_eq_some_iff] at hx
  obtain ⟨k, hk, rfl⟩ := hx
  rw [List.getElem?_range (by rcases Nat.lt_or_ge t N with h | h; exact h; simp [List.getElem?_eq_none (l := List.range N) (by simpa using h)] at hk)] at hk
  injection hk with hk
  rw [hk]
theorem run_isAgg {t : TypeId} {x : Bool} (h : kindB P t = some x) (w : World) : (isAgg t).run P w = .ok x w := by
  unfold kindB at h
  cases hu : P.underlying t with
  | none => rw [hu] at h; cases h
  | some d =>
    rw [hu] at h
    unfold isAgg
    rw [Sem.run_bind, run_underlying hu w]
    cases d <;> simp_all
theorem run_sizeOf {t : TypeId} (h : sizeB P t = some n) (w : World) : (sizeOf t).run P w = .ok n w := by
  unfold sizeB at h
  cases hq : P.info? t with
  | none => rw [hq] at h; cases h
  | some i => rw [hq] at h; simp at h; simp [sizeOf, typeInfo, hq, h]
theorem run_load1 {t : TypeId} (hk : kindB P t = some false) (h : w.cell? p = some v) : (loadVar t p).run P w = .ok v w := by
  simp [loadVar, run_isAgg hk, h]
theorem run_loadN {t : TypeId} (hk : kindB P t = some true) (hs : sizeB P t = some xs.length) (h : Rd w p xs) : (loadVar t p).run P w = .ok (.agg xs.toArray) w := by
  simp [loadVar, run_isAgg hk, run_sizeOf hs, run_loadCells_list (P := P) w p xs h]

def nth : List Value → Nat → Value
  | [], _ => undef
  | x :: _, 0 => x
  | _ :: l, n + 1 => nth l n
theorem nth_eq : ∀ (l : List Value) (n : Nat), l.toArray.getD n undef = nth l n
  | [], n => by simp [nth]
  | x :: l, 0 => by simp [nth]
  | x :: l, n + 1 => by
    have := nth_eq l n
    simpa [nth] using this
theorem ev_tmp (l : List Value) (d : List Deferred) (t : Tmp) : Act.eval ⟨l.toArray, d⟩ (.tmp t) = nth l t := nth_eq l t
theorem ev_const (a : Act) (v : Value) : a.eval (.const v) = v := rfl

variable {a : Act} {K : Act → World → Prop} {Q : Exit → Act → World → Prop} {dst : Option Tmp} {x y z : Operand} {t ty : TypeId} {pos : String} {af : Array Edge} {gd : Option (Nat × Bool)}

/-- 'wpList' behind a lid: no reckoning of a goal's type looks through it. -/
structure WL (P : Program) (ops : Array Oper) (Q : Exit → Act → World → Prop) (ol : List Oper) (a : Act) (w : World) : Prop where
  ok : wpList P ops Q ol a w
theorem WL.eq {ops : Array Oper} {ol : List Oper} : WL P ops Q ol = wpList P ops Q ol := funext fun a => funext fun w => propext ⟨fun h => h.ok, fun h => ⟨h⟩⟩
theorem wl_of {ops : Array Oper} {rest : List Oper} {q : Oper} (hg : Region.wanted q (yielded ops a.tmps) = true) (h : q.wp P a w (WL P ops Q rest) Q) : WL P ops Q (q :: rest) a w := by
  rw [WL.eq] at h ⊢
  unfold wpList
  rw [if_pos hg]
  exact .inl h

/-- A load out of a block that is owned and written out: one cell; an aggregate. -/
theorem ld1 {rep : Ch → List Ch} (hS : Sat w I L) [hi : HasCells L b E cs rep] (hk : kindB P t = some false) (hc : cs[k]? = some v) : (loadVar t ⟨b, k, none⟩).run P w = .ok v w := by
  obtain ⟨i, hi, _⟩ := hi.has
  refine run_load1 hk ?_
  have := hS.cells i hi k 0 v (by simpa [List.getElem?_drop] using hc)
  rwa [Addr.add_zero'] at this
def sub (cs : List Value) (k n : Nat) : List Value := (cs.drop k).take n
theorem ldN {rep : Ch → List Ch} (hS : Sat w I L) [hi : HasCells L b E cs rep] (hk : kindB P t = some true) (hs : sizeB P t = some n) (hn : Nat.ble (k + n) cs.length = true) : (loadVar t ⟨b, k, none⟩).run P w = .ok (.agg (sub cs k n).toArray) w := by
  obtain ⟨i, hi, _⟩ := hi.has
  refine run_loadN hk ?_ ((hS.cells i hi k).take n)
  have := Nat.le_of_ble_eq_true hn
  rw [hs]; simp [sub]; omega

def splice (cs : List Value) (k : Nat) (vs : List Value) : List Value := cs.take k ++ vs ++ cs.drop (k + vs.length)
theorem run_storeVar_cells (hb : w.heap[b]? = some (.cells cs.toArray E (0, 0))) (hs : sizeB P t = some v.cells.toList.length) (hk : k + v.cells.toList.length ≤ cs.length) (h1 : ∀ u ∈ v.cells.toList, u.oneCell' = true) :
    (storeVar t ⟨b, k, none⟩ v).run P w = .ok () (w.setRow b (splice cs k v.cells.toList).toArray) := by
  have := run_storeCells_at P b k E v.cells.toList 0 cs.toArray w hb (by simpa using hk) h1
  simp only [Nat.add_zero] at this
  simp [storeVar, run_sizeOf hs]
  simpa [splice] using this
theorem Sat.setRow {rep : Ch → List Ch} (hS : Sat w I L) [hi : HasCells L b E cs rep] (ds : List Value) : Sat (w.setRow b ds.toArray) I (rep (Cells b E ds)) := by
  obtain ⟨i, hi, e⟩ := hi.has
  rw [e]
  exact hS.upd i hi (setRow_heap w b _ _ _ _ (hS.blk i hi)) (fun k hk => setRow_other w b k _ hk) rfl rfl rfl
theorem Sat.blkH {rep : Ch → List Ch} (hS : Sat w I L) [hi : HasCells L b E cs rep] : w.heap[b]? = some (.cells cs.toArray E (0, 0)) := by
  obtain ⟨i, hi, _⟩ := hi.has
  exact hS.blk i hi

theorem one_cells {u : Value} (h : u.oneCell' = true) : u.cells = #[u] := by cases u <;> first | rfl | cases h
theorem splice_one {cs : List Value} {k : Nat} {u : Value} (hk : k < cs.length) : splice cs k [u] = cs.set k u := by
  rw [List.set_eq_take_append_cons_drop, if_pos hk]
  simp [splice]
/-- A store into a block that is owned and written out: one cell; an aggregate. -/
theorem wp_store1 {u : Value} {rep : Ch → List Ch} (hp : a.eval x = .pointer (some ⟨b, k, none⟩)) (hy : a.eval y = u) (hS : Sat w I L) [hi : HasCells L b E cs rep] (hs : sizeB P t = some 1)
    (hk : Nat.blt k cs.length = true) (h1 : u.oneCell' = true) (h : ∀ w', Sat w' I (rep (Cells b E (lset cs k u))) → K (a.put dst undef) w') :
    Oper.wp P ⟨dst, .store t x y, ty, pos, af, gd⟩ a w K Q := by
  unfold Oper.wp execOp
  have hc : u.cells.toList = [u] := by rw [one_cells h1]
  have hk := Nat.lt_of_lt_of_le (Nat.lt_succ_self k) (Nat.le_of_ble_eq_true hk)
  have := run_storeVar_cells (P := P) (t := t) (v := u) (hS.blkH (hi := hi)) (k := k) (by rw [hc]; exact hs) (by rw [hc]; exact hk) (by rw [hc]; simpa using h1)
  rw [hc, splice_one hk, lset_eq] at this
  simp only [hp, hy, Instr.storeAt, Instr.sureAddr, Sem.run_bind, Sem.run_pure, Result.andThen_ok, this]
  exact h _ (hS.setRow _)
theorem wp_storeN {vs : List Value} {rep : Ch → List Ch} (hp : a.eval x = .pointer (some ⟨b, k, none⟩)) (hy : a.eval y = .agg vs.toArray) (hS : Sat w I L) [hi : HasCells L b E cs rep] (hs : sizeB P t = some vs.length)
    (hk : Nat.ble (k + vs.length) cs.length = true) (h1 : vs.all Value.oneCell' = true) (h : ∀ w', Sat w' I (rep (Cells b E (splice cs k vs))) → K (a.put dst undef) w') :
    Oper.wp P ⟨dst, .store t x y, ty, pos, af, gd⟩ a w K Q := by
  unfold Oper.wp execOp
  have := run_storeVar_cells (P := P) (t := t) (v := .agg vs.toArray) (hS.blkH (hi := hi)) (k := k) (by simpa [Value.cells] using hs) (by simpa [Value.cells] using Nat.le_of_ble_eq_true hk) (by simpa [Value.cells] using h1)
  simp only [Value.cells] at this
  simp only [hp, hy, Instr.storeAt, Instr.sureAddr, Sem.run_bind, Sem.run_pure, Result.andThen_ok, this]
  exact h _ (hS.setRow _)

theorem wp_box1 {u : Value} (hy : a.eval y = u) (hS : Sat w I L) (h1 : u.oneCell' = true) (h : ∀ b w', Sat w' I (Cells b t [u] :: L) → K (a.put dst (.pointer (some ⟨b, 0, none⟩))) w') :
    Oper.wp P ⟨dst, .box t y, ty, pos, af, gd⟩ a w K Q := by
  unfold Oper.wp execOp
  simp only [Instr.box, newVar, newRow, Sem.run_bind, Sem.run_pure, Result.andThen_ok, run_newObj, hy, one_cells h1]
  exact h _ _ (hS.alloc (.cells #[u] t))
theorem wp_boxN {vs : List Value} (hy : a.eval y = .agg vs.toArray) (hS : Sat w I L) (h : ∀ b w', Sat w' I (Cells b t vs :: L) → K (a.put dst (.pointer (some ⟨b, 0, none⟩))) w') :
    Oper.wp P ⟨dst, .box t y, ty, pos, af, gd⟩ a w K Q := by
  unfold Oper.wp execOp
  simp only [Instr.box, newVar, newRow, Sem.run_bind, Sem.run_pure, Result.andThen_ok, run_newObj, hy, Value.cells]
  exact h _ _ (hS.alloc (.cells vs.toArray t))
theorem run_zeroValue (hz : zeroB P t = some cs) : ∃ z : Value, z.cells.toList = cs ∧ ∀ w : World, (zeroValue t).run P w = .ok z w := by
  unfold zeroB at hz
  cases hq : P.info? t with
  | none => rw [hq] at hz; cases hz
  | some i =>
    rw [hq] at hz
    cases hzz : i.zero with
    | none => simp [hzz] at hz
    | some z => simp [hzz] at hz; exact ⟨z, hz, fun w => by simp [zeroValue, typeInfo, hq, hzz]⟩
theorem wp_alloc (hS : Sat w I L) (hz : zeroB P t = some cs) (h : ∀ b w', Sat w' I (Cells b t cs :: L) → K (a.put dst (.pointer (some ⟨b, 0, none⟩))) w') :
    Oper.wp P ⟨dst, .alloc t, ty, pos, af, gd⟩ a w K Q := by
  obtain ⟨z, hz1, hz2⟩ := run_zeroValue hz
  unfold Oper.wp execOp
  simp only [Instr.alloc, newVar, newRow, Sem.run_bind, Sem.run_pure, Result.andThen_ok, run_newObj, hz2]
  refine h _ _ ?_
  have := hS.alloc (.cells z.cells t)
  subst hz1
  simpa [Cells] using this

theorem Sat.rdEl (hr : RdS w v xs) (hv : IsSl v n) (hn : m < n) : Rd w (ea v k) (xs.drop k) := by
  obtain ⟨q, cap, e, _, hq⟩ := hv.ex
  have hne : q ≠ none := fun e => by have := hq e; omega
  obtain ⟨pp, rfl⟩ := Option.ne_none_iff_exists'.1 hne
  subst e
  exact (hr _ _ _ rfl).drop k
end
end Go.SL
