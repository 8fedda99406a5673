/- More operations: what they yield, and what they do to the chunks. -/
import Derived.Test.YtjklnjpmjdbogaaSLVal
namespace Go.SL
open Go.RowKit

def simB (P : Program) (t : TypeId) : Option TypeDesc :=
  match P.underlying t with
  | some (.bool) => some .bool | some (.int k) => some (.int k) | some (.string) => some .string | some (.pointer e) => some (.pointer e)
  | some (.slice e) => some (.slice e) | some (.array n e) => some (.array n e) | some (.map k v) => some (.map k v)
  | _ => none
theorem simB_und {P : Program} {t : TypeId} {d : TypeDesc} (h : simB P t = some d) : P.underlying t = some d := by
  unfold simB at h
  split at h <;> first | (injection h with h; subst h; assumption) | cases h

def EvL (a : Act) : List Operand → List Value → Prop
  | [], vs => vs = []
  | x :: xs, vs => ∃ v r, vs = v :: r ∧ a.eval x = v ∧ EvL a xs r
theorem EvL.n {a : Act} : EvL a [] [] := rfl
theorem EvL.c {a : Act} {x : Operand} {xs : List Operand} {v : Value} {r : List Value} (h : a.eval x = v) (k : EvL a xs r) : EvL a (x :: xs) (v :: r) := ⟨v, r, rfl, h, k⟩
theorem EvL.eq {a : Act} : ∀ {xs : List Operand} {vs : List Value}, EvL a xs vs → xs.map a.eval = vs
  | [], _, h => by cases h; rfl
  | x :: xs, _, ⟨v, r, e, hv, k⟩ => by subst e; simp [hv, k.eq]

/-- The parts of an aggregate, laid into its cells. -/
def Fills (a : Act) (place : Nat → Option (Nat × Nat)) : List (Nat × Operand) → List Value → List Value → Prop
  | [], cells, out => cells = out
  | (i, x) :: r, cells, out => ∃ off sz v vs, place i = some (off, sz) ∧ a.eval x = v ∧ v.cells.toList = vs ∧ vs.length = sz ∧ off + vs.length ≤ cells.length ∧ Fills a place r (splice cells off vs) out
theorem Fills.nil {a : Act} {place : Nat → Option (Nat × Nat)} {cells : List Value} : Fills a place [] cells cells := rfl
theorem Fills.cons {a : Act} {place : Nat → Option (Nat × Nat)} {i : Nat} {x : Operand} {r : List (Nat × Operand)} {cells out vs : List Value} {off sz : Nat} {v : Value}
    (h1 : place i = some (off, sz)) (h2 : a.eval x = v) (h3 : v.cells.toList = vs) (h4 : vs.length = sz) (h5 : Nat.ble (off + vs.length) cells.length = true) (h6 : Fills a place r (splice cells off vs) out) :
    Fills a place ((i, x) :: r) cells out := ⟨off, sz, v, vs, h1, h2, h3, h4, Nat.le_of_ble_eq_true h5, h6⟩
theorem cellsL1 {v : Value} (h : v.oneCell' = true) : v.cells.toList = [v] := by rw [one_cells h]
theorem IsSl.cellsL {v : Value} {n : Nat} (h : IsSl v n) : v.cells.toList = [v] := by rw [h.cells]
theorem foldl_zipIdx_aux (off : Nat) : ∀ (vs pre old post : List Value) (k : Nat), pre.length = off + k → old.length = vs.length →
    (vs.zipIdx k).foldl (fun cs (x : Value × Nat) => cs.setIfInBounds (off + x.2) x.1) (pre ++ old ++ post).toArray = (pre ++ vs ++ post).toArray := by
  intro vs
  induction vs with
  | nil => intro pre old post k _ h; have : old = [] := List.eq_nil_of_length_eq_zero h; subst this; rfl
  | cons v vs ih =>
    intro pre old post k hp ho
    match old, ho with
    | o :: old, ho =>
      simp only [List.zipIdx_cons, List.foldl_cons]
      have e : ((pre ++ o :: old ++ post).toArray).setIfInBounds (off + k) v = ((pre ++ [v]) ++ old ++ post).toArray := by
        rw [List.setIfInBounds_toArray]
        congr 1
        rw [List.append_assoc, List.set_append_right _ _ (by omega), hp, Nat.sub_self]
        simp
      rw [e, ih (pre ++ [v]) old post (k + 1) (by simp; omega) (by simpa using ho)]
      simp
theorem foldl_zipIdx_set (vs : List Value) (off : Nat) (cells : List Value) (h : off + vs.length ≤ cells.length) :
    (vs.zipIdx 0).foldl (fun cs (x : Value × Nat) => cs.setIfInBounds (off + x.2) x.1) cells.toArray = (splice cells off vs).toArray := by
  have e : cells = cells.take off ++ (cells.drop off).take vs.length ++ cells.drop (off + vs.length) := by
    rw [List.append_assoc, ← List.drop_drop, List.take_append_drop, List.take_append_drop]
  have := foldl_zipIdx_aux off vs (cells.take off) ((cells.drop off).take vs.length) (cells.drop (off + vs.length)) 0 (by simp; omega) (by simp; omega)
  rw [← e] at this
  exact this

section
variable {P : Program} {w w' : World} {I J : Gh} {L M : List Ch} {c d : Ch} {b b' : Nat} {o o' : Obj} {E : TypeId} {cs xs ys news : List Value} {v u : Value} {n m k sz : Nat} {p : Addr}
variable {a : Act} {K : Act → World → Prop} {Q : Exit → Act → World → Prop} {dst : Option Tmp} {x y z : Operand} {t ty : TypeId} {pos : String} {af : Array Edge} {gd : Option (Nat × Bool)}

theorem Fills.run {place : Nat → Option (Nat × Nat)} : ∀ {parts : List (Nat × Operand)} {cells out : List Value}, Fills a place parts cells out →
    Instr.fill place cells.toArray (parts.map fun (i, x) => (i, a.eval x)) = some out.toArray := by
  intro parts
  induction parts with
  | nil => intro cells out h; simp [Fills] at h; subst h; rfl
  | cons q parts ih =>
    obtain ⟨i, x⟩ := q
    intro cells out h
    obtain ⟨off, sz, v, vs, h1, h2, h3, h4, h5, h6⟩ := h
    have hsz : v.cells.size = vs.length := by rw [← h3]; simp
    simp only [List.map_cons, Instr.fill, h2, h1]
    have c1 : ¬ (v.cells.size ≠ sz ∨ off + v.cells.size > cells.toArray.size) := by
      rw [hsz, h4]; simp; omega
    have c2 : (decide (v.cells.size ≠ sz) || decide (off + v.cells.size > cells.toArray.size)) = false := by
      simp; rw [hsz]; exact ⟨h4, by simpa using h5⟩
    rw [if_neg (by simpa using c1)]
    have hf : v.cells.zipIdx.foldl (fun cs (x : Value × Nat) => cs.setIfInBounds (off + x.2) x.1) cells.toArray = (splice cells off vs).toArray := by
      rw [← Array.foldl_toList, Array.toList_zipIdx, h3]
      exact foldl_zipIdx_set vs off cells h5
    have := ih h6
    rw [← hf] at this
    exact this

theorem Sat.rowH {rep : Ch → List Ch} (hS : Sat w I L) [hi : HasRow L v E sz n xs rep] : IsSl v n ∧ xs.length = n * sz ∧ RdS w v xs ∧ n ≤ maxLen ∧ Oc xs := by
  obtain ⟨i, hi, _⟩ := hi.has
  exact hS.row i hi

/-! build -/
theorem run_mapM_list {α β : Type} {f : α → Sem β} {g : α → Option β} (h : ∀ x y, g x = some y → ∀ w, (f x).run P w = .ok y w) :
    ∀ (l : List α) (r : List β), l.mapM g = some r → ∀ w, (l.mapM f).run P w = .ok r w
  | [], r, e, w => by simp at e; subst e; simp
  | x :: l, r, e, w => by
    rw [List.mapM_cons] at e
    simp only [Option.bind_eq_bind, Option.bind_eq_some_iff, Option.pure_def, Option.some.injEq] at e
    obtain ⟨y, hy, r', hr', rfl⟩ := e
    simp [List.mapM_cons, h x y hy, run_mapM_list h l r' hr']
def placesB (P : Program) (t : TypeId) : Option (List (Nat × Nat)) :=
  match P.underlying t with
  | some (.struct fields) => fields.toList.mapM fun f => (P.info? f.type).map fun i => (f.offset, i.size)
  | _ => none
theorem ex_buildS {places : List (Nat × Nat)} {zs out : List Value} {parts : List (Nat × Operand)} (hp : placesB P t = some places) (hz : zeroB P t = some zs) (hf : Fills a (fun i => places[i]?) parts zs out) :
    Ex P a ⟨dst, .build t parts.toArray, ty, pos, af, gd⟩ w (.agg out.toArray) := by
  obtain ⟨z, hz1, hz2⟩ := run_zeroValue hz
  unfold placesB at hp
  split at hp
  case h_2 => cases hp
  rename_i fields hu
  have hm := run_mapM_list (P := P) (f := fun f : Field => do pure (f.offset, ← sizeOf f.type)) (g := fun f => (P.info? f.type).map fun i => (f.offset, i.size))
    (fun x y hxy w => by
      obtain ⟨i, hi, rfl⟩ := Option.map_eq_some_iff.1 hxy
      simp [sizeOf, typeInfo, hi]) _ _ hp
  have hr := hf.run
  unfold Ex execOp
  have e1 : z.cells = zs.toArray := by rw [← hz1]
  have e2 : (fun i : Nat => places.toArray[i]?) = (fun i => places[i]?) := by funext i; simp
  simp only [Instr.build, Sem.run_bind, hz2, Result.andThen_ok, run_underlying hu, Array.mapM_eq_mapM_toList, Sem.run_map, hm, e1, List.map_toArray, List.toList_toArray, e2]
  simp only [hr]
  simp
theorem ex_buildA {el : TypeId} {zs out : List Value} {parts : List (Nat × Operand)} (hu : arrayB P t = some (n, el)) (hs : sizeB P el = some sz) (hz : zeroB P t = some zs) (hf : Fills a (fun i => some (i * sz, sz)) parts zs out) :
    Ex P a ⟨dst, .build t parts.toArray, ty, pos, af, gd⟩ w (.agg out.toArray) := by
  obtain ⟨z, hz1, hz2⟩ := run_zeroValue hz
  unfold arrayB at hu
  split at hu
  case h_2 => cases hu
  rename_i n' el' he
  injection hu with hu; injection hu with e1 e2; subst e1; subst e2
  have hr := hf.run
  unfold Ex execOp
  have e1 : z.cells = zs.toArray := by rw [← hz1]
  simp only [Instr.build, Sem.run_bind, hz2, Result.andThen_ok, run_underlying he, run_sizeOf hs, e1, List.map_toArray, List.toList_toArray]
  simp only [hr]
  simp

/-! new slices -/
def rep (n : Nat) (z : List Value) : List Value := (List.replicate n z).flatten
theorem rep_zero (z : List Value) : rep 0 z = [] := rfl
theorem rep_length (n : Nat) (z : List Value) : (rep n z).length = n * z.length := by simp [rep]
theorem rep_one (n : Nat) (u : Value) : rep n [u] = List.replicate n u := by
  induction n with
  | zero => rfl
  | succ n ih => simp only [rep, List.replicate_succ, List.flatten_cons] at ih ⊢; rw [ih]; rfl
theorem rep_cells (z : Array Value) : ∀ n, ((Array.range (n * z.size)).map (z[· % z.size]!)).toList = rep n z.toList := by
  intro n
  have key : ∀ n, ((List.range (n * z.size)).map (z[· % z.size]!)) = rep n z.toList := by
    intro n
    induction n with
    | zero => simp [rep]
    | succ n ih =>
      rw [Nat.succ_mul, Nat.add_comm, List.range_add, List.map_append, List.map_map]
      simp only [rep, List.replicate_succ, List.flatten_cons]
      congr 1
      · apply List.ext_getElem
        · simp
        · intro i h1 h2
          simp at h1 h2
          simp [Nat.mod_eq_of_lt h1, h1]
      · rw [← rep, ← ih]
        apply List.map_congr_left
        intro i _
        simp
  simpa using key n
theorem Oc.rep {z : List Value} (h : Oc z) (n : Nat) : Oc (rep n z) := by
  intro u hu
  simp only [SL.rep, List.mem_flatten, List.mem_replicate] at hu
  obtain ⟨l, ⟨_, rfl⟩, hu⟩ := hu
  exact h u hu
theorem Oc.append {xs ys : List Value} (h : Oc xs) (k : Oc ys) : Oc (xs ++ ys) := fun u hu => (List.mem_append.1 hu).elim (h u) (k u)
theorem Oc.nil : Oc [] := fun _ h => by cases h
theorem Oc.of_all {xs : List Value} (h : xs.all Value.oneCell' = true) : Oc xs := fun u hu => List.all_eq_true.1 h u hu
theorem Sat.newRow (hS : Sat w I L) (hl : cs.length = n * sz) (ho : Oc cs) (hm : n ≤ maxLen) :
    Sat (w.alloc (.cells cs.toArray E)) I (Row (.slice (some ⟨w.heap.size, 0, none⟩) n n) E sz n cs :: L) := by
  refine (hS.alloc (.cells cs.toArray E)).head fun f hf => ⟨⟨hl, ho⟩, .inr ⟨w.heap.size, n, [], rfl, Nat.le_refl _, hm, by simp, ?_⟩⟩
  simpa [Blk] using hf
theorem wp_buildSlice {el : TypeId} {zs out : List Value} {len : Nat} {parts : List (Nat × Operand)} (hu : sliceB P t = some el) (hs : sizeB P el = some sz) (hz : zeroB P el = some zs)
    (hf : Fills a (fun i => some (i * sz, sz)) parts (SL.rep len zs) out) (hS : Sat w I L) (hl : (Nat.ble (len * sz) 16777216 && out.length == len * sz && zs.length == sz && Nat.ble 1 sz) = true) (ho : out.all Value.oneCell' = true)
    (h : ∀ b w', Sat w' I (Row (.slice (some ⟨b, 0, none⟩) len len) el sz len out :: L) → K (a.put dst (.slice (some ⟨b, 0, none⟩) len len)) w') :
    Oper.wp P ⟨dst, .buildSlice t len parts.toArray, ty, pos, af, gd⟩ a w K Q := by
  obtain ⟨z, hz1, hz2⟩ := run_zeroValue hz
  simp only [Bool.and_eq_true, beq_iff_eq] at hl
  obtain ⟨⟨⟨hl1, hl2⟩, hl3⟩, hl4⟩ := hl
  have hl4 := Nat.le_of_ble_eq_true hl4
  have hl1 := Nat.le_of_ble_eq_true hl1
  unfold sliceB at hu
  split at hu
  case h_2 => cases hu
  rename_i el' he
  injection hu with hu; subst hu
  have hr := hf.run
  have hzs : z.cells.size = sz := by rw [← hl3, ← hz1]; simp
  have hlen : len ≤ maxLen := by
    have : len ≤ len * sz := Nat.le_mul_of_pos_right _ hl4
    simp only [maxLen]; omega
  have hcells : ((Array.range (len * sz)).map (z.cells[· % z.cells.size]!)) = (SL.rep len zs).toArray := by
    apply Array.ext'
    have := rep_cells z.cells len
    rw [hzs] at this
    rw [hzs, this, hz1]
  have hbig : ¬ (len * sz > 2 ^ 24) := by omega
  have hnew := h w.heap.size _ (hS.newRow (E := el') hl2 (Oc.of_all ho) hlen)
  unfold Oper.wp execOp
  by_cases h0 : len * sz = 0
  · have hl0 : len = 0 := by
      rcases Nat.mul_eq_zero.1 h0 with h | h
      · exact h
      · omega
    subst hl0
    have e0 : SL.rep 0 zs = [] := by simp [SL.rep]
    rw [e0] at hr
    simp only [Instr.buildSlice, Sem.run_bind, run_underlying he, Result.andThen_ok, run_sizeOf hs, Nat.zero_mul, Nat.not_lt_zero, gt_iff_lt, if_false, Sem.run_pure, if_true, List.map_toArray, List.toList_toArray]
    rw [show (Array.map (fun x => (#[] : Array Value)[x % (#[] : Array Value).size]!) (Array.range 0)) = ([] : List Value).toArray from by simp, hr]
    simp only [newRow, Sem.run_bind, run_newObj, Result.andThen_ok, Sem.run_pure]
    exact hnew
  · simp only [Instr.buildSlice, Sem.run_bind, run_underlying he, Result.andThen_ok, run_sizeOf hs, hbig, h0, if_false, Sem.run_pure, hz2, List.map_toArray, List.toList_toArray]
    rw [hcells, hr]
    simp only [newRow, Sem.run_bind, run_newObj, Result.andThen_ok, Sem.run_pure]
    exact hnew
theorem wp_makeSlice {el : TypeId} {zs : List Value} {by_ : Nat} {kl kc : IntKind} {ln cp : Int} (hx : a.eval x = .int kl ln) (hy : a.eval y = .int kc cp) (hu : sliceB P t = some el) (hs : sizeB P el = some sz) (hb : bytesB P el = some by_) (hz : zeroB P el = some zs)
    (hS : Sat w I L) (hn : ln = (n : Int)) (hc : cp = (n : Int)) (hbn : (by_ : Int) * n ≤ 281474976710656) (hm : (n : Int) ≤ 9223372036854775807) (hzl : (zs.length == sz && zs.all Value.oneCell') = true)
    (h : ∀ b w', Sat w' I (Row (.slice (some ⟨b, 0, none⟩) n n) el sz n (SL.rep n zs) :: L) → K (a.put dst (.slice (some ⟨b, 0, none⟩) n n)) w') :
    Oper.wp P ⟨dst, .makeSlice t x y, ty, pos, af, gd⟩ a w K Q := by
  subst hn; subst hc
  unfold sliceB at hu
  split at hu
  case h_2 => cases hu
  rename_i el' he
  injection hu with hu; subst hu
  unfold sizeB at hs
  unfold bytesB at hb
  unfold zeroB at hz
  cases hi : P.info? el' with
  | none => rw [hi] at hs; cases hs
  | some i =>
    rw [hi] at hs hb hz
    simp only [Option.map_some, Option.some.injEq, Option.bind_some] at hs hb hz
    cases hzz : i.zero with
    | none => rw [hzz] at hz; cases hz
    | some zv =>
      rw [hzz] at hz
      simp only [Option.map_some, Option.some.injEq] at hz
      simp only [Bool.and_eq_true, beq_iff_eq] at hzl
      have hr := run_make (P := P) w t el' i zv he hi hzz kl kc n n (by omega) (Int.le_refl _) (by rw [hb]; exact hbn) hm
      have hcells : madeCells zv.cells ((n : Int).toNat * i.size) = (SL.rep n zs).toArray := by
        apply Array.ext'
        have := rep_cells zv.cells n
        have hsz : zv.cells.size = sz := by rw [← hzl.1, ← hz]; simp
        rw [hsz] at this
        simp only [madeCells, Int.toNat_natCast, hs, hsz]
        rw [this, hz]
      rw [hcells] at hr
      simp only [Int.toNat_natCast] at hr
      have hnew := h w.heap.size _ (hS.newRow (E := el') (cs := SL.rep n zs) (n := n) (sz := sz) (by rw [rep_length, hzl.1]) ((Oc.of_all hzl.2).rep n) (by simp only [maxLen]; omega))
      unfold Oper.wp execOp
      simp only [hx, hy, Sem.run_bind, hr, Result.andThen_ok, Sem.run_pure]
      exact hnew

/-! append -/
structure Src (w : World) (u : Value) (m sz : Nat) (news : List Value) : Prop where
  is : IsSl u m
  len : news.length = m * sz
  rd : RdS w u news
  oc : Oc news
theorem srcR {rep : Ch → List Ch} (hS : Sat w I L) [HasRow L u E sz m news rep] : Src w u m sz news := let ⟨a, b, c, _, d⟩ := hS.rowH (v := u); ⟨a, b, c, d⟩
theorem srcI (hS : Sat w I L) (h : SlI I u m news) (hl : news.length = m * sz) : Src w u m sz news := ⟨h.is, hl, hS.rdSI h, h.oc⟩
theorem srcNil : Src w (.slice none 0 0) 0 sz [] := ⟨IsSl.nil, by simp, (fun _ _ _ e => by cases e), Oc.nil⟩

theorem Sat.updRow {rep : Ch → List Ch} (hS : Sat w I L) [hi : HasRow L v E sz n xs rep] {g cap : Nat} {cur : List Value} (hv : v = .slice (some ⟨g, 0, none⟩) n cap) (hn : m ≤ cap)
    (hl : ys.length = m * sz) (ho : Oc ys) (hc : (ys ++ cur).length = cap * sz) :
    Sat (w.setRow g (ys ++ cur).toArray) I (rep (Row (.slice (some ⟨g, 0, none⟩) m cap) E sz m ys)) := by
  obtain ⟨i, hi, e⟩ := hi.has
  rw [e]
  have h0 := hS.pull i hi
  refine Sat.push i hi ?_
  obtain ⟨⟨f, ⟨gf, m', dj, ef, ⟨⟨hl0, ho0⟩, hc0⟩, hL⟩, hf⟩, r1, r2, r3, r4⟩ := id h0
  subst hv
  rcases hc0 with ⟨e1, _⟩ | ⟨q, cap', r0, e1, hn', hm', hr', hq⟩
  · cases e1
  · injection e1 with e1 _ e2
    injection e1 with e1
    injection e1 with e1
    subst e1; subst e2
    have hb : Sat w I (Blk g (.cells (xs ++ r0).toArray E (0, 0)) :: L.eraseIdx i) := ⟨⟨f, ⟨gf, m', dj, ef, hq, hL⟩, hf⟩, r1, r2, r3, r4⟩
    have hw := hb.write (w' := w.setRow g (ys ++ cur).toArray) (o' := .cells (ys ++ cur).toArray E (0, 0)) (setRow_heap w g _ _ _ _ hb.blk0) (fun k hk => setRow_other w g k _ hk) rfl rfl rfl
    refine hw.head fun f' hf' => ⟨⟨hl, ho⟩, .inr ⟨g, cap, cur, rfl, hn, hm', ?_, hf'⟩⟩
    rw [List.length_append, hl] at hc
    rw [Nat.sub_mul]; omega
theorem Sat.replRow {rep : Ch → List Ch} [hi : HasRow L v E sz n xs rep] {c : Ch} (h : Sat w' I (c :: L)) : Sat w' I (rep c) := by
  obtain ⟨i, hi, e⟩ := hi.has
  rw [e]
  have := (h.pull (i + 1) (c := Row v E sz n xs) (by simpa using hi)).drop
  exact Sat.push i hi (by simpa using this)
theorem set_same {α : Type _} {L : List α} {i : Nat} {c : α} (h : L[i]? = some c) : L.set i c = L := by
  apply List.ext_getElem?
  intro j
  rw [List.getElem?_set]
  by_cases hj : i = j
  · subst hj
    rw [if_pos rfl, h]
    simp [(List.getElem?_eq_some_iff.1 h).1]
  · rw [if_neg hj]
theorem run_append_zero {base a' : Option Addr} {cap c : Nat} (hu : P.underlying t = some (.slice E)) (hs : sizeB P E = some sz) (hn : n ≤ cap) :
    (Builtin.append_ #[t, t] ty #[.slice base n cap, .slice a' 0 c]).run P w = .ok (.slice base n cap) w := by
  unfold sizeB at hs
  cases hi : P.info? E with
  | none => rw [hi] at hs; cases hs
  | some i =>
    cases base <;> cases a' <;> simp [Builtin.append_, run_underlying hu, sizeOf, typeInfo, hi, Builtin.lenOf, Builtin.firstCells, loadCells, loadCellsFrom, storeCells, hn]
theorem append_sat {rep : Ch → List Ch} {by_ : Nat} {zs : List Value} (hu : sliceB P t = some E) (hs : sizeB P E = some sz) (hb : bytesB P E = some by_) (hz : zeroB P E = some zs)
    (hS : Sat w I L) [hi : HasRow L v E sz n xs rep] (hsrc : Src w u m sz news) (hm : n + m ≤ 9223372036854775807) (hbn : (n + m) * by_ ≤ 140737488355328) (hzl : (zs.length == sz && Nat.ble 1 sz) = true) :
    ∃ v' w', (Builtin.append_ #[t, t] ty #[v, u]).run P w = .ok v' w' ∧ Sat w' I (rep (Row v' E sz (n + m) (xs ++ news))) ∧ IsSl v' (n + m) := by
  simp only [Bool.and_eq_true, beq_iff_eq] at hzl
  obtain ⟨hzl, hpos⟩ := hzl
  have hpos := Nat.le_of_ble_eq_true hpos
  have hus := hs
  unfold sliceB at hu
  split at hu
  case h_2 => cases hu
  rename_i el' he
  injection hu with hu; subst hu
  obtain ⟨hvs, hxl, hxr, hxm, hxo⟩ := hS.rowH (v := v)
  obtain ⟨ai, cu, rfl, hcu, hnone⟩ := hsrc.is.ex
  rcases Nat.eq_zero_or_pos m with h0 | h0
  · subst h0
    have hn0 : news = [] := List.eq_nil_of_length_eq_zero (by simpa using hsrc.len)
    subst hn0
    obtain ⟨av, cv, rfl, hcv, _⟩ := hvs.ex
    refine ⟨_, w, run_append_zero he hus hcv, ?_, hvs⟩
    obtain ⟨i, hi, e⟩ := hi.has
    rw [e, Nat.add_zero, List.append_nil, set_same hi]
    exact hS
  · have hne : ai ≠ none := fun e => by have := hnone e; omega
    obtain ⟨ad, rfl⟩ := Option.ne_none_iff_exists'.1 hne
    have hrd := hsrc.rd _ _ _ rfl
    unfold sizeB at hs
    unfold bytesB at hb
    unfold zeroB at hz
    cases hin : P.info? el' with
    | none => rw [hin] at hs; cases hs
    | some i =>
      rw [hin] at hs hb hz
      simp only [Option.map_some, Option.some.injEq, Option.bind_some] at hs hb hz
      cases hzz : i.zero with
      | none => rw [hzz] at hz; cases hz
      | some zv =>
        rw [hzz] at hz
        simp only [Option.map_some, Option.some.injEq] at hz
        have hzs : zv.cells.size = sz := by rw [← hzl, ← hz]; simp
        have hlen : (xs ++ news).length = (n + m) * sz := by rw [List.length_append, hxl, hsrc.len, Nat.add_mul]
        -- what lies in a new block
        have grown : ∀ (old : Nat), Sat (w.drew.alloc (.cells (xs.toArray ++ news.toArray ++ Builtin.zeroCells zv.cells (grownCap w (n + m) old el' - (n + m))) el')) I
            (rep (Row (.slice (some ⟨w.heap.size, 0, none⟩) (n + m) (grownCap w (n + m) old el')) el' sz (n + m) (xs ++ news))) := by
          intro old
          have hge := grownCap_ge w (n + m) old el'
          have hcm : grownCap w (n + m) old el' ≤ maxLen := grownCap_le_maxLen w (n + m) old el' (by simp only [maxLen]; omega)
          refine Sat.replRow (hi := hi) ?_
          refine (hS.drew.alloc _).head fun f hf => ⟨⟨hlen, hxo.append hsrc.oc⟩, .inr ⟨w.heap.size, _, (Builtin.zeroCells zv.cells (grownCap w (n + m) old el' - (n + m))).toList, rfl, hge, hcm, ?_, ?_⟩⟩
          · simp [size_zeroCells, hzs]
          · have : (xs.toArray ++ news.toArray ++ Builtin.zeroCells zv.cells (grownCap w (n + m) old el' - (n + m))) = (xs ++ news ++ (Builtin.zeroCells zv.cells (grownCap w (n + m) old el' - (n + m))).toList).toArray := by
              apply Array.ext'; simp
            rw [← this]
            simpa [Blk] using hf
        obtain ⟨j, hj, ej⟩ := hi.has
        obtain ⟨⟨f, ⟨gf, m', dj, ef, ⟨⟨hl0, ho0⟩, hc0⟩, hL⟩, hf⟩, _⟩ := hS.pull j hj
        rcases hc0 with ⟨rfl, rfl⟩ | ⟨q, cap, rest, rfl, hnc, hcm, hrl, hq⟩
        · have hx0 : xs = [] := List.eq_nil_of_length_eq_zero (by simpa using hxl)
          subst hx0
          have hr := run_append_nil (P := P) w t ty el' i zv he hin hzz ad m cu news (by rw [hsrc.len, hs]) hrd h0 (by omega) (by rw [hb]; simp only [Nat.zero_add] at hbn; omega)
          have hg := grown 0
          simp only [Nat.zero_add, List.nil_append, Array.empty_append] at hg hr ⊢
          refine ⟨_, _, hr, hg, ?_⟩
          exact ⟨_, _, rfl, grownCap_ge w m 0 el', fun e => by cases e⟩
        · have hgb : w.heap[q]? = some (.cells (xs ++ rest).toArray el' (0, 0)) := (hf q _ (by rw [ef]; simp only [Fp.join]; rw [hq]; rfl)).1
          by_cases hroom : n + m ≤ cap
          · have hcs : (xs ++ rest).length = cap * sz := by rw [List.length_append, hxl, hrl, ← Nat.add_mul]; congr 1; omega
            have hr := run_append_room (P := P) w t ty el' i he hin q n cap (xs ++ rest).toArray hgb ad m cu news (by rw [hsrc.len, hs]) hrd hsrc.oc hroom
              (by rw [hs, hsrc.len, ← Nat.add_mul]; simp only [List.size_toArray]; rw [hcs]; exact Nat.mul_le_mul_right _ hroom)
            have e1 : (xs ++ rest).toArray.toList.take (n * i.size) ++ news ++ (xs ++ rest).toArray.toList.drop (n * i.size + news.length) = (xs ++ news) ++ rest.drop news.length := by
              rw [hs, ← hxl]
              simp [List.drop_append]
            rw [e1] at hr
            refine ⟨_, _, hr, ?_, ⟨_, _, rfl, hroom, fun e => by cases e⟩⟩
            refine hS.updRow (hi := hi) (v := .slice (some ⟨q, 0, none⟩) n cap) rfl hroom hlen (hxo.append hsrc.oc) ?_
            have : news.length ≤ rest.length := by rw [hsrc.len, hrl]; exact Nat.mul_le_mul_right _ (by omega)
            rw [List.length_append, hlen, List.length_drop, hrl, hsrc.len, ← Nat.sub_mul, ← Nat.add_mul]; congr 1; omega
          · have holds : ∀ k z, xs[k]? = some z → w.cell? ((⟨q, 0, none⟩ : Addr).add k) = some z := hxr _ _ _ rfl
            have hr := run_append_grow (P := P) w t ty el' i zv he hin hzz ⟨q, 0, none⟩ n cap xs (by rw [hxl, hs]) holds ad m cu news (by rw [hsrc.len, hs]) hrd (by omega) (by omega) (by rw [hb]; exact growslice_fits (by omega) hbn)
            exact ⟨_, _, hr, grown cap, ⟨_, _, rfl, grownCap_ge w (n + m) cap el', fun e => by cases e⟩⟩
theorem wp_append {rep : Ch → List Ch} {by_ : Nat} {zs : List Value} (hx : a.eval x = v) (hy : a.eval y = u) (hu : sliceB P t = some E) (hs : sizeB P E = some sz) (hb : bytesB P E = some by_) (hz : zeroB P E = some zs)
    (hS : Sat w I L) [hi : HasRow L v E sz n xs rep] (hsrc : Src w u m sz news) (hm : n + m ≤ 9223372036854775807) (hbn : (n + m) * by_ ≤ 140737488355328) (hzl : (zs.length == sz && Nat.ble 1 sz) = true)
    (h : ∀ v' w', Sat w' I (rep (Row v' E sz (n + m) (xs ++ news))) → IsSl v' (n + m) → K (a.put dst v') w') :
    Oper.wp P ⟨dst, .call ⟨.builtin .append, #[x, y], #[t, t]⟩, ty, pos, af, gd⟩ a w K Q := by
  obtain ⟨v', w', hr, h1, h2⟩ := append_sat (ty := ty) hu hs hb hz hS (hi := hi) hsrc hm hbn hzl
  unfold Oper.wp execOp
  simp only [resolve, invoke, builtin, Sem.run_bind, Sem.run_pure, Result.andThen_ok, List.map_toArray, List.map_cons, List.map_nil, hx, hy, hr]
  exact h v' w' h1 h2
/-- The same, the source being the first chunk (a new slice): it is let go of. -/
theorem wp_append1 {rep : Ch → List Ch} {by_ : Nat} {zs : List Value} (hx : a.eval x = v) (hy : a.eval y = u) (hu : sliceB P t = some E) (hs : sizeB P E = some sz) (hb : bytesB P E = some by_) (hz : zeroB P E = some zs)
    (hS : Sat w I (Row u E sz m news :: L)) [hi : HasRow L v E sz n xs rep] (hm : n + m ≤ 9223372036854775807) (hbn : (n + m) * by_ ≤ 140737488355328) (hzl : (zs.length == sz && Nat.ble 1 sz) = true)
    (h : ∀ v' w', Sat w' I (rep (Row v' E sz (n + m) (xs ++ news))) → IsSl v' (n + m) → K (a.put dst v') w') :
    Oper.wp P ⟨dst, .call ⟨.builtin .append, #[x, y], #[t, t]⟩, ty, pos, af, gd⟩ a w K Q := by
  have hsrc : Src w u m sz news := srcR hS
  refine wp_append (hi := hi) hx hy hu hs hb hz hS.drop hsrc hm hbn hzl h
end
end Go.SL
