/- 'for k, v := range m' over a map that stays as it is. -/
import Derived.Test.YthbakafjhgcieaaSLMap2
import Derived.Test.YthbakafjhgcieaaSLLoop
import Derived.Maps.RangeRun
set_option linter.unusedVariables false
set_option linter.unusedSimpArgs false
namespace Go.SL
open Go.RowKit
/-- Block m is the map kv, block r its iterator: 'todo' is still to come, 'cur' came last. -/
def MapIt (m r : Nat) (kv todo : List (Int × Value)) (cur : Option (Int × Value)) : Ch := fun f => ∃ es clock seen, (f m = some (.map es clock) ∧ f r = some (.mapIter (some m) clock seen clock)) ∧
  es.toList.map (fun e => (e.key, e.val)) = kv.map (fun p => (Value.int .i64 p.1, p.2)) ∧ (kv.map Prod.fst).Nodup ∧ (es.toList.map (·.born)).Nodup ∧ (∀ e ∈ es.toList, e.born < clock) ∧
  (leftOf es seen).toList.map (fun e => (e.key, e.val)) = todo.map (fun p => (Value.int .i64 p.1, p.2)) ∧
  (∀ c, cur = some c → ∃ e ∈ es.toList, e.key = .int .i64 c.1 ∧ e.val = c.2 ∧ ∃ s0 : Array Nat, seen = s0.push e.born)
section
variable {P : Program} {w w' : World} {I J : Gh} {L M : List Ch} {b b' m r : Nat} {E : TypeId} {v u : Value} {kv todo : List (Int × Value)} {cur : Option (Int × Value)}
variable {a : Act} {K : Act → World → Prop} {Q : Exit → Act → World → Prop} {dst : Option Tmp} {x y z : Operand} {t ty : TypeId} {pos : String} {af : Array Edge} {gd : Option (Nat × Bool)}
theorem Sat.mapIt0 (h : Sat w I (MapIt m r kv todo cur :: L)) : ∃ es clock seen, Sat w I (Blk m (.map es clock) :: Blk r (.mapIter (some m) clock seen clock) :: L) ∧
    es.toList.map (fun e => (e.key, e.val)) = kv.map (fun p => (Value.int .i64 p.1, p.2)) ∧ (kv.map Prod.fst).Nodup ∧ (es.toList.map (·.born)).Nodup ∧ (∀ e ∈ es.toList, e.born < clock) ∧
    (leftOf es seen).toList.map (fun e => (e.key, e.val)) = todo.map (fun p => (Value.int .i64 p.1, p.2)) ∧
    (∀ c, cur = some c → ∃ e ∈ es.toList, e.key = .int .i64 c.1 ∧ e.val = c.2 ∧ ∃ s0 : Array Nat, seen = s0.push e.born) := by
  obtain ⟨⟨f, ⟨g, k, dj, e, ⟨es, clock, seen, ⟨hm, hr⟩, h1, h2, h3, h4, h5, h6⟩, hL⟩, hf⟩, r1, r2, r3, r4⟩ := h
  refine ⟨es, clock, seen, ⟨⟨f, ?_, hf⟩, r1, r2, r3, r4⟩, h1, h2, h3, h4, h5, h6⟩
  have hmr : m ≠ r := by rintro rfl; rw [hm] at hr; cases hr
  refine ⟨fun k => if k = m then g m else none, Fp.join (fun k => if k = m then none else g k) k, ?_, ?_, by simpa [Blk] using hm, ?_⟩
  · intro q
    by_cases hq : q = m
    · subst hq
      right
      rcases dj q with d | d
      · rw [hm] at d; cases d
      · simp [Fp.join, d]
    · left; simp [hq]
  · rw [e]; funext q
    simp only [Fp.join]
    by_cases hq : q = m
    · subst hq; simp [hm]
    · simp [hq]
  · refine ⟨fun k => if k = m then none else g k, k, ?_, rfl, by simp [Blk, Ne.symm hmr, hr], hL⟩
    intro q
    rcases dj q with d | d
    · left; by_cases hq : q = m <;> simp [hq, d]
    · right; exact d
theorem Sat.mkMapIt {es : Array MapEntry} {clock : Nat} {seen : Array Nat} (h : Sat w I (Blk m (.map es clock) :: Blk r (.mapIter (some m) clock seen clock) :: L)) (h1 : es.toList.map (fun e => (e.key, e.val)) = kv.map (fun p => (Value.int .i64 p.1, p.2))) (h2 : (kv.map Prod.fst).Nodup) (h3 : (es.toList.map (·.born)).Nodup) (h4 : ∀ e ∈ es.toList, e.born < clock)
    (h5 : (leftOf es seen).toList.map (fun e => (e.key, e.val)) = todo.map (fun p => (Value.int .i64 p.1, p.2)))
    (h6 : ∀ c, cur = some c → ∃ e ∈ es.toList, e.key = .int .i64 c.1 ∧ e.val = c.2 ∧ ∃ s0 : Array Nat, seen = s0.push e.born) : Sat w I (MapIt m r kv todo cur :: L) := by
  have h7 := Sat.unstar (L := [Blk m (.map es clock), Blk r (.mapIter (some m) clock seen clock)]) (M := L) h
  refine h7.head ?_
  rintro f ⟨g, k, dj, e, hm, g2, k2, dj2, e2, hr, -⟩
  refine ⟨es, clock, seen, ⟨?_, ?_⟩, h1, h2, h3, h4, h5, h6⟩
  · have hm : g m = _ := hm
    rw [e]; simp [Fp.join, hm]
  · have hr : g2 r = _ := hr
    rw [e, e2]
    simp only [Fp.join]
    rcases dj r with d | d
    · simp [d, hr]
    · rw [e2] at d; simp [Fp.join, hr] at d
theorem Sat.mapItEnd (h : Sat w I (MapIt m r kv todo cur :: L)) : Sat w I (MapI m kv :: L) := by
  obtain ⟨es, clock, seen, hS, h1, h2, h3, h4, -, -⟩ := h.mapIt0
  have := hS.swap.drop
  exact this.head fun f hf => ⟨es, clock, hf, h1, h2, h3, h4⟩
theorem wp_rangeMap {kt e : TypeId} (hx : a.eval x = .map (some m)) (hu : P.underlying t = some (.map kt e)) (hS : Sat w I (MapI m kv :: L))
    (h : ∀ r w', Sat w' I (MapIt m r kv kv none :: L) → K (a.put dst (.pointer (some ⟨r, 0, none⟩))) w') : Oper.wp P ⟨dst, .range t x, ty, pos, af, gd⟩ a w K Q := by
  obtain ⟨es, clock, hh, hb, he, hn, hbn, hlt⟩ := hS.map0
  unfold Oper.wp execOp
  simp only [Instr.range, run_underlying hu, getObj, Sem.run_bind, Sem.run, hx, hh, Result.andThen, newObj]
  refine h _ _ ?_
  have h7 := hb.alloc (.mapIter (some m) clock #[] clock)
  refine Sat.mkMapIt (es := es) (clock := clock) (seen := #[]) h7.swap he hn hbn hlt ?_ (fun c hc => by cases hc)
  have : leftOf es #[] = es := by unfold leftOf; exact Array.filter_eq_self.2 (by simp)
  rw [this]; exact he
theorem map_split {α β γ : Type} {f : α → γ} {g : β → γ} : ∀ {l : List α} {k : List β} {pre post : List α} {c : α}, l.map f = k.map g → l = pre ++ c :: post → ∃ pre' c' post', k = pre' ++ c' :: post' ∧ pre.map f = pre'.map g ∧ f c = g c' ∧ post.map f = post'.map g
  | _, k, [], post, c, h, rfl => by
    cases k with
    | nil => simp at h
    | cons c' r => simp at h; exact ⟨[], c', r, rfl, rfl, h.1, h.2⟩
  | _, k, p :: pre, post, c, h, rfl => by
    cases k with
    | nil => simp at h
    | cons q r =>
      simp only [List.cons_append, List.map_cons, List.cons.injEq] at h
      obtain ⟨pre', c', post', e, h1, h2, h3⟩ := map_split (l := pre ++ c :: post) (k := r) h.2 rfl
      exact ⟨q :: pre', c', post', by rw [e]; rfl, by simp [h.1, h1], h2, h3⟩
theorem wp_nextMap (hx : a.eval x = .pointer (some ⟨r, 0, none⟩)) (hS : Sat w I (MapIt m r kv todo cur :: L))
    (h0 : todo = [] → K (a.put dst (.tuple #[.bool false])) w)
    (h1 : ∀ pre c post w', todo = pre ++ c :: post → Sat w' I (MapIt m r kv (pre ++ post) (some c) :: L) → K (a.put dst (.tuple #[.bool true, .int .i64 c.1, c.2])) w') : Oper.wp P ⟨dst, .next x false, ty, pos, af, gd⟩ a w K Q := by
  obtain ⟨es, clock, seen, hB, e1, e2, e3, e4, e5, e6⟩ := hS.mapIt0
  have hm := hB.blk0
  have hr := hB.swap.blk0
  unfold Oper.wp execOp
  rcases run_next_at (P := P) w ty r m clock clock seen es clock hr hm e4 (Nat.le_refl _) with ⟨h2, h3⟩ | ⟨e, he, w1, hw1, h3⟩
  · simp only [Sem.run_bind, hx, h3, Result.andThen]
    refine h0 ?_
    have : (leftOf es seen).toList = [] := List.eq_nil_of_length_eq_zero (by simpa using h2)
    rw [this] at e5
    simpa using e5.symm
  · simp only [Sem.run_bind, hx, h3, Result.andThen]
    obtain ⟨pre, post, hl⟩ := List.append_of_mem he
    obtain ⟨pre', c', post', f1, f2, f3, f4⟩ := map_split e5 hl
    simp only [Prod.mk.injEq] at f3
    rw [f3.1, f3.2]
    refine h1 pre' c' post' _ f1 ?_
    have hem : e ∈ es.toList := by
      have : e ∈ (leftOf es seen).toList := he
      unfold leftOf at this
      simp at this
      simpa using this.1
    have hS1 : Sat w1 I (Blk m (.map es clock) :: Blk r (.mapIter (some m) clock seen clock) :: L) := by
      rcases hw1 with rfl | rfl
      · exact hB
      · exact hB.drew
    have hlt : r < w1.heap.size := (Array.getElem?_eq_some_iff.1 hS1.swap.blk0).1
    have hS2 : Sat (ChangeMaps.setBlock w1 r (.mapIter (some m) clock (seen.push e.born) clock)) I (Blk r (.mapIter (some m) clock (seen.push e.born) clock) :: Blk m (.map es clock) :: L) :=
      hS1.swap.write (by simp [ChangeMaps.setBlock, hlt]) (fun k hk => by simp [ChangeMaps.setBlock, Array.getElem?_setIfInBounds_ne (Ne.symm hk)]) rfl rfl rfl
    refine Sat.mkMapIt hS2.swap e1 e2 e3 e4 ?_ (fun c hc => ?_)
    · have hnd : ((leftOf es seen).toList.map (·.born)).Nodup := by
        unfold leftOf
        have : (Array.filter (fun e => !seen.contains e.born) es).toList.Sublist es.toList := by rw [Array.toList_filter]; exact List.filter_sublist
        exact e3.sublist (this.map _)
      have hleft : (leftOf es (seen.push e.born)).toList = pre ++ post := by
        have g1 : (leftOf es (seen.push e.born)).toList = (leftOf es seen).toList.filter (fun q => !(q.born == e.born)) := by
          unfold leftOf
          rw [Array.toList_filter, Array.toList_filter, List.filter_filter]
          congr 1; funext q
          rw [Bool.eq_iff_iff]
          simp [Array.mem_push, not_or, and_comm]
        rw [g1, hl, List.filter_append, List.filter_cons]
        rw [hl, List.map_append, List.map_cons, List.nodup_append] at hnd
        obtain ⟨-, n2, n3⟩ := hnd
        rw [List.nodup_cons] at n2
        simp only [beq_self_eq_true, Bool.not_true, Bool.false_eq_true, if_false]
        congr 1
        · rw [List.filter_eq_self]
          intro q hq
          have := n3 q.born (List.mem_map.2 ⟨q, hq, rfl⟩) e.born (by simp)
          simpa using this
        · rw [List.filter_eq_self]
          intro q hq
          have := n2.1
          simp only [List.mem_map, not_exists, not_and] at this
          simpa using this q hq
      rw [hleft, List.map_append, f2, f4, ← List.map_append]
    · injection hc with hc; subst hc
      exact ⟨e, hem, f3.1, f3.2, seen, rfl⟩
theorem ex_entryMap {c : Int × Value} (hx : a.eval x = .pointer (some ⟨r, 0, none⟩)) (hS : Sat w I (MapIt m r kv todo (some c) :: L)) : Ex P a ⟨dst, .entry x, ty, pos, af, gd⟩ w (.tuple #[.int .i64 c.1, c.2]) := by
  obtain ⟨es, clock, seen, hB, e1, e2, e3, e4, e5, e6⟩ := hS.mapIt0
  obtain ⟨e, he, k1, k2, s0, rfl⟩ := e6 c rfl
  unfold Ex execOp
  simp only [Sem.run_bind, hx, run_entry_at (P := P) w r m clock s0 es clock e hB.swap.blk0 hB.blk0 he e3, Result.andThen, k1, k2]
  rfl
theorem ex_lenMap {kt e : TypeId} {rep : Ch → List Ch} (hx : a.eval x = .map (some m)) (hu : P.underlying t = some (.map kt e)) (hS : Sat w I L) [hi : HasMap L m kv rep] : Ex P a ⟨dst, .call ⟨.builtin .len, #[x], #[t]⟩, ty, pos, af, gd⟩ w (.int .i64 kv.length) := by
  obtain ⟨i, hi, _⟩ := hi.has
  obtain ⟨es, clock, hh, hb, he, hn, hbn, hlt⟩ := (hS.pull i hi).map0
  have hl : es.size = kv.length := by have := congrArg List.length he; simpa using this
  unfold Ex
  simp [execOp, resolve, Deferred.ofValue, invoke, hx, builtin, Builtin.len_, run_underlying hu, MapKept.run_getObj_map hh, hl]
  rfl
theorem ex_neqArr {n : Nat} {el : TypeId} {yt : TypeId} {l r : List UInt8} (hx : a.eval x = v) (hy : a.eval y = u) (e1 : v = .agg (l.map byteV).toArray) (e2 : u = .agg (r.map byteV).toArray) (hu : arrayB P t = some (n, el)) (he : intB P el = some .u8) (hs : sizeB P el = some 1) (h1 : l.length = n) (h2 : r.length = n) (hg : P.eqGuardType P.depth t = false) :
    Ex P a ⟨dst, .binOp .neq t x y yt, ty, pos, af, gd⟩ w (.bool (l != r)) := by
  subst e1; subst e2
  unfold arrayB at hu
  split at hu
  case h_2 => cases hu
  rename_i n' el' hu'
  injection hu with hu; injection hu with e1 e2; subst e1; subst e2
  unfold intB at he
  split at he
  case h_2 => cases he
  rename_i kd' he'
  injection he with he; subst he
  have h3 : (Op.equal t (.agg (l.map byteV).toArray) (.agg (r.map byteV).toArray)).run P w = .ok (l == r) w :=
    run_equalIn_bytes (P := P) w 9998 t el' n' hu' he' (fun w => run_sizeOf hs w) l r h1 h2
  unfold Ex execOp
  simp [eqGuard, hx, hy, hg, binOp, h3, bne]
theorem ex_neqArrR {n : Nat} {el : TypeId} {yt : TypeId} {l : List UInt8} (hx : a.eval x = v) (hy : a.eval y = u) (e1 : v = .agg (l.map byteV).toArray) (e2 : u = .agg (l.map byteV).toArray) (hu : arrayB P t = some (n, el)) (he : intB P el = some .u8) (hs : sizeB P el = some 1) (h1 : l.length = n) (hg : P.eqGuardType P.depth t = false) :
    Ex P a ⟨dst, .binOp .neq t x y yt, ty, pos, af, gd⟩ w (.bool false) := by
  have h := ex_neqArr (dst := dst) (ty := ty) (pos := pos) (af := af) (gd := gd) (w := w) (yt := yt) hx hy e1 e2 hu he hs h1 h1 hg
  simpa using h
theorem ex_neqArrD {n : Nat} {el : TypeId} {yt : TypeId} {l r : List UInt8} (hne : l ≠ r) (hx : a.eval x = v) (hy : a.eval y = u) (e1 : v = .agg (l.map byteV).toArray) (e2 : u = .agg (r.map byteV).toArray) (hu : arrayB P t = some (n, el)) (he : intB P el = some .u8) (hs : sizeB P el = some 1) (h1 : l.length = n) (h2 : r.length = n) (hg : P.eqGuardType P.depth t = false) :
    Ex P a ⟨dst, .binOp .neq t x y yt, ty, pos, af, gd⟩ w (.bool true) := by
  have h := ex_neqArr (dst := dst) (ty := ty) (pos := pos) (af := af) (gd := gd) (w := w) (yt := yt) hx hy e1 e2 hu he hs h1 h2 hg
  rwa [show (l != r) = true from by simp [hne]] at h
end
end Go.SL
