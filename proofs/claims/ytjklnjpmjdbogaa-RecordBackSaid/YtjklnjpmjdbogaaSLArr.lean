/- Elements of array values; copying into slices; comparisons. -/
import Derived.Test.YtjklnjpmjdbogaaSLFill
import Derived.Test.YtjklnjpmjdbogaaSLBits
set_option linter.unusedVariables false
set_option linter.unusedSimpArgs false
namespace Go.SL
open Go.RowKit
section
variable {P : Program} {w w' : World} {I J : Gh} {L M : List Ch} {v u : Value} {n m k sz : Nat} {cs : List Value}
variable {a : Act} {K : Act → World → Prop} {Q : Exit → Act → World → Prop} {dst : Option Tmp} {x y z : Operand} {t ty : TypeId} {pos : String} {af : Array Edge} {gd : Option (Nat × Bool)}
/-- A region that draws its order; only the chunks after the first are held still. -/
theorem wp_region_GS1 {id : Nat} {ops : Array Oper} {c : Ch} (n : Nat) (A : Nat → Bool) (hm : P.follows .mixedOrders = true) (hn : ops.size = n) (hS : Sat w I (c :: L))
    (h : ∀ w', Sat w' I (c :: L) → wpG P ops Q A (fun w => ∃ X, Sat w I (X ++ L)) n (Array.replicate n false) a w') : (Code.region id ops true).wp P Q a w := by
  refine wp_region_G A (fun w => ∃ X, Sat w I (X ++ L)) hm ?_
  rw [hn]
  exact h _ hS.drew
/-- An element of an array's value, one cell. -/
theorem ex_indexA {el : TypeId} {kk : IntKind} {ix : Int} (hx : a.eval x = .agg cs.toArray) (hy : a.eval y = .int kk ix) (hu : arrayB P t = some (n, el)) (hs : sizeB P el = some 1) (hk : kindB P el = some false) (h0 : 0 ≤ ix) (hn : ix < n) (hc : cs[ix.toNat]? = some v) :
    Ex P a ⟨dst, .index t x y, ty, pos, af, gd⟩ w v := by
  unfold arrayB at hu
  split at hu
  case h_2 => cases hu
  rename_i n' el' he
  injection hu with hu; injection hu with e1 e2; subst e1; subst e2
  unfold Ex execOp
  simp [Instr.index, asIntOf, hx, hy, run_underlying he, h0, hn, run_sizeOf hs, part, run_isAgg hk, hc]
/-- An element of an array's value, several cells. -/
theorem ex_indexAN {el : TypeId} {kk : IntKind} {ix : Int} {vs : List Value} (hx : a.eval x = .agg cs.toArray) (hy : a.eval y = .int kk ix) (hu : arrayB P t = some (n, el)) (hs : sizeB P el = some sz) (hk : kindB P el = some true) (h0 : 0 ≤ ix) (hn : ix < n) (hc : sub cs (ix.toNat * sz) sz = vs) :
    Ex P a ⟨dst, .index t x y, ty, pos, af, gd⟩ w (.agg vs.toArray) := by
  unfold arrayB at hu
  split at hu
  case h_2 => cases hu
  rename_i n' el' he
  injection hu with hu; injection hu with e1 e2; subst e1; subst e2
  unfold Ex execOp
  subst hc
  simp [Instr.index, asIntOf, hx, hy, run_underlying he, h0, hn, run_sizeOf hs, part, run_isAgg hk, sub, List.extract_eq_take_drop]
theorem ex_min2r {kk : IntKind} {mi ni r : Int} {at_ : Array TypeId} (hx : a.eval x = .int kk mi) (hy : a.eval y = .int kk ni) (hr : (if ni < mi then ni else mi) = r) : Ex P a ⟨dst, .call ⟨.builtin .min, #[x, y], at_⟩, ty, pos, af, gd⟩ w (.int kk r) := by
  subst hr
  exact ex_min2 hx hy
/-- A slice made longer again, up to its capacity. -/
theorem ex_sliceCap {el : TypeId} {k2 : IntKind} {hi' : Int} {p : Addr} {cap : Nat} (hx : a.eval x = .slice (some p) n cap) (hz : a.eval z = .int k2 hi') (hu : sliceB P t = some el) (hs : sizeB P el = some sz) (h1 : 0 ≤ hi') (h2 : hi' ≤ cap) (h3 : 0 < cap) :
    Ex P a ⟨dst, .slice t x none (some z) none, ty, pos, af, gd⟩ w (.slice (some p) hi'.toNat cap) := by
  unfold sliceB at hu
  split at hu
  case h_2 => cases hu
  rename_i el' hu'
  injection hu with hu; subst hu
  unfold Ex execOp
  have e1 : (Instr.sliceBound (.int k2 hi') cap .sliceAcap).run P w = .ok hi'.toNat w := run_sliceBound (by omega) (by omega)
  have h3' : ¬ cap = 0 := by omega
  simp [Instr.sliceAt, Instr.slice, run_underlying hu', hx, hz, Instr.sliceBounds, e1, run_sizeOf hs, h3', Addr.add_zero']
/-- 'copy' of a whole shorter block to the start of another. -/
theorem wp_copyB {el : TypeId} {b b' : Nat} {E : TypeId} {rep rep2 : Ch → List Ch} {dT sT : TypeId} {ds : List Value} {E2 : TypeId} {c1 c2 : Nat} (hx : a.eval x = .slice (some ⟨b, 0, none⟩) n c1) (hy : a.eval y = .slice (some ⟨b', 0, none⟩) m c2) (hu : sliceB P dT = some el) (hs : sizeB P el = some 1)
    (hS : Sat w I L) [hi : HasCells L b E cs rep] [hj : HasCells L b' E2 ds rep2] (h0 : m ≤ n) (h1 : n ≤ cs.length) (h2 : ds.length = m) (ho : Oc ds)
    (h : ∀ w', Sat w' I (rep (Cells b E (ds ++ cs.drop m))) → K (a.put dst (.int .i64 m)) w') :
    Oper.wp P ⟨dst, .call ⟨.builtin .copy, #[x, y], #[dT, sT]⟩, ty, pos, af, gd⟩ a w K Q := by
  unfold sliceB at hu
  split at hu
  case h_2 => cases hu
  rename_i el' hu'
  injection hu with hu; subst hu
  have hrd := Rd.of_block (k := 0) (hS.blkH (hi := hj))
  rw [List.drop_zero] at hrd
  have hr := run_copy_row (P := P) w dT sT ty el' b 0 n c1 ⟨b', 0, none⟩ m c2 cs.toArray E ds hu' hs (hS.blkH (hi := hi)) (by rw [h2]; exact (Nat.min_eq_left h0).symm) hrd (by rw [h2]; simp; omega) ho
  rw [h2] at hr
  simp only [Nat.zero_add, List.take_zero, List.nil_append] at hr
  have := h _ (hS.setRow (hi := hi) (ds ++ cs.drop m))
  unfold Oper.wp execOp
  simp only [resolve, invoke, builtin, Sem.run_bind, Sem.run_pure, Result.andThen_ok, List.map_toArray, List.map_cons, List.map_nil, hx, hy, hr]
  exact this
/-- A shift of a natural number. -/
theorem ex_shrN {kk kx : IntKind} {mi s : Nat} {yt : TypeId} (hx : a.eval x = .int kx (mi : Int)) (hy : a.eval y = .int kk (s : Int)) (hs : s ≤ kx.bits) : Ex P a ⟨dst, .binOp .shr t x y yt, ty, pos, af, gd⟩ w (.int kx ((mi / 2 ^ s : Nat) : Int)) := by
  have := ex_shrI (P := P) (a := a) (dst := dst) (t := t) (ty := ty) (pos := pos) (af := af) (gd := gd) (w := w) (yt := yt) hx hy hs
  simpa using this
end
/-! literals whose parts fill the whole value, in order -/
def Seqs (a : Act) (place : Nat → Option (Nat × Nat)) : Nat → List (Nat × Operand) → List Value → Prop
  | _, [], vs => vs = []
  | k, (i, x) :: r, vs => ∃ v cs u, vs = cs ++ u ∧ place i = some (k, cs.length) ∧ a.eval x = v ∧ v.cells.toList = cs ∧ Seqs a place (k + cs.length) r u
theorem Seqs.nil {a : Act} {place : Nat → Option (Nat × Nat)} {k : Nat} : Seqs a place k [] [] := rfl
theorem Seqs.cons {a : Act} {place : Nat → Option (Nat × Nat)} {k i : Nat} {x : Operand} {r : List (Nat × Operand)} {v : Value} {cs u : List Value}
    (h1 : place i = some (k, cs.length)) (h2 : a.eval x = v) (h3 : v.cells.toList = cs) (h4 : Seqs a place (k + cs.length) r u) : Seqs a place k ((i, x) :: r) (cs ++ u) := ⟨v, cs, u, rfl, h1, h2, h3, h4⟩
theorem Seqs.fills {a : Act} {place : Nat → Option (Nat × Nat)} : ∀ {parts : List (Nat × Operand)} {pre zs vs : List Value}, Seqs a place pre.length parts vs → zs.length = vs.length →
    Fills a place parts (pre ++ zs) (pre ++ vs) := by
  intro parts
  induction parts with
  | nil => intro pre zs vs h hl; cases h; cases List.eq_nil_of_length_eq_zero hl; rfl
  | cons q parts ih =>
    obtain ⟨i, x⟩ := q
    intro pre zs vs h hl
    obtain ⟨v, cs, u, rfl, h1, h2, h3, h4⟩ := h
    refine ⟨pre.length, cs.length, v, cs, h1, h2, h3, rfl, by simp at hl ⊢; omega, ?_⟩
    have e : splice (pre ++ zs) pre.length cs = (pre ++ cs) ++ zs.drop cs.length := by simp [splice]
    rw [e]
    have := ih (pre := pre ++ cs) (zs := zs.drop cs.length) (vs := u) (by simpa using h4) (by simp at hl ⊢; omega)
    simpa using this
theorem Seqs.run {a : Act} {place : Nat → Option (Nat × Nat)} {parts : List (Nat × Operand)} {zs vs : List Value} (h : Seqs a place 0 parts vs) (hl : zs.length = vs.length) : Fills a place parts zs vs :=
  Seqs.fills (pre := []) h hl
theorem Seqs.two {a : Act} {place : Nat → Option (Nat × Nat)} {k i : Nat} {x : Operand} {r : List (Nat × Operand)} {v y1 y2 : Value} {u : List Value}
    (h1 : place i = some (k, 2)) (h2 : a.eval x = v) (h3 : v.cells.toList = [y1, y2]) (h4 : Seqs a place (k + 2) r u) : Seqs a place k ((i, x) :: r) (y1 :: y2 :: u) := ⟨v, [y1, y2], u, rfl, h1, h2, h3, h4⟩
end Go.SL
