/- What single operations yield that leave the world alone. -/
import Derived.Test.YtjklnjpmjdbogaaSLRegion
namespace Go.SL
open Go.RowKit

def Ex (P : Program) (a : Act) (o : Oper) (w : World) (v : Value) : Prop := (execOp a.eval o).run P w = .ok (.value v) w

theorem put_lit (l : List Value) (ds : List Deferred) (d : Nat) (v : Value) : Act.put ⟨l.toArray, ds⟩ (some d) v = ⟨(lset l d v).toArray, ds⟩ := by
  simp [Act.put, lset_eq]
theorem ev_at {l : List Value} {ds : List Deferred} {t : Nat} {v : Value} (h : l[t]? = some v) : Act.eval ⟨l.toArray, ds⟩ (.tmp t) = v := by
  simp [Act.eval, h]

section
variable {P : Program} {w w' : World} {I J : Gh} {L M : List Ch} {c d : Ch} {b b' : Nat} {o o' : Obj} {E : TypeId} {cs xs ys news : List Value} {v u : Value} {n m k sz : Nat} {p : Addr}
variable {a : Act} {K : Act → World → Prop} {Q : Exit → Act → World → Prop} {dst : Option Tmp} {x y z : Operand} {t ty : TypeId} {pos : String} {af : Array Edge} {gd : Option (Nat × Bool)}
variable {A : Nat → Bool} {G : World → Prop} {ops : Array Oper} {rest : List Oper} {l l' : List Value} {ds : List Deferred} {listed : Array Bool} {fuel i j : Nat} {q : Oper} {e : Nat}

/-! how a yielded value goes into the walk -/
theorem wl_val (hw : Region.wanted q (yielded ops l.toArray) = true) (hd : q.dst = some e) (hx : Ex P ⟨l.toArray, ds⟩ q w v) (hl : lset l e v = l')
    (h : WL P ops Q rest ⟨l'.toArray, ds⟩ w) : WL P ops Q (q :: rest) ⟨l.toArray, ds⟩ w := by
  refine wl_of hw ?_
  unfold Oper.wp
  rw [show (execOp (Act.eval ⟨l.toArray, ds⟩) q).run P w = .ok (.value v) w from hx]
  show WL P ops Q rest (Act.put _ q.dst v) w
  rw [hd, put_lit, hl]
  exact h
theorem wl_skip (hw : Region.wanted q (yielded ops l.toArray) = false) (hd : q.dst = some e) (hl : lset l e undef = l')
    (h : WL P ops Q rest ⟨l'.toArray, ds⟩ w) : WL P ops Q (q :: rest) ⟨l.toArray, ds⟩ w := by
  refine ⟨?_⟩
  unfold wpList
  rw [if_neg (by rw [hw]; simp), hd, put_lit, hl]
  exact h.ok
theorem wl_nil (h : Q .normal a w) : WL P ops Q [] a w := ⟨h⟩
theorem wg_pure (i : Nat) (hf : freeG A (fun j => (aheadOf ops listed i).getD j false) true ops listed i = true) (hi : ops[i]? = some q) (hd : q.dst = some e)
    (hQ : ∀ c a w, Q (.panic c) (a.put (some e) v) w → Q (.panic c) a w) (hw : Region.wanted q (yielded ops l.toArray) = true)
    (hx : ∀ w, Ex P ⟨l.toArray, ds⟩ q w v) (hl : lset l e v = l')
    (h : wpG P ops Q A G fuel (listed.setIfInBounds i true) ⟨l'.toArray, ds⟩ w) : wpG P ops Q A G (fuel + 1) listed ⟨l.toArray, ds⟩ w := by
  refine wpG_take (v := v) _ true hf hi (by rw [hd]; exact hQ) (.inl rfl) (.inl ⟨hw, fun w _ => hx w⟩) ?_
  rw [hd, put_lit, hl]
  exact h
theorem wg_read (i : Nat) {L : List Ch} {M : List Ch} [ht : HasTail M L] (hS : Sat w I M) (hf : freeG A (fun j => (aheadOf ops listed i).getD j false) false ops listed i = true) (hi : ops[i]? = some q) (hd : q.dst = some e)
    (hQ : ∀ c a w, Q (.panic c) (a.put (some e) v) w → Q (.panic c) a w) (hw : Region.wanted q (yielded ops l.toArray) = true)
    (hx : ∀ w X, Sat w I (X ++ L) → Ex P ⟨l.toArray, ds⟩ q w v) (hl : lset l e v = l')
    (h : wpG P ops Q A (fun w => ∃ X, Sat w I (X ++ L)) fuel (listed.setIfInBounds i true) ⟨l'.toArray, ds⟩ w) : wpG P ops Q A (fun w => ∃ X, Sat w I (X ++ L)) (fuel + 1) listed ⟨l.toArray, ds⟩ w := by
  obtain ⟨X, e1⟩ := ht.has
  refine wpG_take (v := v) _ false hf hi (by rw [hd]; exact hQ) (.inr ⟨X, e1 ▸ hS⟩) (.inl ⟨hw, fun w hg => ?_⟩) ?_
  · obtain ⟨X, hX⟩ := hg.resolve_left (by simp)
    exact hx w X hX
  rw [hd, put_lit, hl]
  exact h
theorem wg_skip (i : Nat) (hf : freeG A (fun j => (aheadOf ops listed i).getD j false) true ops listed i = true) (hi : ops[i]? = some q) (hd : q.dst = some e)
    (hQ : ∀ c a w, Q (.panic c) (a.put (some e) undef) w → Q (.panic c) a w) (hw : Region.wanted q (yielded ops l.toArray) = false) (hl : lset l e undef = l')
    (h : wpG P ops Q A G fuel (listed.setIfInBounds i true) ⟨l'.toArray, ds⟩ w) : wpG P ops Q A G (fuel + 1) listed ⟨l.toArray, ds⟩ w := by
  refine wpG_take (v := undef) _ true hf hi (by rw [hd]; exact hQ) (.inl rfl) (.inr ⟨hw, rfl⟩) ?_
  rw [hd, put_lit, hl]
  exact h
theorem wg_loud (i : Nat) (hr : Region.ready .any ops listed = [i]) (ho : ops[i]? = some q) (hw : Region.wanted q (yielded ops l.toArray) = true)
    (h : q.wp P ⟨l.toArray, ds⟩ w (fun a' w' => (A i = true → G w → G w') ∧ wpG P ops Q A G fuel (listed.setIfInBounds i true) a' w') Q) : wpG P ops Q A G (fuel + 1) listed ⟨l.toArray, ds⟩ w :=
  wpG_one hr ho hw h
theorem gsT {L M : List Ch} [ht : HasTail M L] {p : Prop} {g : Prop} (h : Sat w I M) : p → g → ∃ X, Sat w I (X ++ L) := fun _ _ => let ⟨X, e⟩ := ht.has; ⟨X, e ▸ h⟩
theorem gsF {b : Bool} {g g' : Prop} (h : b = false) : b = true → g → g' := fun e => by rw [h] at e; cases e
theorem wp_region_GS {id : Nat} (n : Nat) (A : Nat → Bool) (hm : P.follows .mixedOrders = true) (hn : ops.size = n) (hS : Sat w I L)
    (h : ∀ w', Sat w' I L → wpG P ops Q A (fun w => ∃ X, Sat w I (X ++ L)) n (Array.replicate n false) a w') : (Code.region id ops true).wp P Q a w := by
  refine wp_region_G A (fun w => ∃ X, Sat w I (X ++ L)) hm ?_
  rw [hn]
  exact h _ hS.drew
theorem wp_region_plain {id : Nat} {ol : List Oper} (h : WL P ol.toArray Q ol a w) : (Code.region id ol.toArray false).wp P Q a w := wp_region_lit h.ok
theorem wp_mixed {rs : List Nat} (hr : Region.ready .any ops listed = rs) (hne : rs.isEmpty = false)
    (h : ∀ i ∈ rs, wpOp P ops Q i (fun a' w' => (A i = true → G w → G w') ∧ wpG P ops Q A G fuel (listed.setIfInBounds i true) a' w') a w) : wpG P ops Q A G (fuel + 1) listed a w :=
  wpG_ready hr (by rintro rfl; cases hne) h
theorem wo_of {ops : Array Oper} {i : Nat} {K : Act → World → Prop} (ho : ops[i]? = some q) (hw : Region.wanted q (yielded ops a.tmps) = true) (h : q.wp P a w K Q) : wpOp P ops Q i K a w := by
  unfold wpOp
  rw [ho]
  show if _ then _ else _
  rw [if_pos hw]
  exact .inl h

/-! the same, with what closes by itself as automatic parameters -/
theorem xv (hx : Ex P ⟨l.toArray, ds⟩ q w v) (h : WL P ops Q rest ⟨l'.toArray, ds⟩ w) (hw : Region.wanted q (yielded ops l.toArray) = true := by rfl) (hd : q.dst = some e := by rfl) (hl : lset l e v = l' := by simp only [lset] <;> rfl) :
    WL P ops Q (q :: rest) ⟨l.toArray, ds⟩ w := wl_val hw hd hx hl h
theorem xp (i : Nat) (hi : ops[i]? = some q) (hd : q.dst = some e) (hx : ∀ w, Ex P ⟨l.toArray, ds⟩ q w v) (h : wpG P ops Q A G fuel (listed.setIfInBounds i true) ⟨l'.toArray, ds⟩ w)
    (hf : freeG A (fun j => (aheadOf ops listed i).getD j false) true ops listed i = true := by decide +kernel)
    (hQ : ∀ c a w, Q (.panic c) (a.put (some e) v) w → Q (.panic c) a w := by exact fun _ _ _ h => h) (hw : Region.wanted q (yielded ops l.toArray) = true := by rfl) (hl : lset l e v = l' := by simp only [lset] <;> rfl) :
    wpG P ops Q A G (fuel + 1) listed ⟨l.toArray, ds⟩ w := wg_pure i hf hi hd hQ hw hx hl h
theorem xr (i : Nat) {L : List Ch} {M : List Ch} [ht : HasTail M L] (hS : Sat w I M) (hi : ops[i]? = some q) (hd : q.dst = some e) (hx : ∀ w X, Sat w I (X ++ L) → Ex P ⟨l.toArray, ds⟩ q w v)
    (h : wpG P ops Q A (fun w => ∃ X, Sat w I (X ++ L)) fuel (listed.setIfInBounds i true) ⟨l'.toArray, ds⟩ w)
    (hf : freeG A (fun j => (aheadOf ops listed i).getD j false) false ops listed i = true := by decide +kernel)
    (hQ : ∀ c a w, Q (.panic c) (a.put (some e) v) w → Q (.panic c) a w := by exact fun _ _ _ h => h) (hw : Region.wanted q (yielded ops l.toArray) = true := by rfl) (hl : lset l e v = l' := by simp only [lset] <;> rfl) :
    wpG P ops Q A (fun w => ∃ X, Sat w I (X ++ L)) (fuel + 1) listed ⟨l.toArray, ds⟩ w := wg_read i hS hf hi hd hQ hw hx hl h

/-! operation by operation -/
theorem ex_move (hx : a.eval x = v) : Ex P a ⟨dst, .move x, ty, pos, af, gd⟩ w v := by unfold Ex execOp; simp [hx]
theorem ex_assign (hx : a.eval x = v) : Ex P a ⟨dst, .assign x, ty, pos, af, gd⟩ w v := by unfold Ex execOp; simp [hx]
theorem ex_pickT (hc : a.eval z = .bool true) (hx : a.eval x = v) : Ex P a ⟨dst, .pick z x y, ty, pos, af, gd⟩ w v := by unfold Ex execOp; simp [hx, hc, asBool]
theorem ex_pickF (hc : a.eval z = .bool false) (hx : a.eval y = v) : Ex P a ⟨dst, .pick z x y, ty, pos, af, gd⟩ w v := by unfold Ex execOp; simp [hx, hc, asBool]
theorem ex_pickOr {r s : Bool} (hc : a.eval z = .bool r) (hx : a.eval x = .bool true) (hy : a.eval y = .bool s) : Ex P a ⟨dst, .pick z x y, ty, pos, af, gd⟩ w (.bool (r || s)) := by
  unfold Ex execOp; cases r <;> simp [hx, hy, hc, asBool]
theorem ex_pickAnd {r s : Bool} (hc : a.eval z = .bool r) (hx : a.eval x = .bool s) (hy : a.eval y = .bool false) : Ex P a ⟨dst, .pick z x y, ty, pos, af, gd⟩ w (.bool (r && s)) := by
  unfold Ex execOp; cases r <;> simp [hx, hy, hc, asBool]
theorem ex_nilCheck (hx : a.eval x = .pointer (some p)) : Ex P a ⟨dst, .nilCheck x, ty, pos, af, gd⟩ w (.pointer (some p)) := by unfold Ex execOp; simp [hx]
theorem ex_load (hp : a.eval x = .pointer (some p)) (hr : (loadVar t p).run P w = .ok v w) : Ex P a ⟨dst, .load t x, ty, pos, af, gd⟩ w v := by
  unfold Ex execOp; simp [hp, Instr.loadAt, Instr.sureAddr, hr]
theorem ex_extract {vs : List Value} (hx : a.eval x = .tuple vs.toArray) (hv : vs[k]? = some v) : Ex P a ⟨dst, .extract x k, ty, pos, af, gd⟩ w v := by
  unfold Ex execOp; simp [hx, Instr.extract, hv]

def fieldB (P : Program) (s : TypeId) (f : Nat) : Option Nat :=
  match P.underlying s with
  | some (.struct fields) => (fields[f]?).bind fun f => match P.info? f.type with | some i => if i.size = 0 then none else some f.offset | none => none
  | _ => none
theorem ex_fieldAddr {s f off : Nat} {p' : Addr} (hx : a.eval x = .pointer (some p)) (hf : fieldB P s f = some off) (hp : p.add off = p') : Ex P a ⟨dst, .fieldAddr s x f, ty, pos, af, gd⟩ w (.pointer (some p')) := by
  unfold fieldB at hf
  split at hf
  case h_2 => cases hf
  rename_i fields hu
  cases hq : fields[f]? with
  | none => rw [hq] at hf; cases hf
  | some fl =>
    rw [hq] at hf
    simp only [Option.bind_some] at hf
    split at hf
    case h_2 => cases hf
    rename_i i hi
    split at hf
    case isTrue => cases hf
    rename_i hz
    injection hf with hf
    unfold Ex execOp
    simp [hx, Instr.fieldAt, run_underlying hu, hq, Instr.sureAddr, fieldPlace, sizeOf, typeInfo, hi, hz, hf, hp]
theorem add_lit {b k off k' : Nat} (h : k + off = k') : Addr.add ⟨b, k, none⟩ off = ⟨b, k', none⟩ := by rw [Addr.add_lit, h]
theorem ea_add {off k' : Nat} (hv : IsSl v n) (hn : m < n) (h : k + off = k') : (ea v k).add off = ea v k' := by
  obtain ⟨q, cap, e, _, hq⟩ := hv.ex
  have hne : q ≠ none := fun e => by have := hq e; omega
  obtain ⟨pp, rfl⟩ := Option.ne_none_iff_exists'.1 hne
  subst e
  simp only [ea, Addr.add_add, h]
theorem ex_indexAddr {el : TypeId} {kk : IntKind} {ix : Int} {k' : Nat} (hy : a.eval x = v) (hx : a.eval y = .int kk ix) (hu : sliceB P t = some el) (hs : sizeB P el = some sz) (hk : ix.toNat * sz = k') (hv : IsSl v n) (h0 : 0 ≤ ix) (hn : ix < n) :
    Ex P a ⟨dst, .indexAddr t x y, ty, pos, af, gd⟩ w (.pointer (some (ea v k'))) := by
  subst hk
  obtain ⟨q, cap, e, _, hq⟩ := hv.ex
  unfold sliceB at hu
  split at hu
  case h_2 => cases hu
  rename_i el' he
  injection hu with hu; subst hu
  have hne : q ≠ none := fun e => by have := hq e; omega
  obtain ⟨pp, rfl⟩ := Option.ne_none_iff_exists'.1 hne
  unfold Ex execOp
  simp [Instr.indexAt, asIntOf, hx, hy, e, run_underlying he, h0, hn, run_sizeOf hs, ea]
def arrayB (P : Program) (t : TypeId) : Option (Nat × TypeId) := match P.underlying t with | some (.array n e) => some (n, e) | _ => none
theorem ex_indexAddrA {el : TypeId} {kk : IntKind} {ix : Int} {p' : Addr} (hy : a.eval x = .pointer (some p)) (hx : a.eval y = .int kk ix) (hu : arrayB P t = some (n, el)) (hs : sizeB P el = some sz) (h0 : 0 ≤ ix) (hn : ix < n) (hp : p.add (ix.toNat * sz) = p') :
    Ex P a ⟨dst, .indexAddr t x y, ty, pos, af, gd⟩ w (.pointer (some p')) := by
  subst hp
  unfold arrayB at hu
  split at hu
  case h_2 => cases hu
  rename_i n' el' he
  injection hu with hu; injection hu with e1 e2; subst e1; subst e2
  unfold Ex execOp
  simp [Instr.indexAt, asIntOf, hx, hy, run_underlying he, h0, hn, run_sizeOf hs, Instr.sureAddr]

def cmpV (op : BinOp) (m n : Int) : Option Bool :=
  match op with
  | .eql => some (m == n) | .neq => some (m != n) | .lss => some (decide (m < n)) | .leq => some (decide (m ≤ n)) | .gtr => some (decide (m > n)) | .geq => some (decide (m ≥ n))
  | _ => none
theorem ex_cmp {op : BinOp} {kk : IntKind} {mi ni : Int} {r : Bool} {yt : TypeId} (hx : a.eval x = .int kk mi) (hy : a.eval y = .int kk ni) (hv : cmpV op mi ni = some r) :
    Ex P a ⟨dst, .binOp op t x y yt, ty, pos, af, gd⟩ w (.bool r) := by
  unfold Ex execOp
  cases op <;> simp [cmpV] at hv <;> subst hv <;> simp [eqGuard, hx, hy, binOp, Op.intCmp]
theorem eqlT {m n : Int} (h : m = n) : cmpV .eql m n = some true := by simp [cmpV, h]
theorem eqlF {m n : Int} (h : m ≠ n) : cmpV .eql m n = some false := by simp [cmpV, h]
theorem neqT {m n : Int} (h : m ≠ n) : cmpV .neq m n = some true := by simp [cmpV, h]
theorem neqF {m n : Int} (h : m = n) : cmpV .neq m n = some false := by simp [cmpV, h]
theorem lssT {m n : Int} (h : m < n) : cmpV .lss m n = some true := by simp [cmpV, h]
theorem lssF {m n : Int} (h : n ≤ m) : cmpV .lss m n = some false := by simp [cmpV]; omega
theorem leqT {m n : Int} (h : m ≤ n) : cmpV .leq m n = some true := by simp [cmpV, h]
theorem leqF {m n : Int} (h : n < m) : cmpV .leq m n = some false := by simp [cmpV]; omega
theorem gtrT {m n : Int} (h : n < m) : cmpV .gtr m n = some true := by simp [cmpV, h]
theorem gtrF {m n : Int} (h : m ≤ n) : cmpV .gtr m n = some false := by simp [cmpV]; omega
theorem geqT {m n : Int} (h : n ≤ m) : cmpV .geq m n = some true := by simp [cmpV, h]
theorem geqF {m n : Int} (h : m < n) : cmpV .geq m n = some false := by simp [cmpV]; omega
def arithV (op : BinOp) (m n : Int) : Option Int :=
  match op with
  | .add => some (m + n) | .sub => some (m - n) | .mul => some (m * n)
  | _ => none
theorem ex_arith {op : BinOp} {kk : IntKind} {mi ni r s : Int} {yt : TypeId} (hx : a.eval x = .int kk mi) (hy : a.eval y = .int kk ni) (hv : arithV op mi ni = some r) (hs : kk.wrap r = s) :
    Ex P a ⟨dst, .binOp op t x y yt, ty, pos, af, gd⟩ w (.int kk s) := by
  unfold Ex execOp
  cases op <;> simp [arithV] at hv <;> subst hv <;> subst hs <;> simp [eqGuard, hx, hy, binOp, Op.intArith]
def intB (P : Program) (t : TypeId) : Option IntKind := match P.underlying t with | some (.int k) => some k | _ => none
theorem ex_convII {src dk : TypeId} {ks kd : IntKind} {z s : Int} {bb : Bool} (hx : a.eval x = .int ks z) (hu : intB P dk = some kd) (hus : kindB P src = some bb) (hs : kd.wrap z = s) :
    Ex P a ⟨dst, .convert src dk x, ty, pos, af, gd⟩ w (.int kd s) := by
  subst hs
  unfold intB at hu
  split at hu
  case h_2 => cases hu
  rename_i kd' hu'
  injection hu with hu; subst hu
  unfold kindB at hus
  obtain ⟨us, hus, _⟩ := Option.map_eq_some_iff.1 hus
  unfold Ex execOp
  simp only [Sem.run_bind, convert, run_underlying hus, run_underlying hu', Result.andThen_ok, hx]
  cases us <;> simp [Conv.intToInt]
theorem ex_not {r : Bool} (hx : a.eval x = .bool r) : Ex P a ⟨dst, .unOp .not t x, ty, pos, af, gd⟩ w (.bool (!r)) := by
  unfold Ex execOp; simp [hx, Op.unary]
theorem ex_len {el : TypeId} (hx : a.eval x = v) (hu : sliceB P t = some el) (hv : IsSl v n) : Ex P a ⟨dst, .call ⟨.builtin .len, #[x], #[t]⟩, ty, pos, af, gd⟩ w (.int .i64 n) := by
  obtain ⟨q, cap, e, _⟩ := hv.ex
  unfold sliceB at hu
  split at hu
  case h_2 => cases hu
  rename_i el' he
  unfold Ex
  simp [BigFrame.execOp_builtin, BigFrame.builtin_len, Builtin.len_, run_underlying he, hx, e, goInt]

theorem wl_put {rest : List Oper} {e : Nat} (hl : lset l e v = l') (h : WL P ops Q rest ⟨l'.toArray, ds⟩ w) : WL P ops Q rest (Act.put ⟨l.toArray, ds⟩ (some e) v) w := by
  rw [put_lit, hl]; exact h
theorem wl_put0 {rest : List Oper} (h : WL P ops Q rest a w) : WL P ops Q rest (Act.put a none v) w := h
theorem wg_put {e : Nat} (hG : A i = true → G w → G w') (hl : lset l e v = l') (h : wpG P ops Q A G fuel (listed.setIfInBounds i true) ⟨l'.toArray, ds⟩ w') :
    (A i = true → G w → G w') ∧ wpG P ops Q A G fuel (listed.setIfInBounds i true) (Act.put ⟨l.toArray, ds⟩ (some e) v) w' := by
  rw [put_lit, hl]; exact ⟨hG, h⟩
theorem wg_n (h : wpG P ops Q A G fuel (listed.setIfInBounds i true) a w') : wpG P ops Q A G fuel (listed.setIfInBounds i true) (Act.put a none v) w' := h
theorem wg_p (hl : lset l e v = l') (h : wpG P ops Q A G fuel (listed.setIfInBounds i true) ⟨l'.toArray, ds⟩ w') : wpG P ops Q A G fuel (listed.setIfInBounds i true) (Act.put ⟨l.toArray, ds⟩ (some e) v) w' := by
  rw [put_lit, hl]; exact h
theorem wg_put0 (hG : A i = true → G w → G w') (h : wpG P ops Q A G fuel (listed.setIfInBounds i true) a w') :
    (A i = true → G w → G w') ∧ wpG P ops Q A G fuel (listed.setIfInBounds i true) (Act.put a none v) w' := ⟨hG, h⟩
theorem wg_end (hr : Region.ready .any ops listed = []) (h : Q .normal a w) : wpG P ops Q A G fuel listed a w := wpG_done hr h fuel
theorem wp_val {q : Oper} (hx : Ex P a q w v) (h : K (a.put q.dst v) w) : q.wp P a w K Q := by
  unfold Oper.wp
  rw [show (execOp (Act.eval a) q).run P w = .ok (.value v) w from hx]
  exact h
/-! calls -/
def callB (P : Program) (f : FuncId) : Bool := match P.funcs[f]? with | some fn => fn.body.isSome && fn.name != "runtime.NumGoroutine" | none => false
/-- A call of a Go function that always returns. -/
theorem wp_call {f : FuncId} {args : Array Operand} {vs : Array Value} {ats : Array TypeId} (hf : callB P f = true) (hv : args.map a.eval = vs)
    (h : Calls P f vs w (fun e w' => ∃ v, e = .returned v ∧ K (a.put dst v) w')) : Oper.wp P ⟨dst, .call ⟨.value (.func f), args, ats⟩, ty, pos, af, gd⟩ a w K Q := by
  unfold callB at hf
  split at hf
  case h_2 => cases hf
  rename_i fn hfn
  simp only [Bool.and_eq_true, bne_iff_ne] at hf
  have hrun : (execOp a.eval ⟨dst, .call ⟨.value (.func f), args, ats⟩, ty, pos, af, gd⟩).run P w = .ok (.enter f vs) w := by
    simp [execOp, resolve, Act.eval, Deferred.ofValue, invoke, callFunc, hfn, hf.2, Option.isSome_iff_ne_none.1 hf.1, hv]
  unfold Oper.wp
  rw [hrun]
  refine Calls.mono h ?_
  rintro e w' ⟨v, rfl, hk⟩
  exact hk
end
end Go.SL
