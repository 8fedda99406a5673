/- Still more operations. -/
import Derived.Test.YtjklnjpmjdbogaaSLVal2
import Derived.Stop.BytesEq
import Derived.DeepKeys3
namespace Go.SL
open Go.RowKit
section
variable {P : Program} {w w' : World} {I J : Gh} {L M : List Ch} {c d : Ch} {b b' : Nat} {o o' : Obj} {E : TypeId} {cs xs ys news : List Value} {v u : Value} {n m k sz : Nat} {p : Addr}
variable {a : Act} {K : Act → World → Prop} {Q : Exit → Act → World → Prop} {dst : Option Tmp} {x y z : Operand} {t ty : TypeId} {pos : String} {af : Array Edge} {gd : Option (Nat × Bool)}

/-- A field's address, in a block written out; in an element of a slice. -/
theorem ex_fa {s f off : Nat} (hx : a.eval x = .pointer (some ⟨b, k, none⟩)) (hf : fieldB P s f = some off) : Ex P a ⟨dst, .fieldAddr s x f, ty, pos, af, gd⟩ w (.pointer (some ⟨b, k + off, none⟩)) :=
  ex_fieldAddr hx hf (by rw [Addr.add_lit])
theorem ea_add' {off : Nat} (v : Value) (hv : ∃ a n c, v = .slice (some a) n c) : (ea v k).add off = ea v (k + off) := by
  obtain ⟨q, n, cap, e⟩ := hv
  subst e
  simp only [ea, Addr.add_add]
theorem ex_faE {s f off : Nat} (hx : a.eval x = .pointer (some (ea v k))) (hf : fieldB P s f = some off) (hv : IsSl v n) (hn : m < n) : Ex P a ⟨dst, .fieldAddr s x f, ty, pos, af, gd⟩ w (.pointer (some (ea v (k + off)))) :=
  ex_fieldAddr hx hf (ea_add hv hn rfl)
theorem ex_ia {el : TypeId} {kk : IntKind} {ix : Int} (hy : a.eval x = v) (hx : a.eval y = .int kk ix) (hu : sliceB P t = some el) (hs : sizeB P el = some sz) (hv : IsSl v n) (h0 : 0 ≤ ix) (hn : ix < n) :
    Ex P a ⟨dst, .indexAddr t x y, ty, pos, af, gd⟩ w (.pointer (some (ea v (ix.toNat * sz)))) := ex_indexAddr hy hx hu hs rfl hv h0 hn
theorem ex_iaN {el : TypeId} {kk : IntKind} {i : Nat} (hy : a.eval x = v) (hx : a.eval y = .int kk (i : Int)) (hu : sliceB P t = some el) (hs : sizeB P el = some sz) (hv : IsSl v n) (hn : (i : Int) < n) :
    Ex P a ⟨dst, .indexAddr t x y, ty, pos, af, gd⟩ w (.pointer (some (ea v (i * sz)))) := ex_indexAddr hy hx hu hs (by simp) hv (by omega) hn
theorem ex_iaA {el : TypeId} {kk : IntKind} {ix : Int} (hy : a.eval x = .pointer (some ⟨b, k, none⟩)) (hx : a.eval y = .int kk ix) (hu : arrayB P t = some (n, el)) (hs : sizeB P el = some sz) (h0 : 0 ≤ ix) (hn : ix < n) :
    Ex P a ⟨dst, .indexAddr t x y, ty, pos, af, gd⟩ w (.pointer (some ⟨b, k + ix.toNat * sz, none⟩)) := ex_indexAddrA hy hx hu hs h0 hn (by rw [Addr.add_lit])

theorem ex_nilCheckF {fn : FuncId} {f1 f2 : Array Value} (hx : a.eval x = .func (.func fn) f1 f2) : Ex P a ⟨dst, .nilCheck x, ty, pos, af, gd⟩ w (.func (.func fn) f1 f2) := by unfold Ex execOp; simp [hx]
theorem equal_bool {r s : Bool} (hu : P.underlying t = some .bool) : (Op.equal t (.bool r) (.bool s)).run P w = .ok (r == s) w := run_equalIn_bool w 9999 t r s hu
theorem equalIn_ptr (d : Nat) {e : TypeId} {q : Option Addr} (hu : P.underlying t = some (.pointer e)) : (Op.equalIn (d + 1) t (.pointer q) (.pointer none)).run P w = .ok q.isNone w := by
  cases q <;> simp [Op.equalIn, run_underlying hu]
theorem equal_ptr {e : TypeId} {q : Option Addr} (hu : P.underlying t = some (.pointer e)) : (Op.equal t (.pointer q) (.pointer none)).run P w = .ok q.isNone w := equalIn_ptr 9999 hu
theorem equalIn_sliceNil (d : Nat) {e : TypeId} {q : Option Addr} {cp : Nat} (hu : P.underlying t = some (.slice e)) : (Op.equalIn (d + 1) t (.slice q n cp) (.slice none 0 0)).run P w = .ok q.isNone w := by
  cases q <;> simp [Op.equalIn, run_underlying hu]
theorem equal_sliceNil {e : TypeId} {q : Option Addr} {cp : Nat} (hu : P.underlying t = some (.slice e)) : (Op.equal t (.slice q n cp) (.slice none 0 0)).run P w = .ok q.isNone w := equalIn_sliceNil 9999 hu
theorem ex_eqlBool {r s : Bool} {yt : TypeId} (hx : a.eval x = .bool r) (hy : a.eval y = .bool s) (hu : P.underlying t = some .bool) : Ex P a ⟨dst, .binOp .eql t x y yt, ty, pos, af, gd⟩ w (.bool (r == s)) := by
  unfold Ex execOp
  simp [eqGuard, hx, hy, binOp, equal_bool hu]
theorem ex_neqBool {r s : Bool} {yt : TypeId} (hx : a.eval x = .bool r) (hy : a.eval y = .bool s) (hu : P.underlying t = some .bool) : Ex P a ⟨dst, .binOp .neq t x y yt, ty, pos, af, gd⟩ w (.bool (r != s)) := by
  unfold Ex execOp
  simp [eqGuard, hx, hy, binOp, equal_bool hu, bne]
theorem ex_eqlPtr {e : TypeId} {q : Option Addr} {yt : TypeId} (hx : a.eval x = .pointer q) (hy : a.eval y = .pointer none) (hu : P.underlying t = some (.pointer e)) : Ex P a ⟨dst, .binOp .eql t x y yt, ty, pos, af, gd⟩ w (.bool q.isNone) := by
  unfold Ex execOp
  simp [eqGuard, hx, hy, binOp, equal_ptr hu]
theorem ex_neqPtr {e : TypeId} {q : Option Addr} {yt : TypeId} (hx : a.eval x = .pointer q) (hy : a.eval y = .pointer none) (hu : P.underlying t = some (.pointer e)) : Ex P a ⟨dst, .binOp .neq t x y yt, ty, pos, af, gd⟩ w (.bool q.isSome) := by
  unfold Ex execOp
  cases q <;> simp [eqGuard, hx, hy, binOp, equal_ptr hu]
theorem ex_eqlPtrS {e : TypeId} {q : Addr} {yt : TypeId} (hx : a.eval x = .pointer (some q)) (hy : a.eval y = .pointer none) (hu : P.underlying t = some (.pointer e)) : Ex P a ⟨dst, .binOp .eql t x y yt, ty, pos, af, gd⟩ w (.bool false) := ex_eqlPtr hx hy hu
theorem ex_eqlPtrN {e : TypeId} {yt : TypeId} (hx : a.eval x = .pointer none) (hy : a.eval y = .pointer none) (hu : P.underlying t = some (.pointer e)) : Ex P a ⟨dst, .binOp .eql t x y yt, ty, pos, af, gd⟩ w (.bool true) := ex_eqlPtr hx hy hu
theorem ex_neqPtrS {e : TypeId} {q : Addr} {yt : TypeId} (hx : a.eval x = .pointer (some q)) (hy : a.eval y = .pointer none) (hu : P.underlying t = some (.pointer e)) : Ex P a ⟨dst, .binOp .neq t x y yt, ty, pos, af, gd⟩ w (.bool true) := ex_neqPtr hx hy hu
theorem ex_neqPtrN {e : TypeId} {yt : TypeId} (hx : a.eval x = .pointer none) (hy : a.eval y = .pointer none) (hu : P.underlying t = some (.pointer e)) : Ex P a ⟨dst, .binOp .neq t x y yt, ty, pos, af, gd⟩ w (.bool false) := ex_neqPtr hx hy hu
theorem ex_eqlSliceNil {e : TypeId} {q : Option Addr} {yt : TypeId} {cp : Nat} (hx : a.eval x = .slice q n cp) (hy : a.eval y = .slice none 0 0) (hu : P.underlying t = some (.slice e)) : Ex P a ⟨dst, .binOp .eql t x y yt, ty, pos, af, gd⟩ w (.bool q.isNone) := by
  unfold Ex execOp
  simp [eqGuard, hx, hy, binOp, equal_sliceNil hu]
theorem ex_eqlStr {r s : ByteArray} {yt : TypeId} (hx : a.eval x = .string r) (hy : a.eval y = .string s) : Ex P a ⟨dst, .binOp .eql t x y yt, ty, pos, af, gd⟩ w (.bool (r.toList == s.toList)) := by
  unfold Ex execOp
  simp [eqGuard, hx, hy, binOp, Op.stringOp]
theorem ex_neqStr {r s : ByteArray} {yt : TypeId} (hx : a.eval x = .string r) (hy : a.eval y = .string s) : Ex P a ⟨dst, .binOp .neq t x y yt, ty, pos, af, gd⟩ w (.bool (!(r.toList == s.toList))) := by
  unfold Ex execOp
  simp [eqGuard, hx, hy, binOp, Op.stringOp]
theorem ex_rem {kk : IntKind} {mi ni : Int} {yt : TypeId} (hx : a.eval x = .int kk mi) (hy : a.eval y = .int kk ni) (hn : ni ≠ 0) (h0 : 0 ≤ mi) : Ex P a ⟨dst, .binOp .rem t x y yt, ty, pos, af, gd⟩ w (.int kk (mi % ni)) := by
  unfold Ex execOp
  simp [eqGuard, hx, hy, binOp, Op.intDiv, hn, Int.tmod_eq_emod_of_nonneg h0]
theorem ex_quo {kk : IntKind} {mi ni r : Int} {yt : TypeId} (hx : a.eval x = .int kk mi) (hy : a.eval y = .int kk ni) (hn : ni ≠ 0) (h0 : 0 ≤ mi) (hw : kk.wrap (mi / ni) = r) : Ex P a ⟨dst, .binOp .quo t x y yt, ty, pos, af, gd⟩ w (.int kk r) := by
  subst hw
  unfold Ex execOp
  simp [eqGuard, hx, hy, binOp, Op.intDiv, hn, Int.tdiv_eq_ediv_of_nonneg h0]
theorem ex_lenStr {r : ByteArray} (hx : a.eval x = .string r) (hu : P.underlying t = some .string) : Ex P a ⟨dst, .call ⟨.builtin .len, #[x], #[t]⟩, ty, pos, af, gd⟩ w (.int .i64 r.size) := by
  unfold Ex
  simp [BigFrame.execOp_builtin, BigFrame.builtin_len, Builtin.len_, run_underlying hu, hx, goInt]
theorem ex_min2 {kk : IntKind} {mi ni : Int} {at_ : Array TypeId} (hx : a.eval x = .int kk mi) (hy : a.eval y = .int kk ni) : Ex P a ⟨dst, .call ⟨.builtin .min, #[x, y], at_⟩, ty, pos, af, gd⟩ w (.int kk (if ni < mi then ni else mi)) := by
  unfold Ex
  simp [BigFrame.execOp_builtin, BigFrame.builtin_min, Builtin.min_, Builtin.min2, hx, hy]
theorem ex_max2 {kk : IntKind} {mi ni : Int} {at_ : Array TypeId} (hx : a.eval x = .int kk mi) (hy : a.eval y = .int kk ni) : Ex P a ⟨dst, .call ⟨.builtin .max, #[x, y], at_⟩, ty, pos, af, gd⟩ w (.int kk (if ni > mi then ni else mi)) := by
  unfold Ex
  simp [BigFrame.execOp_builtin, BigFrame.builtin_max, Builtin.max_, Builtin.max2, hx, hy]
theorem ex_makeFunc {fn : Fn} {f1 f2 : List Operand} {v1 v2 : List Value} (h1 : EvL a f1 v1) (h2 : EvL a f2 v2) : Ex P a ⟨dst, .makeFunc fn f1.toArray f2.toArray, ty, pos, af, gd⟩ w (.func fn v1.toArray v2.toArray) := by
  unfold Ex execOp
  simp [Instr.makeFunc, h1.eq, h2.eq]
theorem ex_sliceArr {el : TypeId} (hx : a.eval x = .pointer (some p)) (hu : arrayB P t = some (n, el)) (hs : sizeB P el = some sz) : Ex P a ⟨dst, .slice t x none none none, ty, pos, af, gd⟩ w (.slice (some p) n n) := by
  unfold arrayB at hu
  split at hu
  case h_2 => cases hu
  rename_i n' el' he
  injection hu with hu; injection hu with e1 e2; subst e1; subst e2
  unfold Ex execOp
  simp [Instr.sliceAt, run_underlying he, hx, Instr.sureAddr, Instr.sliceBounds, run_sizeOf hs, Addr.add_zero']
theorem ex_arrPtr {el : TypeId} (hx : a.eval x = v) (hu : arrayB P t = some (n, el)) (hv : IsSl v m) (hn : n ≤ m) (h0 : 0 < n) : Ex P a ⟨dst, .sliceToArrayPointer t x, ty, pos, af, gd⟩ w (.pointer (some (ea v 0))) := by
  obtain ⟨q, cap, e, _, hq⟩ := hv.ex
  have hne : q ≠ none := fun e => by have := hq e; omega
  obtain ⟨pp, rfl⟩ := Option.ne_none_iff_exists'.1 hne
  unfold arrayB at hu
  split at hu
  case h_2 => cases hu
  rename_i n' el' he
  injection hu with hu; injection hu with e1 e2; subst e1; subst e2
  have : ¬ m < n' := by omega
  unfold Ex execOp
  simp [Instr.arrayAt, run_underlying he, hx, e, this, ea, Addr.add_zero']

/-! bytes -/
def byteV (c : UInt8) : Value := .int .u8 c.toNat
theorem run_bytesStr {bs : List UInt8} (hr : RdS w v (bs.map byteV)) (hv : IsSl v bs.length) : (Conv.bytesToString v).run P w = .ok (.string ⟨bs.toArray⟩) w := by
  obtain ⟨q, cap, rfl, _, hq⟩ := hv.ex
  cases q with
  | none =>
    have : bs = [] := List.eq_nil_of_length_eq_zero (hq rfl)
    subst this
    simp [Conv.bytesToString]
    rfl
  | some q =>
    have h1 := run_loadCells_list (P := P) w q (bs.map byteV) (hr _ _ _ rfl)
    have h2 := run_bytesToString (P := P) w q bs.length cap (bs.map fun c => (c.toNat : Int)) (by
      rw [List.length_map] at h1
      rw [h1]
      congr 2
      rw [List.map_map]
      rfl)
    rw [h2]
    congr 2
    rw [List.foldl_map]
    have key : ∀ (l : List UInt8) (r : ByteArray), l.foldl (fun r (c : UInt8) => r.push (UInt8.ofNat (c.toNat : Int).toNat)) r = ⟨r.data ++ l.toArray⟩ := by
      intro l
      induction l with
      | nil => intro r; simp
      | cons c l ih =>
        intro r
        rw [List.foldl_cons, ih]
        have e : UInt8.ofNat (c.toNat : Int).toNat = c := by simp
        rw [e]
        congr 1
        apply Array.ext'
        simp [ByteArray.push]
    rw [key]
    congr 1
    apply Array.ext'
    simp [ByteArray.empty, ByteArray.emptyWithCapacity]
    rfl
theorem ex_bytesStr {src dk el : TypeId} {bs : List UInt8} (hx : a.eval x = v) (hu : sliceB P src = some el) (he : intB P el = some .u8) (hd : P.underlying dk = some .string) (hr : RdS w v (bs.map byteV)) (hv : IsSl v bs.length) :
    Ex P a ⟨dst, .convert src dk x, ty, pos, af, gd⟩ w (.string ⟨bs.toArray⟩) := by
  unfold sliceB at hu
  split at hu
  case h_2 => cases hu
  rename_i el' hel
  injection hu with hu; subst hu
  unfold intB at he
  split at he
  case h_2 => cases he
  rename_i kd' he'
  injection he with he; subst he
  have h := run_bytesStr (P := P) hr hv
  obtain ⟨q, cap, rfl, _, hq⟩ := hv.ex
  unfold Ex execOp
  simp [hx, run_convert_bytes_string w src dk el' q bs.length cap hel he' hd, h]

/-! the results: a slot, a cell of its own -/
theorem wp_callV {f : FuncId} {fo : Operand} {cap : List Value} {args : List Operand} {vs : List Value} {ats : Array TypeId} (hfo : a.eval fo = .func (.func f) #[] cap.toArray) (hf : callB P f = true) (hv : EvL a args vs)
    (h : Calls P f (vs ++ cap).toArray w (fun e w' => ∃ v, e = .returned v ∧ K (a.put dst v) w')) : Oper.wp P ⟨dst, .call ⟨.value fo, args.toArray, ats⟩, ty, pos, af, gd⟩ a w K Q := by
  unfold callB at hf
  split at hf
  case h_2 => cases hf
  rename_i fn hfn
  simp only [Bool.and_eq_true, bne_iff_ne] at hf
  have hrun : (execOp a.eval ⟨dst, .call ⟨.value fo, args.toArray, ats⟩, ty, pos, af, gd⟩).run P w = .ok (.enter f (vs ++ cap).toArray) w := by
    simp [execOp, resolve, hfo, Deferred.ofValue, invoke, callFunc, hfn, hf.2, Option.isSome_iff_ne_none.1 hf.1, hv.eq]
  unfold Oper.wp
  rw [hrun]
  refine Calls.mono h ?_
  rintro e w' ⟨v, rfl, hk⟩
  exact hk
theorem wp_callL {f : FuncId} {args : List Operand} {vs : List Value} {ats : Array TypeId} (hf : callB P f = true) (hv : EvL a args vs)
    (h : Calls P f vs.toArray w (fun e w' => ∃ v, e = .returned v ∧ K (a.put dst v) w')) : Oper.wp P ⟨dst, .call ⟨.value (.func f), args.toArray, ats⟩, ty, pos, af, gd⟩ a w K Q := by
  have := wp_callV (fo := .func f) (cap := []) (a := a) (w := w) (K := K) (Q := Q) (dst := dst) (ats := ats) (ty := ty) (pos := pos) (af := af) (gd := gd) rfl hf hv (by simpa using h)
  exact this

/-- The function's end: what its result variables hold. -/
def ResL (P : Program) (w : World) (l : List Value) : List ResultVar → List Value → Prop
  | [], vs => vs = []
  | .tmp t :: rs, vs => ∃ v r, vs = v :: r ∧ l[t]? = some v ∧ ResL P w l rs r
  | .cell t ty :: rs, vs => ∃ v r p, vs = v :: r ∧ l[t]? = some (.pointer (some p)) ∧ (loadVar ty p).run P w = .ok v w ∧ ResL P w l rs r
theorem ResL.rn {l : List Value} : ResL P w l [] [] := rfl
theorem ResL.rt {l : List Value} {t : Nat} {rs : List ResultVar} {r : List Value} (h : l[t]? = some v) (k : ResL P w l rs r) : ResL P w l (.tmp t :: rs) (v :: r) := ⟨v, r, rfl, h, k⟩
theorem ResL.rc {l : List Value} {t : Nat} {ty : TypeId} {rs : List ResultVar} {r : List Value} (h : l[t]? = some (.pointer (some p))) (hr : (loadVar ty p).run P w = .ok v w) (k : ResL P w l rs r) : ResL P w l (.cell t ty :: rs) (v :: r) := ⟨v, r, p, rfl, h, hr, k⟩
theorem ResL.run {l : List Value} : ∀ {rs : List ResultVar} {vs : List Value}, ResL P w l rs vs →
    (rs.mapM (fun | .tmp t => pure (l.toArray.getD t undef) | .cell a t => do loadVar t (← asAddr (l.toArray.getD a undef)) : ResultVar → Sem Value)).run P w = .ok vs w
  | [], _, h => by cases h; simp
  | .tmp t :: rs, _, ⟨v, r, e, hv, k⟩ => by
    subst e
    have := k.run
    simp only [List.mapM_cons, Sem.run_bind, Sem.run_pure, Result.andThen_ok, this]
    simp [hv]
  | .cell t ty :: rs, _, ⟨v, r, p, e, hv, hr, k⟩ => by
    subst e
    have := k.run
    have hg : l.toArray.getD t undef = .pointer (some p) := by simp [hv]
    have ha : (asAddr (l.toArray.getD t undef)).run P w = .ok p w := by rw [hg]; rfl
    simp only [List.mapM_cons, Sem.run_bind, ha, Sem.run_pure, Result.andThen_ok, hr, this]
theorem res_run {fn : Func} {l vs : List Value} {rs : List ResultVar} (hf : fn.results = rs.toArray) (h : ResL P w l rs vs) :
    (results fn l.toArray).run P w = .ok (if h : vs.toArray.size = 1 then vs.toArray[0] else .tuple vs.toArray) w := by
  unfold results
  rw [hf]
  have := h.run
  simp only [Sem.run_bind, Array.mapM_eq_mapM_toList, Sem.run_map]
  erw [this]
  rfl
theorem end1 {fn : Func} {R : Ending → World → Prop} {l : List Value} {rs : List ResultVar} {e : Exit} (he : e = .ret ∨ e = .normal) (hf : fn.results = rs.toArray) (h : ResL P w l rs [v]) (hR : R (.returned v) w) : bodyPost P fn R e ⟨l.toArray, []⟩ w := by
  have := res_run hf h
  rcases he with rfl | rfl
  · exact bodyPost_ret (v := v) (by simpa using this) rfl hR
  · exact bodyPost_end (v := v) (by simpa using this) rfl hR
theorem endN {fn : Func} {R : Ending → World → Prop} {l vs : List Value} {rs : List ResultVar} {e : Exit} (he : e = .ret ∨ e = .normal) (hf : fn.results = rs.toArray) (h : ResL P w l rs vs) (hn : (vs.length == 1) = false) (hR : R (.returned (.tuple vs.toArray)) w) : bodyPost P fn R e ⟨l.toArray, []⟩ w := by
  have := res_run hf h
  have hn' : ¬ vs.length = 1 := by simpa using hn
  rcases he with rfl | rfl
  · exact bodyPost_ret (v := .tuple vs.toArray) (by simpa [hn'] using this) rfl hR
  · exact bodyPost_end (v := .tuple vs.toArray) (by simpa [hn'] using this) rfl hR

/-! loops -/
def havoc : List Bool → List Value → (Nat → Value) → Nat → List Value
  | true :: ms, _ :: l, f, i => f i :: havoc ms l f (i + 1)
  | false :: ms, x :: l, f, i => x :: havoc ms l f (i + 1)
  | _, l, _, _ => l
/-- A round's end: the next round's head. -/
def LpN (ms : List Bool) (l : List Value) (ds : List Deferred) (R : (Nat → Value) → World → Prop) (μ : (Nat → Value) → World → Nat) (m : Nat) : Act → World → Prop := fun a' w' =>
  ∃ f', a' = ⟨(havoc ms l f' 0).toArray, ds⟩ ∧ f' = nth (havoc ms l f' 0) ∧ R f' w' ∧ μ f' w' < m
/-- A loop: 'ms' marks the slots that a round may write; R: what holds of them at the head of each round. -/
theorem wp_loopR {c : Code} {l : List Value} {ds : List Deferred} (ms : List Bool) (R : (Nat → Value) → World → Prop) (μ : (Nat → Value) → World → Nat) (h0 : havoc ms l (nth l) 0 = l) (hR : R (nth l) w)
    (round : ∀ f w, R f w → c.wp P (Exit.then (LpN ms l ds R μ (μ f w)) Q) ⟨(havoc ms l f 0).toArray, ds⟩ w) : (Code.loop c).wp P Q ⟨l.toArray, ds⟩ w := by
  refine wp_loop (fun a' w' => ∃ f', a' = ⟨(havoc ms l f' 0).toArray, ds⟩ ∧ f' = nth (havoc ms l f' 0) ∧ R f' w') (fun a' w' => μ (nth a'.tmps.toList) w') ⟨nth l, by rw [h0], by rw [h0], hR⟩ ?_
  rintro a' w' ⟨f', rfl, hf, hR'⟩
  refine Code.wp_mono ?_ (round f' w' hR')
  intro e a2 w2 h
  cases e with
  | normal =>
    obtain ⟨f2, rfl, hf2, hR2, hm⟩ := h
    refine ⟨⟨f2, rfl, hf2, hR2⟩, ?_⟩
    rw [← hf, ← hf2]
    exact hm
  | _ => exact h
theorem loopEnd {l l' : List Value} {ds : List Deferred} {ms : List Bool} {R : (Nat → Value) → World → Prop} {μ : (Nat → Value) → World → Nat} {m : Nat} (hl : havoc ms l (nth l') 0 = l') (hR : R (nth l') w) (hm : μ (nth l') w < m) :
    LpN ms l ds R μ m ⟨l'.toArray, ds⟩ w :=
  ⟨nth l', by rw [hl], by rw [hl], hR, hm⟩
def ivN : Value → Nat | .int _ n => n.toNat | _ => 0

/-! reading the elements of a slice -/
theorem ldE1 (hr : RdS w v xs) (hv : IsSl v n) (hn : m < n) (hk : kindB P t = some false) (hc : xs[k]? = some u) : (loadVar t (ea v k)).run P w = .ok u w := by
  refine run_load1 hk ?_
  have := Sat.rdEl (k := k) hr hv hn 0 u (by simpa [List.getElem?_drop] using hc)
  rwa [Addr.add_zero'] at this
theorem ldEN (hr : RdS w v xs) (hv : IsSl v n) (hn : m < n) (hk : kindB P t = some true) (hs : sizeB P t = some sz) (hy : sub xs k sz = ys) (hl : ys.length = sz) : (loadVar t (ea v k)).run P w = .ok (.agg ys.toArray) w := by
  rw [← hy] at hl ⊢
  exact run_loadN hk (by rw [hl]; exact hs) ((Sat.rdEl (k := k) hr hv hn).take _)
theorem ldA (hr : RdS w v xs) (hv : IsSl v n) (hn : 0 < n) (hk : kindB P t = some true) (hs : sizeB P t = some sz) (hl : xs.length = sz) : (loadVar t (ea v 0)).run P w = .ok (.agg xs.toArray) w :=
  ldEN hr hv hn hk hs (by rw [← hl]; simp [sub]) hl
theorem splice_all {cs vs : List Value} (h : cs.length = vs.length) : splice cs 0 vs = vs := by
  simp [splice, ← h]
theorem fillsOneN {zs vs : List Value} (hx : a.eval x = .agg vs.toArray) (hl : vs.length = sz) (hz : (zs.length == sz) = true) : Fills a (fun i => some (i * sz, sz)) [(0, x)] (SL.rep 1 zs) vs := by
  have hz := beq_iff_eq.1 hz
  have e : SL.rep 1 zs = zs := by simp [SL.rep]
  rw [e]
  refine ⟨0, sz, _, vs, by simp, hx, by simp [Value.cells], hl, by omega, splice_all (by omega)⟩
theorem fillsOne1 {z0 : Value} (hx : a.eval x = u) (h1 : u.oneCell' = true) : Fills a (fun i => some (i * 1, 1)) [(0, x)] (SL.rep 1 [z0]) [u] :=
  ⟨0, 1, _, [u], by simp, hx, by rw [one_cells h1], rfl, by simp [SL.rep], by simp [SL.rep, splice, Fills]⟩
end
end Go.SL
