/- Laws that the proofs share, brought together out of several texts. -/
import Derived.Laws.Externs
import Derived.MapKept
import Derived.Maps.RangeRun
import Derived.ProofKit
import Derived.OpenShut
import Derived.Deep.Slices
import Derived.SizedLaws
import Derived.Test.YtggkomlobfpapaaSLA
set_option linter.unusedVariables false
set_option linter.unusedSimpArgs false

/- Words of 32 bits: laws of single operations; shifts of numbers. -/
set_option linter.unusedSimpArgs false
namespace Go.SL
open Go.RowKit
def V32 (x : BitVec 32) : Value := .int .u32 x.toNat
section
variable {P : Program} {w w' : World} {I J : Gh} {L M : List Ch} {v u : Value} {n m k sz : Nat}
variable {a : Act} {K : Act → World → Prop} {Q : Exit → Act → World → Prop} {dst : Option Tmp} {x y z : Operand} {t ty : TypeId} {pos : String} {af : Array Edge} {gd : Option (Nat × Bool)}
theorem wrap32 (m : Nat) : IntKind.u32.wrap (m : Int) = ((BitVec.ofNat 32 m).toNat : Int) := by
  simp [IntKind.wrap, IntKind.bits, IntKind.signed]
theorem of32 (c : BitVec 32) : BitVec.ofInt 32 (c.toNat : Int) = c := by
  apply BitVec.eq_of_toNat_eq
  have := c.isLt
  simp
theorem key32 (r : BitVec 32) : IntKind.u32.wrap (r.toNat : Int) = (r.toNat : Int) := by rw [wrap32]; simp
theorem ib_and (p q : BitVec 32) : Op.intBits .and .u32 p.toNat q.toNat = pure (V32 (p &&& q)) := by
  show pure (Value.int .u32 (IntKind.u32.wrap ((BitVec.ofInt 32 (p.toNat : Int) &&& BitVec.ofInt 32 (q.toNat : Int)).toNat : Int))) = _
  rw [of32, of32, key32]; rfl
theorem ib_or (p q : BitVec 32) : Op.intBits .or .u32 p.toNat q.toNat = pure (V32 (p ||| q)) := by
  show pure (Value.int .u32 (IntKind.u32.wrap ((BitVec.ofInt 32 (p.toNat : Int) ||| BitVec.ofInt 32 (q.toNat : Int)).toNat : Int))) = _
  rw [of32, of32, key32]; rfl
theorem ib_xor (p q : BitVec 32) : Op.intBits .xor .u32 p.toNat q.toNat = pure (V32 (p ^^^ q)) := by
  show pure (Value.int .u32 (IntKind.u32.wrap ((BitVec.ofInt 32 (p.toNat : Int) ^^^ BitVec.ofInt 32 (q.toNat : Int)).toNat : Int))) = _
  rw [of32, of32, key32]; rfl
theorem ib_andNot (p q : BitVec 32) : Op.intBits .andNot .u32 p.toNat q.toNat = pure (V32 (p &&& ~~~q)) := by
  show pure (Value.int .u32 (IntKind.u32.wrap ((BitVec.ofInt 32 (p.toNat : Int) &&& ~~~BitVec.ofInt 32 (q.toNat : Int)).toNat : Int))) = _
  rw [of32, of32, key32]; rfl
theorem ex_bits32 {op : BinOp} {p q r : BitVec 32} {yt : TypeId} (hx : a.eval x = V32 p) (hy : a.eval y = V32 q) (ho : (op = .and ∧ r = p &&& q) ∨ (op = .or ∧ r = p ||| q) ∨ (op = .xor ∧ r = p ^^^ q) ∨ (op = .andNot ∧ r = p &&& ~~~q)) :
    Ex P a ⟨dst, .binOp op t x y yt, ty, pos, af, gd⟩ w (V32 r) := by
  unfold Ex execOp
  have hx' : a.eval x = .int .u32 p.toNat := hx
  have hy' : a.eval y = .int .u32 q.toNat := hy
  rcases ho with ⟨rfl, rfl⟩ | ⟨rfl, rfl⟩ | ⟨rfl, rfl⟩ | ⟨rfl, rfl⟩
  · simp [eqGuard, hx', hy', binOp, ib_and]
  · simp [eqGuard, hx', hy', binOp, ib_or]
  · simp [eqGuard, hx', hy', binOp, ib_xor]
  · simp [eqGuard, hx', hy', binOp, ib_andNot]
theorem ex_and32 {p q : BitVec 32} {yt : TypeId} (hx : a.eval x = V32 p) (hy : a.eval y = V32 q) : Ex P a ⟨dst, .binOp .and t x y yt, ty, pos, af, gd⟩ w (V32 (p &&& q)) := ex_bits32 hx hy (.inl ⟨rfl, rfl⟩)
theorem ex_or32 {p q : BitVec 32} {yt : TypeId} (hx : a.eval x = V32 p) (hy : a.eval y = V32 q) : Ex P a ⟨dst, .binOp .or t x y yt, ty, pos, af, gd⟩ w (V32 (p ||| q)) := ex_bits32 hx hy (.inr (.inl ⟨rfl, rfl⟩))
theorem ex_xor32 {p q : BitVec 32} {yt : TypeId} (hx : a.eval x = V32 p) (hy : a.eval y = V32 q) : Ex P a ⟨dst, .binOp .xor t x y yt, ty, pos, af, gd⟩ w (V32 (p ^^^ q)) := ex_bits32 hx hy (.inr (.inr (.inl ⟨rfl, rfl⟩)))
theorem ex_add32 {p q : BitVec 32} {yt : TypeId} (hx : a.eval x = V32 p) (hy : a.eval y = V32 q) : Ex P a ⟨dst, .binOp .add t x y yt, ty, pos, af, gd⟩ w (V32 (p + q)) := by
  unfold Ex execOp
  simp only [V32] at hx hy
  simp [eqGuard, hx, hy, binOp, Op.intArith, V32]
  rw [← Int.natCast_add, wrap32]
  congr 1
theorem ex_not32 {p : BitVec 32} (hx : a.eval x = V32 p) : Ex P a ⟨dst, .unOp .xor t x, ty, pos, af, gd⟩ w (V32 (~~~p)) := by
  have hx' : a.eval x = .int .u32 p.toNat := hx
  have e : Op.unary .xor (.int .u32 p.toNat) = pure (V32 (~~~p)) := by
    have h1 := ib_xor (BitVec.allOnes 32) p
    have h2 : BitVec.allOnes 32 ^^^ p = ~~~p := BitVec.allOnes_xor
    rw [h2] at h1
    exact h1
  unfold Ex execOp
  simp [hx', e]
theorem ex_shl32 {p : BitVec 32} {kk : IntKind} {s : Nat} {yt : TypeId} (hx : a.eval x = V32 p) (hy : a.eval y = .int kk (s : Int)) (hs : s ≤ 32) : Ex P a ⟨dst, .binOp .shl t x y yt, ty, pos, af, gd⟩ w (V32 (p <<< s)) := by
  unfold Ex execOp
  simp only [V32] at hx
  have h0 : ¬ ((s : Int) < 0) := by omega
  simp [eqGuard, hx, hy, binOp, Op.shift, V32, h0, IntKind.bits, Nat.min_eq_left hs]
  have e : (p.toNat : Int) * 2 ^ s = ((p.toNat * 2 ^ s : Nat) : Int) := by simp
  rw [e, wrap32]
  congr 1
  simp [Nat.shiftLeft_eq]
theorem ex_shr32 {p : BitVec 32} {kk : IntKind} {s : Nat} {yt : TypeId} (hx : a.eval x = V32 p) (hy : a.eval y = .int kk (s : Int)) (hs : s ≤ 32) : Ex P a ⟨dst, .binOp .shr t x y yt, ty, pos, af, gd⟩ w (V32 (p >>> s)) := by
  unfold Ex execOp
  simp only [V32] at hx
  have h0 : ¬ ((s : Int) < 0) := by omega
  simp [eqGuard, hx, hy, binOp, Op.shift, V32, h0, IntKind.bits, Nat.min_eq_left hs]
  rw [Int.shiftRight_eq_div_pow]
  simp
/-- A shift of a number. -/
theorem ex_shrI {kk kx : IntKind} {mi : Int} {s : Nat} {yt : TypeId} (hx : a.eval x = .int kx mi) (hy : a.eval y = .int kk (s : Int)) (hs : s ≤ kx.bits) : Ex P a ⟨dst, .binOp .shr t x y yt, ty, pos, af, gd⟩ w (.int kx (mi / 2 ^ s)) := by
  unfold Ex execOp
  have h0 : ¬ ((s : Int) < 0) := by omega
  simp [eqGuard, hx, hy, binOp, Op.shift, h0, Nat.min_eq_left hs]
  rw [Int.fdiv_eq_ediv_of_nonneg _ (Int.le_of_lt (Int.pow_pos (by omega)))]
theorem ex_shlI {kk kx : IntKind} {mi r : Int} {s : Nat} {yt : TypeId} (hx : a.eval x = .int kx mi) (hy : a.eval y = .int kk (s : Int)) (hs : s ≤ kx.bits) (hr : kx.wrap (mi * 2 ^ s) = r) : Ex P a ⟨dst, .binOp .shl t x y yt, ty, pos, af, gd⟩ w (.int kx r) := by
  subst hr
  unfold Ex execOp
  have h0 : ¬ ((s : Int) < 0) := by omega
  simp [eqGuard, hx, hy, binOp, Op.shift, h0, Nat.min_eq_left hs]
theorem ex_conv8_32 {src dk : TypeId} {c : UInt8} {bb : Bool} (hx : a.eval x = byteV c) (hu : intB P dk = some .u32) (hus : kindB P src = some bb) : Ex P a ⟨dst, .convert src dk x, ty, pos, af, gd⟩ w (V32 (BitVec.ofNat 32 c.toNat)) := by
  refine ex_convII (z := c.toNat) hx hu hus ?_
  rw [wrap32]
theorem ex_conv32_8 {src dk : TypeId} {p : BitVec 32} {bb : Bool} (hx : a.eval x = V32 p) (hu : intB P dk = some .u8) (hus : kindB P src = some bb) : Ex P a ⟨dst, .convert src dk x, ty, pos, af, gd⟩ w (byteV (UInt8.ofNat p.toNat)) := by
  refine ex_convII (z := p.toNat) hx hu hus ?_
  simp [IntKind.wrap, IntKind.bits, IntKind.signed]
theorem ex_convI8 {src dk : TypeId} {kx : IntKind} {mi : Nat} {bb : Bool} (hx : a.eval x = .int kx (mi : Int)) (hu : intB P dk = some .u8) (hus : kindB P src = some bb) : Ex P a ⟨dst, .convert src dk x, ty, pos, af, gd⟩ w (byteV (UInt8.ofNat mi)) := by
  refine ex_convII (z := mi) hx hu hus ?_
  simp [IntKind.wrap, IntKind.bits, IntKind.signed]
theorem rot31 (n : Nat) (h : 1 ≤ n ∧ n ≤ 31) : IntKind.u64.wrap (((BitVec.ofInt 64 (IntKind.u64.wrap (-(n : Int))) &&& BitVec.ofInt 64 31).toNat : Nat) : Int) = ((32 - n : Nat) : Int) := by
  have key : ∀ n : Fin 32, 1 ≤ n.val → IntKind.u64.wrap (((BitVec.ofInt 64 (IntKind.u64.wrap (-(n.val : Int))) &&& BitVec.ofInt 64 31).toNat : Nat) : Int) = ((32 - n.val : Nat) : Int) := by decide +kernel
  exact key ⟨n, by omega⟩ h.1
/-- 'uint(-n) & 31' -/
theorem ex_rot31 {s : Nat} {yt : TypeId} (hx : a.eval x = .int .u64 (IntKind.u64.wrap (-(s : Int)))) (hy : a.eval y = .int .u64 31) (h : 1 ≤ s ∧ s ≤ 31) : Ex P a ⟨dst, .binOp .and t x y yt, ty, pos, af, gd⟩ w (.int .u64 ((32 - s : Nat) : Int)) := by
  have e : Op.intBits .and .u64 (IntKind.u64.wrap (-(s : Int))) 31 = pure (.int .u64 ((32 - s : Nat) : Int)) := by
    rw [← rot31 s h]; rfl
  unfold Ex execOp
  simp [eqGuard, hx, hy, binOp, e]
/-- 'v<<8 | c' -/
theorem ex_orByte {v c : Nat} {yt : TypeId} (hx : a.eval x = .int .i64 ((v * 256 : Nat) : Int)) (hy : a.eval y = .int .i64 (c : Int)) (hv : v < 2 ^ 40) (hc : c < 256) : Ex P a ⟨dst, .binOp .or t x y yt, ty, pos, af, gd⟩ w (.int .i64 ((v * 256 + c : Nat) : Int)) := by
  have e : Op.intBits .or .i64 ((v * 256 : Nat) : Int) (c : Int) = pure (.int .i64 ((v * 256 + c : Nat) : Int)) := by
    have h1 : (BitVec.ofInt 64 ((v * 256 : Nat) : Int) ||| BitVec.ofInt 64 (c : Int)).toNat = v * 256 + c := by
      rw [BitVec.ofInt_natCast, BitVec.ofInt_natCast, BitVec.toNat_or, BitVec.toNat_ofNat, BitVec.toNat_ofNat, Nat.mod_eq_of_lt (by omega), Nat.mod_eq_of_lt (by omega)]
      have h2 := Nat.shiftLeft_add_eq_or_of_lt (b := c) (i := 8) (by omega) v
      rw [Nat.shiftLeft_eq] at h2
      exact h2.symm
    show pure (Value.int .i64 (IntKind.i64.wrap ((BitVec.ofInt 64 ((v * 256 : Nat) : Int) ||| BitVec.ofInt 64 (c : Int)).toNat : Int))) = _
    rw [h1, IntWalk.i64_in _ (by omega)]
  unfold Ex execOp
  simp only [eqGuard, hx, hy, binOp, e]
  rfl
theorem ex_neg {kx : IntKind} {mi r : Int} (hx : a.eval x = .int kx mi) (hr : kx.wrap (0 - mi) = r) : Ex P a ⟨dst, .unOp .neg t x, ty, pos, af, gd⟩ w (.int kx r) := by
  subst hr
  unfold Ex execOp
  simp [hx, Op.unary, Op.intArith]
end
end Go.SL

/- Struct literals whose fields are one cell each, in order: the value is the list itself. -/
namespace Go.SL
open Go.RowKit
def Ones (a : Act) (place : Nat → Option (Nat × Nat)) : Nat → List (Nat × Operand) → List Value → Prop
  | _, [], vs => vs = []
  | k, (i, x) :: r, vs => ∃ v u, vs = v :: u ∧ place i = some (k, 1) ∧ a.eval x = v ∧ v.oneCell' = true ∧ Ones a place (k + 1) r u
theorem Ones.nil {a : Act} {place : Nat → Option (Nat × Nat)} {k : Nat} : Ones a place k [] [] := rfl
theorem Ones.cons {a : Act} {place : Nat → Option (Nat × Nat)} {k i : Nat} {x : Operand} {r : List (Nat × Operand)} {v : Value} {u : List Value}
    (h1 : place i = some (k, 1)) (h2 : a.eval x = v) (h3 : v.oneCell' = true) (h4 : Ones a place (k + 1) r u) : Ones a place k ((i, x) :: r) (v :: u) := ⟨v, u, rfl, h1, h2, h3, h4⟩
theorem Ones.fills {a : Act} {place : Nat → Option (Nat × Nat)} : ∀ {parts : List (Nat × Operand)} {pre zs vs : List Value}, Ones a place pre.length parts vs → zs.length = vs.length →
    Fills a place parts (pre ++ zs) (pre ++ vs) := by
  intro parts
  induction parts with
  | nil => intro pre zs vs h hl; cases h; cases List.eq_nil_of_length_eq_zero hl; rfl
  | cons q parts ih =>
    obtain ⟨i, x⟩ := q
    intro pre zs vs h hl
    obtain ⟨v, u, rfl, h1, h2, h3, h4⟩ := h
    match zs, hl with
    | z :: zs, hl =>
      refine ⟨pre.length, 1, v, [v], h1, h2, cellsL1 h3, rfl, by simp, ?_⟩
      have e : splice (pre ++ z :: zs) pre.length [v] = (pre ++ [v]) ++ zs := by simp [splice]
      rw [e]
      have := ih (pre := pre ++ [v]) (zs := zs) (vs := u) (by simpa using h4) (by simpa using hl)
      simpa using this
theorem Ones.run {a : Act} {place : Nat → Option (Nat × Nat)} {parts : List (Nat × Operand)} {zs vs : List Value} (h : Ones a place 0 parts vs) (hl : zs.length = vs.length) : Fills a place parts zs vs :=
  Ones.fills (pre := []) h hl
end Go.SL

/- A slice made with room: its spare cells are known. -/
namespace Go.SL
open Go.RowKit
section
variable {P : Program} {w w' : World} {I J : Gh} {L M : List Ch} {b b' : Nat} {E : TypeId} {cs xs ys news : List Value} {v u : Value} {n m k sz cap : Nat} {p : Addr}
variable {a : Act} {K : Act → World → Prop} {Q : Exit → Act → World → Prop} {dst : Option Tmp} {x y z : Operand} {t ty : TypeId} {pos : String} {af : Array Edge} {gd : Option (Nat × Bool)}
theorem wp_makeCap {el : TypeId} {zs : List Value} {by_ : Nat} {kl kc : IntKind} {ln cp : Int} (n cap : Nat) (hx : a.eval x = .int kl ln) (hy : a.eval y = .int kc cp) (hu : sliceB P t = some el) (hs : sizeB P el = some sz) (hb : bytesB P el = some by_) (hz : zeroB P el = some zs)
    (hS : Sat w I L) (hn : ln = (n : Int)) (hc : cp = (cap : Int)) (hnc : n ≤ cap) (hbn : (by_ : Int) * cap ≤ 281474976710656) (hm : (cap : Int) ≤ 9223372036854775807) (hzl : (zs.length == sz) = true)
    (h : ∀ b w', Sat w' I (Cells b el (SL.rep cap zs) :: L) → K (a.put dst (.slice (some ⟨b, 0, none⟩) n cap)) w') :
    Oper.wp P ⟨dst, .makeSlice t x y, ty, pos, af, gd⟩ a w K Q := by
  subst hn; subst hc
  unfold sliceB at hu
  split at hu
  case h_2 => cases hu
  rename_i el' he
  injection hu with hu; subst hu
  unfold sizeB at hs
  unfold bytesB at hb
  unfold zeroB at hz
  cases hi : P.info? el' with
  | none => rw [hi] at hs; cases hs
  | some i =>
    rw [hi] at hs hb hz
    simp only [Option.map_some, Option.some.injEq, Option.bind_some] at hs hb hz
    cases hzz : i.zero with
    | none => rw [hzz] at hz; cases hz
    | some zv =>
      rw [hzz] at hz
      simp only [Option.map_some, Option.some.injEq] at hz
      simp only [beq_iff_eq] at hzl
      have hr := run_make (P := P) w t el' i zv he hi hzz kl kc n cap (by omega) (by omega) (by rw [hb]; exact hbn) hm
      have hcells : madeCells zv.cells ((cap : Int).toNat * i.size) = (SL.rep cap zs).toArray := by
        apply Array.ext'
        have := rep_cells zv.cells cap
        have hsz : zv.cells.size = sz := by rw [← hzl, ← hz]; simp
        rw [hsz] at this
        simp only [madeCells, Int.toNat_natCast, hs, hsz]
        rw [this, hz]
      rw [hcells] at hr
      simp only [Int.toNat_natCast] at hr
      have hnew := h w.heap.size _ (hS.alloc (.cells (SL.rep cap zs).toArray el'))
      unfold Oper.wp execOp
      simp only [hx, hy, Sem.run_bind, hr, Result.andThen_ok, Sem.run_pure]
      exact hnew
theorem wp_appendRoom {rep : Ch → List Ch} (hx : a.eval x = .slice (some ⟨b, 0, none⟩) n cap) (hy : a.eval y = u) (hu : sliceB P t = some E) (hs : sizeB P E = some 1)
    (hS : Sat w I L) [hi : HasCells L b E cs rep] (hc : cs.length = cap) (hsrc : Src w u m 1 news) (hroom : n + m ≤ cap)
    (h : ∀ w', Sat w' I (rep (Cells b E (splice cs n news))) → K (a.put dst (.slice (some ⟨b, 0, none⟩) (n + m) cap)) w') :
    Oper.wp P ⟨dst, .call ⟨.builtin .append, #[x, y], #[t, t]⟩, ty, pos, af, gd⟩ a w K Q := by
  have hus := hs
  unfold sliceB at hu
  split at hu
  case h_2 => cases hu
  rename_i el' he
  injection hu with hu; subst hu
  have hml : news.length = m := by simpa using hsrc.len
  have run : ∃ w', (Builtin.append_ #[t, t] ty #[.slice (some ⟨b, 0, none⟩) n cap, u]).run P w = .ok (.slice (some ⟨b, 0, none⟩) (n + m) cap) w' ∧ Sat w' I (rep (Cells b el' (splice cs n news))) := by
    obtain ⟨ai, cu, hue, hcu, hnone⟩ := hsrc.is.ex
    rcases Nat.eq_zero_or_pos m with h0 | h0
    · subst h0
      have hn0 : news = [] := List.eq_nil_of_length_eq_zero hml
      subst hn0
      refine ⟨w, by rw [hue]; exact run_append_zero he hus (by omega), ?_⟩
      obtain ⟨i, hi, e⟩ := hi.has
      have es : splice cs n [] = cs := by simp [splice]
      rw [es, e, set_same hi]
      exact hS
    · have hne : ai ≠ none := fun e => by have := hnone e; omega
      obtain ⟨ad, rfl⟩ := Option.ne_none_iff_exists'.1 hne
      have hrd := hsrc.rd _ _ _ hue
      unfold sizeB at hs
      cases hin : P.info? el' with
      | none => rw [hin] at hs; cases hs
      | some i =>
        rw [hin] at hs
        simp only [Option.map_some, Option.some.injEq] at hs
        have hr := run_append_room (P := P) w t ty el' i he hin b n cap cs.toArray (hS.blkH (hi := hi)) ad m cu news (by rw [hs]; simpa using hml) hrd hsrc.oc hroom (by rw [hs, Nat.mul_one, hml]; simp only [List.size_toArray]; omega)
        rw [hs, Nat.mul_one] at hr
        rw [hue]
        exact ⟨_, hr, hS.setRow _⟩
  obtain ⟨w', hr, h1⟩ := run
  unfold Oper.wp execOp
  simp only [resolve, invoke, builtin, Sem.run_bind, Sem.run_pure, Result.andThen_ok, List.map_toArray, List.map_cons, List.map_nil, hx, hy, hr]
  exact h w' h1
end
end Go.SL
namespace Go.SL
open Go.RowKit
section
variable {P : Program} {w w' : World} {I J : Gh} {L M : List Ch} {b b' : Nat} {E : TypeId} {cs ds xs ys news : List Value} {v u : Value} {n m k sz cap : Nat} {p : Addr}
variable {a : Act} {K : Act → World → Prop} {Q : Exit → Act → World → Prop} {dst : Option Tmp} {x y z : Operand} {t ty : TypeId} {pos : String} {af : Array Edge} {gd : Option (Nat × Bool)}
theorem wp_appendRoomTo {rep : Ch → List Ch} (hx : a.eval x = .slice (some ⟨b, 0, none⟩) n cap) (hy : a.eval y = u) (hu : sliceB P t = some E) (hs : sizeB P E = some 1)
    (hS : Sat w I L) [hi : HasCells L b E cs rep] (hc : cs.length = cap) (hsrc : Src w u m 1 news) (hroom : n + m ≤ cap) (hd : splice cs n news = ds)
    (h : ∀ w', Sat w' I (rep (Cells b E ds)) → K (a.put dst (.slice (some ⟨b, 0, none⟩) (n + m) cap)) w') :
    Oper.wp P ⟨dst, .call ⟨.builtin .append, #[x, y], #[t, t]⟩, ty, pos, af, gd⟩ a w K Q := by
  subst hd
  exact wp_appendRoom hx hy hu hs hS hc hsrc hroom h
end
end Go.SL

/- Elements of array values; copying into slices; comparisons. -/
set_option linter.unusedVariables false
set_option linter.unusedSimpArgs false
namespace Go.SL
open Go.RowKit
section
variable {P : Program} {w w' : World} {I J : Gh} {L M : List Ch} {v u : Value} {n m k sz : Nat} {cs : List Value}
variable {a : Act} {K : Act → World → Prop} {Q : Exit → Act → World → Prop} {dst : Option Tmp} {x y z : Operand} {t ty : TypeId} {pos : String} {af : Array Edge} {gd : Option (Nat × Bool)}
/-- A region that draws its order; only the chunks after the first are held still. -/
theorem wp_region_GS1 {id : Nat} {ops : Array Oper} {c : Ch} (n : Nat) (A : Nat → Bool) (hm : P.follows .mixedOrders = true) (hn : ops.size = n) (hS : Sat w I (c :: L))
    (h : ∀ w', Sat w' I (c :: L) → wpG P ops Q A (fun w => ∃ X, Sat w I (X ++ L)) n (Array.replicate n false) a w') : (Code.region id ops true).wp P Q a w := by
  refine wp_region_G A (fun w => ∃ X, Sat w I (X ++ L)) hm ?_
  rw [hn]
  exact h _ hS.drew
/-- An element of an array's value, one cell. -/
theorem ex_indexA {el : TypeId} {kk : IntKind} {ix : Int} (hx : a.eval x = .agg cs.toArray) (hy : a.eval y = .int kk ix) (hu : arrayB P t = some (n, el)) (hs : sizeB P el = some 1) (hk : kindB P el = some false) (h0 : 0 ≤ ix) (hn : ix < n) (hc : cs[ix.toNat]? = some v) :
    Ex P a ⟨dst, .index t x y, ty, pos, af, gd⟩ w v := by
  unfold arrayB at hu
  split at hu
  case h_2 => cases hu
  rename_i n' el' he
  injection hu with hu; injection hu with e1 e2; subst e1; subst e2
  unfold Ex execOp
  simp [Instr.index, asIntOf, hx, hy, run_underlying he, h0, hn, run_sizeOf hs, part, run_isAgg hk, hc]
/-- An element of an array's value, several cells. -/
theorem ex_indexAN {el : TypeId} {kk : IntKind} {ix : Int} {vs : List Value} (hx : a.eval x = .agg cs.toArray) (hy : a.eval y = .int kk ix) (hu : arrayB P t = some (n, el)) (hs : sizeB P el = some sz) (hk : kindB P el = some true) (h0 : 0 ≤ ix) (hn : ix < n) (hc : sub cs (ix.toNat * sz) sz = vs) :
    Ex P a ⟨dst, .index t x y, ty, pos, af, gd⟩ w (.agg vs.toArray) := by
  unfold arrayB at hu
  split at hu
  case h_2 => cases hu
  rename_i n' el' he
  injection hu with hu; injection hu with e1 e2; subst e1; subst e2
  unfold Ex execOp
  subst hc
  simp [Instr.index, asIntOf, hx, hy, run_underlying he, h0, hn, run_sizeOf hs, part, run_isAgg hk, sub, List.extract_eq_take_drop]
theorem ex_min2r {kk : IntKind} {mi ni r : Int} {at_ : Array TypeId} (hx : a.eval x = .int kk mi) (hy : a.eval y = .int kk ni) (hr : (if ni < mi then ni else mi) = r) : Ex P a ⟨dst, .call ⟨.builtin .min, #[x, y], at_⟩, ty, pos, af, gd⟩ w (.int kk r) := by
  subst hr
  exact ex_min2 hx hy
/-- A slice made longer again, up to its capacity. -/
theorem ex_sliceCap {el : TypeId} {k2 : IntKind} {hi' : Int} {p : Addr} {cap : Nat} (hx : a.eval x = .slice (some p) n cap) (hz : a.eval z = .int k2 hi') (hu : sliceB P t = some el) (hs : sizeB P el = some sz) (h1 : 0 ≤ hi') (h2 : hi' ≤ cap) (h3 : 0 < cap) :
    Ex P a ⟨dst, .slice t x none (some z) none, ty, pos, af, gd⟩ w (.slice (some p) hi'.toNat cap) := by
  unfold sliceB at hu
  split at hu
  case h_2 => cases hu
  rename_i el' hu'
  injection hu with hu; subst hu
  unfold Ex execOp
  have e1 : (Instr.sliceBound (.int k2 hi') cap .sliceAcap).run P w = .ok hi'.toNat w := run_sliceBound (by omega) (by omega)
  have h3' : ¬ cap = 0 := by omega
  simp [Instr.sliceAt, Instr.slice, run_underlying hu', hx, hz, Instr.sliceBounds, e1, run_sizeOf hs, h3', Addr.add_zero']
/-- 'copy' of a whole shorter block to the start of another. -/
theorem wp_copyB {el : TypeId} {b b' : Nat} {E : TypeId} {rep rep2 : Ch → List Ch} {dT sT : TypeId} {ds : List Value} {E2 : TypeId} {c1 c2 : Nat} (hx : a.eval x = .slice (some ⟨b, 0, none⟩) n c1) (hy : a.eval y = .slice (some ⟨b', 0, none⟩) m c2) (hu : sliceB P dT = some el) (hs : sizeB P el = some 1)
    (hS : Sat w I L) [hi : HasCells L b E cs rep] [hj : HasCells L b' E2 ds rep2] (h0 : m ≤ n) (h1 : n ≤ cs.length) (h2 : ds.length = m) (ho : Oc ds)
    (h : ∀ w', Sat w' I (rep (Cells b E (ds ++ cs.drop m))) → K (a.put dst (.int .i64 m)) w') :
    Oper.wp P ⟨dst, .call ⟨.builtin .copy, #[x, y], #[dT, sT]⟩, ty, pos, af, gd⟩ a w K Q := by
  unfold sliceB at hu
  split at hu
  case h_2 => cases hu
  rename_i el' hu'
  injection hu with hu; subst hu
  have hrd := Rd.of_block (k := 0) (hS.blkH (hi := hj))
  rw [List.drop_zero] at hrd
  have hr := run_copy_row (P := P) w dT sT ty el' b 0 n c1 ⟨b', 0, none⟩ m c2 cs.toArray E ds hu' hs (hS.blkH (hi := hi)) (by rw [h2]; exact (Nat.min_eq_left h0).symm) hrd (by rw [h2]; simp; omega) ho
  rw [h2] at hr
  simp only [Nat.zero_add, List.take_zero, List.nil_append] at hr
  have := h _ (hS.setRow (hi := hi) (ds ++ cs.drop m))
  unfold Oper.wp execOp
  simp only [resolve, invoke, builtin, Sem.run_bind, Sem.run_pure, Result.andThen_ok, List.map_toArray, List.map_cons, List.map_nil, hx, hy, hr]
  exact this
/-- A shift of a natural number. -/
theorem ex_shrN {kk kx : IntKind} {mi s : Nat} {yt : TypeId} (hx : a.eval x = .int kx (mi : Int)) (hy : a.eval y = .int kk (s : Int)) (hs : s ≤ kx.bits) : Ex P a ⟨dst, .binOp .shr t x y yt, ty, pos, af, gd⟩ w (.int kx ((mi / 2 ^ s : Nat) : Int)) := by
  have := ex_shrI (P := P) (a := a) (dst := dst) (t := t) (ty := ty) (pos := pos) (af := af) (gd := gd) (w := w) (yt := yt) hx hy hs
  simpa using this
end
/-! literals whose parts fill the whole value, in order -/
def Seqs (a : Act) (place : Nat → Option (Nat × Nat)) : Nat → List (Nat × Operand) → List Value → Prop
  | _, [], vs => vs = []
  | k, (i, x) :: r, vs => ∃ v cs u, vs = cs ++ u ∧ place i = some (k, cs.length) ∧ a.eval x = v ∧ v.cells.toList = cs ∧ Seqs a place (k + cs.length) r u
theorem Seqs.nil {a : Act} {place : Nat → Option (Nat × Nat)} {k : Nat} : Seqs a place k [] [] := rfl
theorem Seqs.cons {a : Act} {place : Nat → Option (Nat × Nat)} {k i : Nat} {x : Operand} {r : List (Nat × Operand)} {v : Value} {cs u : List Value}
    (h1 : place i = some (k, cs.length)) (h2 : a.eval x = v) (h3 : v.cells.toList = cs) (h4 : Seqs a place (k + cs.length) r u) : Seqs a place k ((i, x) :: r) (cs ++ u) := ⟨v, cs, u, rfl, h1, h2, h3, h4⟩
theorem Seqs.fills {a : Act} {place : Nat → Option (Nat × Nat)} : ∀ {parts : List (Nat × Operand)} {pre zs vs : List Value}, Seqs a place pre.length parts vs → zs.length = vs.length →
    Fills a place parts (pre ++ zs) (pre ++ vs) := by
  intro parts
  induction parts with
  | nil => intro pre zs vs h hl; cases h; cases List.eq_nil_of_length_eq_zero hl; rfl
  | cons q parts ih =>
    obtain ⟨i, x⟩ := q
    intro pre zs vs h hl
    obtain ⟨v, cs, u, rfl, h1, h2, h3, h4⟩ := h
    refine ⟨pre.length, cs.length, v, cs, h1, h2, h3, rfl, by simp at hl ⊢; omega, ?_⟩
    have e : splice (pre ++ zs) pre.length cs = (pre ++ cs) ++ zs.drop cs.length := by simp [splice]
    rw [e]
    have := ih (pre := pre ++ cs) (zs := zs.drop cs.length) (vs := u) (by simpa using h4) (by simp at hl ⊢; omega)
    simpa using this
theorem Seqs.run {a : Act} {place : Nat → Option (Nat × Nat)} {parts : List (Nat × Operand)} {zs vs : List Value} (h : Seqs a place 0 parts vs) (hl : zs.length = vs.length) : Fills a place parts zs vs :=
  Seqs.fills (pre := []) h hl
theorem Seqs.two {a : Act} {place : Nat → Option (Nat × Nat)} {k i : Nat} {x : Operand} {r : List (Nat × Operand)} {v y1 y2 : Value} {u : List Value}
    (h1 : place i = some (k, 2)) (h2 : a.eval x = v) (h3 : v.cells.toList = [y1, y2]) (h4 : Seqs a place (k + 2) r u) : Seqs a place k ((i, x) :: r) (y1 :: y2 :: u) := ⟨v, [y1, y2], u, rfl, h1, h2, h3, h4⟩
end Go.SL

/- Several ways through a piece of code, brought together. -/
namespace Go.SL
section
variable {P : Program} {w w' : World} {Q : Exit → Act → World → Prop}
def JnQ (ms : List Bool) (l : List Value) (ds : List Deferred) (R : (Nat → Value) → World → Prop) : Exit → Act → World → Prop
  | .normal, a', w' => ∃ f, a' = ⟨(havoc ms l f 0).toArray, ds⟩ ∧ R f w'
  | _, _, _ => False
theorem wp_join {c : Code} {l : List Value} {ds : List Deferred} (ms : List Bool) (R : (Nat → Value) → World → Prop)
    (h : c.wp P (JnQ ms l ds R) ⟨l.toArray, ds⟩ w)
    (k : ∀ f w, R f w → Q .normal ⟨(havoc ms l f 0).toArray, ds⟩ w) : c.wp P Q ⟨l.toArray, ds⟩ w := by
  refine Code.wp_mono ?_ h
  intro e a' w' hj
  cases e with
  | normal => obtain ⟨f, rfl, hR⟩ := hj; exact k f w' hR
  | _ => exact hj.elim
theorem joinEnd {l l' : List Value} {ds : List Deferred} {ms : List Bool} {R : (Nat → Value) → World → Prop} (hl : havoc ms l (nth l') 0 = l') (hR : R (nth l') w) :
    JnQ ms l ds R .normal ⟨l'.toArray, ds⟩ w := ⟨nth l', by rw [hl], hR⟩
end
end Go.SL

/- Calls that leave the world as it is may be taken first, as readings may. -/
set_option linter.unusedVariables false
set_option linter.unusedSimpArgs false
namespace Go.SL
open Go.RowKit
section
variable {P : Program} {ops : Array Oper} {Q : Exit → Act → World → Prop} {G : World → Prop} {A : Nat → Bool}
def YieldsC (P : Program) (ops : Array Oper) (G : World → Prop) (o : Oper) (v : Value) (a : Act) : Prop :=
  Region.wanted o (yielded ops a.tmps) = true ∧ ∃ f vs, (∀ w, (execOp a.eval o).run P w = .ok (.enter f vs) w) ∧ ∀ w, G w → Calls P f vs w (fun e w' => e = .returned v ∧ w' = w)
theorem YieldsC.wpOp {i : Nat} {o : Oper} {v : Value} {a : Act} (hi : ops[i]? = some o) (hy : YieldsC P ops G o v a)
    {K : Act → World → Prop} {w : World} (hw : G w) (h : K (a.put o.dst v) w) : wpOp P ops Q i K a w := by
  obtain ⟨hq, f, vs, hr, hc⟩ := hy
  unfold Go.wpOp
  simp only [hi, hq, if_true]
  refine .inl ?_
  unfold Oper.wp
  rw [hr w]
  refine Calls.mono (hc w hw) ?_
  rintro e w' ⟨rfl, rfl⟩
  exact h
theorem YieldsC.of_same {o : Oper} {v : Value} {a a' : Act} (hy : YieldsC P ops G o v a) (he : execOp a'.eval o = execOp a.eval o)
    (hw : Region.wanted o (yielded ops a'.tmps) = Region.wanted o (yielded ops a.tmps)) : YieldsC P ops G o v a' := by
  unfold YieldsC at *
  rw [he, hw]
  exact hy
theorem wpOp_putC {j : Nat} {oi oj : Oper} {v : Value} (hj : ops[j]? = some oj) (hap : oi.apart ops oj = true)
    (hsi : ∀ cs b, oi.op ≠ .select cs b) (hsj : ∀ cs b, oj.op ≠ .select cs b)
    (hQ : ∀ c a w, Q (.panic c) (a.put oi.dst v) w → Q (.panic c) a w) {K : Act → World → Prop} {a : Act} {w : World}
    (hy : YieldsC P ops G oi v a) (h : wpOp P ops Q j K (a.put oi.dst v) w) :
    wpOp P ops Q j (fun a' w' => YieldsC P ops G oi v a' ∧ K (a'.put oi.dst v) w') a w := by
  obtain ⟨h1, h2, h3⟩ := Oper.apart_spec hap
  have keep : ∀ (a : Act), YieldsC P ops G oi v a → ∀ u, YieldsC P ops G oi v (a.put oj.dst u) := fun a hy u =>
    hy.of_same (execOp_put oi hsi a oj.dst u h3) (wanted_put oi a oj.dst u h3)
  have keepD : ∀ d, YieldsC P ops G oi v { a with defers := d :: a.defers } := fun d => hy.of_same rfl rfl
  unfold wpOp at h ⊢
  simp only [hj] at h ⊢
  rw [wanted_put oj a oi.dst v h1] at h
  by_cases hw : Region.wanted oj (yielded ops a.tmps) = true
  · rw [if_pos hw] at h ⊢
    rcases h with h | ⟨hasks, hlets⟩
    · refine .inl ?_
      unfold Oper.wp at h ⊢
      rw [execOp_put oj hsj a oi.dst v h1] at h
      generalize (execOp a.eval oj).run P w = r at h ⊢
      cases r with
      | ok n w' =>
        cases n with
        | value u => exact ⟨keep a hy u, by rw [← Act.put_comm a v u h2]; exact h⟩
        | skip => exact ⟨keep a hy _, by rw [← Act.put_comm a v undef h2]; exact h⟩
        | defer d => exact ⟨keep _ (keepD d) _, by rw [← Act.put_comm _ v undef h2, ← Act.put_defers]; exact h⟩
        | enter f args =>
          exact Calls.mono h fun e w'' he => by
            cases e with
            | returned u => exact ⟨keep a hy u, by rw [← Act.put_comm a v u h2]; exact he⟩
            | panicked c => exact hQ _ _ _ he
            | outgrown => exact he
        | row row args => exact Rows.mono h fun u w'' he => ⟨keep a hy u, by rw [← Act.put_comm a v u h2]; exact he⟩
        | _ => exact h.elim
      | halt x w' =>
        cases x with
        | panic u => exact hQ _ _ _ h
        | _ => exact h.elim
    · exact .inr ⟨by unfold Oper.asks at hasks ⊢; rw [execOp_put oj hsj a oi.dst v h1] at hasks; exact hasks, hlets⟩
  · rw [if_neg hw] at h ⊢
    exact ⟨keep a hy _, by rw [← Act.put_comm a v undef h2]; exact h⟩

theorem wpG_firstC {i : Nat} {oi : Oper} {v : Value} {S : Nat → Bool} {B : Bool} (hi : ops[i]? = some oi) (hsel : ∀ (j : Nat) (o : Oper) cs b, ops[j]? = some o → o.op ≠ .select cs b)
    (hQ : ∀ c a w, Q (.panic c) (a.put oi.dst v) w → Q (.panic c) a w) :
    ∀ (fuel : Nat) (listed : Array Bool) (a : Act) (w : World), Ahead A S B ops listed i oi →
      i ∈ Region.ready .any ops listed → (B = true ∨ G w) → YieldsC P ops (fun w => B = true ∨ G w) oi v a →
      wpG P ops Q A G fuel (listed.setIfInBounds i true) (a.put oi.dst v) w → wpG P ops Q A G (fuel + 1) listed a w := by
  intro fuel
  induction fuel with
  | zero =>
    intro listed a w _ hr hG hy H
    refine ⟨fun h => (by rw [h] at hr; cases hr), fun j hj => ?_⟩
    by_cases hji : j = i
    · subst hji; exact hy.wpOp hi hG ⟨fun _ h => h, H⟩
    · have := ready_mono hj hji
      rw [H.1] at this
      cases this
  | succ fuel ih =>
    intro listed a w hfree hr hG hy H
    refine ⟨fun h => (by rw [h] at hr; cases hr), fun j hj => ?_⟩
    by_cases hji : j = i
    · subst hji; exact hy.wpOp hi hG ⟨fun _ h => h, H⟩
    · have h1 := H.2 j (ready_mono hj hji)
      obtain ⟨hjun, oj, hoj, hall⟩ := mem_ready.1 hj
      obtain ⟨hSj, hap, hA⟩ := hfree j oj hoj hji hjun (fun e he hb => .inl (hall e he hb))
      have h2 := wpOp_putC hoj hap (fun cs b => hsel i oi cs b hi) (fun cs b => hsel j oj cs b hoj) hQ hy h1
      refine wpOp_mono (fun a' w' h3 => ⟨h3.2.1, ih (listed.setIfInBounds j true) a' w' (hfree.step hSj) (ready_mono hr (Ne.symm hji)) ?_ h3.1 ?_⟩) h2
      · rcases hA with hB | hA
        · exact .inl hB
        · exact hG.imp id (h3.2.1 hA)
      · rw [Array.setIfInBounds_comm _ _ hji]
        exact h3.2.2

theorem wpG_takeC {i : Nat} {oi : Oper} {v : Value} {fuel : Nat} {listed : Array Bool} {a : Act} {w : World} (S : Nat → Bool) (B : Bool)
    (hf : freeG A S B ops listed i = true) (hi : ops[i]? = some oi)
    (hQ : ∀ c a w, Q (.panic c) (a.put oi.dst v) w → Q (.panic c) a w) (hG : B = true ∨ G w) (hy : YieldsC P ops (fun w => B = true ∨ G w) oi v a)
    (h : wpG P ops Q A G fuel (listed.setIfInBounds i true) (a.put oi.dst v) w) : wpG P ops Q A G (fuel + 1) listed a w := by
  unfold freeG at hf
  simp only [Bool.and_eq_true, hi] at hf
  obtain ⟨⟨hr, hs⟩, hall⟩ := hf
  refine wpG_firstC (S := S) hi (Region.noSelect_spec hs) hQ fuel listed a w ?_ (by simpa using hr) hG hy h
  intro j oj hj hne hun hdep
  simp only [List.all_eq_true, List.mem_range] at hall
  have h1 := hall j (Array.getElem?_eq_some_iff.1 hj).1
  simp only [hj, Bool.or_eq_true, beq_iff_eq, hne, false_or, hun, Bool.false_eq_true, Bool.and_eq_true] at h1
  rcases h1 with h1 | h1
  · exfalso
    obtain ⟨e, he, hb⟩ := Array.any_eq_true'.1 h1
    simp only [Bool.and_eq_true, Bool.not_eq_true'] at hb
    rcases hdep e he hb.1.1 with h | h
    · rw [h] at hb; cases hb.1.2
    · rw [h] at hb; cases hb.2
  · exact ⟨h1.1.1, h1.1.2, h1.2⟩

variable {q : Oper} {l l' : List Value} {e : Nat} {v : Value} {ds : List Deferred} {I : Gh} {L : List Ch} {fuel : Nat} {listed : Array Bool} {w : World}
theorem wg_call (i : Nat) {M : List Ch} [ht : HasTail M L] (hS : Sat w I M) (hf : freeG A (fun j => (aheadOf ops listed i).getD j false) false ops listed i = true) (hi : ops[i]? = some q) (hd : q.dst = some e)
    (hQ : ∀ c a w, Q (.panic c) (a.put (some e) v) w → Q (.panic c) a w) (hw : Region.wanted q (yielded ops l.toArray) = true)
    {f : FuncId} {vs : Array Value} (hr : ∀ w, (execOp (Act.eval ⟨l.toArray, ds⟩) q).run P w = .ok (.enter f vs) w) (hx : ∀ w X, Sat w I (X ++ L) → Calls P f vs w (fun e w' => e = .returned v ∧ w' = w)) (hl : lset l e v = l')
    (h : wpG P ops Q A (fun w => ∃ X, Sat w I (X ++ L)) fuel (listed.setIfInBounds i true) ⟨l'.toArray, ds⟩ w) : wpG P ops Q A (fun w => ∃ X, Sat w I (X ++ L)) (fuel + 1) listed ⟨l.toArray, ds⟩ w := by
  obtain ⟨X, e1⟩ := ht.has
  refine wpG_takeC (v := v) _ false hf hi (by rw [hd]; exact hQ) (.inr ⟨X, e1 ▸ hS⟩) ⟨hw, f, vs, hr, fun w hg => ?_⟩ ?_
  · obtain ⟨X, hX⟩ := hg.resolve_left (by simp)
    exact hx w X hX
  rw [hd, put_lit, hl]
  exact h
/-- What a call of a Go function enters. -/
theorem enters {a : Act} {dst : Option Tmp} {ty : TypeId} {pos : String} {af : Array Edge} {gd : Option (Nat × Bool)} {f : FuncId} {args : Array Operand} {vs : Array Value} {ats : Array TypeId} (hf : callB P f = true) (hv : args.map a.eval = vs) :
    ∀ w, (execOp a.eval ⟨dst, .call ⟨.value (.func f), args, ats⟩, ty, pos, af, gd⟩).run P w = .ok (.enter f vs) w := by
  intro w
  unfold callB at hf
  split at hf
  case h_2 => cases hf
  rename_i fn hfn
  simp only [Bool.and_eq_true, bne_iff_ne] at hf
  simp [execOp, resolve, Act.eval, Deferred.ofValue, invoke, callFunc, hfn, hf.2, Option.isSome_iff_ne_none.1 hf.1, hv]
theorem wg_callL (i : Nat) {M : List Ch} [ht : HasTail M L] (hS : Sat w I M) {f : FuncId} {args : List Operand} {vs : List Value} {ats : Array TypeId} {ty : TypeId} {pos : String} {af : Array Edge} {gd : Option (Nat × Bool)}
    (hf : freeG A (fun j => (aheadOf ops listed i).getD j false) false ops listed i = true) (hi : ops[i]? = some ⟨some e, .call ⟨.value (.func f), args.toArray, ats⟩, ty, pos, af, gd⟩)
    (hQ : ∀ c a w, Q (.panic c) (a.put (some e) v) w → Q (.panic c) a w) (hw : Region.wanted ⟨some e, .call ⟨.value (.func f), args.toArray, ats⟩, ty, pos, af, gd⟩ (yielded ops l.toArray) = true)
    (hb : callB P f = true) (hv : EvL ⟨l.toArray, ds⟩ args vs) (hx : ∀ w X, Sat w I (X ++ L) → Calls P f vs.toArray w (fun e w' => e = .returned v ∧ w' = w)) (hl : lset l e v = l')
    (h : wpG P ops Q A (fun w => ∃ X, Sat w I (X ++ L)) fuel (listed.setIfInBounds i true) ⟨l'.toArray, ds⟩ w) : wpG P ops Q A (fun w => ∃ X, Sat w I (X ++ L)) (fuel + 1) listed ⟨l.toArray, ds⟩ w :=
  wg_call i hS hf hi rfl hQ hw (enters hb (by rw [List.map_toArray, hv.eq])) hx hl h
end
end Go.SL

/- append(x, make([]T, k)...): k zeros behind a row of one cell each. -/
set_option linter.unusedVariables false
set_option linter.unusedSimpArgs false
namespace Go.SL
open Go.RowKit
section
variable {P : Program} {w : World} {I : Gh} {L : List Ch} {a : Act} {K : Act → World → Prop} {Q : Exit → Act → World → Prop} {dst : Option Tmp} {ty : TypeId} {pos : String} {af : Array Edge} {gd : Option (Nat × Bool)} {x y : Operand} {t tx E : TypeId} {v : Value} {n k : Nat} {xs : List Value}
theorem zeroCells_one (z : Array Value) (u : Value) (h : z.toList = [u]) (k : Nat) : Builtin.zeroCells z k = (List.replicate k u).toArray := by
  have : z = #[u] := Array.ext' h
  subst this
  apply Array.ext'
  simp [Builtin.zeroCells]
  apply List.ext_getElem (by simp)
  intro i h1 h2
  simp [Nat.mod_one]
theorem run_asInt_i64 (w : World) (m : Int) : (asInt (.int .i64 m)).run P w = .ok m w := by simp [asInt, asIntOf]
theorem run_append_zeros_room (w : World) (t tx ty e : TypeId) (i : TypeInfo) (z u0 : Value) (ht : P.underlying t = some (.slice e)) (hk : P.underlying tx = some (.int .i64)) (hi : P.info? e = some i) (hz : i.zero = some z) (hs1 : i.size = 1) (hzc : z.cells.toList = [u0]) (h1 : u0.oneCell' = true)
    (g sLen sCap : Nat) (cur : Array Value) (hg : w.heap[g]? = some (.cells cur e (0, 0))) (hk0 : 0 < k) (hk2 : k ≤ 4611686018427387904) (hb : k * i.bytes ≤ 281474976710656) (hroom : sLen + k ≤ sCap) (hfit : sLen + k ≤ cur.size) :
    (Builtin.append_ #[t, tx] ty #[.slice (some ⟨g, 0, none⟩) sLen sCap, .int .i64 (k : Int)]).run P w =
      .ok (.slice (some ⟨g, 0, none⟩) (sLen + k) sCap) (w.setRow g (cur.toList.take sLen ++ List.replicate k u0 ++ cur.toList.drop (sLen + k)).toArray) := by
  have hst := run_storeCells_at P g sLen e (List.replicate k u0) 0 cur w hg (by simpa using hfit) (by intro u hu; rw [List.eq_of_mem_replicate hu]; exact h1)
  simp only [Nat.add_zero] at hst
  have hw := IntWalk.i64_in (k : Int) (by omega)
  have hb' : ¬ (281474976710656 < (k : Int) * (i.bytes : Int)) := by
    have : ((k * i.bytes : Nat) : Int) ≤ ((281474976710656 : Nat) : Int) := Int.ofNat_le.2 hb
    rw [Int.natCast_mul] at this; omega
  have hneg : ¬ ((k : Int) < 0) := by omega
  have hkn : k ≠ 0 := by omega
  simp [Builtin.append_, run_underlying ht, run_underlying hk, sizeOf, typeInfo, zeroValue, hi, hz, hs1, run_asInt_i64, hw, hb', hneg, hkn, hroom, zeroCells_one _ _ hzc, Addr.add_lit]
  simp only [List.length_replicate] at hst
  simp [hst]
theorem run_append_zeros_grow (w : World) (t tx ty e : TypeId) (i : TypeInfo) (z u0 : Value) (ht : P.underlying t = some (.slice e)) (hk : P.underlying tx = some (.int .i64)) (hi : P.info? e = some i) (hz : i.zero = some z) (hs1 : i.size = 1) (hzc : z.cells.toList = [u0])
    (b : Addr) (sLen sCap : Nat) (olds : List Value) (hlo : olds.length = sLen) (holds : ∀ j v, olds[j]? = some v → w.cell? (b.add j) = some v) (hk0 : 0 < k) (hk2 : k ≤ 4611686018427387904) (hb : k * i.bytes ≤ 281474976710656)
    (hg : sCap < sLen + k) (h63 : ((sLen + k : Nat) : Int) ≤ 9223372036854775807) (hfit : Builtin.nextslicecap (sLen + k) sCap * i.bytes ≤ 281474976710656) :
    (Builtin.append_ #[t, tx] ty #[.slice (some b) sLen sCap, .int .i64 (k : Int)]).run P w =
      .ok (.slice (some ⟨w.heap.size, 0, none⟩) (sLen + k) (grownCap w (sLen + k) sCap e))
        (w.drew.alloc (.cells (olds.toArray ++ (List.replicate k u0).toArray ++ Builtin.zeroCells z.cells (grownCap w (sLen + k) sCap e - (sLen + k))) e)) := by
  have hn : ¬ (sLen + k ≤ sCap) := by omega
  have h63' : ¬ (9223372036854775807 < ((sLen : Int) + (k : Int))) := by omega
  have h48' : ¬ (281474976710656 < Builtin.nextslicecap (sLen + k) sCap * i.bytes) := by omega
  have hfo := run_firstCells_some (P := P) w.drew 1 sLen b sLen sCap olds (by simpa using hlo) (by simpa using holds)
  have hw := IntWalk.i64_in (k : Int) (by omega)
  have hb' : ¬ (281474976710656 < (k : Int) * (i.bytes : Int)) := by
    have : ((k * i.bytes : Nat) : Int) ≤ ((281474976710656 : Nat) : Int) := Int.ofNat_le.2 hb
    rw [Int.natCast_mul] at this; omega
  have hneg : ¬ ((k : Int) < 0) := by omega
  have hkn : k ≠ 0 := by omega
  have hz0 := zeroCells_one _ _ hzc k
  simp [Builtin.append_, run_underlying ht, run_underlying hk, sizeOf, typeInfo, zeroValue, hi, hz, hs1, run_asInt_i64, hw, hb', hneg, hkn, hn, h63', h48', Question.forced, hfo, hz0, newRow, grownCap]
theorem wp_appendZ {rep : Ch → List Ch} {by_ : Nat} {u0 : Value} (hx : a.eval x = v) (hy : a.eval y = .int .i64 (k : Int)) (hu : sliceB P t = some E) (hux : P.underlying tx = some (.int .i64)) (hs : sizeB P E = some 1) (hb : bytesB P E = some by_) (hz : zeroB P E = some [u0])
    (hS : Sat w I L) [hi : HasRow L v E 1 n xs rep] (hn0 : 0 < n) (hk0 : 0 < k) (hm : n + k ≤ 4611686018427387904) (hbn : (n + k) * by_ ≤ 140737488355328) (h1 : u0.oneCell' = true) (ho : Oc [u0])
    (h : ∀ v' w', Sat w' I (rep (Row v' E 1 (n + k) (xs ++ List.replicate k u0))) → IsSl v' (n + k) → K (a.put dst v') w') :
    Oper.wp P ⟨dst, .call ⟨.builtin .append, #[x, y], #[t, tx]⟩, ty, pos, af, gd⟩ a w K Q := by
  have hus := hs
  unfold sliceB at hu
  split at hu
  case h_2 => cases hu
  rename_i el' he
  injection hu with hu; subst hu
  obtain ⟨g, cap, rest, hv, hnc, hxl, hxo, hrl, hgb⟩ := hS.rowBlk (hi := hi) hn0
  rw [Nat.mul_one] at hxl hrl
  have hxr := (hS.rowH (v := v)).2.2.1
  subst hv
  unfold sizeB at hs
  unfold bytesB at hb
  unfold zeroB at hz
  have hro : Oc (List.replicate k u0) := fun q hq => by rw [List.eq_of_mem_replicate hq]; exact ho u0 (by simp)
  have hlen : (xs ++ List.replicate k u0).length = (n + k) * 1 := by simp [hxl]
  have hkb : ∀ B : Nat, k * B ≤ (n + k) * B := fun B => Nat.mul_le_mul_right _ (by omega)
  cases hin : P.info? el' with
  | none => rw [hin] at hs; cases hs
  | some i =>
    rw [hin] at hs hb hz
    simp only [Option.map_some, Option.some.injEq, Option.bind_some] at hs hb hz
    cases hzz : i.zero with
    | none => rw [hzz] at hz; cases hz
    | some zv =>
      rw [hzz] at hz
      simp only [Option.map_some, Option.some.injEq] at hz
      have hkb1 : k * i.bytes ≤ 281474976710656 := by have := hkb i.bytes; rw [hb] at this ⊢; omega
      by_cases hroom : n + k ≤ cap
      · have hr := run_append_zeros_room (P := P) w t tx ty el' i zv u0 he hux hin hzz hs hz h1 g n cap (xs ++ rest).toArray hgb hk0 (by omega) hkb1 hroom (by simp [hxl, hrl]; omega)
        have e1 : (xs ++ rest).toArray.toList.take n ++ List.replicate k u0 ++ (xs ++ rest).toArray.toList.drop (n + k) = (xs ++ List.replicate k u0) ++ rest.drop k := by
          rw [← hxl]
          simp [List.drop_append]
        rw [e1] at hr
        have hS' := hS.updRow (hi := hi) (v := .slice (some ⟨g, 0, none⟩) n cap) (m := n + k) (cur := rest.drop k) rfl hroom hlen (hxo.append hro) (by simp [hxl, hrl]; omega)
        unfold Oper.wp execOp
        simp only [resolve, invoke, builtin, Sem.run_bind, Sem.run_pure, Result.andThen_ok, List.map_toArray, List.map_cons, List.map_nil, hx, hy, hr]
        exact h _ _ hS' ⟨_, _, rfl, hroom, fun e => by cases e⟩
      · have hr := run_append_zeros_grow (P := P) (k := k) w t tx ty el' i zv u0 he hux hin hzz hs hz ⟨g, 0, none⟩ n cap xs hxl (hxr _ _ _ rfl) hk0 (by omega) hkb1 (by omega) (by omega) (by rw [hb]; exact growslice_fits (by omega) hbn)
        have hge := grownCap_ge w (n + k) cap el'
        have hcm : grownCap w (n + k) cap el' ≤ maxLen := grownCap_le_maxLen w (n + k) cap el' (by simp only [maxLen]; omega)
        have hzs : zv.cells.size = 1 := by have := congrArg List.length hz; simpa using this
        have hS' : Sat (w.drew.alloc (.cells (xs.toArray ++ (List.replicate k u0).toArray ++ Builtin.zeroCells zv.cells (grownCap w (n + k) cap el' - (n + k))) el')) I
            (rep (Row (.slice (some ⟨w.heap.size, 0, none⟩) (n + k) (grownCap w (n + k) cap el')) el' 1 (n + k) (xs ++ List.replicate k u0))) := by
          refine Sat.replRow (hi := hi) ?_
          refine (hS.drew.alloc _).head fun f hf => ⟨⟨hlen, hxo.append hro⟩, .inr ⟨w.heap.size, _, (Builtin.zeroCells zv.cells (grownCap w (n + k) cap el' - (n + k))).toList, rfl, hge, hcm, ?_, ?_⟩⟩
          · simp [size_zeroCells, hzs]
          · have : (xs.toArray ++ (List.replicate k u0).toArray ++ Builtin.zeroCells zv.cells (grownCap w (n + k) cap el' - (n + k))) = (xs ++ List.replicate k u0 ++ (Builtin.zeroCells zv.cells (grownCap w (n + k) cap el' - (n + k))).toList).toArray := by
              apply Array.ext'; simp
            rw [← this]
            simpa [Blk] using hf
        unfold Oper.wp execOp
        simp only [resolve, invoke, builtin, Sem.run_bind, Sem.run_pure, Result.andThen_ok, List.map_toArray, List.map_cons, List.map_nil, hx, hy, hr]
        exact h _ _ hS' ⟨_, _, rfl, hge, fun e => by cases e⟩
end
end Go.SL

/- Maps: comparison with nil, cloning. -/
namespace Go.SL
open Go.RowKit
section
variable {P : Program} {w w' : World} {I J : Gh} {L M : List Ch} {b b' m : Nat} {E : TypeId} {cs xs ys : List Value} {v u : Value} {n k sz : Nat} {p : Addr}
variable {a : Act} {K : Act → World → Prop} {Q : Exit → Act → World → Prop} {dst : Option Tmp} {x y z : Operand} {t ty : TypeId} {pos : String} {af : Array Edge} {gd : Option (Nat × Bool)}
theorem equalIn_mapNil (d : Nat) {kt e : TypeId} {q : Option Nat} (h : P.underlying t = some (.map kt e)) : (Op.equalIn (d + 1) t (.map q) (.map none)).run P w = .ok q.isNone w := by
  cases q <;> simp [Op.equalIn, run_underlying h]
theorem equal_mapNil {kt e : TypeId} {q : Option Nat} (h : P.underlying t = some (.map kt e)) : (Op.equal t (.map q) (.map none)).run P w = .ok q.isNone w := equalIn_mapNil 9999 h
theorem ex_eqlMapNil {kt e : TypeId} {q : Option Nat} {yt : TypeId} (hx : a.eval x = .map q) (hy : a.eval y = .map none) (hu : P.underlying t = some (.map kt e)) : Ex P a ⟨dst, .binOp .eql t x y yt, ty, pos, af, gd⟩ w (.bool q.isNone) := by
  unfold Ex execOp
  simp [eqGuard, hx, hy, binOp, equal_mapNil hu]
theorem ex_makeIfaceMap {kt e : TypeId} (hx : a.eval x = v) (hu : P.underlying t = some (.map kt e)) : Ex P a ⟨dst, .makeInterface t x, ty, pos, af, gd⟩ w (.iface t v) := by
  unfold Ex execOp
  simp [hx, Instr.makeInterface, run_underlying hu]
theorem ex_typeAssertMap {kt e xt : TypeId} (hx : a.eval x = .iface t v) (hu : P.underlying t = some (.map kt e)) : Ex P a ⟨dst, .typeAssert x xt t false, ty, pos, af, gd⟩ w v := by
  unfold Ex execOp
  simp [hx, Instr.typeAssert, run_underlying hu]
/-- A function that the model's table stands in for. -/
def externB (P : Program) (f : FuncId) (nm : String) : Bool := match P.funcs[f]? with | some fn => fn.name == nm && fn.body.isNone && fn.name != "runtime.NumGoroutine" && (Extern.findNext fn).isNone | none => false
theorem wp_mapsClone {f : FuncId} {fn : Func} {ats : Array TypeId} {kv : List (Int × Value)} {rep : Ch → List Ch} (hx : a.eval x = .iface t (.map (some m))) (hf : P.funcs[f]? = some fn) (h1 : (fn.name == "runtime.NumGoroutine") = false) (h2 : fn.body.isNone = true)
    (h3 : Extern.findNext fn = none) (h4 : Extern.find fn = some Extern.MapsClone.clone) (hS : Sat w I L) [hi : HasMap L m kv rep]
    (h : ∀ m' w', Sat w' I (MapI m' kv :: L) → K (a.put dst (.iface t (.map (some m')))) w') : Oper.wp P ⟨dst, .call ⟨.value (.func f), #[x], ats⟩, ty, pos, af, gd⟩ a w K Q := by
  obtain ⟨i, hi, e⟩ := hi.has
  obtain ⟨es, clock, hh, hb, he, hn, hbn, hlt⟩ := (hS.pull i hi).map0
  have e1 : Extern.MapsClone.clone #[.iface t (.map (some m))] = (getObj m >>= fun o => match o with
      | .map entries clock => (newObj (.map entries clock) >>= fun n => pure (.iface t (.map (some n))))
      | _ => stuck "maps.clone: a map expected") := rfl
  have hrun : (execOp a.eval ⟨dst, .call ⟨.value (.func f), #[x], ats⟩, ty, pos, af, gd⟩).run P w = .ok (.value (.iface t (.map (some w.heap.size)))) (w.alloc (.map es clock)) := by
    have h5 := run_callFunc_extern (P := P) hf h1 h2 h3 h4 #[.iface t (.map (some m))] w
    have h6 : (callFunc f #[.iface t (.map (some m))]).run P w = .ok (.value (.iface t (.map (some w.heap.size)))) (w.alloc (.map es clock)) := by
      rw [h5, e1]
      simp [MapKept.run_getObj_map hh, Result.andThen, go_sem]
    simp [execOp, resolve, Deferred.ofValue, invoke, hx, show a.eval (.func f) = Value.func (.func f) #[] #[] from rfl, h6]
  unfold Oper.wp
  rw [hrun]
  refine h _ _ ?_
  have h7 := hS.alloc (.map es clock)
  exact h7.head fun f hf => ⟨es, clock, hf, he, hn, hbn, hlt⟩
end
end Go.SL

/- 'for k, v := range m' over a map that stays as it is. -/
set_option linter.unusedVariables false
set_option linter.unusedSimpArgs false
namespace Go.SL
open Go.RowKit
/-- Block m is the map kv, block r its iterator: 'todo' is still to come, 'cur' came last. -/
def MapIt (m r : Nat) (kv todo : List (Int × Value)) (cur : Option (Int × Value)) : Ch := fun f => ∃ es clock seen, (f m = some (.map es clock) ∧ f r = some (.mapIter (some m) clock seen clock)) ∧
  es.toList.map (fun e => (e.key, e.val)) = kv.map (fun p => (Value.int .i64 p.1, p.2)) ∧ (kv.map Prod.fst).Nodup ∧ (es.toList.map (·.born)).Nodup ∧ (∀ e ∈ es.toList, e.born < clock) ∧
  (leftOf es seen).toList.map (fun e => (e.key, e.val)) = todo.map (fun p => (Value.int .i64 p.1, p.2)) ∧
  (∀ c, cur = some c → ∃ e ∈ es.toList, e.key = .int .i64 c.1 ∧ e.val = c.2 ∧ ∃ s0 : Array Nat, seen = s0.push e.born)
section
variable {P : Program} {w w' : World} {I J : Gh} {L M : List Ch} {b b' m r : Nat} {E : TypeId} {v u : Value} {kv todo : List (Int × Value)} {cur : Option (Int × Value)}
variable {a : Act} {K : Act → World → Prop} {Q : Exit → Act → World → Prop} {dst : Option Tmp} {x y z : Operand} {t ty : TypeId} {pos : String} {af : Array Edge} {gd : Option (Nat × Bool)}
theorem Sat.mapIt0 (h : Sat w I (MapIt m r kv todo cur :: L)) : ∃ es clock seen, Sat w I (Blk m (.map es clock) :: Blk r (.mapIter (some m) clock seen clock) :: L) ∧
    es.toList.map (fun e => (e.key, e.val)) = kv.map (fun p => (Value.int .i64 p.1, p.2)) ∧ (kv.map Prod.fst).Nodup ∧ (es.toList.map (·.born)).Nodup ∧ (∀ e ∈ es.toList, e.born < clock) ∧
    (leftOf es seen).toList.map (fun e => (e.key, e.val)) = todo.map (fun p => (Value.int .i64 p.1, p.2)) ∧
    (∀ c, cur = some c → ∃ e ∈ es.toList, e.key = .int .i64 c.1 ∧ e.val = c.2 ∧ ∃ s0 : Array Nat, seen = s0.push e.born) := by
  obtain ⟨⟨f, ⟨g, k, dj, e, ⟨es, clock, seen, ⟨hm, hr⟩, h1, h2, h3, h4, h5, h6⟩, hL⟩, hf⟩, r1, r2, r3, r4⟩ := h
  refine ⟨es, clock, seen, ⟨⟨f, ?_, hf⟩, r1, r2, r3, r4⟩, h1, h2, h3, h4, h5, h6⟩
  have hmr : m ≠ r := by rintro rfl; rw [hm] at hr; cases hr
  refine ⟨fun k => if k = m then g m else none, Fp.join (fun k => if k = m then none else g k) k, ?_, ?_, by simpa [Blk] using hm, ?_⟩
  · intro q
    by_cases hq : q = m
    · subst hq
      right
      rcases dj q with d | d
      · rw [hm] at d; cases d
      · simp [Fp.join, d]
    · left; simp [hq]
  · rw [e]; funext q
    simp only [Fp.join]
    by_cases hq : q = m
    · subst hq; simp [hm]
    · simp [hq]
  · refine ⟨fun k => if k = m then none else g k, k, ?_, rfl, by simp [Blk, Ne.symm hmr, hr], hL⟩
    intro q
    rcases dj q with d | d
    · left; by_cases hq : q = m <;> simp [hq, d]
    · right; exact d
theorem Sat.mkMapIt {es : Array MapEntry} {clock : Nat} {seen : Array Nat} (h : Sat w I (Blk m (.map es clock) :: Blk r (.mapIter (some m) clock seen clock) :: L)) (h1 : es.toList.map (fun e => (e.key, e.val)) = kv.map (fun p => (Value.int .i64 p.1, p.2))) (h2 : (kv.map Prod.fst).Nodup) (h3 : (es.toList.map (·.born)).Nodup) (h4 : ∀ e ∈ es.toList, e.born < clock)
    (h5 : (leftOf es seen).toList.map (fun e => (e.key, e.val)) = todo.map (fun p => (Value.int .i64 p.1, p.2)))
    (h6 : ∀ c, cur = some c → ∃ e ∈ es.toList, e.key = .int .i64 c.1 ∧ e.val = c.2 ∧ ∃ s0 : Array Nat, seen = s0.push e.born) : Sat w I (MapIt m r kv todo cur :: L) := by
  have h7 := Sat.unstar (L := [Blk m (.map es clock), Blk r (.mapIter (some m) clock seen clock)]) (M := L) h
  refine h7.head ?_
  rintro f ⟨g, k, dj, e, hm, g2, k2, dj2, e2, hr, -⟩
  refine ⟨es, clock, seen, ⟨?_, ?_⟩, h1, h2, h3, h4, h5, h6⟩
  · have hm : g m = _ := hm
    rw [e]; simp [Fp.join, hm]
  · have hr : g2 r = _ := hr
    rw [e, e2]
    simp only [Fp.join]
    rcases dj r with d | d
    · simp [d, hr]
    · rw [e2] at d; simp [Fp.join, hr] at d
theorem Sat.mapItEnd (h : Sat w I (MapIt m r kv todo cur :: L)) : Sat w I (MapI m kv :: L) := by
  obtain ⟨es, clock, seen, hS, h1, h2, h3, h4, -, -⟩ := h.mapIt0
  have := hS.swap.drop
  exact this.head fun f hf => ⟨es, clock, hf, h1, h2, h3, h4⟩
theorem wp_rangeMap {kt e : TypeId} (hx : a.eval x = .map (some m)) (hu : P.underlying t = some (.map kt e)) (hS : Sat w I (MapI m kv :: L))
    (h : ∀ r w', Sat w' I (MapIt m r kv kv none :: L) → K (a.put dst (.pointer (some ⟨r, 0, none⟩))) w') : Oper.wp P ⟨dst, .range t x, ty, pos, af, gd⟩ a w K Q := by
  obtain ⟨es, clock, hh, hb, he, hn, hbn, hlt⟩ := hS.map0
  unfold Oper.wp execOp
  simp only [Instr.range, run_underlying hu, getObj, Sem.run_bind, Sem.run, hx, hh, Result.andThen, newObj]
  refine h _ _ ?_
  have h7 := hb.alloc (.mapIter (some m) clock #[] clock)
  refine Sat.mkMapIt (es := es) (clock := clock) (seen := #[]) h7.swap he hn hbn hlt ?_ (fun c hc => by cases hc)
  have : leftOf es #[] = es := by unfold leftOf; exact Array.filter_eq_self.2 (by simp)
  rw [this]; exact he
theorem map_split {α β γ : Type} {f : α → γ} {g : β → γ} : ∀ {l : List α} {k : List β} {pre post : List α} {c : α}, l.map f = k.map g → l = pre ++ c :: post → ∃ pre' c' post', k = pre' ++ c' :: post' ∧ pre.map f = pre'.map g ∧ f c = g c' ∧ post.map f = post'.map g
  | _, k, [], post, c, h, rfl => by
    cases k with
    | nil => simp at h
    | cons c' r => simp at h; exact ⟨[], c', r, rfl, rfl, h.1, h.2⟩
  | _, k, p :: pre, post, c, h, rfl => by
    cases k with
    | nil => simp at h
    | cons q r =>
      simp only [List.cons_append, List.map_cons, List.cons.injEq] at h
      obtain ⟨pre', c', post', e, h1, h2, h3⟩ := map_split (l := pre ++ c :: post) (k := r) h.2 rfl
      exact ⟨q :: pre', c', post', by rw [e]; rfl, by simp [h.1, h1], h2, h3⟩
theorem wp_nextMap (hx : a.eval x = .pointer (some ⟨r, 0, none⟩)) (hS : Sat w I (MapIt m r kv todo cur :: L))
    (h0 : todo = [] → K (a.put dst (.tuple #[.bool false])) w)
    (h1 : ∀ pre c post w', todo = pre ++ c :: post → Sat w' I (MapIt m r kv (pre ++ post) (some c) :: L) → K (a.put dst (.tuple #[.bool true, .int .i64 c.1, c.2])) w') : Oper.wp P ⟨dst, .next x false, ty, pos, af, gd⟩ a w K Q := by
  obtain ⟨es, clock, seen, hB, e1, e2, e3, e4, e5, e6⟩ := hS.mapIt0
  have hm := hB.blk0
  have hr := hB.swap.blk0
  unfold Oper.wp execOp
  rcases run_next_at (P := P) w ty r m clock clock seen es clock hr hm e4 (Nat.le_refl _) with ⟨h2, h3⟩ | ⟨e, he, w1, hw1, h3⟩
  · simp only [Sem.run_bind, hx, h3, Result.andThen]
    refine h0 ?_
    have : (leftOf es seen).toList = [] := List.eq_nil_of_length_eq_zero (by simpa using h2)
    rw [this] at e5
    simpa using e5.symm
  · simp only [Sem.run_bind, hx, h3, Result.andThen]
    obtain ⟨pre, post, hl⟩ := List.append_of_mem he
    obtain ⟨pre', c', post', f1, f2, f3, f4⟩ := map_split e5 hl
    simp only [Prod.mk.injEq] at f3
    rw [f3.1, f3.2]
    refine h1 pre' c' post' _ f1 ?_
    have hem : e ∈ es.toList := by
      have : e ∈ (leftOf es seen).toList := he
      unfold leftOf at this
      simp at this
      simpa using this.1
    have hS1 : Sat w1 I (Blk m (.map es clock) :: Blk r (.mapIter (some m) clock seen clock) :: L) := by
      rcases hw1 with rfl | rfl
      · exact hB
      · exact hB.drew
    have hlt : r < w1.heap.size := (Array.getElem?_eq_some_iff.1 hS1.swap.blk0).1
    have hS2 : Sat (ChangeMaps.setBlock w1 r (.mapIter (some m) clock (seen.push e.born) clock)) I (Blk r (.mapIter (some m) clock (seen.push e.born) clock) :: Blk m (.map es clock) :: L) :=
      hS1.swap.write (by simp [ChangeMaps.setBlock, hlt]) (fun k hk => by simp [ChangeMaps.setBlock, Array.getElem?_setIfInBounds_ne (Ne.symm hk)]) rfl rfl rfl
    refine Sat.mkMapIt hS2.swap e1 e2 e3 e4 ?_ (fun c hc => ?_)
    · have hnd : ((leftOf es seen).toList.map (·.born)).Nodup := by
        unfold leftOf
        have : (Array.filter (fun e => !seen.contains e.born) es).toList.Sublist es.toList := by rw [Array.toList_filter]; exact List.filter_sublist
        exact e3.sublist (this.map _)
      have hleft : (leftOf es (seen.push e.born)).toList = pre ++ post := by
        have g1 : (leftOf es (seen.push e.born)).toList = (leftOf es seen).toList.filter (fun q => !(q.born == e.born)) := by
          unfold leftOf
          rw [Array.toList_filter, Array.toList_filter, List.filter_filter]
          congr 1; funext q
          rw [Bool.eq_iff_iff]
          simp [Array.mem_push, not_or, and_comm]
        rw [g1, hl, List.filter_append, List.filter_cons]
        rw [hl, List.map_append, List.map_cons, List.nodup_append] at hnd
        obtain ⟨-, n2, n3⟩ := hnd
        rw [List.nodup_cons] at n2
        simp only [beq_self_eq_true, Bool.not_true, Bool.false_eq_true, if_false]
        congr 1
        · rw [List.filter_eq_self]
          intro q hq
          have := n3 q.born (List.mem_map.2 ⟨q, hq, rfl⟩) e.born (by simp)
          simpa using this
        · rw [List.filter_eq_self]
          intro q hq
          have := n2.1
          simp only [List.mem_map, not_exists, not_and] at this
          simpa using this q hq
      rw [hleft, List.map_append, f2, f4, ← List.map_append]
    · injection hc with hc; subst hc
      exact ⟨e, hem, f3.1, f3.2, seen, rfl⟩
theorem ex_entryMap {c : Int × Value} (hx : a.eval x = .pointer (some ⟨r, 0, none⟩)) (hS : Sat w I (MapIt m r kv todo (some c) :: L)) : Ex P a ⟨dst, .entry x, ty, pos, af, gd⟩ w (.tuple #[.int .i64 c.1, c.2]) := by
  obtain ⟨es, clock, seen, hB, e1, e2, e3, e4, e5, e6⟩ := hS.mapIt0
  obtain ⟨e, he, k1, k2, s0, rfl⟩ := e6 c rfl
  unfold Ex execOp
  simp only [Sem.run_bind, hx, run_entry_at (P := P) w r m clock s0 es clock e hB.swap.blk0 hB.blk0 he e3, Result.andThen, k1, k2]
  rfl
theorem ex_lenMap {kt e : TypeId} {rep : Ch → List Ch} (hx : a.eval x = .map (some m)) (hu : P.underlying t = some (.map kt e)) (hS : Sat w I L) [hi : HasMap L m kv rep] : Ex P a ⟨dst, .call ⟨.builtin .len, #[x], #[t]⟩, ty, pos, af, gd⟩ w (.int .i64 kv.length) := by
  obtain ⟨i, hi, _⟩ := hi.has
  obtain ⟨es, clock, hh, hb, he, hn, hbn, hlt⟩ := (hS.pull i hi).map0
  have hl : es.size = kv.length := by have := congrArg List.length he; simpa using this
  unfold Ex
  simp [execOp, resolve, Deferred.ofValue, invoke, hx, builtin, Builtin.len_, run_underlying hu, MapKept.run_getObj_map hh, hl]
  rfl
theorem ex_neqArr {n : Nat} {el : TypeId} {yt : TypeId} {l r : List UInt8} (hx : a.eval x = v) (hy : a.eval y = u) (e1 : v = .agg (l.map byteV).toArray) (e2 : u = .agg (r.map byteV).toArray) (hu : arrayB P t = some (n, el)) (he : intB P el = some .u8) (hs : sizeB P el = some 1) (h1 : l.length = n) (h2 : r.length = n) (hg : P.eqGuardType P.depth t = false) :
    Ex P a ⟨dst, .binOp .neq t x y yt, ty, pos, af, gd⟩ w (.bool (l != r)) := by
  subst e1; subst e2
  unfold arrayB at hu
  split at hu
  case h_2 => cases hu
  rename_i n' el' hu'
  injection hu with hu; injection hu with e1 e2; subst e1; subst e2
  unfold intB at he
  split at he
  case h_2 => cases he
  rename_i kd' he'
  injection he with he; subst he
  have h3 : (Op.equal t (.agg (l.map byteV).toArray) (.agg (r.map byteV).toArray)).run P w = .ok (l == r) w :=
    run_equalIn_bytes (P := P) w 9998 t el' n' hu' he' (fun w => run_sizeOf hs w) l r h1 h2
  unfold Ex execOp
  simp [eqGuard, hx, hy, hg, binOp, h3, bne]
theorem ex_neqArrR {n : Nat} {el : TypeId} {yt : TypeId} {l : List UInt8} (hx : a.eval x = v) (hy : a.eval y = u) (e1 : v = .agg (l.map byteV).toArray) (e2 : u = .agg (l.map byteV).toArray) (hu : arrayB P t = some (n, el)) (he : intB P el = some .u8) (hs : sizeB P el = some 1) (h1 : l.length = n) (hg : P.eqGuardType P.depth t = false) :
    Ex P a ⟨dst, .binOp .neq t x y yt, ty, pos, af, gd⟩ w (.bool false) := by
  have h := ex_neqArr (dst := dst) (ty := ty) (pos := pos) (af := af) (gd := gd) (w := w) (yt := yt) hx hy e1 e2 hu he hs h1 h1 hg
  simpa using h
theorem ex_neqArrD {n : Nat} {el : TypeId} {yt : TypeId} {l r : List UInt8} (hne : l ≠ r) (hx : a.eval x = v) (hy : a.eval y = u) (e1 : v = .agg (l.map byteV).toArray) (e2 : u = .agg (r.map byteV).toArray) (hu : arrayB P t = some (n, el)) (he : intB P el = some .u8) (hs : sizeB P el = some 1) (h1 : l.length = n) (h2 : r.length = n) (hg : P.eqGuardType P.depth t = false) :
    Ex P a ⟨dst, .binOp .neq t x y yt, ty, pos, af, gd⟩ w (.bool true) := by
  have h := ex_neqArr (dst := dst) (ty := ty) (pos := pos) (af := af) (gd := gd) (w := w) (yt := yt) hx hy e1 e2 hu he hs h1 h2 hg
  rwa [show (l != r) = true from by simp [hne]] at h
end
end Go.SL

/- The last step of a law: out of a contract over 'Sat', its row. -/
namespace Go.SL
open Go.ChangeShapes Go.WideShapes Go.RowKit
section
variable {H : Type} {enc : TypeId × Value → H} {P : Program}
theorem trodAll_stays (hl : laidOutB P = true) {W W' : World} {sp : Nat → Bool} : ∀ {ts : List TypeId} {vs : List Value} {ds : List (DataW H)} {ps : List MemPlace}, (ts.all fun t => P.readableRec t && decide (t < P.types.size)) = true →
    DataW.TrodAll enc P W 0 (fun _ => true) true ts vs ds ps → (∀ p ∈ ps, W.sameAt W' p) → (∀ p ∈ ps, sp p.block = true) → DataW.TrodAll enc P W' 0 sp true ts vs ds ps
  | [], _, _, _, _, h, _, _ => by
    obtain ⟨rfl, rfl, rfl⟩ := trodAll_nil h
    exact rfl
  | t :: ts, _, _, _, hr, h, h1, h2 => by
    obtain ⟨v, vs, d, ds, a, b, rfl, rfl, rfl, x, y⟩ := trodAll_cons h
    simp only [List.all_cons, Bool.and_eq_true, decide_eq_true_eq] at hr
    exact ⟨a, b, WideElems.Trod_stays hl hr.1.1 hr.1.2 x (fun p hp => h1 p (List.mem_append.2 (.inl hp))) (fun p hp => h2 p (List.mem_append.2 (.inl hp))),
      trodAll_stays hl hr.2 y (fun p hp => h1 p (List.mem_append.2 (.inr hp))) (fun p hp => h2 p (List.mem_append.2 (.inr hp))), rfl⟩
/-- A law that returned true and left what was there alone. -/
theorem post_law {f : Func} {s : ChangeSpec} {apart fresh handsOn again : Bool} {W W' : World} {args : Array Value} {ds gs : List (DataW H)} {before : List MemPlace} {tb : TypeId} (hl : laidOutB P = true)
    (hr : (f.params.toList.all fun t => P.readableRec t && decide (t < P.types.size)) = true) (hv : s.vars = []) (hb1 : f.resultTypes = #[tb]) (hub : P.underlying tb = some .bool)
    (hW : DataW.Whole enc P f.params.toList s.vars apart W args.toList ds gs before) (h1 : (s.fn H ds).results = [.lit (.bool true)]) (h2 : (s.fn H ds).args = ds) (h3 : (s.fn H ds).vars = [])
    (hb : Below W.heap.size W W') : s.post enc P f apart fresh handsOn again W args (.bool true) W' := by
  have hold : ∀ p ∈ before, (fun b => decide (b < W.heap.size)) p.block = true := fun p hp => by simpa using hW.lt p hp
  obtain ⟨p, q, hA, hV, hps, hz, hn⟩ := id hW
  rw [hv] at hV
  obtain ⟨rfl, rfl⟩ := trodVars_none hV
  have hpb : before = p := by rw [hps, List.append_nil]
  subst hpb
  have hsame : ∀ x ∈ before, W.sameAt W' x := fun x hx => hb.same (hW.lt x hx)
  have hargs : ∀ sp : Nat → Bool, (∀ x ∈ before, sp x.block = true) → DataW.TrodAll enc P W' 0 sp true f.params.toList args.toList (s.fn H (ds ++ [])).args before := fun sp hsp => by
    rw [List.append_nil, h2]; exact trodAll_stays hl hr hA hsame hsp
  have hres : ∀ (b : Nat) (sp : Nat → Bool) (hd : Bool), DataW.TrodAll enc P W' b sp hd f.resultTypes.toList ((Value.bool true).resultList f.resultTypes.size) (s.fn H (ds ++ [])).results [] := fun b sp hd => by
    rw [List.append_nil, h1, hb1]; exact trodAll_cons_mk (shut_bool hub _) trodAll_mk0
  have hvars : ∀ sp : Nat → Bool, DataW.TrodVars enc P W' sp s.vars (s.fn H (ds ++ [])).vars [] := fun sp => by
    rw [List.append_nil, h3, hv]; exact rfl
  refine ⟨ds, [], before, [], before, [], hW, hres _ _ _, hargs _ hold, hvars _, World.keptBut_mono (fun x hx => ⟨hx, .inr (.inl hx)⟩) (hb.frame _), fun _ => ?_⟩
  refine ⟨ok_one hb1 rfl (okWide_bool_mk hub _), _, _, ([] ++ before) ++ [], ⟨[] ++ before, [], trodAll_append (hargs _ (fun _ _ => rfl)) (hres _ _ _), hvars _, rfl, ?_, ?_⟩, ?_⟩
  · intro b off hp
    have hp' : MemPlace.cell b off ∈ before := by simpa using hp
    rw [hb.frozen (hW.lt _ hp')]
    exact hz b off (by rw [hps]; simpa using hp')
  · intro ha
    have := hn ha
    rw [hps] at this
    simpa using this
  · intro x hx _
    simpa using hx
end
end Go.SL

/- What an argument's reading says of the memory: slices by their elements. -/
set_option linter.unusedVariables false
set_option linter.unusedSimpArgs false
namespace Go.SL
open Go.ChangeShapes Go.WideShapes Go.RowKit
section
variable {H : Type} {enc : TypeId × Value → H} {P : Program}
theorem cells_some {w : World} {a : Addr} {n : Nat} {cs : List Value} (h : w.cells? 0 a n = some cs) : cs.length = n ∧ ∀ j, j < n → w.cell? (a.add j) = cs[j]? := by
  obtain ⟨_, h1, h2⟩ := World.cells?_some h
  exact ⟨h1, h2⟩
/-- A slice that came in: its elements' cells, and what each reads as. -/
theorem open_sl {W : World} {t e : TypeId} {v : Value} {d : DataW H} {ps : List MemPlace} {sz : Nat} (ht : P.underlying t = some (.slice e)) (hc : P.cellsOf e = sz) (hs : ∃ a len cap, v = .slice a len cap) (h : DataW.Trod enc P W 0 (fun _ => true) true t v d ps) :
    ∃ n xs, IsSl v n ∧ xs.length = n * sz ∧ n ≤ maxLen ∧ Rds (Gh.of W) [] v xs ∧ ∀ i, i < n → ∃ fuel y, DataW.trod enc P W 0 (fun _ => true) true fuel e (sub xs (i * sz) sz) = some y := by
  obtain ⟨a0, len, cap, rfl⟩ := hs
  obtain ⟨fuel, hf⟩ := h
  rcases Deep.open_slice ht hf with ⟨hcs, _⟩ | ⟨a, len', cap', m, n, D, Pl, hcs, _, hl, hm, hmm, _, hel⟩
  · simp [Value.cells] at hcs
    obtain ⟨rfl, rfl, rfl⟩ := hcs
    exact ⟨0, [], IsSl.nil, by simp, Nat.zero_le _, (fun w X hS p n c e => by cases e), fun i hi => by omega⟩
  · simp [Value.cells] at hcs
    obtain ⟨rfl, rfl, rfl⟩ := hcs
    rw [hc] at hel
    have hlm : len ≤ m := by rw [hmm]; split <;> omega
    obtain ⟨C, hC⟩ := Deep.choose_lt (α := List Value) (p := fun i cs' => W.cells? 0 (a.add (i * sz)) sz = some cs' ∧ DataW.trod enc P W 0 (fun _ => true) true n e cs' = some (D i, Pl i)) (fun i (hi : i < len) => by
      obtain ⟨cs', h1, h2⟩ := hel i (by omega)
      exact ⟨cs', h1, h2⟩)
    have hlen : ∀ i, i < len → (C i).length = sz := fun i hi => (cells_some (hC i hi).1).1
    have flen : ∀ k, k ≤ len → ((List.range k).flatMap C).length = k * sz := by
      intro k
      induction k with
      | zero => intro _; simp
      | succ k ih =>
        intro hk
        rw [List.range_succ, List.flatMap_append, List.length_append, ih (by omega), Nat.succ_mul]
        simp [hlen k (by omega)]
    have fsub : ∀ k, k ≤ len → ∀ i, i < k → sub ((List.range k).flatMap C) (i * sz) sz = C i := by
      intro k
      induction k with
      | zero => intro _ i hi; omega
      | succ k ih =>
        intro hk i hi
        rw [List.range_succ, List.flatMap_append]
        have hk2 := flen k (by omega)
        by_cases hik : i = k
        · subst hik
          simp only [sub]
          rw [List.drop_append, List.drop_eq_nil_of_le (by omega), hk2]
          rw [Nat.sub_self, List.drop_zero]
          simp [List.take_of_length_le (Nat.le_of_eq (hlen i (by omega)))]
        · have h3 : i < k := by omega
          have := ih (by omega) i h3
          rw [← this]
          simp only [sub]
          have h4 : i * sz + sz ≤ k * sz := by rw [← Nat.succ_mul]; exact Nat.mul_le_mul_right _ h3
          rw [List.drop_append_of_le_length (by omega), List.take_append_of_le_length (by rw [List.length_drop]; omega)]
    refine ⟨len, (List.range len).flatMap C, ⟨_, _, rfl, hl, fun e => by cases e⟩, flen len (Nat.le_refl _), by omega, ?_, ?_⟩
    · intro w X hS p n' c' e' j u hu
      injection e' with e1 _ _
      injection e1 with e1
      subst e1
      have hj : j < len * sz := by
        rw [← flen len (Nat.le_refl _)]
        rcases Nat.lt_or_ge j ((List.range len).flatMap C).length with h | h
        · exact h
        · rw [List.getElem?_eq_none h] at hu; cases hu
      have hsz : 0 < sz := by
        rcases Nat.eq_zero_or_pos sz with e | e
        · subst e; simp at hj
        · exact e
      have hi : j / sz < len := Nat.div_lt_of_lt_mul (by rw [Nat.mul_comm]; exact hj)
      have hjm : j = j / sz * sz + j % sz := by rw [Nat.mul_comm]; exact (Nat.div_add_mod j sz).symm
      have hmod := Nat.mod_lt j hsz
      have hcell := (cells_some (hC _ hi).1).2 (j % sz) hmod
      rw [Addr.add_add, ← hjm] at hcell
      have hu2 : (C (j / sz))[j % sz]? = some u := by
        rw [← fsub len (Nat.le_refl _) _ hi, sub, List.getElem?_take, if_pos hmod, List.getElem?_drop, ← hjm]
        exact hu
      rw [hu2] at hcell
      -- the cell is one of the old world's, and these stay
      have : immCell (Gh.of W) (a.add j) = some u := by
        unfold World.cell? at hcell
        exact hcell
      have h9 := hS.rdI (xs := [u]) (p := a.add j) (fun j' u' hu' => by
        cases j' with
        | zero => simp at hu'; subst hu'; rw [Addr.add_zero']; exact this
        | succ j' => simp at hu') 0 u rfl
      rwa [Addr.add_zero'] at h9
    · intro i hi
      rw [fsub len (Nat.le_refl _) i hi]
      exact ⟨n, _, (hC i hi).2⟩
theorem list_of {α : Type} [Inhabited α] (g : α → Value) {n : Nat} {xs : List Value} (hl : xs.length = n * 1) (h : ∀ i, i < n → ∃ x, sub xs (i * 1) 1 = [g x]) : ∃ l : List α, xs = l.map g ∧ l.length = n := by
  obtain ⟨F, hF⟩ := Deep.choose_lt h
  refine ⟨(List.range n).map F, ?_, by simp⟩
  apply List.ext_getElem?
  intro i
  by_cases hi : i < n
  · have := hF i hi
    have h2 : xs[i]? = some (g (F i)) := by
      have e : (sub xs (i * 1) 1)[0]? = some (g (F i)) := by rw [this]; rfl
      simpa [sub, List.getElem?_drop] using e
    rw [h2]
    simp [hi]
  · simp [hi]; omega
theorem open_bools {W : World} {t e : TypeId} {v : Value} {d : DataW H} {ps : List MemPlace} (ht : P.underlying t = some (.slice e)) (he : P.underlying e = some .bool) (hc : P.cellsOf e = 1) (hs : ∃ a len cap, v = .slice a len cap) (h : DataW.Trod enc P W 0 (fun _ => true) true t v d ps) :
    ∃ ks : List Bool, IsSl v ks.length ∧ ks.length ≤ maxLen ∧ Rds (Gh.of W) [] v (ks.map .bool) := by
  obtain ⟨n, xs, h1, h2, h3, h4, h5⟩ := open_sl ht hc hs h
  obtain ⟨l, rfl, rfl⟩ := list_of Value.bool h2 (fun i hi => by
    obtain ⟨fuel, y, hy⟩ := h5 i hi
    obtain ⟨b, hb, _⟩ := DataW.trod_bool he hy
    exact ⟨b, hb⟩)
  exact ⟨l, h1, h3, h4⟩
theorem byte_of {z : Int} (h : (Lit.int .u8 z).wf = true) : ∃ c : UInt8, Value.int .u8 z = byteV c := by
  have hb : 0 ≤ z ∧ z ≤ 255 := bounds_u8 h
  refine ⟨UInt8.ofNat z.toNat, ?_⟩
  simp only [byteV, UInt8.toNat_ofNat']
  congr 1
  have : z.toNat % 2 ^ 8 = z.toNat := Nat.mod_eq_of_lt (by omega)
  rw [this]
  omega
theorem open_bytes {W : World} {t e : TypeId} {v : Value} {d : DataW H} {ps : List MemPlace} (ht : P.underlying t = some (.slice e)) (he : P.underlying e = some (.int .u8)) (hc : P.cellsOf e = 1) (hs : ∃ a len cap, v = .slice a len cap) (h : DataW.Trod enc P W 0 (fun _ => true) true t v d ps) :
    ∃ bs : List UInt8, IsSl v bs.length ∧ bs.length ≤ maxLen ∧ Rds (Gh.of W) [] v (bs.map byteV) := by
  obtain ⟨n, xs, h1, h2, h3, h4, h5⟩ := open_sl ht hc hs h
  obtain ⟨l, rfl, rfl⟩ := list_of byteV h2 (fun i hi => by
    obtain ⟨fuel, y, hy⟩ := h5 i hi
    obtain ⟨z, hb, _, hw⟩ := DataW.trod_int he hy
    obtain ⟨c, hc⟩ := byte_of hw
    exact ⟨c, by rw [hb, hc]⟩)
  exact ⟨l, h1, h3, h4⟩
end
end Go.SL

/- Opening what came in: a kit of small 'shapes' that read cells as plain data. -/
set_option linter.unusedVariables false
set_option linter.unusedSimpArgs false
namespace Go.SL
open Go.ChangeShapes Go.WideShapes Go.RowKit
section
variable {H : Type} {enc : TypeId × Value → H} {P : Program} {W : World}
/-- What the cells of a type that were read say: 'S cs x'. -/
def Opens (enc : TypeId × Value → H) (P : Program) (W : World) (t : TypeId) {α : Type} (S : List Value → α → Prop) : Prop :=
  ∀ fuel cs y, DataW.trod enc P W 0 (fun _ => true) true fuel t cs = some y → ∃ x, S cs x
theorem opens_int {t : TypeId} {k : IntKind} (ht : P.underlying t = some (.int k)) : Opens enc P W t (fun cs (z : Int) => cs = [.int k z] ∧ (Lit.int k z).wf = true) := by
  intro fuel cs y h
  obtain ⟨z, hz, _, hw⟩ := DataW.trod_int ht h
  exact ⟨z, hz, hw⟩
theorem opens_byte {t : TypeId} (ht : P.underlying t = some (.int .u8)) : Opens enc P W t (fun cs (z : UInt8) => cs = [byteV z]) := by
  intro fuel cs y h
  obtain ⟨z, hz, _, hw⟩ := DataW.trod_int ht h
  obtain ⟨c, hc⟩ := byte_of hw
  exact ⟨c, by rw [hz, hc]⟩
theorem opens_bool {t : TypeId} (ht : P.underlying t = some .bool) : Opens enc P W t (fun cs (z : Bool) => cs = [.bool z]) := by
  intro fuel cs y h
  obtain ⟨z, hz, _⟩ := DataW.trod_bool ht h
  exact ⟨z, hz⟩
theorem opens_string {t : TypeId} (ht : P.underlying t = some .string) : Opens enc P W t (fun cs (z : ByteArray) => cs = [.string z]) := by
  intro fuel cs y h
  obtain ⟨z, hz, _⟩ := DataW.trod_string ht h
  exact ⟨z, hz⟩
theorem list_choose {α : Type} {n : Nat} {p : Nat → α → Prop} (h : ∀ i, i < n → ∃ x, p i x) : ∃ l : List α, l.length = n ∧ ∀ i x, l[i]? = some x → p i x := by
  induction n with
  | zero => exact ⟨[], rfl, fun i x hx => by simp at hx⟩
  | succ n ih =>
    obtain ⟨l, hl, hp⟩ := ih (fun i hi => h i (by omega))
    obtain ⟨x, hx⟩ := h n (by omega)
    refine ⟨l ++ [x], by simp [hl], fun i y hy => ?_⟩
    rcases Nat.lt_or_ge i n with hi | hi
    · rw [List.getElem?_append_left (by omega)] at hy
      exact hp i y hy
    · have : i = n := by
        rcases Nat.lt_or_ge n i with h2 | h2
        · rw [List.getElem?_eq_none (by simp [hl]; omega)] at hy; cases hy
        · omega
      subst this
      rw [List.getElem?_append_right (by omega), hl, Nat.sub_self] at hy
      simp at hy; subst hy; exact hx
/-- A slice that came in: its elements, each read by S. -/
structure SlA {α : Type} (I : Gh) (sz : Nat) (S : List Value → α → Prop) (v : Value) (l : List α) : Prop where
  is : IsSl v l.length
  max : l.length ≤ maxLen
  ex : ∃ xs, xs.length = l.length * sz ∧ Rds I [] v xs ∧ ∀ i x, l[i]? = some x → S (sub xs (i * sz) sz) x
theorem opens_slice {t e : TypeId} {sz : Nat} {α : Type} {S : List Value → α → Prop} (ht : P.underlying t = some (.slice e)) (hc : P.cellsOf e = sz) (hS : Opens enc P W e S) :
    Opens enc P W t (fun cs (l : List α) => ∃ v, cs = [v] ∧ SlA (Gh.of W) sz S v l) := by
  intro fuel cs y h
  have hcs : ∃ a len cap, cs = [.slice a len cap] := by
    rcases Deep.open_slice ht h with ⟨hcs, _⟩ | ⟨a, len', cap', m, n, D, Pl, hcs, _⟩
    · exact ⟨_, _, _, hcs⟩
    · exact ⟨_, _, _, hcs⟩
  obtain ⟨a, len, cap, rfl⟩ := hcs
  obtain ⟨d, ps⟩ := y
  obtain ⟨n, xs, h1, h2, h3, h4, h5⟩ := open_sl (v := .slice a len cap) (sz := sz) ht hc ⟨_, _, _, rfl⟩ ⟨fuel, h⟩
  obtain ⟨l, hl, hp⟩ := list_choose (n := n) (p := fun i x => S (sub xs (i * sz) sz) x) (fun i hi => by
    obtain ⟨f2, y2, hy2⟩ := h5 i hi
    exact hS f2 _ y2 hy2)
  subst hl
  exact ⟨l, _, rfl, h1, h3, xs, h2, h4, hp⟩
/-- The fields of a struct that was read, one after another. -/
def FieldsT (enc : TypeId × Value → H) (P : Program) (W : World) : List Field → List Value → Prop
  | [], _ => True
  | f :: r, cs => (∃ fuel y, DataW.trod enc P W 0 (fun _ => true) true fuel f.type (sub cs f.offset (P.cellsOf f.type)) = some y) ∧ FieldsT enc P W r cs
theorem opens_fields {t : TypeId} {fs : Array Field} (ht : P.underlying t = some (.struct fs)) {fuel : Nat} {cs : List Value} {y : DataW H × List MemPlace} (h : DataW.trod enc P W 0 (fun _ => true) true fuel t cs = some y) :
    cs.length = P.cellsOf t ∧ ∀ (i : Nat) (f : Field), fs[i]? = some f → ∃ fuel y, DataW.trod enc P W 0 (fun _ => true) true fuel f.type (sub cs f.offset (P.cellsOf f.type)) = some y := by
  obtain ⟨xs, n, _, _, hl, hlen, hf⟩ := DataW.trod_struct ht h
  refine ⟨hl, fun i f hi => ?_⟩
  have h1 := hf i f hi
  have h2 : i < xs.length := by rw [hlen]; exact (Array.getElem?_eq_some_iff.1 hi).1
  rw [List.getElem?_eq_getElem h2] at h1
  exact ⟨n, _, h1⟩
theorem opens_fieldsL {t : TypeId} {fs : List Field} (ht : P.underlying t = some (.struct fs.toArray)) {fuel : Nat} {cs : List Value} {y : DataW H × List MemPlace} (h : DataW.trod enc P W 0 (fun _ => true) true fuel t cs = some y) :
    cs.length = P.cellsOf t ∧ FieldsT enc P W fs cs := by
  obtain ⟨hl, hf⟩ := opens_fields ht h
  refine ⟨hl, ?_⟩
  have hf' : ∀ f ∈ fs, ∃ fuel y, DataW.trod enc P W 0 (fun _ => true) true fuel f.type (sub cs f.offset (P.cellsOf f.type)) = some y := by
    intro f hm
    obtain ⟨i, hi⟩ := List.getElem?_of_mem hm
    exact hf i f (by simpa using hi)
  clear hf ht h
  induction fs with
  | nil => trivial
  | cons f r ih => exact ⟨hf' f (by simp), ih (fun g hg => hf' g (by simp [hg]))⟩
theorem opens_arg {t : TypeId} {v : Value} {d : DataW H} {ps : List MemPlace} {α : Type} {S : List Value → α → Prop} (hS : Opens enc P W t S) (h : DataW.Trod enc P W 0 (fun _ => true) true t v d ps) : ∃ x, S v.cells.toList x := by
  obtain ⟨fuel, hf⟩ := h
  exact hS fuel _ _ hf
theorem opens_sliceArg {t e : TypeId} {sz : Nat} {α : Type} {S : List Value → α → Prop} {v : Value} {d : DataW H} {ps : List MemPlace} (ht : P.underlying t = some (.slice e)) (hc : P.cellsOf e = sz) (hS : Opens enc P W e S) (hs : ∃ a len cap, v = .slice a len cap) (h : DataW.Trod enc P W 0 (fun _ => true) true t v d ps) :
    ∃ l : List α, SlA (Gh.of W) sz S v l := by
  obtain ⟨l, u, hu, hl⟩ := opens_arg (opens_slice ht hc hS) h
  obtain ⟨a, len, cap, rfl⟩ := hs
  simp [Value.cells] at hu
  subst hu
  exact ⟨l, hl⟩
theorem SlA.bytes {I : Gh} {v : Value} {l : List UInt8} (h : SlA I 1 (fun cs (z : UInt8) => cs = [byteV z]) v l) : IsSl v l.length ∧ Rds I [] v (l.map byteV) := by
  obtain ⟨xs, hl, hr, hx⟩ := h.ex
  have : xs = l.map byteV := by
    apply List.ext_getElem?
    intro i
    rcases Nat.lt_or_ge i l.length with hi | hi
    · have h1 := hx i l[i] (List.getElem?_eq_getElem hi)
      have h2 : (sub xs (i * 1) 1)[0]? = some (byteV l[i]) := by rw [h1]; rfl
      simp [sub, List.getElem?_drop] at h2
      simp [h2, hi]
    · rw [List.getElem?_eq_none (by omega), List.getElem?_eq_none (by simpa using hi)]
  subst this
  exact ⟨h.is, hr⟩
theorem cons_of_sub {cs : List Value} {k : Nat} {v : Value} (h : sub cs k 1 = [v]) : cs[k]? = some v := by
  have h2 : (sub cs k 1)[0]? = some v := by rw [h]; rfl
  simpa [sub, List.getElem?_drop] using h2
end
end Go.SL

/- Opening what came in, with the form's own reach: how long each slice may be. -/
set_option linter.unusedVariables false
set_option linter.unusedSimpArgs false
namespace Go.SL
open Go.ChangeShapes Go.WideShapes Go.RowKit
section
variable {H : Type} {enc : TypeId × Value → H} {P : Program} {W : World}
def Wok (P : Program) (t : TypeId) (d : DataW H) : Prop := ∀ k ∈ d.weights P t, k ≤ reachBytes
theorem mem_weightsAll {e : TypeId} {d : DataW H} {k : Nat} : ∀ {l : List (DataW H)}, d ∈ l → k ∈ d.weights P e → k ∈ DataW.weightsAll P e l
  | x :: l, h, hk => by
    simp only [DataW.weightsAll]
    rcases List.mem_cons.1 h with rfl | h
    · exact List.mem_append_left _ hk
    · exact List.mem_append_right _ (mem_weightsAll h hk)
def OpensZ (enc : TypeId × Value → H) (P : Program) (W : World) (t : TypeId) {α : Type} (S : List Value → α → Prop) : Prop :=
  ∀ fuel cs y, DataW.trod enc P W 0 (fun _ => true) true fuel t cs = some y → Wok P t y.1 → ∃ x, S cs x
theorem Opens.z {t : TypeId} {α : Type} {S : List Value → α → Prop} (h : Opens enc P W t S) : OpensZ enc P W t S := fun fuel cs y hy _ => h fuel cs y hy
/-- A slice that came in: its elements' cells, and what each reads as. -/
theorem open_slZ {W : World} {t e : TypeId} {v : Value} {sz : Nat} (ht : P.underlying t = some (.slice e)) (hc : P.cellsOf e = sz) (hs : ∃ a len cap, v = .slice a len cap) {fuel : Nat} {y0 : DataW H × List MemPlace} (hf : DataW.trod enc P W 0 (fun _ => true) true fuel t v.cells.toList = some y0) (hw : Wok P t y0.1) :
    ∃ n xs, IsSl v n ∧ xs.length = n * sz ∧ n ≤ maxLen ∧ Rds (Gh.of W) [] v xs ∧ ∀ i, i < n → ∃ fuel y, DataW.trod enc P W 0 (fun _ => true) true fuel e (sub xs (i * sz) sz) = some y ∧ Wok P e y.1 := by
  obtain ⟨a0, len, cap, rfl⟩ := hs
  rcases Deep.open_slice ht hf with ⟨hcs, _⟩ | ⟨a, len', cap', m, n, D, Pl, hcs, _, hl, hm, hmm, hy, hel⟩
  · simp [Value.cells] at hcs
    obtain ⟨rfl, rfl, rfl⟩ := hcs
    exact ⟨0, [], IsSl.nil, by simp, Nat.zero_le _, (fun w X hS p n c e => by cases e), fun i hi => by omega⟩
  · simp [Value.cells] at hcs
    obtain ⟨rfl, rfl, rfl⟩ := hcs
    rw [hc] at hel
    have hlm : len ≤ m := by rw [hmm]; split <;> omega
    obtain ⟨C, hC⟩ := Deep.choose_lt (α := List Value) (p := fun i cs' => W.cells? 0 (a.add (i * sz)) sz = some cs' ∧ DataW.trod enc P W 0 (fun _ => true) true n e cs' = some (D i, Pl i)) (fun i (hi : i < len) => by
      obtain ⟨cs', h1, h2⟩ := hel i (by omega)
      exact ⟨cs', h1, h2⟩)
    have hlen : ∀ i, i < len → (C i).length = sz := fun i hi => (cells_some (hC i hi).1).1
    have flen : ∀ k, k ≤ len → ((List.range k).flatMap C).length = k * sz := by
      intro k
      induction k with
      | zero => intro _; simp
      | succ k ih =>
        intro hk
        rw [List.range_succ, List.flatMap_append, List.length_append, ih (by omega), Nat.succ_mul]
        simp [hlen k (by omega)]
    have fsub : ∀ k, k ≤ len → ∀ i, i < k → sub ((List.range k).flatMap C) (i * sz) sz = C i := by
      intro k
      induction k with
      | zero => intro _ i hi; omega
      | succ k ih =>
        intro hk i hi
        rw [List.range_succ, List.flatMap_append]
        have hk2 := flen k (by omega)
        by_cases hik : i = k
        · subst hik
          simp only [sub]
          rw [List.drop_append, List.drop_eq_nil_of_le (by omega), hk2]
          rw [Nat.sub_self, List.drop_zero]
          simp [List.take_of_length_le (Nat.le_of_eq (hlen i (by omega)))]
        · have h3 : i < k := by omega
          have := ih (by omega) i h3
          rw [← this]
          simp only [sub]
          have h4 : i * sz + sz ≤ k * sz := by rw [← Nat.succ_mul]; exact Nat.mul_le_mul_right _ h3
          rw [List.drop_append_of_le_length (by omega), List.take_append_of_le_length (by rw [List.length_drop]; omega)]
    refine ⟨len, (List.range len).flatMap C, ⟨_, _, rfl, hl, fun e => by cases e⟩, flen len (Nat.le_refl _), by omega, ?_, ?_⟩
    · intro w X hS p n' c' e' j u hu
      injection e' with e1 _ _
      injection e1 with e1
      subst e1
      have hj : j < len * sz := by
        rw [← flen len (Nat.le_refl _)]
        rcases Nat.lt_or_ge j ((List.range len).flatMap C).length with h | h
        · exact h
        · rw [List.getElem?_eq_none h] at hu; cases hu
      have hsz : 0 < sz := by
        rcases Nat.eq_zero_or_pos sz with e | e
        · subst e; simp at hj
        · exact e
      have hi : j / sz < len := Nat.div_lt_of_lt_mul (by rw [Nat.mul_comm]; exact hj)
      have hjm : j = j / sz * sz + j % sz := by rw [Nat.mul_comm]; exact (Nat.div_add_mod j sz).symm
      have hmod := Nat.mod_lt j hsz
      have hcell := (cells_some (hC _ hi).1).2 (j % sz) hmod
      rw [Addr.add_add, ← hjm] at hcell
      have hu2 : (C (j / sz))[j % sz]? = some u := by
        rw [← fsub len (Nat.le_refl _) _ hi, sub, List.getElem?_take, if_pos hmod, List.getElem?_drop, ← hjm]
        exact hu
      rw [hu2] at hcell
      -- the cell is one of the old world's, and these stay
      have : immCell (Gh.of W) (a.add j) = some u := by
        unfold World.cell? at hcell
        exact hcell
      have h9 := hS.rdI (xs := [u]) (p := a.add j) (fun j' u' hu' => by
        cases j' with
        | zero => simp at hu'; subst hu'; rw [Addr.add_zero']; exact this
        | succ j' => simp at hu') 0 u rfl
      rwa [Addr.add_zero'] at h9
    · intro i hi
      rw [fsub len (Nat.le_refl _) i hi]
      refine ⟨n, _, (hC i hi).2, fun k hk => hw k ?_⟩
      rw [hy]
      simp only [DataW.weights, ht]
      exact List.mem_cons_of_mem _ (List.mem_append_left _ (mem_weightsAll (List.mem_map.2 ⟨i, List.mem_range.2 hi, rfl⟩) hk))
theorem opens_sliceZ {t e : TypeId} {sz : Nat} {α : Type} {S : List Value → α → Prop} (ht : P.underlying t = some (.slice e)) (hc : P.cellsOf e = sz) (hS : OpensZ enc P W e S) :
    OpensZ enc P W t (fun cs (l : List α) => ∃ v, cs = [v] ∧ SlA (Gh.of W) sz S v l) := by
  intro fuel cs y h hw
  have hcs : ∃ a len cap, cs = [.slice a len cap] := by
    rcases Deep.open_slice ht h with ⟨hcs, _⟩ | ⟨a, len', cap', m, n, D, Pl, hcs, _⟩
    · exact ⟨_, _, _, hcs⟩
    · exact ⟨_, _, _, hcs⟩
  obtain ⟨a, len, cap, rfl⟩ := hcs
  obtain ⟨n, xs, h1, h2, h3, h4, h5⟩ := open_slZ (v := .slice a len cap) (sz := sz) ht hc ⟨_, _, _, rfl⟩ (fuel := fuel) (y0 := y) h hw
  obtain ⟨l, hl, hp⟩ := list_choose (n := n) (p := fun i x => S (sub xs (i * sz) sz) x) (fun i hi => by
    obtain ⟨f2, y2, hy2, hw2⟩ := h5 i hi
    exact hS f2 _ y2 hy2 hw2)
  subst hl
  exact ⟨l, _, rfl, h1, h3, xs, h2, h4, hp⟩
/-- How many elements a slice may have. -/
theorem slice_reach {t e : TypeId} (ht : P.underlying t = some (.slice e)) {fuel : Nat} {v : Value} {y : DataW H × List MemPlace} (h : DataW.trod enc P W 0 (fun _ => true) true fuel t [v] = some y) (hw : Wok P t y.1) {n : Nat} (hv : IsSl v n) : n * P.bytesOf e ≤ reachBytes := by
  obtain ⟨q, c, rfl, hnc, hq⟩ := hv.ex
  rcases Deep.open_slice ht h with ⟨hcs, _⟩ | ⟨a, len', cap', m, k, D, Pl, hcs, _, hl, hm, hmm, hy, _⟩
  · simp at hcs
    rw [hcs.2.1]; simp
  · simp at hcs
    obtain ⟨_, rfl, _⟩ := hcs
    have := hw ((n + (m - n)) * P.bytesOf e) (by rw [hy]; simp [DataW.weights, ht])
    exact Nat.le_trans (Nat.mul_le_mul_right _ (by omega)) this
def FieldsZ (enc : TypeId × Value → H) (P : Program) (W : World) : List Field → List Value → Prop
  | [], _ => True
  | f :: r, cs => (∃ fuel y, DataW.trod enc P W 0 (fun _ => true) true fuel f.type (sub cs f.offset (P.cellsOf f.type)) = some y ∧ Wok P f.type y.1) ∧ FieldsZ enc P W r cs
theorem opens_fieldsZ {t : TypeId} {fs : List Field} (ht : P.underlying t = some (.struct fs.toArray)) {fuel : Nat} {cs : List Value} {y : DataW H × List MemPlace} (h : DataW.trod enc P W 0 (fun _ => true) true fuel t cs = some y) (hw : Wok P t y.1) :
    cs.length = P.cellsOf t ∧ FieldsZ enc P W fs cs := by
  obtain ⟨xs, n, _, hy, hl, hlen, hf⟩ := DataW.trod_struct ht h
  refine ⟨hl, ?_⟩
  have hf' : ∀ f ∈ fs, ∃ fuel y, DataW.trod enc P W 0 (fun _ => true) true fuel f.type (sub cs f.offset (P.cellsOf f.type)) = some y ∧ Wok P f.type y.1 := by
    intro f hm
    obtain ⟨i, hi⟩ := List.getElem?_of_mem hm
    have h1 := hf i f (by simpa using hi)
    have h2 : i < xs.length := by rw [hlen]; have := (List.getElem?_eq_some_iff.1 hi).1; simpa using this
    rw [List.getElem?_eq_getElem h2] at h1
    refine ⟨n, _, h1, fun k hk => hw k ?_⟩
    rw [hy]
    simp only [DataW.weights, ht]
    refine DataW.weights_mem_each (j := i) (t := f.type) (by simp [hi]) (by simp [List.getElem?_eq_getElem h2]) k hk
  clear hf ht h hw hy hlen hl
  induction fs with
  | nil => trivial
  | cons f r ih => exact ⟨hf' f (by simp), ih (fun g hg => hf' g (by simp [hg]))⟩
end
end Go.SL

/- Opening arrays. -/
set_option linter.unusedVariables false
set_option linter.unusedSimpArgs false
namespace Go.SL
open Go.ChangeShapes Go.WideShapes Go.RowKit
section
variable {H : Type} {enc : TypeId × Value → H} {P : Program} {W : World}
theorem opens_array {t e : TypeId} {n sz : Nat} {α : Type} {S : List Value → α → Prop} (ht : P.underlying t = some (.array n e)) (hc : P.cellsOf e = sz) (hS : Opens enc P W e S) :
    Opens enc P W t (fun cs (l : List α) => l.length = n ∧ cs.length = P.cellsOf t ∧ ∀ i x, l[i]? = some x → S (sub cs (i * sz) sz) x) := by
  intro fuel cs y h
  obtain ⟨xs, m, _, _, hl, hn, hx⟩ := DataW.trod_array ht h
  obtain ⟨l, hl2, hp⟩ := list_choose (n := n) (p := fun i x => S (sub cs (i * sz) sz) x) (fun i hi => by
    have h1 := hx i hi
    rw [hc] at h1
    rw [List.getElem?_eq_getElem (by omega)] at h1
    exact hS m _ _ h1)
  exact ⟨l, hl2, hl, hp⟩
theorem sub_join (cs : List Value) (a n m : Nat) : sub cs a n ++ sub cs (a + n) m = sub cs a (n + m) := by
  unfold sub
  rw [← List.drop_drop, List.take_add]
theorem sub_whole {cs : List Value} {n : Nat} (h : cs.length = n) : sub cs 0 n = cs := by
  unfold sub
  rw [List.drop_zero, List.take_of_length_le (by omega)]
theorem bytes_of_subs : ∀ (l : List UInt8) (cs : List Value), cs.length = l.length → (∀ (i : Nat) (x : UInt8), l[i]? = some x → sub cs (i * 1) 1 = [byteV x]) → cs = l.map byteV
  | [], cs, h, _ => by simpa using h
  | a :: l, [], h, _ => by simp at h
  | a :: l, c :: cs, h, hx => by
    have h0 := hx 0 a rfl
    simp [sub] at h0
    rw [List.map_cons, h0, bytes_of_subs l cs (by simpa using h) (fun i x hi => by
      have := hx (i + 1) x (by simpa using hi)
      simpa [sub] using this)]
end
end Go.SL
