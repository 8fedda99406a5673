/- Words of 32 bits: laws of single operations; shifts of numbers. -/
import Derived.Test.YtjklnjpmjdbogaaSLMore2
set_option linter.unusedSimpArgs false
namespace Go.SL
open Go.RowKit
def V32 (x : BitVec 32) : Value := .int .u32 x.toNat
section
variable {P : Program} {w w' : World} {I J : Gh} {L M : List Ch} {v u : Value} {n m k sz : Nat}
variable {a : Act} {K : Act → World → Prop} {Q : Exit → Act → World → Prop} {dst : Option Tmp} {x y z : Operand} {t ty : TypeId} {pos : String} {af : Array Edge} {gd : Option (Nat × Bool)}
theorem wrap32 (m : Nat) : IntKind.u32.wrap (m : Int) = ((BitVec.ofNat 32 m).toNat : Int) := by
  simp [IntKind.wrap, IntKind.bits, IntKind.signed]
theorem of32 (c : BitVec 32) : BitVec.ofInt 32 (c.toNat : Int) = c := by
  apply BitVec.eq_of_toNat_eq
  have := c.isLt
  simp
theorem key32 (r : BitVec 32) : IntKind.u32.wrap (r.toNat : Int) = (r.toNat : Int) := by rw [wrap32]; simp
theorem ib_and (p q : BitVec 32) : Op.intBits .and .u32 p.toNat q.toNat = pure (V32 (p &&& q)) := by
  show pure (Value.int .u32 (IntKind.u32.wrap ((BitVec.ofInt 32 (p.toNat : Int) &&& BitVec.ofInt 32 (q.toNat : Int)).toNat : Int))) = _
  rw [of32, of32, key32]; rfl
theorem ib_or (p q : BitVec 32) : Op.intBits .or .u32 p.toNat q.toNat = pure (V32 (p ||| q)) := by
  show pure (Value.int .u32 (IntKind.u32.wrap ((BitVec.ofInt 32 (p.toNat : Int) ||| BitVec.ofInt 32 (q.toNat : Int)).toNat : Int))) = _
  rw [of32, of32, key32]; rfl
theorem ib_xor (p q : BitVec 32) : Op.intBits .xor .u32 p.toNat q.toNat = pure (V32 (p ^^^ q)) := by
  show pure (Value.int .u32 (IntKind.u32.wrap ((BitVec.ofInt 32 (p.toNat : Int) ^^^ BitVec.ofInt 32 (q.toNat : Int)).toNat : Int))) = _
  rw [of32, of32, key32]; rfl
theorem ib_andNot (p q : BitVec 32) : Op.intBits .andNot .u32 p.toNat q.toNat = pure (V32 (p &&& ~~~q)) := by
  show pure (Value.int .u32 (IntKind.u32.wrap ((BitVec.ofInt 32 (p.toNat : Int) &&& ~~~BitVec.ofInt 32 (q.toNat : Int)).toNat : Int))) = _
  rw [of32, of32, key32]; rfl
theorem ex_bits32 {op : BinOp} {p q r : BitVec 32} {yt : TypeId} (hx : a.eval x = V32 p) (hy : a.eval y = V32 q) (ho : (op = .and ∧ r = p &&& q) ∨ (op = .or ∧ r = p ||| q) ∨ (op = .xor ∧ r = p ^^^ q) ∨ (op = .andNot ∧ r = p &&& ~~~q)) :
    Ex P a ⟨dst, .binOp op t x y yt, ty, pos, af, gd⟩ w (V32 r) := by
  unfold Ex execOp
  have hx' : a.eval x = .int .u32 p.toNat := hx
  have hy' : a.eval y = .int .u32 q.toNat := hy
  rcases ho with ⟨rfl, rfl⟩ | ⟨rfl, rfl⟩ | ⟨rfl, rfl⟩ | ⟨rfl, rfl⟩
  · simp [eqGuard, hx', hy', binOp, ib_and]
  · simp [eqGuard, hx', hy', binOp, ib_or]
  · simp [eqGuard, hx', hy', binOp, ib_xor]
  · simp [eqGuard, hx', hy', binOp, ib_andNot]
theorem ex_and32 {p q : BitVec 32} {yt : TypeId} (hx : a.eval x = V32 p) (hy : a.eval y = V32 q) : Ex P a ⟨dst, .binOp .and t x y yt, ty, pos, af, gd⟩ w (V32 (p &&& q)) := ex_bits32 hx hy (.inl ⟨rfl, rfl⟩)
theorem ex_or32 {p q : BitVec 32} {yt : TypeId} (hx : a.eval x = V32 p) (hy : a.eval y = V32 q) : Ex P a ⟨dst, .binOp .or t x y yt, ty, pos, af, gd⟩ w (V32 (p ||| q)) := ex_bits32 hx hy (.inr (.inl ⟨rfl, rfl⟩))
theorem ex_xor32 {p q : BitVec 32} {yt : TypeId} (hx : a.eval x = V32 p) (hy : a.eval y = V32 q) : Ex P a ⟨dst, .binOp .xor t x y yt, ty, pos, af, gd⟩ w (V32 (p ^^^ q)) := ex_bits32 hx hy (.inr (.inr (.inl ⟨rfl, rfl⟩)))
theorem ex_add32 {p q : BitVec 32} {yt : TypeId} (hx : a.eval x = V32 p) (hy : a.eval y = V32 q) : Ex P a ⟨dst, .binOp .add t x y yt, ty, pos, af, gd⟩ w (V32 (p + q)) := by
  unfold Ex execOp
  simp only [V32] at hx hy
  simp [eqGuard, hx, hy, binOp, Op.intArith, V32]
  rw [← Int.natCast_add, wrap32]
  congr 1
theorem ex_not32 {p : BitVec 32} (hx : a.eval x = V32 p) : Ex P a ⟨dst, .unOp .xor t x, ty, pos, af, gd⟩ w (V32 (~~~p)) := by
  have hx' : a.eval x = .int .u32 p.toNat := hx
  have e : Op.unary .xor (.int .u32 p.toNat) = pure (V32 (~~~p)) := by
    have h1 := ib_xor (BitVec.allOnes 32) p
    have h2 : BitVec.allOnes 32 ^^^ p = ~~~p := BitVec.allOnes_xor
    rw [h2] at h1
    exact h1
  unfold Ex execOp
  simp [hx', e]
theorem ex_shl32 {p : BitVec 32} {kk : IntKind} {s : Nat} {yt : TypeId} (hx : a.eval x = V32 p) (hy : a.eval y = .int kk (s : Int)) (hs : s ≤ 32) : Ex P a ⟨dst, .binOp .shl t x y yt, ty, pos, af, gd⟩ w (V32 (p <<< s)) := by
  unfold Ex execOp
  simp only [V32] at hx
  have h0 : ¬ ((s : Int) < 0) := by omega
  simp [eqGuard, hx, hy, binOp, Op.shift, V32, h0, IntKind.bits, Nat.min_eq_left hs]
  have e : (p.toNat : Int) * 2 ^ s = ((p.toNat * 2 ^ s : Nat) : Int) := by simp
  rw [e, wrap32]
  congr 1
  simp [Nat.shiftLeft_eq]
theorem ex_shr32 {p : BitVec 32} {kk : IntKind} {s : Nat} {yt : TypeId} (hx : a.eval x = V32 p) (hy : a.eval y = .int kk (s : Int)) (hs : s ≤ 32) : Ex P a ⟨dst, .binOp .shr t x y yt, ty, pos, af, gd⟩ w (V32 (p >>> s)) := by
  unfold Ex execOp
  simp only [V32] at hx
  have h0 : ¬ ((s : Int) < 0) := by omega
  simp [eqGuard, hx, hy, binOp, Op.shift, V32, h0, IntKind.bits, Nat.min_eq_left hs]
  rw [Int.shiftRight_eq_div_pow]
  simp
/-- A shift of a number. -/
theorem ex_shrI {kk kx : IntKind} {mi : Int} {s : Nat} {yt : TypeId} (hx : a.eval x = .int kx mi) (hy : a.eval y = .int kk (s : Int)) (hs : s ≤ kx.bits) : Ex P a ⟨dst, .binOp .shr t x y yt, ty, pos, af, gd⟩ w (.int kx (mi / 2 ^ s)) := by
  unfold Ex execOp
  have h0 : ¬ ((s : Int) < 0) := by omega
  simp [eqGuard, hx, hy, binOp, Op.shift, h0, Nat.min_eq_left hs]
  rw [Int.fdiv_eq_ediv_of_nonneg _ (Int.le_of_lt (Int.pow_pos (by omega)))]
theorem ex_shlI {kk kx : IntKind} {mi r : Int} {s : Nat} {yt : TypeId} (hx : a.eval x = .int kx mi) (hy : a.eval y = .int kk (s : Int)) (hs : s ≤ kx.bits) (hr : kx.wrap (mi * 2 ^ s) = r) : Ex P a ⟨dst, .binOp .shl t x y yt, ty, pos, af, gd⟩ w (.int kx r) := by
  subst hr
  unfold Ex execOp
  have h0 : ¬ ((s : Int) < 0) := by omega
  simp [eqGuard, hx, hy, binOp, Op.shift, h0, Nat.min_eq_left hs]
theorem ex_conv8_32 {src dk : TypeId} {c : UInt8} {bb : Bool} (hx : a.eval x = byteV c) (hu : intB P dk = some .u32) (hus : kindB P src = some bb) : Ex P a ⟨dst, .convert src dk x, ty, pos, af, gd⟩ w (V32 (BitVec.ofNat 32 c.toNat)) := by
  refine ex_convII (z := c.toNat) hx hu hus ?_
  rw [wrap32]
theorem ex_conv32_8 {src dk : TypeId} {p : BitVec 32} {bb : Bool} (hx : a.eval x = V32 p) (hu : intB P dk = some .u8) (hus : kindB P src = some bb) : Ex P a ⟨dst, .convert src dk x, ty, pos, af, gd⟩ w (byteV (UInt8.ofNat p.toNat)) := by
  refine ex_convII (z := p.toNat) hx hu hus ?_
  simp [IntKind.wrap, IntKind.bits, IntKind.signed]
theorem ex_convI8 {src dk : TypeId} {kx : IntKind} {mi : Nat} {bb : Bool} (hx : a.eval x = .int kx (mi : Int)) (hu : intB P dk = some .u8) (hus : kindB P src = some bb) : Ex P a ⟨dst, .convert src dk x, ty, pos, af, gd⟩ w (byteV (UInt8.ofNat mi)) := by
  refine ex_convII (z := mi) hx hu hus ?_
  simp [IntKind.wrap, IntKind.bits, IntKind.signed]
theorem rot31 (n : Nat) (h : 1 ≤ n ∧ n ≤ 31) : IntKind.u64.wrap (((BitVec.ofInt 64 (IntKind.u64.wrap (-(n : Int))) &&& BitVec.ofInt 64 31).toNat : Nat) : Int) = ((32 - n : Nat) : Int) := by
  have key : ∀ n : Fin 32, 1 ≤ n.val → IntKind.u64.wrap (((BitVec.ofInt 64 (IntKind.u64.wrap (-(n.val : Int))) &&& BitVec.ofInt 64 31).toNat : Nat) : Int) = ((32 - n.val : Nat) : Int) := by decide +kernel
  exact key ⟨n, by omega⟩ h.1
/-- 'uint(-n) & 31' -/
theorem ex_rot31 {s : Nat} {yt : TypeId} (hx : a.eval x = .int .u64 (IntKind.u64.wrap (-(s : Int)))) (hy : a.eval y = .int .u64 31) (h : 1 ≤ s ∧ s ≤ 31) : Ex P a ⟨dst, .binOp .and t x y yt, ty, pos, af, gd⟩ w (.int .u64 ((32 - s : Nat) : Int)) := by
  have e : Op.intBits .and .u64 (IntKind.u64.wrap (-(s : Int))) 31 = pure (.int .u64 ((32 - s : Nat) : Int)) := by
    rw [← rot31 s h]; rfl
  unfold Ex execOp
  simp [eqGuard, hx, hy, binOp, e]
/-- 'v<<8 | c' -/
theorem ex_orByte {v c : Nat} {yt : TypeId} (hx : a.eval x = .int .i64 ((v * 256 : Nat) : Int)) (hy : a.eval y = .int .i64 (c : Int)) (hv : v < 2 ^ 40) (hc : c < 256) : Ex P a ⟨dst, .binOp .or t x y yt, ty, pos, af, gd⟩ w (.int .i64 ((v * 256 + c : Nat) : Int)) := by
  have e : Op.intBits .or .i64 ((v * 256 : Nat) : Int) (c : Int) = pure (.int .i64 ((v * 256 + c : Nat) : Int)) := by
    have h1 : (BitVec.ofInt 64 ((v * 256 : Nat) : Int) ||| BitVec.ofInt 64 (c : Int)).toNat = v * 256 + c := by
      rw [BitVec.ofInt_natCast, BitVec.ofInt_natCast, BitVec.toNat_or, BitVec.toNat_ofNat, BitVec.toNat_ofNat, Nat.mod_eq_of_lt (by omega), Nat.mod_eq_of_lt (by omega)]
      have h2 := Nat.shiftLeft_add_eq_or_of_lt (b := c) (i := 8) (by omega) v
      rw [Nat.shiftLeft_eq] at h2
      exact h2.symm
    show pure (Value.int .i64 (IntKind.i64.wrap ((BitVec.ofInt 64 ((v * 256 : Nat) : Int) ||| BitVec.ofInt 64 (c : Int)).toNat : Int))) = _
    rw [h1, IntWalk.i64_in _ (by omega)]
  unfold Ex execOp
  simp only [eqGuard, hx, hy, binOp, e]
  rfl
theorem ex_neg {kx : IntKind} {mi r : Int} (hx : a.eval x = .int kx mi) (hr : kx.wrap (0 - mi) = r) : Ex P a ⟨dst, .unOp .neg t x, ty, pos, af, gd⟩ w (.int kx r) := by
  subst hr
  unfold Ex execOp
  simp [hx, Op.unary, Op.intArith]
end
end Go.SL
