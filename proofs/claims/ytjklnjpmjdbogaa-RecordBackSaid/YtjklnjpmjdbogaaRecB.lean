/- Records: the bytes of a header, one after another. -/
import Derived.Test.YtjklnjpmjdbogaaRec
set_option linter.unusedVariables false
set_option linter.unusedSimpArgs false
namespace Go.RC
open Go.SL Go.SH
def beN (s m : Nat) : List UInt8 := (List.range s).map fun j => UInt8.ofNat (m / 2 ^ (8 * (s - 1 - j)))
theorem beN_len (s m : Nat) : (beN s m).length = s := by simp [beN]
theorem beN_snoc {s m p : Nat} (h : p < s) : (beN s m).take (s - (p + 1)) ++ [UInt8.ofNat (m / 2 ^ (8 * p))] = (beN s m).take (s - p) := by
  rw [show s - p = (s - (p + 1)) + 1 from by omega, List.take_add_one]
  congr 1
  have hg : (beN s m)[s - (p + 1)]? = some (UInt8.ofNat (m / 2 ^ (8 * p))) := by
    simp only [beN, List.getElem?_map]
    rw [List.getElem?_range (by omega)]
    simp only [Option.map_some]
    rw [show s - 1 - (s - (p + 1)) = p from by omega]
  rw [hg]; rfl
theorem ofNat_mod256 (n : Nat) : UInt8.ofNat (n % 256) = UInt8.ofNat n := by
  apply UInt8.toNat_inj.1
  simp
theorem be_beN : ∀ (s m : Nat), be s (m : Int) = beN s m
  | 0, m => rfl
  | s + 1, m => by
    have h1 : ((m : Int) / 256) = ((m / 256 : Nat) : Int) := by omega
    have h2 : ((m : Int) % 256).toNat = m % 256 := by omega
    rw [be, h1, be_beN s (m / 256), h2, ofNat_mod256]
    simp only [beN, List.range_succ, List.map_append, List.map_cons, List.map_nil]
    congr 1
    · apply List.map_congr_left
      intro j hj
      have hj := List.mem_range.1 hj
      congr 1
      rw [show 8 * (s + 1 - 1 - j) = 8 + 8 * (s - 1 - j) from by omega, Nat.pow_add, ← Nat.div_div_eq_div_mul]
    · simp
/-- The fields of a header: the place, the size, the number. -/
def fldV (p : PartS) : List (Nat × Nat × Nat) := [(1, 4, p.gen.toNat), (2, 4, p.num.toNat), (0, 2, p.kind.toNat), (3, 2, p.idx.toNat), (4, 2, p.cnt.toNat), (6, 2, p.bytes.length)]
def hdrN (p : PartS) (t : Nat) : List UInt8 := ((fldV p).take t).flatMap fun x => beN x.2.1 x.2.2
theorem hdrN_six {p : PartS} (h : 0 ≤ p.gen ∧ 0 ≤ p.num ∧ 0 ≤ p.kind ∧ 0 ≤ p.idx ∧ 0 ≤ p.cnt) : hdrN p 6 = head p := by
  obtain ⟨h1, h2, h3, h4, h5⟩ := h
  simp only [hdrN, fldV, List.take_succ_cons, List.take_zero, List.flatMap_cons, List.flatMap_nil, head, List.append_nil]
  rw [← be_beN, ← be_beN, ← be_beN, ← be_beN, ← be_beN, ← be_beN, Int.toNat_of_nonneg h1, Int.toNat_of_nonneg h2, Int.toNat_of_nonneg h3, Int.toNat_of_nonneg h4, Int.toNat_of_nonneg h5]
  simp
theorem hdrN_succ {p : PartS} {t k s m : Nat} (h : (fldV p)[t]? = some (k, s, m)) : hdrN p (t + 1) = hdrN p t ++ beN s m := by
  simp only [hdrN]
  rw [List.take_add_one, h]
  simp
def fillC (X : List UInt8) : List Value := (X ++ List.replicate (256 - X.length) 0).map byteV
theorem fillC_len {X : List UInt8} (h : X.length ≤ 256) : (fillC X).length = 256 := by simp [fillC]; omega
theorem splice_fillC {X ys : List UInt8} {k : Nat} (hk : k = X.length) (h : X.length + ys.length ≤ 256) : splice (fillC X) k (ys.map byteV) = fillC (X ++ ys) := by
  subst hk
  simp only [splice, fillC, ← List.map_take, ← List.map_drop, ← List.map_append, List.length_map]
  congr 1
  rw [List.take_left, ← List.drop_drop, List.drop_left, List.drop_replicate, List.length_append, List.append_assoc, List.append_assoc]
  congr 3
  omega
end Go.RC
