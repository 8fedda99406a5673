/- The device: what the laws say, over the plain models. -/
import Derived.Test.YthbakafjhgcieaaDRel
set_option linter.unusedVariables false
set_option linter.unusedSimpArgs false
namespace Go.DK
open Go.SL
def unit16 (b : List UInt8) (u : Nat) : List UInt8 := (b.drop u).take 16
theorem unit_fate (old b : List UInt8) (c : UInt8) (h1 : old.length = 256) (h2 : b.length = 256) (u : Nat) (hu : u % 16 = 0) : unit16 (fate old b c) u = unit16 old u ∨ unit16 (fate old b c) u = unit16 b u := by
  unfold fate
  split
  · exact .inl rfl
  split
  · exact .inr rfl
  have hq : ∃ q, c.toNat / 3 % 17 * 16 = 16 * q ∧ q ≤ 16 := ⟨c.toNat / 3 % 17, by omega, by omega⟩
  obtain ⟨q, hq, hq2⟩ := hq
  rw [hq]
  obtain ⟨t, rfl⟩ : ∃ t, u = 16 * t := ⟨u / 16, by omega⟩
  by_cases ht : t < q
  · refine .inr ?_
    apply List.ext_getElem?
    intro j
    simp only [unit16, List.getElem?_take, List.getElem?_drop, List.getElem?_append, List.length_take]
    by_cases hj : j < 16
    · rw [if_pos hj, if_pos hj, if_pos (by omega), if_pos (by omega)]
    · rw [if_neg hj, if_neg hj]
  · refine .inl ?_
    apply List.ext_getElem?
    intro j
    simp only [unit16, List.getElem?_take, List.getElem?_drop, List.getElem?_append, List.length_take]
    by_cases hj : j < 16
    · rw [if_pos hj, if_pos hj, if_neg (by omega)]
      congr 1; omega
    · rw [if_neg hj, if_neg hj]
theorem unit_settle (k : Int) (u : Nat) (hu : u % 16 = 0) : ∀ (l : List (Int × List UInt8)) (dur : List (Int × List UInt8)) (ch : List UInt8), DurOk dur → (∀ p ∈ l, p.2.length = 256) →
    unit16 (dget (settle dur ch l) k) u = unit16 (dget dur k) u ∨ ∃ p ∈ l, p.1 = k ∧ unit16 (dget (settle dur ch l) k) u = unit16 p.2 u
  | [], _, _, _, _ => .inl rfl
  | p :: r, dur, ch, h, hl => by
    have hp := hl p (by simp)
    have hf := fate_len (h.get p.1) hp (ch[0]?.getD 0)
    simp only [settle]
    rcases unit_settle k u hu r (put dur p.1 (fate (dget dur p.1) p.2 (ch[0]?.getD 0))) ch.tail (h.put _ hf) (fun q hq => hl q (by simp [hq])) with h1 | ⟨q, hq, h1, h2⟩
    · rw [h1, dget_put h]
      by_cases hk : k = p.1
      · rw [if_pos hk]
        subst hk
        rcases unit_fate (dget dur p.1) p.2 (ch[0]?.getD 0) (h.get _) hp u hu with h3 | h3
        · exact .inl h3
        · exact .inr ⟨p, by simp, rfl, h3⟩
      · rw [if_neg hk]; exact .inl rfl
    · exact .inr ⟨q, by simp [hq], h1, h2⟩
/-- Whether a unit was found so far. -/
def fnd (X Y : List UInt8) (pend : List (Int × List UInt8)) (i : Nat) (u : Nat) (k : Nat) : Bool := (unit16 X u == unit16 Y u) || (pend.take k).any (fun p => p.1 == (i : Int) && unit16 X u == unit16 p.2 u)
theorem fnd_zero (X Y : List UInt8) (pend : List (Int × List UInt8)) (i u : Nat) : fnd X Y pend i u 0 = (unit16 X u == unit16 Y u) := by simp [fnd]
theorem fnd_succ (X Y : List UInt8) (pend : List (Int × List UInt8)) (i u k : Nat) (p : Int × List UInt8) (h : pend[k]? = some p) : fnd X Y pend i u (k + 1) = (fnd X Y pend i u k || (p.1 == (i : Int) && unit16 X u == unit16 p.2 u)) := by
  simp only [fnd]
  rw [List.take_add_one, h]
  simp [Bool.or_assoc]
theorem fnd_all {D : DS} (hD : D.Ok) (ch : List UInt8) (i u : Nat) (hu : u % 16 = 0) : fnd (dget (settle D.dur ch D.pend) i) (dget D.dur i) D.pend i u D.pend.length = true := by
  simp only [fnd, List.take_length, Bool.or_eq_true, beq_iff_eq, List.any_eq_true, Bool.and_eq_true]
  rcases unit_settle i u hu D.pend D.dur ch hD.durOk hD.pend with h | ⟨p, hp, h1, h2⟩
  · exact .inl h
  · exact .inr ⟨p, hp, h1, h2⟩
theorem unit_len {b : List UInt8} (h : b.length = 256) {u : Nat} (hu : u + 16 ≤ 256) : (unit16 b u).length = 16 := by simp [unit16]; omega
theorem unitV (b : List UInt8) (u : Nat) : sub (b.map byteV) (u * 1) ((u + 16 - u) * 1) = (unit16 b u).map byteV := by
  simp only [sub, unit16, List.map_take, List.map_drop, Nat.mul_one]
  congr 1; omega
theorem rdsUnit {w : World} {v : Value} {n : Nat} {b : List UInt8} (h : RdS w v (b.map byteV)) (hv : IsSl v n) (u : Nat) (hu : u + 16 ≤ n) : RdS w (slv v u (u + 16) 1) ((unit16 b u).map byteV) := by
  have := h.slv (sz := 1) (l := u) (h := u + 16) hv (by omega) hu
  rwa [unitV] at this
theorem settle_whole : ∀ (l : List (Int × List UInt8)) (dur : List (Int × List UInt8)) (n : Nat) (k : Int), l.length ≤ n → DurOk dur → (∀ p ∈ l, p.2.length = 256) → dget (settle dur (List.replicate n 1) l) k = (lastOf l k).getD (dget dur k)
  | [], _, _, _, _, _, _ => rfl
  | (j, b) :: r, dur, 0, _, hn, _, _ => by simp at hn
  | (j, b) :: r, dur, n + 1, k, hn, h, hl => by
    have hb := hl (j, b) (by simp)
    simp only [settle, List.replicate_succ, List.tail_cons, List.getElem?_cons_zero, Option.getD_some]
    rw [show fate (dget dur j) b 1 = b from by simp [fate]]
    rw [settle_whole r _ n k (by simpa using hn) (h.put _ hb) (fun q hq => hl q (by simp [hq])), dget_put h]
    simp only [lastOf]
    cases lastOf r k with
    | some u => rfl
    | none =>
      simp only [Option.none_or, Option.getD_none]
      by_cases hk : j = k
      · subst hk; simp
      · simp [hk, Ne.symm hk]
theorem settle_lost : ∀ (l : List (Int × List UInt8)) (dur : List (Int × List UInt8)) (k : Int), DurOk dur → dget (settle dur [] l) k = dget dur k
  | [], _, _, _ => rfl
  | (j, b) :: r, dur, k, h => by
    simp only [settle, List.tail_nil, List.getElem?_nil, Option.getD_none]
    rw [show fate (dget dur j) b 0 = dget dur j from by simp [fate]]
    rw [settle_lost r _ k (h.put _ (h.get j)), dget_put h]
    split
    · rename_i e; rw [e]
    · rfl
end Go.DK
