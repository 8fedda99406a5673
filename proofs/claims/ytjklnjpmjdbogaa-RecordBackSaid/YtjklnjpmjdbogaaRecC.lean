/- Records: the fields of a header, read one after another. -/
import Derived.Test.YtjklnjpmjdbogaaRecB
set_option linter.unusedVariables false
set_option linter.unusedSimpArgs false
namespace Go.RC
open Go.SL Go.SH
def valN (b : List UInt8) : Nat := b.foldl (fun n c => n * 256 + c.toNat) 0
theorem foldl_valN : ∀ (b : List UInt8) (n : Nat), b.foldl (fun (n : Int) c => n * 256 + c.toNat) (n : Int) = ((b.foldl (fun n c => n * 256 + c.toNat) n : Nat) : Int)
  | [], n => rfl
  | c :: b, n => by
    simp only [List.foldl_cons]
    rw [← foldl_valN b]
    congr 1
theorem val_valN (b : List UInt8) : val b = (valN b : Int) := foldl_valN b 0
theorem valN_snoc (b : List UInt8) (c : UInt8) : valN (b ++ [c]) = valN b * 256 + c.toNat := by simp [valN]
theorem foldl_lt : ∀ (b : List UInt8) (n k : Nat), n < 256 ^ k → b.foldl (fun n c => n * 256 + c.toNat) n < 256 ^ (k + b.length)
  | [], n, k, h => h
  | c :: b, n, k, h => by
    simp only [List.foldl_cons, List.length_cons]
    rw [show k + (b.length + 1) = (k + 1) + b.length from by omega]
    refine foldl_lt b _ (k + 1) ?_
    rw [Nat.pow_succ]
    have := c.toNat_lt
    omega
theorem valN_lt (b : List UInt8) : valN b < 256 ^ b.length := by
  have := foldl_lt b 0 0 (by decide)
  simpa [valN] using this
def fvD : List (Nat × Nat × Nat) := [(1, 4, 16), (2, 4, 20), (0, 2, 24), (3, 2, 26), (4, 2, 28), (6, 2, 30)]
def offT (t : Nat) : Nat := [16, 20, 24, 26, 28, 30, 32].getD t 0
def zcells : List Value := [.int .i64 0, .int .i64 0, .int .i64 0, .int .i64 0, .int .i64 0, .slice none 0 0, .int .i64 0]
def cellD (bs : List UInt8) (t : Nat) : List Value := (fvD.take t).foldl (fun cs x => cs.set x.1 (.int .i64 (val (partOf.sub16 bs x.2.2 x.2.1)))) zcells
theorem cellD_len (bs : List UInt8) (t : Nat) : (cellD bs t).length = 7 := by
  unfold cellD
  have : ∀ (l : List (Nat × Nat × Nat)) (cs : List Value), (l.foldl (fun cs x => cs.set x.1 (Value.int .i64 (val (partOf.sub16 bs x.2.2 x.2.1)))) cs).length = cs.length := by
    intro l
    induction l with
    | nil => intro cs; rfl
    | cons x l ih => intro cs; simp only [List.foldl_cons]; rw [ih]; simp
  rw [this]; rfl
theorem dFacts (bs : List UInt8) (t : Nat) (ht : t < 6) : ∃ k s off : Nat, fvD[t]? = some (k, s, off) ∧ (cellD bs t)[k]? = some (.int .i64 0) ∧ (s = 4 ∨ s = 2) ∧ off + s ≤ 32 ∧ offT t = off ∧ offT (t + 1) = off + s ∧ k < 7 := by
  match t, ht with
  | 0, _ => exact ⟨1, 4, 16, rfl, rfl, by omega, by omega, rfl, rfl, by omega⟩
  | 1, _ => exact ⟨2, 4, 20, rfl, rfl, by omega, by omega, rfl, rfl, by omega⟩
  | 2, _ => exact ⟨0, 2, 24, rfl, rfl, by omega, by omega, rfl, rfl, by omega⟩
  | 3, _ => exact ⟨3, 2, 26, rfl, rfl, by omega, by omega, rfl, rfl, by omega⟩
  | 4, _ => exact ⟨4, 2, 28, rfl, rfl, by omega, by omega, rfl, rfl, by omega⟩
  | 5, _ => exact ⟨6, 2, 30, rfl, rfl, by omega, by omega, rfl, rfl, by omega⟩
theorem cellD_succ {bs : List UInt8} {t k s off : Nat} (h : fvD[t]? = some (k, s, off)) : cellD bs (t + 1) = (cellD bs t).set k (.int .i64 (val (partOf.sub16 bs off s))) := by
  unfold cellD
  rw [List.take_add_one, h]
  simp
theorem cellD_six (bs : List UInt8) : cellD bs 6 = [.int .i64 (partOf bs).kind, .int .i64 (partOf bs).gen, .int .i64 (partOf bs).num, .int .i64 (partOf bs).idx, .int .i64 (partOf bs).cnt, .slice none 0 0, .int .i64 (val (partOf.sub16 bs 30 2))] := rfl
theorem set_self {l : List Value} {k : Nat} {u : Value} (h : l[k]? = some u) : l.set k u = l := by
  apply List.ext_getElem?
  intro i
  rw [List.getElem?_set]
  split
  · rename_i e
    subst e
    have := (List.getElem?_eq_some_iff.1 h).1
    rw [h]; simp [this]
  · rfl
theorem sub16_succ {bs : List UInt8} {off j : Nat} {c : UInt8} (h : bs[off + j]? = some c) : partOf.sub16 bs off (j + 1) = partOf.sub16 bs off j ++ [c] := by
  unfold partOf.sub16
  rw [List.take_add_one, List.getElem?_drop, h]
  rfl
theorem sub16_len (bs : List UInt8) (off j : Nat) : (partOf.sub16 bs off j).length ≤ j := by simp [partOf.sub16]; omega
theorem val_sub16_nn (b : List UInt8) : 0 ≤ val b := by rw [val_valN]; omega
end Go.RC
