/- Records in sectors, as plain data (3): tampering, torn sectors. -/
import Derived.Test.YtjklnjpmjdbogaaRec2
set_option linter.unusedVariables false
set_option linter.unusedSimpArgs false
namespace Go.RC
open Go.SL Go.SH
theorem decode_chk {b : List UInt8} (h : b.length = 256) (hne : (decode b).2 ≠ 22) : (sha (b.drop 16)).take 16 = b.take 16 := by
  apply Classical.byContradiction
  intro hc
  apply hne
  unfold decode
  rw [if_neg (by omega), if_neg (by omega), if_pos hc]
theorem encode_chk (p : PartS) : (sha ((encode p).drop 16)).take 16 = (encode p).take 16 := by
  have hD : ((sha (fill240 (head p ++ p.bytes))).take 16).length = 16 := by simp [sha_len]
  have h1 : (encode p).drop 16 = fill240 (head p ++ p.bytes) := by
    rw [encode, sealB]
    generalize (sha (fill240 (head p ++ p.bytes))).take 16 = Dg at hD
    rw [show (16 : Nat) = Dg.length from hD.symm, List.drop_left]
  have h2 : (encode p).take 16 = (sha (fill240 (head p ++ p.bytes))).take 16 := by
    rw [encode, sealB]
    generalize (sha (fill240 (head p ++ p.bytes))).take 16 = Dg at hD
    rw [show (16 : Nat) = Dg.length from hD.symm, List.take_left]
  rw [h1, h2]
def collide (a b : List UInt8) : Prop := a ≠ b ∧ (sha a).take 16 = (sha b).take 16
theorem split16 (a : List UInt8) : a.take 16 ++ a.drop 16 = a := List.take_append_drop 16 a
theorem tamper_gen {a b : List UInt8} (hb : b.length = 256) (ha : (sha (a.drop 16)).take 16 = a.take 16) (hne : a ≠ b) (hpart : a.take 16 = b.take 16 ∨ a.drop 16 = b.drop 16) (h : (decode b).2 ≠ 22) : collide (a.drop 16) (b.drop 16) := by
  have hc := decode_chk hb h
  rcases hpart with h1 | h1
  · refine ⟨fun h2 => hne ?_, by rw [ha, hc, h1]⟩
    rw [← split16 a, ← split16 b, h1, h2]
  · exfalso
    apply hne
    rw [← split16 a, ← split16 b, h1, ← ha, h1, hc]
theorem xor_ne {x y : UInt8} (h : y ≠ 0) : x ^^^ y ≠ x := by
  intro h2
  apply h
  have : x ^^^ (x ^^^ y) = x ^^^ x := by rw [h2]
  rw [← UInt8.xor_assoc, UInt8.xor_self, UInt8.zero_xor] at this
  exact this
theorem tamper {p : PartS} (hc : check p = 0) (at_ by_ : UInt8) (hby : by_ ≠ 0) :
    (decode ((encode p).set at_.toNat ((encode p).getD at_.toNat 0 ^^^ by_))).2 = 22 ∨ collide ((encode p).drop 16) (((encode p).set at_.toNat ((encode p).getD at_.toNat 0 ^^^ by_)).drop 16) := by
  have hl := encode_len p
  have hat := at_.toNat_lt
  generalize hb : (encode p).set at_.toNat ((encode p).getD at_.toNat 0 ^^^ by_) = b
  have hbl : b.length = 256 := by rw [← hb]; simp [hl]
  by_cases h : (decode b).2 = 22
  · exact .inl h
  · right
    refine tamper_gen hbl (encode_chk p) ?_ ?_ h
    · intro he
      rw [← hb] at he
      have h1 := congrArg (fun l => l.getD at_.toNat 0) he
      simp only [List.getD, List.getElem?_set_self (show at_.toNat < (encode p).length from by omega), Option.getD_some] at h1
      exact xor_ne hby h1.symm
    · rw [← hb]
      rcases Nat.lt_or_ge at_.toNat 16 with h1 | h1
      · right; rw [List.drop_set_of_lt h1]
      · left; rw [List.take_set_of_le h1]
theorem torn {a b : List UInt8} (ha : a.length = 256) (hb : b.length = 256) (ca : (sha (a.drop 16)).take 16 = a.take 16) (cb : (sha (b.drop 16)).take 16 = b.take 16) (k : Nat) (hk : k ≤ 256)
    (hna : a.take k ++ b.drop k ≠ a) (hnb : a.take k ++ b.drop k ≠ b) (h : (decode (a.take k ++ b.drop k)).2 ≠ 22) : collide (a.drop 16) ((a.take k ++ b.drop k).drop 16) := by
  have hcl : (a.take k ++ b.drop k).length = 256 := by simp [ha, hb]; omega
  rcases Nat.lt_or_ge k 16 with h1 | h1
  · exfalso
    have e : (a.take k ++ b.drop k).drop 16 = b.drop 16 := by
      rw [List.drop_append, List.drop_eq_nil_of_le (by simp; omega), List.nil_append, List.drop_drop]
      congr 1; simp [ha]; omega
    have hc := decode_chk hcl h
    apply hnb
    have e2 : (a.take k ++ b.drop k).take 16 = b.take 16 := by rw [← hc, e, cb]
    have e3 := split16 (a.take k ++ b.drop k)
    rw [e, e2, split16] at e3
    exact e3.symm
  · refine tamper_gen hcl ca (Ne.symm hna) (.inl ?_) h
    rw [List.take_append_of_le_length (by simp [ha]; omega), List.take_take, Nat.min_eq_left h1]
end Go.RC
