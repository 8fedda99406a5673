/- Records: the examples of the document. -/
import Derived.Test.YtjklnjpmjdbogaaRecC
import Derived.Test.YtjklnjpmjdbogaaRec3
set_option linter.unusedVariables false
set_option linter.unusedSimpArgs false
set_option maxRecDepth 100000
namespace Go.RC
open Go.SL Go.SH
theorem sha_zero : (sha (List.replicate 240 0)).take 16 ≠ List.replicate 16 0 := by decide +kernel
theorem encode_head {p : PartS} {i : Nat} (hi : i < 16) : (encode p)[16 + i]? = (head p)[i]? := by
  have hD : ((sha (fill240 (head p ++ p.bytes))).take 16).length = 16 := by simp [sha_len]
  rw [encode, sealB, List.getElem?_append_right (by omega), hD, Nat.add_sub_cancel_left, fill240, List.getElem?_take, if_pos (by omega), List.append_assoc, List.getElem?_append_left (by rw [head_len]; exact hi)]
def r0 : RecS := ⟨1, 2, 3, List.replicate 300 0⟩
theorem split_r0 : split r0 = ([encode (partR r0 0), encode (partR r0 1)], 0) := by
  have hf : fine r0.kind r0.gen r0.num := by decide
  have hl : r0.pay.length = 300 := by simp [r0]
  have hn : need r0.pay.length = 2 := by rw [hl]; rfl
  rw [split, if_neg (by simpa using hf), if_neg (by omega), sectorsR, hn]
  rfl
theorem r0_27 : (encode (partR r0 1))[27]? = some 1 := by
  rw [show (27 : Nat) = 16 + 11 from rfl, encode_head (by omega)]
  decide +kernel
theorem r0_31 : (encode (partR r0 1))[31]? = some 76 := by
  rw [show (31 : Nat) = 16 + 15 from rfl, encode_head (by omega)]
  decide +kernel
theorem decode_zero : decode (List.replicate 256 0) = (zeroP, 22) := by
  have h : (sha ((List.replicate 256 (0 : UInt8)).drop 16)).take 16 ≠ (List.replicate 256 (0 : UInt8)).take 16 := by
    rw [List.drop_replicate, List.take_replicate]
    exact sha_zero
  rw [decode, if_neg (by simp), if_neg (by simp), if_pos h]
theorem scan_zero : scanAll 0 0 [List.replicate 256 0] = ([], 0, 22) := by
  have hj : join [List.replicate 256 0] = (zeroR, 0, 22) := by
    have := join_err (l := [List.replicate 256 0]) (b := List.replicate 256 0) rfl (by rw [decode_zero]; decide)
    rw [decode_zero] at this
    exact this
  rw [scanAll, if_neg (by decide), show [List.replicate 256 (0 : UInt8)].length + 1 = 1 + 1 from rfl, scan, if_neg (by simp), hj, if_pos (by decide)]
end Go.RC
