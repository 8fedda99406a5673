/- Records in sectors, as plain data. -/
import Derived.Test.YtjklnjpmjdbogaaSHA
set_option linter.unusedVariables false
set_option linter.unusedSimpArgs false
namespace Go.RC
open Go.SL Go.SH
structure PartS where
  kind : Int
  gen : Int
  num : Int
  idx : Int
  cnt : Int
  bytes : List UInt8
def fine (kind gen num : Int) : Prop := 0 ≤ kind ∧ kind ≤ 65535 ∧ 0 ≤ gen ∧ gen ≤ 2147483647 ∧ 0 ≤ num ∧ num ≤ 2147483647
instance (kind gen num : Int) : Decidable (fine kind gen num) := by unfold fine; infer_instance
def check (p : PartS) : Int :=
  if ¬ fine p.kind p.gen p.num ∨ p.cnt < 1 ∨ 586 < p.cnt ∨ p.idx < 0 ∨ p.cnt ≤ p.idx then 2
  else if 224 < p.bytes.length then 5
  else if (p.bytes.length < 224 ∧ p.idx ≠ p.cnt - 1) ∨ (p.idx = p.cnt - 1 ∧ 1 < p.cnt ∧ p.bytes.length = 0) then 4
  else if p.idx = p.cnt - 1 ∧ 131072 < p.idx * 224 + p.bytes.length then 5
  else 0
/-- A number in big-endian order. -/
def be : Nat → Int → List UInt8
  | 0, _ => []
  | s + 1, n => be s (n / 256) ++ [UInt8.ofNat (n % 256).toNat]
def val (b : List UInt8) : Int := b.foldl (fun (n : Int) c => n * 256 + c.toNat) 0
def head (p : PartS) : List UInt8 := be 4 p.gen ++ be 4 p.num ++ be 2 p.kind ++ be 2 p.idx ++ be 2 p.cnt ++ be 2 p.bytes.length
def fill240 (b : List UInt8) : List UInt8 := (b ++ List.replicate (240 - b.length) 0).take 240
def sealB (b : List UInt8) : List UInt8 := (sha (fill240 b)).take 16 ++ fill240 b
def encode (p : PartS) : List UInt8 := sealB (head p ++ p.bytes)
def zeroP : PartS := ⟨0, 0, 0, 0, 0, []⟩
def partOf (b : List UInt8) : PartS := ⟨val (sub16 b 24 2), val (sub16 b 16 4), val (sub16 b 20 4), val (sub16 b 26 2), val (sub16 b 28 2), (b.drop 32).take (val (sub16 b 30 2)).toNat⟩
where sub16 (b : List UInt8) (k n : Nat) : List UInt8 := (b.drop k).take n
def decode (b : List UInt8) : PartS × Int :=
  if b.length < 256 then (zeroP, 4) else if 256 < b.length then (zeroP, 5)
  else if (sha (b.drop 16)).take 16 ≠ b.take 16 then (zeroP, 22)
  else if 224 < val (partOf.sub16 b 30 2) then (zeroP, 3)
  else if ¬ (b.drop (32 + (val (partOf.sub16 b 30 2)).toNat)).all (· == 0) then (zeroP, 3)
  else if check (partOf b) ≠ 0 then (zeroP, 3)
  else (partOf b, 0)
theorem be_len : ∀ (s : Nat) (n : Int), (be s n).length = s
  | 0, _ => rfl
  | s + 1, n => by simp [be, be_len s]
theorem val_snoc (b : List UInt8) (c : UInt8) : val (b ++ [c]) = val b * 256 + c.toNat := by simp [val]
theorem val_be : ∀ (s : Nat) (n : Int), 0 ≤ n → n < 256 ^ s → val (be s n) = n
  | 0, n, h0, h1 => by simp at h1; have : n = 0 := by omega
                       subst this; rfl
  | s + 1, n, h0, h1 => by
    have h2 : n / 256 < 256 ^ s := by
      rw [Int.pow_succ] at h1
      exact Int.ediv_lt_of_lt_mul (by omega) h1
    rw [be, val_snoc, val_be s (n / 256) (by omega) h2]
    have h3 : (UInt8.ofNat (n % 256).toNat).toNat = (n % 256).toNat := by
      simp only [UInt8.toNat_ofNat']
      exact Nat.mod_eq_of_lt (by omega)
    rw [h3]
    omega
theorem fill240_len (b : List UInt8) : (fill240 b).length = 240 := by simp [fill240]; omega
theorem sha_len (b : List UInt8) : (sha b).length = 32 := by
  have h : (all init (b ++ pad b.length)).1.length = 8 := run_len _ _ rfl
  unfold sha
  generalize (all init (b ++ pad b.length)).1 = l at h
  match l, h with
  | [a, b, c, d, e, f, g, h], _ => rfl
theorem sealB_len (b : List UInt8) : (sealB b).length = 256 := by simp [sealB, sha_len, fill240_len]
theorem head_len (p : PartS) : (head p).length = 16 := by simp [head, be_len]
theorem encode_len (p : PartS) : (encode p).length = 256 := sealB_len _
theorem check_zero {p : PartS} (h : check p = 0) : fine p.kind p.gen p.num ∧ 1 ≤ p.cnt ∧ p.cnt ≤ 586 ∧ 0 ≤ p.idx ∧ p.idx < p.cnt ∧ p.bytes.length ≤ 224 := by
  unfold check at h
  split at h
  · cases h
  rename_i h1
  split at h
  · cases h
  rename_i h2
  simp only [not_or, Decidable.not_not] at h1
  exact ⟨h1.1, by omega, by omega, by omega, by omega, by omega⟩
theorem take_drop_app {α : Type} (a b : List α) (k n : Nat) (h : k = a.length) : ((a ++ b).drop k).take n = b.take n := by
  subst h; simp
theorem fill_short {b : List UInt8} (h : b.length ≤ 240) : fill240 b = b ++ List.replicate (240 - b.length) 0 := by
  unfold fill240
  rw [List.take_of_length_le (by simp; omega)]
/-- Decoding undoes encoding. -/
theorem decode_encode {p : PartS} (h : check p = 0) : decode (encode p) = (p, 0) := by
  obtain ⟨hf, h1, h2, h3, h4, h5⟩ := check_zero h
  obtain ⟨f1, f2, f3, f4, f5, f6⟩ := hf
  have hD : ((sha (fill240 (head p ++ p.bytes))).take 16).length = 16 := by simp [sha_len]
  have hb : (head p ++ p.bytes).length ≤ 240 := by simp [head_len]; omega
  have e : encode p = (sha (fill240 (head p ++ p.bytes))).take 16 ++ (head p ++ (p.bytes ++ List.replicate (240 - (head p ++ p.bytes).length) 0)) := by
    rw [encode, sealB, fill_short hb, List.append_assoc]
  generalize hR : (p.bytes ++ List.replicate (240 - (head p ++ p.bytes).length) 0) = R at e
  generalize hDg : (sha (fill240 (head p ++ p.bytes))).take 16 = Dg at e hD
  have fld : ∀ (k n : Nat) (A B : List UInt8), head p = A ++ B → A.length = k → partOf.sub16 (encode p) (16 + k) n = (B ++ R).take n := by
    intro k n A B hh hk
    rw [partOf.sub16, e, hh, ← List.append_assoc, List.append_assoc Dg, ← List.append_assoc]
    have : (Dg ++ (A ++ B) ++ R) = (Dg ++ A) ++ (B ++ R) := by simp
    rw [this]
    exact take_drop_app _ _ _ _ (by simp [hD, hk])
  have g1 : val (partOf.sub16 (encode p) 16 4) = p.gen := by
    rw [show (16 : Nat) = 16 + 0 from rfl, fld 0 4 [] (head p) rfl rfl, head]
    simp only [List.append_assoc]
    rw [List.take_append_of_le_length (by simp [be_len]), List.take_of_length_le (by simp [be_len])]
    exact val_be 4 _ f3 (by omega)
  have g2 : val (partOf.sub16 (encode p) 20 4) = p.num := by
    rw [show (20 : Nat) = 16 + 4 from rfl, fld 4 4 (be 4 p.gen) (be 4 p.num ++ be 2 p.kind ++ be 2 p.idx ++ be 2 p.cnt ++ be 2 p.bytes.length) (by simp [head]) (be_len ..)]
    simp only [List.append_assoc]
    rw [List.take_append_of_le_length (by simp [be_len]), List.take_of_length_le (by simp [be_len])]
    exact val_be 4 _ f5 (by omega)
  have g3 : val (partOf.sub16 (encode p) 24 2) = p.kind := by
    rw [show (24 : Nat) = 16 + 8 from rfl, fld 8 2 (be 4 p.gen ++ be 4 p.num) (be 2 p.kind ++ be 2 p.idx ++ be 2 p.cnt ++ be 2 p.bytes.length) (by simp [head]) (by simp [be_len])]
    simp only [List.append_assoc]
    rw [List.take_append_of_le_length (by simp [be_len]), List.take_of_length_le (by simp [be_len])]
    exact val_be 2 _ f1 (by omega)
  have g4 : val (partOf.sub16 (encode p) 26 2) = p.idx := by
    rw [show (26 : Nat) = 16 + 10 from rfl, fld 10 2 (be 4 p.gen ++ be 4 p.num ++ be 2 p.kind) (be 2 p.idx ++ be 2 p.cnt ++ be 2 p.bytes.length) (by simp [head]) (by simp [be_len])]
    simp only [List.append_assoc]
    rw [List.take_append_of_le_length (by simp [be_len]), List.take_of_length_le (by simp [be_len])]
    exact val_be 2 _ h3 (by omega)
  have g5 : val (partOf.sub16 (encode p) 28 2) = p.cnt := by
    rw [show (28 : Nat) = 16 + 12 from rfl, fld 12 2 (be 4 p.gen ++ be 4 p.num ++ be 2 p.kind ++ be 2 p.idx) (be 2 p.cnt ++ be 2 p.bytes.length) (by simp [head]) (by simp [be_len])]
    simp only [List.append_assoc]
    rw [List.take_append_of_le_length (by simp [be_len]), List.take_of_length_le (by simp [be_len])]
    exact val_be 2 _ (by omega) (by omega)
  have g6 : val (partOf.sub16 (encode p) 30 2) = p.bytes.length := by
    rw [show (30 : Nat) = 16 + 14 from rfl, fld 14 2 (be 4 p.gen ++ be 4 p.num ++ be 2 p.kind ++ be 2 p.idx ++ be 2 p.cnt) (be 2 p.bytes.length) (by simp [head]) (by simp [be_len])]
    rw [List.take_append_of_le_length (by simp [be_len]), List.take_of_length_le (by simp [be_len])]
    exact val_be 2 _ (by omega) (by omega)
  have d32 : ∀ n, (encode p).drop (32 + n) = R.drop n := by
    intro n
    have : encode p = (Dg ++ head p) ++ R := by rw [e]; simp
    rw [this, ← List.drop_drop, show (32 : Nat) = (Dg ++ head p).length from by simp [hD, head_len], List.drop_left]
  have g7 : (encode p).drop 32 = R := by have := d32 0; simpa using this
  have hpart : partOf (encode p) = p := by
    unfold partOf
    rw [g1, g2, g3, g4, g5, g6, g7, ← hR]
    simp
  unfold decode
  rw [if_neg (by rw [encode_len]; omega), if_neg (by rw [encode_len]; omega)]
  have hsum : (sha ((encode p).drop 16)).take 16 = (encode p).take 16 := by
    have h1 : (encode p).drop 16 = fill240 (head p ++ p.bytes) := by
      rw [encode, sealB, hDg, show (16 : Nat) = Dg.length from hD.symm, List.drop_left]
    have h2 : (encode p).take 16 = Dg := by
      rw [encode, sealB, hDg, show (16 : Nat) = Dg.length from hD.symm, List.take_left]
    rw [h1, h2, hDg]
  rw [if_neg (by rw [hsum]; simp), g6, if_neg (by omega)]
  rw [if_neg ?_, hpart, if_neg (by rw [h]; simp)]
  rw [Decidable.not_not, show ((p.bytes.length : Int)).toNat = p.bytes.length from by omega, d32, ← hR, List.drop_left]
  simp
end Go.RC
