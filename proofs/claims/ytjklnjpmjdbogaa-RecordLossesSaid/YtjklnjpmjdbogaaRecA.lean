/- Laws that the proofs share, brought together out of several texts. -/
import Derived.Test.YtjklnjpmjdbogaaSLB
set_option linter.unusedVariables false
set_option linter.unusedSimpArgs false

/- SHA-256, as plain data. -/
set_option linter.unusedVariables false
set_option linter.unusedSimpArgs false
namespace Go.SH
open Go.SL
abbrev W32 := BitVec 32
def rotr (x : W32) (n : Nat) : W32 := x >>> n ||| x <<< (32 - n)
def KS : List W32 := [
  0x428a2f98, 0x71374491, 0xb5c0fbcf, 0xe9b5dba5, 0x3956c25b, 0x59f111f1, 0x923f82a4, 0xab1c5ed5,
  0xd807aa98, 0x12835b01, 0x243185be, 0x550c7dc3, 0x72be5d74, 0x80deb1fe, 0x9bdc06a7, 0xc19bf174,
  0xe49b69c1, 0xefbe4786, 0x0fc19dc6, 0x240ca1cc, 0x2de92c6f, 0x4a7484aa, 0x5cb0a9dc, 0x76f988da,
  0x983e5152, 0xa831c66d, 0xb00327c8, 0xbf597fc7, 0xc6e00bf3, 0xd5a79147, 0x06ca6351, 0x14292967,
  0x27b70a85, 0x2e1b2138, 0x4d2c6dfc, 0x53380d13, 0x650a7354, 0x766a0abb, 0x81c2c92e, 0x92722c85,
  0xa2bfe8a1, 0xa81a664b, 0xc24b8b70, 0xc76c51a3, 0xd192e819, 0xd6990624, 0xf40e3585, 0x106aa070,
  0x19a4c116, 0x1e376c08, 0x2748774c, 0x34b0bcb5, 0x391c0cb3, 0x4ed8aa4a, 0x5b9cca4f, 0x682e6ff3,
  0x748f82ee, 0x78a5636f, 0x84c87814, 0x8cc70208, 0x90befffa, 0xa4506ceb, 0xbef9a3f7, 0xc67178f2]
def init : List W32 := [0x6a09e667, 0xbb67ae85, 0x3c6ef372, 0xa54ff53a, 0x510e527f, 0x9b05688c, 0x1f83d9ab, 0x5be0cd19]
def g0 (x : W32) : W32 := rotr x 7 ^^^ rotr x 18 ^^^ x >>> 3
def g1 (x : W32) : W32 := rotr x 17 ^^^ rotr x 19 ^^^ x >>> 10
def one (s : List W32) (k w : W32) : W32 :=
  match s with
  | [a, b, c, d, e, f, g, h] => h + (rotr e 6 ^^^ rotr e 11 ^^^ rotr e 25) + ((e &&& f) ^^^ (~~~e &&& g)) + k + w
  | _ => 0
def two (s : List W32) : W32 :=
  match s with
  | [a, b, c, d, e, f, g, h] => (rotr a 2 ^^^ rotr a 13 ^^^ rotr a 22) + ((a &&& b) ^^^ (a &&& c) ^^^ (b &&& c))
  | _ => 0
def round (s : List W32) (k w : W32) : List W32 :=
  match s with
  | [a, b, c, d, e, f, g, h] => [one s k w + two s, a, b, c, d + one s k w, e, f, g]
  | _ => s
def plus (s o : List W32) : List W32 := List.zipWith (· + ·) s o
def nextW (l : List W32) : W32 := g1 (l.getD (l.length - 2) 0) + l.getD (l.length - 7) 0 + g0 (l.getD (l.length - 15) 0) + l.getD (l.length - 16) 0
def sched : Nat → List W32 → List W32
  | 0, l => l
  | n + 1, l => sched n (l ++ [nextW l])
def rounds : List W32 → List W32 → List W32 → List W32
  | s, k :: ks, w :: ws => rounds (round s k w) ks ws
  | s, _, _ => s
def compress (s b : List W32) : List W32 := plus (rounds s KS (sched 48 b)) s
def word (a b c d : UInt8) : W32 := BitVec.ofNat 32 a.toNat <<< 24 ||| BitVec.ofNat 32 b.toNat <<< 16 ||| BitVec.ofNat 32 c.toNat <<< 8 ||| BitVec.ofNat 32 d.toNat
def loadW : List UInt8 → List W32
  | a :: b :: c :: d :: r => word a b c d :: loadW r
  | _ => []
def run : Nat → List W32 → List UInt8 → List W32 × List UInt8
  | 0, s, l => (s, l)
  | n + 1, s, l => if 64 ≤ l.length then run n (compress s (loadW (l.take 64))) (l.drop 64) else (s, l)
def all (s : List W32) (l : List UInt8) : List W32 × List UInt8 := run (l.length / 64) s l
def zeros (n : Nat) : Nat := (119 - n % 64) % 64
def be64 (n : Nat) : List UInt8 := [UInt8.ofNat (n / 2 ^ 56), UInt8.ofNat (n / 2 ^ 48), UInt8.ofNat (n / 2 ^ 40), UInt8.ofNat (n / 2 ^ 32), UInt8.ofNat (n / 2 ^ 24), UInt8.ofNat (n / 2 ^ 16), UInt8.ofNat (n / 2 ^ 8), UInt8.ofNat n]
def pad (n : Nat) : List UInt8 := 128 :: List.replicate (zeros n) 0 ++ be64 (n * 8)
def bytesW (x : W32) : List UInt8 := [UInt8.ofNat (x >>> 24).toNat, UInt8.ofNat (x >>> 16).toNat, UInt8.ofNat (x >>> 8).toNat, UInt8.ofNat x.toNat]
def sha (b : List UInt8) : List UInt8 := (all init (b ++ pad b.length)).1.flatMap bytesW

theorem round_len {s : List W32} (h : s.length = 8) (k w : W32) : (round s k w).length = 8 := by
  match s, h with
  | [a, b, c, d, e, f, g, h], _ => rfl
theorem rounds_len : ∀ (ks ws : List W32) {s : List W32}, s.length = 8 → (rounds s ks ws).length = 8
  | [], _, _, h => by simp [rounds, h]
  | _ :: _, [], _, h => by simp [rounds, h]
  | k :: ks, w :: ws, s, h => rounds_len ks ws (round_len h k w)
theorem plus_len {s o : List W32} (h : s.length = 8) (h2 : o.length = 8) : (plus s o).length = 8 := by simp [plus, h, h2]
theorem compress_len {s : List W32} (h : s.length = 8) (b : List W32) : (compress s b).length = 8 := plus_len (rounds_len _ _ h) h
theorem sched_len : ∀ (n : Nat) (l : List W32), (sched n l).length = l.length + n
  | 0, _ => rfl
  | n + 1, l => by rw [sched, sched_len n]; simp; omega
theorem loadW_len : ∀ (n : Nat) {l : List UInt8}, l.length = 4 * n → (loadW l).length = n
  | 0, l, h => by have : l = [] := List.eq_nil_of_length_eq_zero (by omega); subst this; rfl
  | n + 1, l, h => by
    match l, h with
    | a :: b :: c :: d :: r, h => simp only [loadW, List.length_cons]; rw [loadW_len n (by simp at h; omega)]
theorem loadW_get : ∀ {l : List UInt8} {i : Nat} {a b c d : UInt8}, l[4 * i]? = some a → l[4 * i + 1]? = some b → l[4 * i + 2]? = some c → l[4 * i + 3]? = some d → (loadW l)[i]? = some (word a b c d)
  | l, 0, a, b, c, d, h0, h1, h2, h3 => by
    match l, h0, h1, h2, h3 with
    | w :: x :: y :: z :: r, h0, h1, h2, h3 => simp at h0 h1 h2 h3; subst h0 h1 h2 h3; rfl
  | l, i + 1, a, b, c, d, h0, h1, h2, h3 => by
    have hl : 4 * (i + 1) + 3 < l.length := (List.getElem?_eq_some_iff.1 h3).1
    match l, hl, h0, h1, h2, h3 with
    | w :: x :: y :: z :: r, _, h0, h1, h2, h3 =>
      have e : ∀ k, (w :: x :: y :: z :: r)[4 * (i + 1) + k]? = r[4 * i + k]? := fun k => by
        rw [show 4 * (i + 1) + k = (4 * i + k) + 4 from by omega]; rfl
      have e0 := e 0
      simp only [Nat.add_zero] at e0
      rw [e0] at h0; rw [e 1] at h1; rw [e 2] at h2; rw [e 3] at h3
      simp only [loadW, List.getElem?_cons_succ]
      exact loadW_get h0 h1 h2 h3
theorem run_len : ∀ (n : Nat) {s : List W32} (l : List UInt8), s.length = 8 → (run n s l).1.length = 8
  | 0, _, _, h => h
  | n + 1, s, l, h => by
    rw [run]; split
    · exact run_len n _ (compress_len h _)
    · exact h
theorem run_succ_small {n : Nat} {s : List W32} {l : List UInt8} (h : ¬ 64 ≤ l.length) : run n s l = (s, l) := by
  cases n <;> simp [run, h]
theorem all_step {s : List W32} {l : List UInt8} (h : 64 ≤ l.length) : all s l = all (compress s (loadW (l.take 64))) (l.drop 64) := by
  have e : l.length / 64 = (l.drop 64).length / 64 + 1 := by simp; omega
  rw [all, e, run, if_pos h, all]
theorem all_small {s : List W32} {l : List UInt8} (h : l.length < 64) : all s l = (s, l) := by rw [all, run_succ_small (by omega)]
theorem all_append {s : List W32} (c : List UInt8) : ∀ (n : Nat) (s : List W32) (l : List UInt8), l.length = n → all s (l ++ c) = all (all s l).1 ((all s l).2 ++ c) := by
  intro n
  induction n using Nat.strongRecOn with
  | ind n ih =>
    intro s l hl
    by_cases h : 64 ≤ l.length
    · rw [all_step (l := l ++ c) (by simp; omega), List.take_append_of_le_length h, List.drop_append_of_le_length h, ih (l.length - 64) (by omega) _ (l.drop 64) (by simp), ← all_step h]
    · rw [all_small (l := l) (by omega)]
theorem pad_len (n : Nat) : (n + (pad n).length) % 64 = 0 := by simp [pad, zeros, be64]; omega
/-! the schedule, and the ring of sixteen words -/
def gt (l : List W32) (i : Nat) : W32 := l.getD i 0
theorem gt_append {l m : List W32} {i : Nat} (h : i < l.length) : gt (l ++ m) i = gt l i := by
  simp [gt, List.getD, List.getElem?_append_left h]
theorem sched_pre : ∀ (n : Nat) (l : List W32) {i : Nat}, i < l.length → gt (sched n l) i = gt l i
  | 0, _, _, _ => rfl
  | n + 1, l, i, h => by rw [sched, sched_pre n _ (by simp; omega), gt_append h]
theorem sched_rec : ∀ (n : Nat) (l : List W32) {j : Nat}, 16 ≤ l.length → l.length ≤ j → j < l.length + n →
    gt (sched n l) j = g1 (gt (sched n l) (j - 2)) + gt (sched n l) (j - 7) + g0 (gt (sched n l) (j - 15)) + gt (sched n l) (j - 16)
  | 0, l, j, _, h1, h2 => by omega
  | n + 1, l, j, h0, h1, h2 => by
    rcases Nat.lt_or_ge l.length j with h3 | h3
    · rw [sched]
      exact sched_rec n (l ++ [nextW l]) (by simp; omega) (by simp; omega) (by simp; omega)
    · have hj : j = l.length := by omega
      subst hj
      rw [sched]
      have hl : (l ++ [nextW l]).length = l.length + 1 := by simp
      rw [sched_pre n _ (i := l.length) (by omega), sched_pre n _ (i := l.length - 2) (by omega), sched_pre n _ (i := l.length - 7) (by omega), sched_pre n _ (i := l.length - 15) (by omega), sched_pre n _ (i := l.length - 16) (by omega)]
      rw [gt_append (i := l.length - 2) (by omega), gt_append (i := l.length - 7) (by omega), gt_append (i := l.length - 15) (by omega), gt_append (i := l.length - 16) (by omega)]
      simp only [gt, List.getD, List.getElem?_concat_length, Option.getD_some]
      rfl
structure Ring (b r : List W32) (t : Nat) : Prop where
  len : r.length = 16
  eq : ∀ j, max t 16 - 16 ≤ j → j < max t 16 → gt r (j % 16) = gt (sched 48 b) j
theorem Ring.start {b : List W32} (h : b.length = 16) : Ring b b 0 := by
  refine ⟨h, fun j _ h2 => ?_⟩
  rw [sched_pre 48 b (by omega), Nat.mod_eq_of_lt (by omega)]
theorem Ring.low {b r : List W32} {t : Nat} (h : Ring b r t) (ht : t < 16) : gt r (t % 16) = gt (sched 48 b) t ∧ Ring b r (t + 1) := by
  refine ⟨h.eq t (by omega) (by omega), h.len, fun j h1 h2 => h.eq j (by omega) (by omega)⟩
def ringW (r : List W32) (t : Nat) : W32 := gt r (t % 16) + (g1 (gt r ((t - 2) % 16)) + gt r ((t - 7) % 16) + g0 (gt r ((t - 15) % 16)))
theorem Ring.high {b r : List W32} {t : Nat} (h : Ring b r t) (hb : b.length = 16) (h16 : 16 ≤ t) (ht : t < 64) : ringW r t = gt (sched 48 b) t ∧ Ring b (r.set (t % 16) (ringW r t)) (t + 1) := by
  have e : ringW r t = gt (sched 48 b) t := by
    rw [sched_rec 48 b (by omega) (by omega) (by omega), ringW, h.eq (t - 2) (by omega) (by omega), h.eq (t - 7) (by omega) (by omega), h.eq (t - 15) (by omega) (by omega)]
    have h0 := h.eq (t - 16) (by omega) (by omega)
    rw [show (t - 16) % 16 = t % 16 from by omega] at h0
    rw [h0, BitVec.add_comm]
  refine ⟨e, by simp [h.len], fun j h1 h2 => ?_⟩
  have hl := h.len
  by_cases hj : j = t
  · subst hj
    rw [← e]
    simp only [gt, List.getD, List.getElem?_set]
    rw [if_pos trivial, if_pos (by omega)]
    rfl
  · have hne : t % 16 ≠ j % 16 := by omega
    rw [← h.eq j (by omega) (by omega)]
    simp [gt, List.getD, List.getElem?_set, hne]
theorem rounds_snoc : ∀ (ks ws : List W32) (s : List W32) (k w : W32), ks.length = ws.length → rounds s (ks ++ [k]) (ws ++ [w]) = round (rounds s ks ws) k w
  | [], [], _, _, _, _ => rfl
  | k0 :: ks, w0 :: ws, s, k, w, h => by simp only [List.cons_append, rounds]; exact rounds_snoc ks ws _ k w (by simpa using h)
  | [], _ :: _, _, _, _, h => by simp at h
  | _ :: _, [], _, _, _, h => by simp at h
/-- The state after t rounds. -/
def after (s b : List W32) (t : Nat) : List W32 := rounds s (KS.take t) ((sched 48 b).take t)
theorem after_succ {s b : List W32} (hb : b.length = 16) {t : Nat} (ht : t < 64) : after s b (t + 1) = round (after s b t) (gt KS t) (gt (sched 48 b) t) := by
  have hk : KS.length = 64 := rfl
  have hw : (sched 48 b).length = 64 := by rw [sched_len]; omega
  have e1 : KS.take (t + 1) = KS.take t ++ [gt KS t] := by
    rw [List.take_add_one, List.getElem?_eq_getElem (by omega)]
    simp [gt, List.getD, List.getElem?_eq_getElem (show t < KS.length from by omega)]
  have e2 : (sched 48 b).take (t + 1) = (sched 48 b).take t ++ [gt (sched 48 b) t] := by
    rw [List.take_add_one, List.getElem?_eq_getElem (by omega)]
    simp [gt, List.getD, List.getElem?_eq_getElem (show t < (sched 48 b).length from by omega)]
  rw [after, e1, e2, rounds_snoc _ _ _ _ _ (by simp; omega)]
  rfl
theorem after_all {s b : List W32} (hb : b.length = 16) : plus (after s b 64) s = compress s b := by
  have hw : (sched 48 b).length = 64 := by rw [sched_len]; omega
  rw [after, List.take_of_length_le (by decide), List.take_of_length_le (by omega)]
  rfl
/-! bytes, filled in one after another -/
theorem be64_snoc {m p : Nat} (h : p ≤ 7) : (be64 m).take (7 - p) ++ [UInt8.ofNat (m / 2 ^ (8 * p))] = (be64 m).take (8 - p) := by
  match p, h with
  | 0, _ => simp [be64]
  | 1, _ => simp [be64]
  | 2, _ => simp [be64]
  | 3, _ => simp [be64]
  | 4, _ => simp [be64]
  | 5, _ => simp [be64]
  | 6, _ => simp [be64]
  | 7, _ => simp [be64]
def mixB (l : List UInt8) (n k : Nat) : List UInt8 := l.take k ++ List.replicate (n - k) 0
theorem mixB_len {l : List UInt8} {n k : Nat} (h : l.length = n) (hk : k ≤ n) : (mixB l n k).length = n := by simp [mixB]; omega
theorem mixB_set {l : List UInt8} {n k j : Nat} {c : UInt8} (h : l.length = n) (hc : l[k]? = some c) (hj : j = k) : ((mixB l n k).map byteV).set j (byteV c) = (mixB l n (k + 1)).map byteV := by
  subst hj
  have hk : j < n := by rw [← h]; exact (List.getElem?_eq_some_iff.1 hc).1
  have e1 : l.take (j + 1) = l.take j ++ [c] := by rw [List.take_add_one, hc]; rfl
  have e2 : List.replicate (n - j) (0 : UInt8) = 0 :: List.replicate (n - (j + 1)) 0 := by rw [show n - j = (n - (j + 1)) + 1 from by omega]; rfl
  have hl : (l.take j).length = j := by simp; omega
  unfold mixB
  rw [e1, e2, ← List.map_set, List.set_append_right _ _ (by omega)]
  simp [hl]
theorem mixB_zero (l : List UInt8) (n : Nat) : mixB l n 0 = List.replicate n 0 := by simp [mixB]
theorem mixB_all {l : List UInt8} {n : Nat} (h : l.length = n) : mixB l n n = l := by simp [mixB, ← h]
theorem flatW_get : ∀ {st : List W32} {t : Nat} {x : W32} (_ : st[t]? = some x), (st.flatMap bytesW)[4 * t]? = some (UInt8.ofNat (x >>> 24).toNat) ∧ (st.flatMap bytesW)[4 * t + 1]? = some (UInt8.ofNat (x >>> 16).toNat) ∧ (st.flatMap bytesW)[4 * t + 2]? = some (UInt8.ofNat (x >>> 8).toNat) ∧ (st.flatMap bytesW)[4 * t + 3]? = some (UInt8.ofNat x.toNat)
  | y :: st, 0, x, h => by
    simp only [List.getElem?_cons_zero, Option.some.injEq] at h
    subst h
    simp [List.flatMap_cons, bytesW]
  | y :: st, t + 1, x, h => by
    simp only [List.getElem?_cons_succ] at h
    have ih := flatW_get h
    have e : ∀ k, ((y :: st).flatMap bytesW)[4 * (t + 1) + k]? = (st.flatMap bytesW)[4 * t + k]? := fun k => by
      rw [List.flatMap_cons, show 4 * (t + 1) + k = (4 * t + k) + 4 from by omega, List.getElem?_append_right (by simp [bytesW])]
      simp [bytesW]
    have e0 := e 0
    simp only [Nat.add_zero] at e0
    rw [e0, e 1, e 2, e 3]
    exact ih
theorem flatW_len (st : List W32) : (st.flatMap bytesW).length = 4 * st.length := by
  induction st with
  | nil => rfl
  | cons y st ih => simp only [List.flatMap_cons, List.length_append, ih, List.length_cons]; simp only [bytesW, List.length_cons, List.length_nil]; omega
end Go.SH

/- Records in sectors, as plain data. -/
set_option linter.unusedVariables false
set_option linter.unusedSimpArgs false
namespace Go.RC
open Go.SL Go.SH
structure PartS where
  kind : Int
  gen : Int
  num : Int
  idx : Int
  cnt : Int
  bytes : List UInt8
def fine (kind gen num : Int) : Prop := 0 ≤ kind ∧ kind ≤ 65535 ∧ 0 ≤ gen ∧ gen ≤ 2147483647 ∧ 0 ≤ num ∧ num ≤ 2147483647
instance (kind gen num : Int) : Decidable (fine kind gen num) := by unfold fine; infer_instance
def check (p : PartS) : Int :=
  if ¬ fine p.kind p.gen p.num ∨ p.cnt < 1 ∨ 586 < p.cnt ∨ p.idx < 0 ∨ p.cnt ≤ p.idx then 2
  else if 224 < p.bytes.length then 5
  else if (p.bytes.length < 224 ∧ p.idx ≠ p.cnt - 1) ∨ (p.idx = p.cnt - 1 ∧ 1 < p.cnt ∧ p.bytes.length = 0) then 4
  else if p.idx = p.cnt - 1 ∧ 131072 < p.idx * 224 + p.bytes.length then 5
  else 0
/-- A number in big-endian order. -/
def be : Nat → Int → List UInt8
  | 0, _ => []
  | s + 1, n => be s (n / 256) ++ [UInt8.ofNat (n % 256).toNat]
def val (b : List UInt8) : Int := b.foldl (fun (n : Int) c => n * 256 + c.toNat) 0
def head (p : PartS) : List UInt8 := be 4 p.gen ++ be 4 p.num ++ be 2 p.kind ++ be 2 p.idx ++ be 2 p.cnt ++ be 2 p.bytes.length
def fill240 (b : List UInt8) : List UInt8 := (b ++ List.replicate (240 - b.length) 0).take 240
def sealB (b : List UInt8) : List UInt8 := (sha (fill240 b)).take 16 ++ fill240 b
def encode (p : PartS) : List UInt8 := sealB (head p ++ p.bytes)
def zeroP : PartS := ⟨0, 0, 0, 0, 0, []⟩
def partOf (b : List UInt8) : PartS := ⟨val (sub16 b 24 2), val (sub16 b 16 4), val (sub16 b 20 4), val (sub16 b 26 2), val (sub16 b 28 2), (b.drop 32).take (val (sub16 b 30 2)).toNat⟩
where sub16 (b : List UInt8) (k n : Nat) : List UInt8 := (b.drop k).take n
def decode (b : List UInt8) : PartS × Int :=
  if b.length < 256 then (zeroP, 4) else if 256 < b.length then (zeroP, 5)
  else if (sha (b.drop 16)).take 16 ≠ b.take 16 then (zeroP, 22)
  else if 224 < val (partOf.sub16 b 30 2) then (zeroP, 3)
  else if ¬ (b.drop (32 + (val (partOf.sub16 b 30 2)).toNat)).all (· == 0) then (zeroP, 3)
  else if check (partOf b) ≠ 0 then (zeroP, 3)
  else (partOf b, 0)
theorem be_len : ∀ (s : Nat) (n : Int), (be s n).length = s
  | 0, _ => rfl
  | s + 1, n => by simp [be, be_len s]
theorem val_snoc (b : List UInt8) (c : UInt8) : val (b ++ [c]) = val b * 256 + c.toNat := by simp [val]
theorem val_be : ∀ (s : Nat) (n : Int), 0 ≤ n → n < 256 ^ s → val (be s n) = n
  | 0, n, h0, h1 => by simp at h1; have : n = 0 := by omega
                       subst this; rfl
  | s + 1, n, h0, h1 => by
    have h2 : n / 256 < 256 ^ s := by
      rw [Int.pow_succ] at h1
      exact Int.ediv_lt_of_lt_mul (by omega) h1
    rw [be, val_snoc, val_be s (n / 256) (by omega) h2]
    have h3 : (UInt8.ofNat (n % 256).toNat).toNat = (n % 256).toNat := by
      simp only [UInt8.toNat_ofNat']
      exact Nat.mod_eq_of_lt (by omega)
    rw [h3]
    omega
theorem fill240_len (b : List UInt8) : (fill240 b).length = 240 := by simp [fill240]; omega
theorem sha_len (b : List UInt8) : (sha b).length = 32 := by
  have h : (all init (b ++ pad b.length)).1.length = 8 := run_len _ _ rfl
  unfold sha
  generalize (all init (b ++ pad b.length)).1 = l at h
  match l, h with
  | [a, b, c, d, e, f, g, h], _ => rfl
theorem sealB_len (b : List UInt8) : (sealB b).length = 256 := by simp [sealB, sha_len, fill240_len]
theorem head_len (p : PartS) : (head p).length = 16 := by simp [head, be_len]
theorem encode_len (p : PartS) : (encode p).length = 256 := sealB_len _
theorem check_zero {p : PartS} (h : check p = 0) : fine p.kind p.gen p.num ∧ 1 ≤ p.cnt ∧ p.cnt ≤ 586 ∧ 0 ≤ p.idx ∧ p.idx < p.cnt ∧ p.bytes.length ≤ 224 := by
  unfold check at h
  split at h
  · cases h
  rename_i h1
  split at h
  · cases h
  rename_i h2
  simp only [not_or, Decidable.not_not] at h1
  exact ⟨h1.1, by omega, by omega, by omega, by omega, by omega⟩
theorem take_drop_app {α : Type} (a b : List α) (k n : Nat) (h : k = a.length) : ((a ++ b).drop k).take n = b.take n := by
  subst h; simp
theorem fill_short {b : List UInt8} (h : b.length ≤ 240) : fill240 b = b ++ List.replicate (240 - b.length) 0 := by
  unfold fill240
  rw [List.take_of_length_le (by simp; omega)]
/-- Decoding undoes encoding. -/
theorem decode_encode {p : PartS} (h : check p = 0) : decode (encode p) = (p, 0) := by
  obtain ⟨hf, h1, h2, h3, h4, h5⟩ := check_zero h
  obtain ⟨f1, f2, f3, f4, f5, f6⟩ := hf
  have hD : ((sha (fill240 (head p ++ p.bytes))).take 16).length = 16 := by simp [sha_len]
  have hb : (head p ++ p.bytes).length ≤ 240 := by simp [head_len]; omega
  have e : encode p = (sha (fill240 (head p ++ p.bytes))).take 16 ++ (head p ++ (p.bytes ++ List.replicate (240 - (head p ++ p.bytes).length) 0)) := by
    rw [encode, sealB, fill_short hb, List.append_assoc]
  generalize hR : (p.bytes ++ List.replicate (240 - (head p ++ p.bytes).length) 0) = R at e
  generalize hDg : (sha (fill240 (head p ++ p.bytes))).take 16 = Dg at e hD
  have fld : ∀ (k n : Nat) (A B : List UInt8), head p = A ++ B → A.length = k → partOf.sub16 (encode p) (16 + k) n = (B ++ R).take n := by
    intro k n A B hh hk
    rw [partOf.sub16, e, hh, ← List.append_assoc, List.append_assoc Dg, ← List.append_assoc]
    have : (Dg ++ (A ++ B) ++ R) = (Dg ++ A) ++ (B ++ R) := by simp
    rw [this]
    exact take_drop_app _ _ _ _ (by simp [hD, hk])
  have g1 : val (partOf.sub16 (encode p) 16 4) = p.gen := by
    rw [show (16 : Nat) = 16 + 0 from rfl, fld 0 4 [] (head p) rfl rfl, head]
    simp only [List.append_assoc]
    rw [List.take_append_of_le_length (by simp [be_len]), List.take_of_length_le (by simp [be_len])]
    exact val_be 4 _ f3 (by omega)
  have g2 : val (partOf.sub16 (encode p) 20 4) = p.num := by
    rw [show (20 : Nat) = 16 + 4 from rfl, fld 4 4 (be 4 p.gen) (be 4 p.num ++ be 2 p.kind ++ be 2 p.idx ++ be 2 p.cnt ++ be 2 p.bytes.length) (by simp [head]) (be_len ..)]
    simp only [List.append_assoc]
    rw [List.take_append_of_le_length (by simp [be_len]), List.take_of_length_le (by simp [be_len])]
    exact val_be 4 _ f5 (by omega)
  have g3 : val (partOf.sub16 (encode p) 24 2) = p.kind := by
    rw [show (24 : Nat) = 16 + 8 from rfl, fld 8 2 (be 4 p.gen ++ be 4 p.num) (be 2 p.kind ++ be 2 p.idx ++ be 2 p.cnt ++ be 2 p.bytes.length) (by simp [head]) (by simp [be_len])]
    simp only [List.append_assoc]
    rw [List.take_append_of_le_length (by simp [be_len]), List.take_of_length_le (by simp [be_len])]
    exact val_be 2 _ f1 (by omega)
  have g4 : val (partOf.sub16 (encode p) 26 2) = p.idx := by
    rw [show (26 : Nat) = 16 + 10 from rfl, fld 10 2 (be 4 p.gen ++ be 4 p.num ++ be 2 p.kind) (be 2 p.idx ++ be 2 p.cnt ++ be 2 p.bytes.length) (by simp [head]) (by simp [be_len])]
    simp only [List.append_assoc]
    rw [List.take_append_of_le_length (by simp [be_len]), List.take_of_length_le (by simp [be_len])]
    exact val_be 2 _ h3 (by omega)
  have g5 : val (partOf.sub16 (encode p) 28 2) = p.cnt := by
    rw [show (28 : Nat) = 16 + 12 from rfl, fld 12 2 (be 4 p.gen ++ be 4 p.num ++ be 2 p.kind ++ be 2 p.idx) (be 2 p.cnt ++ be 2 p.bytes.length) (by simp [head]) (by simp [be_len])]
    simp only [List.append_assoc]
    rw [List.take_append_of_le_length (by simp [be_len]), List.take_of_length_le (by simp [be_len])]
    exact val_be 2 _ (by omega) (by omega)
  have g6 : val (partOf.sub16 (encode p) 30 2) = p.bytes.length := by
    rw [show (30 : Nat) = 16 + 14 from rfl, fld 14 2 (be 4 p.gen ++ be 4 p.num ++ be 2 p.kind ++ be 2 p.idx ++ be 2 p.cnt) (be 2 p.bytes.length) (by simp [head]) (by simp [be_len])]
    rw [List.take_append_of_le_length (by simp [be_len]), List.take_of_length_le (by simp [be_len])]
    exact val_be 2 _ (by omega) (by omega)
  have d32 : ∀ n, (encode p).drop (32 + n) = R.drop n := by
    intro n
    have : encode p = (Dg ++ head p) ++ R := by rw [e]; simp
    rw [this, ← List.drop_drop, show (32 : Nat) = (Dg ++ head p).length from by simp [hD, head_len], List.drop_left]
  have g7 : (encode p).drop 32 = R := by have := d32 0; simpa using this
  have hpart : partOf (encode p) = p := by
    unfold partOf
    rw [g1, g2, g3, g4, g5, g6, g7, ← hR]
    simp
  unfold decode
  rw [if_neg (by rw [encode_len]; omega), if_neg (by rw [encode_len]; omega)]
  have hsum : (sha ((encode p).drop 16)).take 16 = (encode p).take 16 := by
    have h1 : (encode p).drop 16 = fill240 (head p ++ p.bytes) := by
      rw [encode, sealB, hDg, show (16 : Nat) = Dg.length from hD.symm, List.drop_left]
    have h2 : (encode p).take 16 = Dg := by
      rw [encode, sealB, hDg, show (16 : Nat) = Dg.length from hD.symm, List.take_left]
    rw [h1, h2, hDg]
  rw [if_neg (by rw [hsum]; simp), g6, if_neg (by omega)]
  rw [if_neg ?_, hpart, if_neg (by rw [h]; simp)]
  rw [Decidable.not_not, show ((p.bytes.length : Int)).toNat = p.bytes.length from by omega, d32, ← hR, List.drop_left]
  simp
end Go.RC

/- Records: the bytes of a header, one after another. -/
set_option linter.unusedVariables false
set_option linter.unusedSimpArgs false
namespace Go.RC
open Go.SL Go.SH
def beN (s m : Nat) : List UInt8 := (List.range s).map fun j => UInt8.ofNat (m / 2 ^ (8 * (s - 1 - j)))
theorem beN_len (s m : Nat) : (beN s m).length = s := by simp [beN]
theorem beN_snoc {s m p : Nat} (h : p < s) : (beN s m).take (s - (p + 1)) ++ [UInt8.ofNat (m / 2 ^ (8 * p))] = (beN s m).take (s - p) := by
  rw [show s - p = (s - (p + 1)) + 1 from by omega, List.take_add_one]
  congr 1
  have hg : (beN s m)[s - (p + 1)]? = some (UInt8.ofNat (m / 2 ^ (8 * p))) := by
    simp only [beN, List.getElem?_map]
    rw [List.getElem?_range (by omega)]
    simp only [Option.map_some]
    rw [show s - 1 - (s - (p + 1)) = p from by omega]
  rw [hg]; rfl
theorem ofNat_mod256 (n : Nat) : UInt8.ofNat (n % 256) = UInt8.ofNat n := by
  apply UInt8.toNat_inj.1
  simp
theorem be_beN : ∀ (s m : Nat), be s (m : Int) = beN s m
  | 0, m => rfl
  | s + 1, m => by
    have h1 : ((m : Int) / 256) = ((m / 256 : Nat) : Int) := by omega
    have h2 : ((m : Int) % 256).toNat = m % 256 := by omega
    rw [be, h1, be_beN s (m / 256), h2, ofNat_mod256]
    simp only [beN, List.range_succ, List.map_append, List.map_cons, List.map_nil]
    congr 1
    · apply List.map_congr_left
      intro j hj
      have hj := List.mem_range.1 hj
      congr 1
      rw [show 8 * (s + 1 - 1 - j) = 8 + 8 * (s - 1 - j) from by omega, Nat.pow_add, ← Nat.div_div_eq_div_mul]
    · simp
/-- The fields of a header: the place, the size, the number. -/
def fldV (p : PartS) : List (Nat × Nat × Nat) := [(1, 4, p.gen.toNat), (2, 4, p.num.toNat), (0, 2, p.kind.toNat), (3, 2, p.idx.toNat), (4, 2, p.cnt.toNat), (6, 2, p.bytes.length)]
def hdrN (p : PartS) (t : Nat) : List UInt8 := ((fldV p).take t).flatMap fun x => beN x.2.1 x.2.2
theorem hdrN_six {p : PartS} (h : 0 ≤ p.gen ∧ 0 ≤ p.num ∧ 0 ≤ p.kind ∧ 0 ≤ p.idx ∧ 0 ≤ p.cnt) : hdrN p 6 = head p := by
  obtain ⟨h1, h2, h3, h4, h5⟩ := h
  simp only [hdrN, fldV, List.take_succ_cons, List.take_zero, List.flatMap_cons, List.flatMap_nil, head, List.append_nil]
  rw [← be_beN, ← be_beN, ← be_beN, ← be_beN, ← be_beN, ← be_beN, Int.toNat_of_nonneg h1, Int.toNat_of_nonneg h2, Int.toNat_of_nonneg h3, Int.toNat_of_nonneg h4, Int.toNat_of_nonneg h5]
  simp
theorem hdrN_succ {p : PartS} {t k s m : Nat} (h : (fldV p)[t]? = some (k, s, m)) : hdrN p (t + 1) = hdrN p t ++ beN s m := by
  simp only [hdrN]
  rw [List.take_add_one, h]
  simp
def fillC (X : List UInt8) : List Value := (X ++ List.replicate (256 - X.length) 0).map byteV
theorem fillC_len {X : List UInt8} (h : X.length ≤ 256) : (fillC X).length = 256 := by simp [fillC]; omega
theorem splice_fillC {X ys : List UInt8} {k : Nat} (hk : k = X.length) (h : X.length + ys.length ≤ 256) : splice (fillC X) k (ys.map byteV) = fillC (X ++ ys) := by
  subst hk
  simp only [splice, fillC, ← List.map_take, ← List.map_drop, ← List.map_append, List.length_map]
  congr 1
  rw [List.take_left, ← List.drop_drop, List.drop_left, List.drop_replicate, List.length_append, List.append_assoc, List.append_assoc]
  congr 3
  omega
end Go.RC

/- Records: the fields of a header, read one after another. -/
set_option linter.unusedVariables false
set_option linter.unusedSimpArgs false
namespace Go.RC
open Go.SL Go.SH
def valN (b : List UInt8) : Nat := b.foldl (fun n c => n * 256 + c.toNat) 0
theorem foldl_valN : ∀ (b : List UInt8) (n : Nat), b.foldl (fun (n : Int) c => n * 256 + c.toNat) (n : Int) = ((b.foldl (fun n c => n * 256 + c.toNat) n : Nat) : Int)
  | [], n => rfl
  | c :: b, n => by
    simp only [List.foldl_cons]
    rw [← foldl_valN b]
    congr 1
theorem val_valN (b : List UInt8) : val b = (valN b : Int) := foldl_valN b 0
theorem valN_snoc (b : List UInt8) (c : UInt8) : valN (b ++ [c]) = valN b * 256 + c.toNat := by simp [valN]
theorem foldl_lt : ∀ (b : List UInt8) (n k : Nat), n < 256 ^ k → b.foldl (fun n c => n * 256 + c.toNat) n < 256 ^ (k + b.length)
  | [], n, k, h => h
  | c :: b, n, k, h => by
    simp only [List.foldl_cons, List.length_cons]
    rw [show k + (b.length + 1) = (k + 1) + b.length from by omega]
    refine foldl_lt b _ (k + 1) ?_
    rw [Nat.pow_succ]
    have := c.toNat_lt
    omega
theorem valN_lt (b : List UInt8) : valN b < 256 ^ b.length := by
  have := foldl_lt b 0 0 (by decide)
  simpa [valN] using this
def fvD : List (Nat × Nat × Nat) := [(1, 4, 16), (2, 4, 20), (0, 2, 24), (3, 2, 26), (4, 2, 28), (6, 2, 30)]
def offT (t : Nat) : Nat := [16, 20, 24, 26, 28, 30, 32].getD t 0
def zcells : List Value := [.int .i64 0, .int .i64 0, .int .i64 0, .int .i64 0, .int .i64 0, .slice none 0 0, .int .i64 0]
def cellD (bs : List UInt8) (t : Nat) : List Value := (fvD.take t).foldl (fun cs x => cs.set x.1 (.int .i64 (val (partOf.sub16 bs x.2.2 x.2.1)))) zcells
theorem cellD_len (bs : List UInt8) (t : Nat) : (cellD bs t).length = 7 := by
  unfold cellD
  have : ∀ (l : List (Nat × Nat × Nat)) (cs : List Value), (l.foldl (fun cs x => cs.set x.1 (Value.int .i64 (val (partOf.sub16 bs x.2.2 x.2.1)))) cs).length = cs.length := by
    intro l
    induction l with
    | nil => intro cs; rfl
    | cons x l ih => intro cs; simp only [List.foldl_cons]; rw [ih]; simp
  rw [this]; rfl
theorem dFacts (bs : List UInt8) (t : Nat) (ht : t < 6) : ∃ k s off : Nat, fvD[t]? = some (k, s, off) ∧ (cellD bs t)[k]? = some (.int .i64 0) ∧ (s = 4 ∨ s = 2) ∧ off + s ≤ 32 ∧ offT t = off ∧ offT (t + 1) = off + s ∧ k < 7 := by
  match t, ht with
  | 0, _ => exact ⟨1, 4, 16, rfl, rfl, by omega, by omega, rfl, rfl, by omega⟩
  | 1, _ => exact ⟨2, 4, 20, rfl, rfl, by omega, by omega, rfl, rfl, by omega⟩
  | 2, _ => exact ⟨0, 2, 24, rfl, rfl, by omega, by omega, rfl, rfl, by omega⟩
  | 3, _ => exact ⟨3, 2, 26, rfl, rfl, by omega, by omega, rfl, rfl, by omega⟩
  | 4, _ => exact ⟨4, 2, 28, rfl, rfl, by omega, by omega, rfl, rfl, by omega⟩
  | 5, _ => exact ⟨6, 2, 30, rfl, rfl, by omega, by omega, rfl, rfl, by omega⟩
theorem cellD_succ {bs : List UInt8} {t k s off : Nat} (h : fvD[t]? = some (k, s, off)) : cellD bs (t + 1) = (cellD bs t).set k (.int .i64 (val (partOf.sub16 bs off s))) := by
  unfold cellD
  rw [List.take_add_one, h]
  simp
theorem cellD_six (bs : List UInt8) : cellD bs 6 = [.int .i64 (partOf bs).kind, .int .i64 (partOf bs).gen, .int .i64 (partOf bs).num, .int .i64 (partOf bs).idx, .int .i64 (partOf bs).cnt, .slice none 0 0, .int .i64 (val (partOf.sub16 bs 30 2))] := rfl
theorem set_self {l : List Value} {k : Nat} {u : Value} (h : l[k]? = some u) : l.set k u = l := by
  apply List.ext_getElem?
  intro i
  rw [List.getElem?_set]
  split
  · rename_i e
    subst e
    have := (List.getElem?_eq_some_iff.1 h).1
    rw [h]; simp [this]
  · rfl
theorem sub16_succ {bs : List UInt8} {off j : Nat} {c : UInt8} (h : bs[off + j]? = some c) : partOf.sub16 bs off (j + 1) = partOf.sub16 bs off j ++ [c] := by
  unfold partOf.sub16
  rw [List.take_add_one, List.getElem?_drop, h]
  rfl
theorem sub16_len (bs : List UInt8) (off j : Nat) : (partOf.sub16 bs off j).length ≤ j := by simp [partOf.sub16]; omega
theorem val_sub16_nn (b : List UInt8) : 0 ≤ val b := by rw [val_valN]; omega
end Go.RC

/- Records in sectors, as plain data (2): splitting, joining, scanning. -/
set_option linter.unusedVariables false
set_option linter.unusedSimpArgs false
namespace Go.RC
open Go.SL Go.SH
structure RecS where
  kind : Int
  gen : Int
  num : Int
  pay : List UInt8
def zeroR : RecS := ⟨0, 0, 0, []⟩
def need (n : Nat) : Nat := max 1 ((n + 223) / 224)
def partR (r : RecS) (i : Nat) : PartS := ⟨r.kind, r.gen, r.num, i, need r.pay.length, (r.pay.drop (224 * i)).take 224⟩
def sectorsR (r : RecS) : List (List UInt8) := (List.range (need r.pay.length)).map fun i => encode (partR r i)
def split (r : RecS) : List (List UInt8) × Int := if ¬ fine r.kind r.gen r.num then ([], 2) else if 131072 < r.pay.length then ([], 5) else (sectorsR r, 0)
def joinFrom (f : PartS) (l : List (List UInt8)) : Nat → Nat → List UInt8 → List UInt8 × Int
  | 0, _, acc => (acc, 0)
  | k + 1, i, acc =>
    match l[i]? with
    | none => ([], 23)
    | some b =>
      if (decode b).2 ≠ 0 then ([], (decode b).2)
      else if (decode b).1.idx ≠ i ∨ (decode b).1.kind ≠ f.kind ∨ (decode b).1.gen ≠ f.gen ∨ (decode b).1.num ≠ f.num ∨ (decode b).1.cnt ≠ f.cnt then ([], 30)
      else joinFrom f l k (i + 1) (acc ++ (decode b).1.bytes)
def join (l : List (List UInt8)) : RecS × Int × Int :=
  match l with
  | [] => (zeroR, 0, 4)
  | b :: _ =>
    if (decode b).2 ≠ 0 then (zeroR, 0, (decode b).2)
    else if (decode b).1.idx ≠ 0 then (zeroR, 0, 30)
    else if (joinFrom (decode b).1 l ((decode b).1.cnt.toNat - 1) 1 (decode b).1.bytes).2 ≠ 0 then (zeroR, 0, (joinFrom (decode b).1 l ((decode b).1.cnt.toNat - 1) 1 (decode b).1.bytes).2)
    else (⟨(decode b).1.kind, (decode b).1.gen, (decode b).1.num, (joinFrom (decode b).1 l ((decode b).1.cnt.toNat - 1) 1 (decode b).1.bytes).1⟩, (decode b).1.cnt, 0)
theorem need_pos (n : Nat) : 1 ≤ need n := by unfold need; omega
theorem need_spec (n i : Nat) (hi : i < need n) : i + 1 < need n ∧ 224 * (i + 1) < n ∨ i + 1 = need n ∧ n ≤ 224 * (i + 1) ∧ (i = 0 ∨ 224 * i < n) := by
  unfold need at *
  omega
theorem check_part {r : RecS} (hf : fine r.kind r.gen r.num) (hl : r.pay.length ≤ 131072) {i : Nat} (hi : i < need r.pay.length) : check (partR r i) = 0 := by
  have hs := need_spec _ _ hi
  have hn : need r.pay.length ≤ 586 := by unfold need; omega
  have hb : (partR r i).bytes.length = min 224 (r.pay.length - 224 * i) := by simp [partR]
  have c1 : (partR r i).cnt = (need r.pay.length : Int) := rfl
  have c2 : (partR r i).idx = (i : Int) := rfl
  have c3 : fine (partR r i).kind (partR r i).gen (partR r i).num := hf
  unfold check
  rw [if_neg (fun h => by
    rcases h with h | h | h | h | h
    · exact h c3
    · omega
    · omega
    · omega
    · omega), if_neg (by omega), if_neg (by omega), if_neg (by omega)]
theorem sectors_get {r : RecS} {i : Nat} (hi : i < need r.pay.length) (more : List (List UInt8)) : (sectorsR r ++ more)[i]? = some (encode (partR r i)) := by
  rw [List.getElem?_append_left (by simp [sectorsR]; exact hi)]
  simp [sectorsR, hi]
theorem take_add_drop {α : Type} (l : List α) (a b : Nat) : l.take a ++ (l.drop a).take b = l.take (a + b) := by
  rw [← List.take_add]
theorem joinFrom_ok {r : RecS} (hf : fine r.kind r.gen r.num) (hl : r.pay.length ≤ 131072) (f : PartS) (h1 : f.kind = r.kind) (h2 : f.gen = r.gen) (h3 : f.num = r.num) (h4 : f.cnt = need r.pay.length) (more : List (List UInt8)) :
    ∀ (k i : Nat), i + k = need r.pay.length → joinFrom f (sectorsR r ++ more) k i (r.pay.take (224 * i)) = (r.pay, 0)
  | 0, i, h => by
    rw [joinFrom, List.take_of_length_le (by rw [show i = need r.pay.length from by omega]; unfold need; omega)]
  | k + 1, i, h => by
    have hi : i < need r.pay.length := by omega
    rw [joinFrom, sectors_get hi]
    simp only [decode_encode (check_part hf hl hi)]
    rw [if_neg (by simp), if_neg (by simp [partR, h1, h2, h3, h4])]
    have e : r.pay.take (224 * i) ++ (partR r i).bytes = r.pay.take (224 * (i + 1)) := by
      simp only [partR]
      rw [take_add_drop]; congr 1
    rw [e]
    exact joinFrom_ok hf hl f h1 h2 h3 h4 more k (i + 1) (by omega)
theorem join_split {r : RecS} (hf : fine r.kind r.gen r.num) (hl : r.pay.length ≤ 131072) (more : List (List UInt8)) : join (sectorsR r ++ more) = (r, (need r.pay.length : Int), 0) := by
  have hp := need_pos r.pay.length
  have h0 := sectors_get (r := r) (i := 0) (by omega) more
  have hd := decode_encode (check_part hf hl (show 0 < need r.pay.length from by omega))
  cases hS : sectorsR r ++ more with
  | nil => rw [hS] at h0; simp at h0
  | cons b l =>
    rw [hS] at h0
    simp only [List.getElem?_cons_zero, Option.some.injEq] at h0
    unfold join
    simp only [h0, hd]
    rw [if_neg (by simp), if_neg (by simp [partR])]
    have hj := joinFrom_ok hf hl (partR r 0) rfl rfl rfl rfl more (need r.pay.length - 1) 1 (by omega)
    have e : r.pay.take (224 * 1) = (partR r 0).bytes := by simp [partR]
    rw [e, hS] at hj
    have e2 : (partR r 0).cnt.toNat - 1 = need r.pay.length - 1 := by simp [partR]
    rw [← h0, e2]
    rw [h0] at hj ⊢
    rw [hj]
    simp [partR]
theorem joinFrom_cut {r : RecS} (hf : fine r.kind r.gen r.num) (hl : r.pay.length ≤ 131072) (f : PartS) (h1 : f.kind = r.kind) (h2 : f.gen = r.gen) (h3 : f.num = r.num) (h4 : f.cnt = need r.pay.length) (c : Nat) (hc : c < need r.pay.length) :
    ∀ (k i : Nat) (acc : List UInt8), i + k = need r.pay.length → i ≤ c → joinFrom f ((sectorsR r).take c) k i acc = ([], 23)
  | 0, i, _, h, h5 => by omega
  | k + 1, i, acc, h, h5 => by
    have hsl : (sectorsR r).length = need r.pay.length := by simp [sectorsR]
    rw [joinFrom]
    rcases Nat.lt_or_ge i c with h6 | h6
    · have hg : ((sectorsR r).take c)[i]? = some (encode (partR r i)) := by
        rw [List.getElem?_take, if_pos h6]
        have := sectors_get (r := r) (i := i) (by omega) []
        rwa [List.append_nil] at this
      rw [hg]
      simp only [decode_encode (check_part hf hl (show i < need r.pay.length from by omega))]
      rw [if_neg (by simp), if_neg (by simp [partR, h1, h2, h3, h4])]
      exact joinFrom_cut hf hl f h1 h2 h3 h4 c hc k (i + 1) _ (by omega) (by omega)
    · rw [List.getElem?_eq_none (by simp; omega)]
theorem join_cut {r : RecS} (hf : fine r.kind r.gen r.num) (hl : r.pay.length ≤ 131072) (c : Nat) (h0 : 0 < c) (hc : c < need r.pay.length) : join ((sectorsR r).take c) = (zeroR, 0, 23) := by
  have hd := decode_encode (check_part hf hl (show 0 < need r.pay.length from by omega))
  have hg : ((sectorsR r).take c)[0]? = some (encode (partR r 0)) := by
    rw [List.getElem?_take, if_pos h0]
    have := sectors_get (r := r) (i := 0) (by omega) []
    rwa [List.append_nil] at this
  have hj := joinFrom_cut hf hl (partR r 0) rfl rfl rfl rfl c hc (need r.pay.length - 1) 1 (partR r 0).bytes (by omega) (by omega)
  cases hS : (sectorsR r).take c with
  | nil => rw [hS] at hg; simp at hg
  | cons b l =>
    rw [hS] at hg hj
    simp only [List.getElem?_cons_zero, Option.some.injEq] at hg
    unfold join
    simp only [hg, hd]
    rw [if_neg (by simp), if_neg (by simp [partR])]
    have e2 : (partR r 0).cnt.toNat - 1 = need r.pay.length - 1 := by simp [partR]
    rw [e2]
    rw [hg] at hj
    rw [hj]
    simp
/-- Complete records of a generation with consecutive numbers. -/
def scan : Nat → Int → Int → List (List UInt8) → List RecS × Int × Int
  | 0, _, _, _ => ([], 0, 0)
  | fuel + 1, gen, num, l =>
    if l = [] then ([], 0, 0)
    else if (join l).2.2 ≠ 0 then ([], 0, (join l).2.2)
    else if (join l).1.gen ≠ gen ∨ (join l).1.num ≠ num then ([], 0, 30)
    else ((join l).1 :: (scan fuel gen (num + 1) (l.drop (join l).2.1.toNat)).1, (join l).2.1 + (scan fuel gen (num + 1) (l.drop (join l).2.1.toNat)).2.1, (scan fuel gen (num + 1) (l.drop (join l).2.1.toNat)).2.2)
def salvage : Nat → List (List UInt8) → List RecS
  | 0, _ => []
  | fuel + 1, l =>
    if l = [] then []
    else if (join l).2.2 ≠ 0 then salvage fuel l.tail
    else (join l).1 :: salvage fuel (l.drop (join l).2.1.toNat)
theorem decode_ok {b : List UInt8} (h : (decode b).2 = 0) : check (decode b).1 = 0 ∧ b.length = 256 := by
  unfold decode at h ⊢
  split
  · rename_i h1; rw [if_pos h1] at h; cases h
  rename_i h1
  rw [if_neg h1] at h
  split
  · rename_i h2; rw [if_pos h2] at h; cases h
  rename_i h2
  rw [if_neg h2] at h
  split
  · rename_i h3; rw [if_pos h3] at h; cases h
  rename_i h3
  rw [if_neg h3] at h
  split
  · rename_i h4; rw [if_pos h4] at h; cases h
  rename_i h4
  rw [if_neg h4] at h
  split
  · rename_i h5; rw [if_pos h5] at h; cases h
  rename_i h5
  rw [if_neg h5] at h
  split
  · rename_i h6; rw [if_pos h6] at h; cases h
  rename_i h6
  exact ⟨Decidable.not_not.1 h6, by omega⟩
theorem joinFrom_none {f : PartS} {l : List (List UInt8)} {k i : Nat} {acc : List UInt8} (h : l[i]? = none) : joinFrom f l (k + 1) i acc = ([], 23) := by rw [joinFrom, h]
theorem joinFrom_err {f : PartS} {l : List (List UInt8)} {k i : Nat} {acc b : List UInt8} (h : l[i]? = some b) (he : (decode b).2 ≠ 0) : joinFrom f l (k + 1) i acc = ([], (decode b).2) := by
  rw [joinFrom, h]; simp only; rw [if_pos he]
theorem joinFrom_seq {f : PartS} {l : List (List UInt8)} {k i : Nat} {acc b : List UInt8} (h : l[i]? = some b) (he : (decode b).2 = 0) (hne : (decode b).1.idx ≠ i ∨ (decode b).1.kind ≠ f.kind ∨ (decode b).1.gen ≠ f.gen ∨ (decode b).1.num ≠ f.num ∨ (decode b).1.cnt ≠ f.cnt) : joinFrom f l (k + 1) i acc = ([], 30) := by
  rw [joinFrom, h]; simp only; rw [if_neg (by simp [he]), if_pos hne]
theorem joinFrom_step {f : PartS} {l : List (List UInt8)} {k i : Nat} {acc b : List UInt8} (h : l[i]? = some b) (he : (decode b).2 = 0) (hne : ¬ ((decode b).1.idx ≠ i ∨ (decode b).1.kind ≠ f.kind ∨ (decode b).1.gen ≠ f.gen ∨ (decode b).1.num ≠ f.num ∨ (decode b).1.cnt ≠ f.cnt)) : joinFrom f l (k + 1) i acc = joinFrom f l k (i + 1) (acc ++ (decode b).1.bytes) := by
  rw [joinFrom, h]; simp only; rw [if_neg (by simp [he]), if_neg hne]
theorem join_err {l : List (List UInt8)} {b : List UInt8} (h : l[0]? = some b) (he : (decode b).2 ≠ 0) : join l = (zeroR, 0, (decode b).2) := by
  match l, h with
  | x :: l, h => simp only [List.getElem?_cons_zero, Option.some.injEq] at h; subst h; rw [join]; rw [if_pos he]
theorem join_idx {l : List (List UInt8)} {b : List UInt8} (h : l[0]? = some b) (he : (decode b).2 = 0) (hi : (decode b).1.idx ≠ 0) : join l = (zeroR, 0, 30) := by
  match l, h with
  | x :: l, h => simp only [List.getElem?_cons_zero, Option.some.injEq] at h; subst h; rw [join]; rw [if_neg (by simp [he]), if_pos hi]
theorem join_from {l : List (List UInt8)} {b : List UInt8} {R : List UInt8 × Int} (h : l[0]? = some b) (he : (decode b).2 = 0) (hi : (decode b).1.idx = 0) (hR : joinFrom (decode b).1 l ((decode b).1.cnt.toNat - 1) 1 (decode b).1.bytes = R) :
    join l = if R.2 ≠ 0 then (zeroR, 0, R.2) else (⟨(decode b).1.kind, (decode b).1.gen, (decode b).1.num, R.1⟩, (decode b).1.cnt, 0) := by
  subst hR
  match l, h with
  | x :: l, h => simp only [List.getElem?_cons_zero, Option.some.injEq] at h; subst h; rw [join]; rw [if_neg (by simp [he]), if_neg (by simp [hi])]
def scanAll (gen num : Int) (l : List (List UInt8)) : List RecS × Int × Int := if ¬ ((0 ≤ gen ∧ gen ≤ 2147483647) ∧ (0 ≤ num ∧ num ≤ 2147483647)) then ([], 0, 2) else scan (l.length + 1) gen num l
theorem join_cnt {l : List (List UInt8)} (h : (join l).2.2 = 0) : 1 ≤ (join l).2.1 ∧ (join l).2.1 ≤ 586 ∧ l ≠ [] := by
  match l with
  | [] => simp [join] at h
  | b :: r =>
    have hb : (b :: r)[0]? = some b := rfl
    by_cases he : (decode b).2 = 0
    case neg => rw [join_err hb he] at h; exact absurd h he
    by_cases hi : (decode b).1.idx = 0
    case neg => rw [join_idx hb he hi] at h; cases h
    rw [join_from hb he hi rfl] at h ⊢
    split at h
    · rename_i h1; exact absurd h h1
    rename_i h1
    rw [if_neg h1]
    have := check_zero (decode_ok he).1
    exact ⟨this.2.1, this.2.2.1, by simp⟩
theorem joinFrom_pos {f : PartS} {l : List (List UInt8)} : ∀ (k i : Nat) (acc : List UInt8), (joinFrom f l k i acc).2 = 0 → i + k ≤ l.length ∨ k = 0
  | 0, i, acc, _ => .inr rfl
  | k + 1, i, acc, h => by
    left
    cases hb : l[i]? with
    | none => rw [joinFrom_none hb] at h; cases h
    | some b =>
      have hi := (List.getElem?_eq_some_iff.1 hb).1
      by_cases he : (decode b).2 = 0
      case neg => rw [joinFrom_err hb he] at h; exact absurd h he
      by_cases hne : (decode b).1.idx ≠ i ∨ (decode b).1.kind ≠ f.kind ∨ (decode b).1.gen ≠ f.gen ∨ (decode b).1.num ≠ f.num ∨ (decode b).1.cnt ≠ f.cnt
      · rw [joinFrom_seq hb he hne] at h; cases h
      · rw [joinFrom_step hb he hne] at h
        have := joinFrom_pos k (i + 1) _ h
        omega
theorem join_le {l : List (List UInt8)} (h : (join l).2.2 = 0) : (join l).2.1.toNat ≤ l.length := by
  match l with
  | [] => simp [join] at h
  | b :: r =>
    have hb : (b :: r)[0]? = some b := rfl
    by_cases he : (decode b).2 = 0
    case neg => rw [join_err hb he] at h; exact absurd h he
    by_cases hi : (decode b).1.idx = 0
    case neg => rw [join_idx hb he hi] at h; cases h
    rw [join_from hb he hi rfl] at h ⊢
    split at h
    · rename_i h1; exact absurd h h1
    rename_i h1
    rw [if_neg h1]
    have h2 := check_zero (decode_ok he).1
    have := joinFrom_pos _ _ _ (Decidable.not_not.1 h1)
    simp only [List.length_cons] at *
    omega
theorem joinFrom_len {f : PartS} {l : List (List UInt8)} : ∀ (k i : Nat) (acc : List UInt8), (joinFrom f l k i acc).1.length ≤ acc.length + 224 * k
  | 0, i, acc => by simp [joinFrom]
  | k + 1, i, acc => by
    cases hb : l[i]? with
    | none => rw [joinFrom_none hb]; simp
    | some b =>
      by_cases he : (decode b).2 = 0
      case neg => rw [joinFrom_err hb he]; simp
      by_cases hne : (decode b).1.idx ≠ i ∨ (decode b).1.kind ≠ f.kind ∨ (decode b).1.gen ≠ f.gen ∨ (decode b).1.num ≠ f.num ∨ (decode b).1.cnt ≠ f.cnt
      · rw [joinFrom_seq hb he hne]; simp
      · rw [joinFrom_step hb he hne]
        have := joinFrom_len (f := f) (l := l) k (i + 1) (acc ++ (decode b).1.bytes)
        have h2 := check_zero (decode_ok he).1
        rw [List.length_append] at this
        omega
theorem join_pay (l : List (List UInt8)) : (join l).1.pay.length ≤ 131264 := by
  match l with
  | [] => simp [join, zeroR]
  | b :: r =>
    have hb : (b :: r)[0]? = some b := rfl
    by_cases he : (decode b).2 = 0
    case neg => rw [join_err hb he]; simp [zeroR]
    by_cases hi : (decode b).1.idx = 0
    case neg => rw [join_idx hb he hi]; simp [zeroR]
    rw [join_from hb he hi rfl]
    split
    · simp [zeroR]
    · have h2 := check_zero (decode_ok he).1
      have := joinFrom_len (f := (decode b).1) (l := b :: r) ((decode b).1.cnt.toNat - 1) 1 (decode b).1.bytes
      simp only
      omega
end Go.RC

/- Records in sectors, as plain data (3): tampering, torn sectors. -/
set_option linter.unusedVariables false
set_option linter.unusedSimpArgs false
namespace Go.RC
open Go.SL Go.SH
theorem decode_chk {b : List UInt8} (h : b.length = 256) (hne : (decode b).2 ≠ 22) : (sha (b.drop 16)).take 16 = b.take 16 := by
  apply Classical.byContradiction
  intro hc
  apply hne
  unfold decode
  rw [if_neg (by omega), if_neg (by omega), if_pos hc]
theorem encode_chk (p : PartS) : (sha ((encode p).drop 16)).take 16 = (encode p).take 16 := by
  have hD : ((sha (fill240 (head p ++ p.bytes))).take 16).length = 16 := by simp [sha_len]
  have h1 : (encode p).drop 16 = fill240 (head p ++ p.bytes) := by
    rw [encode, sealB]
    generalize (sha (fill240 (head p ++ p.bytes))).take 16 = Dg at hD
    rw [show (16 : Nat) = Dg.length from hD.symm, List.drop_left]
  have h2 : (encode p).take 16 = (sha (fill240 (head p ++ p.bytes))).take 16 := by
    rw [encode, sealB]
    generalize (sha (fill240 (head p ++ p.bytes))).take 16 = Dg at hD
    rw [show (16 : Nat) = Dg.length from hD.symm, List.take_left]
  rw [h1, h2]
def collide (a b : List UInt8) : Prop := a ≠ b ∧ (sha a).take 16 = (sha b).take 16
theorem split16 (a : List UInt8) : a.take 16 ++ a.drop 16 = a := List.take_append_drop 16 a
theorem tamper_gen {a b : List UInt8} (hb : b.length = 256) (ha : (sha (a.drop 16)).take 16 = a.take 16) (hne : a ≠ b) (hpart : a.take 16 = b.take 16 ∨ a.drop 16 = b.drop 16) (h : (decode b).2 ≠ 22) : collide (a.drop 16) (b.drop 16) := by
  have hc := decode_chk hb h
  rcases hpart with h1 | h1
  · refine ⟨fun h2 => hne ?_, by rw [ha, hc, h1]⟩
    rw [← split16 a, ← split16 b, h1, h2]
  · exfalso
    apply hne
    rw [← split16 a, ← split16 b, h1, ← ha, h1, hc]
theorem xor_ne {x y : UInt8} (h : y ≠ 0) : x ^^^ y ≠ x := by
  intro h2
  apply h
  have : x ^^^ (x ^^^ y) = x ^^^ x := by rw [h2]
  rw [← UInt8.xor_assoc, UInt8.xor_self, UInt8.zero_xor] at this
  exact this
theorem tamper {p : PartS} (hc : check p = 0) (at_ by_ : UInt8) (hby : by_ ≠ 0) :
    (decode ((encode p).set at_.toNat ((encode p).getD at_.toNat 0 ^^^ by_))).2 = 22 ∨ collide ((encode p).drop 16) (((encode p).set at_.toNat ((encode p).getD at_.toNat 0 ^^^ by_)).drop 16) := by
  have hl := encode_len p
  have hat := at_.toNat_lt
  generalize hb : (encode p).set at_.toNat ((encode p).getD at_.toNat 0 ^^^ by_) = b
  have hbl : b.length = 256 := by rw [← hb]; simp [hl]
  by_cases h : (decode b).2 = 22
  · exact .inl h
  · right
    refine tamper_gen hbl (encode_chk p) ?_ ?_ h
    · intro he
      rw [← hb] at he
      have h1 := congrArg (fun l => l.getD at_.toNat 0) he
      simp only [List.getD, List.getElem?_set_self (show at_.toNat < (encode p).length from by omega), Option.getD_some] at h1
      exact xor_ne hby h1.symm
    · rw [← hb]
      rcases Nat.lt_or_ge at_.toNat 16 with h1 | h1
      · right; rw [List.drop_set_of_lt h1]
      · left; rw [List.take_set_of_le h1]
theorem torn {a b : List UInt8} (ha : a.length = 256) (hb : b.length = 256) (ca : (sha (a.drop 16)).take 16 = a.take 16) (cb : (sha (b.drop 16)).take 16 = b.take 16) (k : Nat) (hk : k ≤ 256)
    (hna : a.take k ++ b.drop k ≠ a) (hnb : a.take k ++ b.drop k ≠ b) (h : (decode (a.take k ++ b.drop k)).2 ≠ 22) : collide (a.drop 16) ((a.take k ++ b.drop k).drop 16) := by
  have hcl : (a.take k ++ b.drop k).length = 256 := by simp [ha, hb]; omega
  rcases Nat.lt_or_ge k 16 with h1 | h1
  · exfalso
    have e : (a.take k ++ b.drop k).drop 16 = b.drop 16 := by
      rw [List.drop_append, List.drop_eq_nil_of_le (by simp; omega), List.nil_append, List.drop_drop]
      congr 1; simp [ha]; omega
    have hc := decode_chk hcl h
    apply hnb
    have e2 : (a.take k ++ b.drop k).take 16 = b.take 16 := by rw [← hc, e, cb]
    have e3 := split16 (a.take k ++ b.drop k)
    rw [e, e2, split16] at e3
    exact e3.symm
  · refine tamper_gen hcl ca (Ne.symm hna) (.inl ?_) h
    rw [List.take_append_of_le_length (by simp [ha]; omega), List.take_take, Nat.min_eq_left h1]
end Go.RC

/- Records: the examples of the document. -/
set_option linter.unusedVariables false
set_option linter.unusedSimpArgs false
set_option maxRecDepth 100000
namespace Go.RC
open Go.SL Go.SH
theorem sha_zero : (sha (List.replicate 240 0)).take 16 ≠ List.replicate 16 0 := by decide +kernel
theorem encode_head {p : PartS} {i : Nat} (hi : i < 16) : (encode p)[16 + i]? = (head p)[i]? := by
  have hD : ((sha (fill240 (head p ++ p.bytes))).take 16).length = 16 := by simp [sha_len]
  rw [encode, sealB, List.getElem?_append_right (by omega), hD, Nat.add_sub_cancel_left, fill240, List.getElem?_take, if_pos (by omega), List.append_assoc, List.getElem?_append_left (by rw [head_len]; exact hi)]
def r0 : RecS := ⟨1, 2, 3, List.replicate 300 0⟩
theorem split_r0 : split r0 = ([encode (partR r0 0), encode (partR r0 1)], 0) := by
  have hf : fine r0.kind r0.gen r0.num := by decide
  have hl : r0.pay.length = 300 := by simp [r0]
  have hn : need r0.pay.length = 2 := by rw [hl]; rfl
  rw [split, if_neg (by simpa using hf), if_neg (by omega), sectorsR, hn]
  rfl
theorem r0_27 : (encode (partR r0 1))[27]? = some 1 := by
  rw [show (27 : Nat) = 16 + 11 from rfl, encode_head (by omega)]
  decide +kernel
theorem r0_31 : (encode (partR r0 1))[31]? = some 76 := by
  rw [show (31 : Nat) = 16 + 15 from rfl, encode_head (by omega)]
  decide +kernel
theorem decode_zero : decode (List.replicate 256 0) = (zeroP, 22) := by
  have h : (sha ((List.replicate 256 (0 : UInt8)).drop 16)).take 16 ≠ (List.replicate 256 (0 : UInt8)).take 16 := by
    rw [List.drop_replicate, List.take_replicate]
    exact sha_zero
  rw [decode, if_neg (by simp), if_neg (by simp), if_pos h]
theorem scan_zero : scanAll 0 0 [List.replicate 256 0] = ([], 0, 22) := by
  have hj : join [List.replicate 256 0] = (zeroR, 0, 22) := by
    have := join_err (l := [List.replicate 256 0]) (b := List.replicate 256 0) rfl (by rw [decode_zero]; decide)
    rw [decode_zero] at this
    exact this
  rw [scanAll, if_neg (by decide), show [List.replicate 256 (0 : UInt8)].length + 1 = 1 + 1 from rfl, scan, if_neg (by simp), hj, if_pos (by decide)]
end Go.RC
