/- SHA-256, as plain data. -/
import Derived.Test.YtjklnjpmjdbogaaSLBits
set_option linter.unusedVariables false
set_option linter.unusedSimpArgs false
namespace Go.SH
open Go.SL
abbrev W32 := BitVec 32
def rotr (x : W32) (n : Nat) : W32 := x >>> n ||| x <<< (32 - n)
def KS : List W32 := [
  0x428a2f98, 0x71374491, 0xb5c0fbcf, 0xe9b5dba5, 0x3956c25b, 0x59f111f1, 0x923f82a4, 0xab1c5ed5,
  0xd807aa98, 0x12835b01, 0x243185be, 0x550c7dc3, 0x72be5d74, 0x80deb1fe, 0x9bdc06a7, 0xc19bf174,
  0xe49b69c1, 0xefbe4786, 0x0fc19dc6, 0x240ca1cc, 0x2de92c6f, 0x4a7484aa, 0x5cb0a9dc, 0x76f988da,
  0x983e5152, 0xa831c66d, 0xb00327c8, 0xbf597fc7, 0xc6e00bf3, 0xd5a79147, 0x06ca6351, 0x14292967,
  0x27b70a85, 0x2e1b2138, 0x4d2c6dfc, 0x53380d13, 0x650a7354, 0x766a0abb, 0x81c2c92e, 0x92722c85,
  0xa2bfe8a1, 0xa81a664b, 0xc24b8b70, 0xc76c51a3, 0xd192e819, 0xd6990624, 0xf40e3585, 0x106aa070,
  0x19a4c116, 0x1e376c08, 0x2748774c, 0x34b0bcb5, 0x391c0cb3, 0x4ed8aa4a, 0x5b9cca4f, 0x682e6ff3,
  0x748f82ee, 0x78a5636f, 0x84c87814, 0x8cc70208, 0x90befffa, 0xa4506ceb, 0xbef9a3f7, 0xc67178f2]
def init : List W32 := [0x6a09e667, 0xbb67ae85, 0x3c6ef372, 0xa54ff53a, 0x510e527f, 0x9b05688c, 0x1f83d9ab, 0x5be0cd19]
def g0 (x : W32) : W32 := rotr x 7 ^^^ rotr x 18 ^^^ x >>> 3
def g1 (x : W32) : W32 := rotr x 17 ^^^ rotr x 19 ^^^ x >>> 10
def one (s : List W32) (k w : W32) : W32 :=
  match s with
  | [a, b, c, d, e, f, g, h] => h + (rotr e 6 ^^^ rotr e 11 ^^^ rotr e 25) + ((e &&& f) ^^^ (~~~e &&& g)) + k + w
  | _ => 0
def two (s : List W32) : W32 :=
  match s with
  | [a, b, c, d, e, f, g, h] => (rotr a 2 ^^^ rotr a 13 ^^^ rotr a 22) + ((a &&& b) ^^^ (a &&& c) ^^^ (b &&& c))
  | _ => 0
def round (s : List W32) (k w : W32) : List W32 :=
  match s with
  | [a, b, c, d, e, f, g, h] => [one s k w + two s, a, b, c, d + one s k w, e, f, g]
  | _ => s
def plus (s o : List W32) : List W32 := List.zipWith (· + ·) s o
def nextW (l : List W32) : W32 := g1 (l.getD (l.length - 2) 0) + l.getD (l.length - 7) 0 + g0 (l.getD (l.length - 15) 0) + l.getD (l.length - 16) 0
def sched : Nat → List W32 → List W32
  | 0, l => l
  | n + 1, l => sched n (l ++ [nextW l])
def rounds : List W32 → List W32 → List W32 → List W32
  | s, k :: ks, w :: ws => rounds (round s k w) ks ws
  | s, _, _ => s
def compress (s b : List W32) : List W32 := plus (rounds s KS (sched 48 b)) s
def word (a b c d : UInt8) : W32 := BitVec.ofNat 32 a.toNat <<< 24 ||| BitVec.ofNat 32 b.toNat <<< 16 ||| BitVec.ofNat 32 c.toNat <<< 8 ||| BitVec.ofNat 32 d.toNat
def loadW : List UInt8 → List W32
  | a :: b :: c :: d :: r => word a b c d :: loadW r
  | _ => []
def run : Nat → List W32 → List UInt8 → List W32 × List UInt8
  | 0, s, l => (s, l)
  | n + 1, s, l => if 64 ≤ l.length then run n (compress s (loadW (l.take 64))) (l.drop 64) else (s, l)
def all (s : List W32) (l : List UInt8) : List W32 × List UInt8 := run (l.length / 64) s l
def zeros (n : Nat) : Nat := (119 - n % 64) % 64
def be64 (n : Nat) : List UInt8 := [UInt8.ofNat (n / 2 ^ 56), UInt8.ofNat (n / 2 ^ 48), UInt8.ofNat (n / 2 ^ 40), UInt8.ofNat (n / 2 ^ 32), UInt8.ofNat (n / 2 ^ 24), UInt8.ofNat (n / 2 ^ 16), UInt8.ofNat (n / 2 ^ 8), UInt8.ofNat n]
def pad (n : Nat) : List UInt8 := 128 :: List.replicate (zeros n) 0 ++ be64 (n * 8)
def bytesW (x : W32) : List UInt8 := [UInt8.ofNat (x >>> 24).toNat, UInt8.ofNat (x >>> 16).toNat, UInt8.ofNat (x >>> 8).toNat, UInt8.ofNat x.toNat]
def sha (b : List UInt8) : List UInt8 := (all init (b ++ pad b.length)).1.flatMap bytesW

theorem round_len {s : List W32} (h : s.length = 8) (k w : W32) : (round s k w).length = 8 := by
  match s, h with
  | [a, b, c, d, e, f, g, h], _ => rfl
theorem rounds_len : ∀ (ks ws : List W32) {s : List W32}, s.length = 8 → (rounds s ks ws).length = 8
  | [], _, _, h => by simp [rounds, h]
  | _ :: _, [], _, h => by simp [rounds, h]
  | k :: ks, w :: ws, s, h => rounds_len ks ws (round_len h k w)
theorem plus_len {s o : List W32} (h : s.length = 8) (h2 : o.length = 8) : (plus s o).length = 8 := by simp [plus, h, h2]
theorem compress_len {s : List W32} (h : s.length = 8) (b : List W32) : (compress s b).length = 8 := plus_len (rounds_len _ _ h) h
theorem sched_len : ∀ (n : Nat) (l : List W32), (sched n l).length = l.length + n
  | 0, _ => rfl
  | n + 1, l => by rw [sched, sched_len n]; simp; omega
theorem loadW_len : ∀ (n : Nat) {l : List UInt8}, l.length = 4 * n → (loadW l).length = n
  | 0, l, h => by have : l = [] := List.eq_nil_of_length_eq_zero (by omega); subst this; rfl
  | n + 1, l, h => by
    match l, h with
    | a :: b :: c :: d :: r, h => simp only [loadW, List.length_cons]; rw [loadW_len n (by simp at h; omega)]
theorem loadW_get : ∀ {l : List UInt8} {i : Nat} {a b c d : UInt8}, l[4 * i]? = some a → l[4 * i + 1]? = some b → l[4 * i + 2]? = some c → l[4 * i + 3]? = some d → (loadW l)[i]? = some (word a b c d)
  | l, 0, a, b, c, d, h0, h1, h2, h3 => by
    match l, h0, h1, h2, h3 with
    | w :: x :: y :: z :: r, h0, h1, h2, h3 => simp at h0 h1 h2 h3; subst h0 h1 h2 h3; rfl
  | l, i + 1, a, b, c, d, h0, h1, h2, h3 => by
    have hl : 4 * (i + 1) + 3 < l.length := (List.getElem?_eq_some_iff.1 h3).1
    match l, hl, h0, h1, h2, h3 with
    | w :: x :: y :: z :: r, _, h0, h1, h2, h3 =>
      have e : ∀ k, (w :: x :: y :: z :: r)[4 * (i + 1) + k]? = r[4 * i + k]? := fun k => by
        rw [show 4 * (i + 1) + k = (4 * i + k) + 4 from by omega]; rfl
      have e0 := e 0
      simp only [Nat.add_zero] at e0
      rw [e0] at h0; rw [e 1] at h1; rw [e 2] at h2; rw [e 3] at h3
      simp only [loadW, List.getElem?_cons_succ]
      exact loadW_get h0 h1 h2 h3
theorem run_len : ∀ (n : Nat) {s : List W32} (l : List UInt8), s.length = 8 → (run n s l).1.length = 8
  | 0, _, _, h => h
  | n + 1, s, l, h => by
    rw [run]; split
    · exact run_len n _ (compress_len h _)
    · exact h
theorem run_succ_small {n : Nat} {s : List W32} {l : List UInt8} (h : ¬ 64 ≤ l.length) : run n s l = (s, l) := by
  cases n <;> simp [run, h]
theorem all_step {s : List W32} {l : List UInt8} (h : 64 ≤ l.length) : all s l = all (compress s (loadW (l.take 64))) (l.drop 64) := by
  have e : l.length / 64 = (l.drop 64).length / 64 + 1 := by simp; omega
  rw [all, e, run, if_pos h, all]
theorem all_small {s : List W32} {l : List UInt8} (h : l.length < 64) : all s l = (s, l) := by rw [all, run_succ_small (by omega)]
theorem all_append {s : List W32} (c : List UInt8) : ∀ (n : Nat) (s : List W32) (l : List UInt8), l.length = n → all s (l ++ c) = all (all s l).1 ((all s l).2 ++ c) := by
  intro n
  induction n using Nat.strongRecOn with
  | ind n ih =>
    intro s l hl
    by_cases h : 64 ≤ l.length
    · rw [all_step (l := l ++ c) (by simp; omega), List.take_append_of_le_length h, List.drop_append_of_le_length h, ih (l.length - 64) (by omega) _ (l.drop 64) (by simp), ← all_step h]
    · rw [all_small (l := l) (by omega)]
theorem pad_len (n : Nat) : (n + (pad n).length) % 64 = 0 := by simp [pad, zeros, be64]; omega
/-! the schedule, and the ring of sixteen words -/
def gt (l : List W32) (i : Nat) : W32 := l.getD i 0
theorem gt_append {l m : List W32} {i : Nat} (h : i < l.length) : gt (l ++ m) i = gt l i := by
  simp [gt, List.getD, List.getElem?_append_left h]
theorem sched_pre : ∀ (n : Nat) (l : List W32) {i : Nat}, i < l.length → gt (sched n l) i = gt l i
  | 0, _, _, _ => rfl
  | n + 1, l, i, h => by rw [sched, sched_pre n _ (by simp; omega), gt_append h]
theorem sched_rec : ∀ (n : Nat) (l : List W32) {j : Nat}, 16 ≤ l.length → l.length ≤ j → j < l.length + n →
    gt (sched n l) j = g1 (gt (sched n l) (j - 2)) + gt (sched n l) (j - 7) + g0 (gt (sched n l) (j - 15)) + gt (sched n l) (j - 16)
  | 0, l, j, _, h1, h2 => by omega
  | n + 1, l, j, h0, h1, h2 => by
    rcases Nat.lt_or_ge l.length j with h3 | h3
    · rw [sched]
      exact sched_rec n (l ++ [nextW l]) (by simp; omega) (by simp; omega) (by simp; omega)
    · have hj : j = l.length := by omega
      subst hj
      rw [sched]
      have hl : (l ++ [nextW l]).length = l.length + 1 := by simp
      rw [sched_pre n _ (i := l.length) (by omega), sched_pre n _ (i := l.length - 2) (by omega), sched_pre n _ (i := l.length - 7) (by omega), sched_pre n _ (i := l.length - 15) (by omega), sched_pre n _ (i := l.length - 16) (by omega)]
      rw [gt_append (i := l.length - 2) (by omega), gt_append (i := l.length - 7) (by omega), gt_append (i := l.length - 15) (by omega), gt_append (i := l.length - 16) (by omega)]
      simp only [gt, List.getD, List.getElem?_concat_length, Option.getD_some]
      rfl
structure Ring (b r : List W32) (t : Nat) : Prop where
  len : r.length = 16
  eq : ∀ j, max t 16 - 16 ≤ j → j < max t 16 → gt r (j % 16) = gt (sched 48 b) j
theorem Ring.start {b : List W32} (h : b.length = 16) : Ring b b 0 := by
  refine ⟨h, fun j _ h2 => ?_⟩
  rw [sched_pre 48 b (by omega), Nat.mod_eq_of_lt (by omega)]
theorem Ring.low {b r : List W32} {t : Nat} (h : Ring b r t) (ht : t < 16) : gt r (t % 16) = gt (sched 48 b) t ∧ Ring b r (t + 1) := by
  refine ⟨h.eq t (by omega) (by omega), h.len, fun j h1 h2 => h.eq j (by omega) (by omega)⟩
def ringW (r : List W32) (t : Nat) : W32 := gt r (t % 16) + (g1 (gt r ((t - 2) % 16)) + gt r ((t - 7) % 16) + g0 (gt r ((t - 15) % 16)))
theorem Ring.high {b r : List W32} {t : Nat} (h : Ring b r t) (hb : b.length = 16) (h16 : 16 ≤ t) (ht : t < 64) : ringW r t = gt (sched 48 b) t ∧ Ring b (r.set (t % 16) (ringW r t)) (t + 1) := by
  have e : ringW r t = gt (sched 48 b) t := by
    rw [sched_rec 48 b (by omega) (by omega) (by omega), ringW, h.eq (t - 2) (by omega) (by omega), h.eq (t - 7) (by omega) (by omega), h.eq (t - 15) (by omega) (by omega)]
    have h0 := h.eq (t - 16) (by omega) (by omega)
    rw [show (t - 16) % 16 = t % 16 from by omega] at h0
    rw [h0, BitVec.add_comm]
  refine ⟨e, by simp [h.len], fun j h1 h2 => ?_⟩
  have hl := h.len
  by_cases hj : j = t
  · subst hj
    rw [← e]
    simp only [gt, List.getD, List.getElem?_set]
    rw [if_pos trivial, if_pos (by omega)]
    rfl
  · have hne : t % 16 ≠ j % 16 := by omega
    rw [← h.eq j (by omega) (by omega)]
    simp [gt, List.getD, List.getElem?_set, hne]
theorem rounds_snoc : ∀ (ks ws : List W32) (s : List W32) (k w : W32), ks.length = ws.length → rounds s (ks ++ [k]) (ws ++ [w]) = round (rounds s ks ws) k w
  | [], [], _, _, _, _ => rfl
  | k0 :: ks, w0 :: ws, s, k, w, h => by simp only [List.cons_append, rounds]; exact rounds_snoc ks ws _ k w (by simpa using h)
  | [], _ :: _, _, _, _, h => by simp at h
  | _ :: _, [], _, _, _, h => by simp at h
/-- The state after t rounds. -/
def after (s b : List W32) (t : Nat) : List W32 := rounds s (KS.take t) ((sched 48 b).take t)
theorem after_succ {s b : List W32} (hb : b.length = 16) {t : Nat} (ht : t < 64) : after s b (t + 1) = round (after s b t) (gt KS t) (gt (sched 48 b) t) := by
  have hk : KS.length = 64 := rfl
  have hw : (sched 48 b).length = 64 := by rw [sched_len]; omega
  have e1 : KS.take (t + 1) = KS.take t ++ [gt KS t] := by
    rw [List.take_add_one, List.getElem?_eq_getElem (by omega)]
    simp [gt, List.getD, List.getElem?_eq_getElem (show t < KS.length from by omega)]
  have e2 : (sched 48 b).take (t + 1) = (sched 48 b).take t ++ [gt (sched 48 b) t] := by
    rw [List.take_add_one, List.getElem?_eq_getElem (by omega)]
    simp [gt, List.getD, List.getElem?_eq_getElem (show t < (sched 48 b).length from by omega)]
  rw [after, e1, e2, rounds_snoc _ _ _ _ _ (by simp; omega)]
  rfl
theorem after_all {s b : List W32} (hb : b.length = 16) : plus (after s b 64) s = compress s b := by
  have hw : (sched 48 b).length = 64 := by rw [sched_len]; omega
  rw [after, List.take_of_length_le (by decide), List.take_of_length_le (by omega)]
  rfl
/-! bytes, filled in one after another -/
theorem be64_snoc {m p : Nat} (h : p ≤ 7) : (be64 m).take (7 - p) ++ [UInt8.ofNat (m / 2 ^ (8 * p))] = (be64 m).take (8 - p) := by
  match p, h with
  | 0, _ => simp [be64]
  | 1, _ => simp [be64]
  | 2, _ => simp [be64]
  | 3, _ => simp [be64]
  | 4, _ => simp [be64]
  | 5, _ => simp [be64]
  | 6, _ => simp [be64]
  | 7, _ => simp [be64]
def mixB (l : List UInt8) (n k : Nat) : List UInt8 := l.take k ++ List.replicate (n - k) 0
theorem mixB_len {l : List UInt8} {n k : Nat} (h : l.length = n) (hk : k ≤ n) : (mixB l n k).length = n := by simp [mixB]; omega
theorem mixB_set {l : List UInt8} {n k j : Nat} {c : UInt8} (h : l.length = n) (hc : l[k]? = some c) (hj : j = k) : ((mixB l n k).map byteV).set j (byteV c) = (mixB l n (k + 1)).map byteV := by
  subst hj
  have hk : j < n := by rw [← h]; exact (List.getElem?_eq_some_iff.1 hc).1
  have e1 : l.take (j + 1) = l.take j ++ [c] := by rw [List.take_add_one, hc]; rfl
  have e2 : List.replicate (n - j) (0 : UInt8) = 0 :: List.replicate (n - (j + 1)) 0 := by rw [show n - j = (n - (j + 1)) + 1 from by omega]; rfl
  have hl : (l.take j).length = j := by simp; omega
  unfold mixB
  rw [e1, e2, ← List.map_set, List.set_append_right _ _ (by omega)]
  simp [hl]
theorem mixB_zero (l : List UInt8) (n : Nat) : mixB l n 0 = List.replicate n 0 := by simp [mixB]
theorem mixB_all {l : List UInt8} {n : Nat} (h : l.length = n) : mixB l n n = l := by simp [mixB, ← h]
theorem flatW_get : ∀ {st : List W32} {t : Nat} {x : W32} (_ : st[t]? = some x), (st.flatMap bytesW)[4 * t]? = some (UInt8.ofNat (x >>> 24).toNat) ∧ (st.flatMap bytesW)[4 * t + 1]? = some (UInt8.ofNat (x >>> 16).toNat) ∧ (st.flatMap bytesW)[4 * t + 2]? = some (UInt8.ofNat (x >>> 8).toNat) ∧ (st.flatMap bytesW)[4 * t + 3]? = some (UInt8.ofNat x.toNat)
  | y :: st, 0, x, h => by
    simp only [List.getElem?_cons_zero, Option.some.injEq] at h
    subst h
    simp [List.flatMap_cons, bytesW]
  | y :: st, t + 1, x, h => by
    simp only [List.getElem?_cons_succ] at h
    have ih := flatW_get h
    have e : ∀ k, ((y :: st).flatMap bytesW)[4 * (t + 1) + k]? = (st.flatMap bytesW)[4 * t + k]? := fun k => by
      rw [List.flatMap_cons, show 4 * (t + 1) + k = (4 * t + k) + 4 from by omega, List.getElem?_append_right (by simp [bytesW])]
      simp [bytesW]
    have e0 := e 0
    simp only [Nat.add_zero] at e0
    rw [e0, e 1, e 2, e 3]
    exact ih
theorem flatW_len (st : List W32) : (st.flatMap bytesW).length = 4 * st.length := by
  induction st with
  | nil => rfl
  | cons y st ih => simp only [List.flatMap_cons, List.length_append, ih, List.length_cons]; simp only [bytesW, List.length_cons, List.length_nil]; omega
end Go.SH
