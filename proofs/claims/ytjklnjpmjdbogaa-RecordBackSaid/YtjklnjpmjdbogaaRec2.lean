/- Records in sectors, as plain data (2): splitting, joining, scanning. -/
import Derived.Test.YtjklnjpmjdbogaaRec
set_option linter.unusedVariables false
set_option linter.unusedSimpArgs false
namespace Go.RC
open Go.SL Go.SH
structure RecS where
  kind : Int
  gen : Int
  num : Int
  pay : List UInt8
def zeroR : RecS := ⟨0, 0, 0, []⟩
def need (n : Nat) : Nat := max 1 ((n + 223) / 224)
def partR (r : RecS) (i : Nat) : PartS := ⟨r.kind, r.gen, r.num, i, need r.pay.length, (r.pay.drop (224 * i)).take 224⟩
def sectorsR (r : RecS) : List (List UInt8) := (List.range (need r.pay.length)).map fun i => encode (partR r i)
def split (r : RecS) : List (List UInt8) × Int := if ¬ fine r.kind r.gen r.num then ([], 2) else if 131072 < r.pay.length then ([], 5) else (sectorsR r, 0)
def joinFrom (f : PartS) (l : List (List UInt8)) : Nat → Nat → List UInt8 → List UInt8 × Int
  | 0, _, acc => (acc, 0)
  | k + 1, i, acc =>
    match l[i]? with
    | none => ([], 23)
    | some b =>
      if (decode b).2 ≠ 0 then ([], (decode b).2)
      else if (decode b).1.idx ≠ i ∨ (decode b).1.kind ≠ f.kind ∨ (decode b).1.gen ≠ f.gen ∨ (decode b).1.num ≠ f.num ∨ (decode b).1.cnt ≠ f.cnt then ([], 30)
      else joinFrom f l k (i + 1) (acc ++ (decode b).1.bytes)
def join (l : List (List UInt8)) : RecS × Int × Int :=
  match l with
  | [] => (zeroR, 0, 4)
  | b :: _ =>
    if (decode b).2 ≠ 0 then (zeroR, 0, (decode b).2)
    else if (decode b).1.idx ≠ 0 then (zeroR, 0, 30)
    else if (joinFrom (decode b).1 l ((decode b).1.cnt.toNat - 1) 1 (decode b).1.bytes).2 ≠ 0 then (zeroR, 0, (joinFrom (decode b).1 l ((decode b).1.cnt.toNat - 1) 1 (decode b).1.bytes).2)
    else (⟨(decode b).1.kind, (decode b).1.gen, (decode b).1.num, (joinFrom (decode b).1 l ((decode b).1.cnt.toNat - 1) 1 (decode b).1.bytes).1⟩, (decode b).1.cnt, 0)
theorem need_pos (n : Nat) : 1 ≤ need n := by unfold need; omega
theorem need_spec (n i : Nat) (hi : i < need n) : i + 1 < need n ∧ 224 * (i + 1) < n ∨ i + 1 = need n ∧ n ≤ 224 * (i + 1) ∧ (i = 0 ∨ 224 * i < n) := by
  unfold need at *
  omega
theorem check_part {r : RecS} (hf : fine r.kind r.gen r.num) (hl : r.pay.length ≤ 131072) {i : Nat} (hi : i < need r.pay.length) : check (partR r i) = 0 := by
  have hs := need_spec _ _ hi
  have hn : need r.pay.length ≤ 586 := by unfold need; omega
  have hb : (partR r i).bytes.length = min 224 (r.pay.length - 224 * i) := by simp [partR]
  have c1 : (partR r i).cnt = (need r.pay.length : Int) := rfl
  have c2 : (partR r i).idx = (i : Int) := rfl
  have c3 : fine (partR r i).kind (partR r i).gen (partR r i).num := hf
  unfold check
  rw [if_neg (fun h => by
    rcases h with h | h | h | h | h
    · exact h c3
    · omega
    · omega
    · omega
    · omega), if_neg (by omega), if_neg (by omega), if_neg (by omega)]
theorem sectors_get {r : RecS} {i : Nat} (hi : i < need r.pay.length) (more : List (List UInt8)) : (sectorsR r ++ more)[i]? = some (encode (partR r i)) := by
  rw [List.getElem?_append_left (by simp [sectorsR]; exact hi)]
  simp [sectorsR, hi]
theorem take_add_drop {α : Type} (l : List α) (a b : Nat) : l.take a ++ (l.drop a).take b = l.take (a + b) := by
  rw [← List.take_add]
theorem joinFrom_ok {r : RecS} (hf : fine r.kind r.gen r.num) (hl : r.pay.length ≤ 131072) (f : PartS) (h1 : f.kind = r.kind) (h2 : f.gen = r.gen) (h3 : f.num = r.num) (h4 : f.cnt = need r.pay.length) (more : List (List UInt8)) :
    ∀ (k i : Nat), i + k = need r.pay.length → joinFrom f (sectorsR r ++ more) k i (r.pay.take (224 * i)) = (r.pay, 0)
  | 0, i, h => by
    rw [joinFrom, List.take_of_length_le (by rw [show i = need r.pay.length from by omega]; unfold need; omega)]
  | k + 1, i, h => by
    have hi : i < need r.pay.length := by omega
    rw [joinFrom, sectors_get hi]
    simp only [decode_encode (check_part hf hl hi)]
    rw [if_neg (by simp), if_neg (by simp [partR, h1, h2, h3, h4])]
    have e : r.pay.take (224 * i) ++ (partR r i).bytes = r.pay.take (224 * (i + 1)) := by
      simp only [partR]
      rw [take_add_drop]; congr 1
    rw [e]
    exact joinFrom_ok hf hl f h1 h2 h3 h4 more k (i + 1) (by omega)
theorem join_split {r : RecS} (hf : fine r.kind r.gen r.num) (hl : r.pay.length ≤ 131072) (more : List (List UInt8)) : join (sectorsR r ++ more) = (r, (need r.pay.length : Int), 0) := by
  have hp := need_pos r.pay.length
  have h0 := sectors_get (r := r) (i := 0) (by omega) more
  have hd := decode_encode (check_part hf hl (show 0 < need r.pay.length from by omega))
  cases hS : sectorsR r ++ more with
  | nil => rw [hS] at h0; simp at h0
  | cons b l =>
    rw [hS] at h0
    simp only [List.getElem?_cons_zero, Option.some.injEq] at h0
    unfold join
    simp only [h0, hd]
    rw [if_neg (by simp), if_neg (by simp [partR])]
    have hj := joinFrom_ok hf hl (partR r 0) rfl rfl rfl rfl more (need r.pay.length - 1) 1 (by omega)
    have e : r.pay.take (224 * 1) = (partR r 0).bytes := by simp [partR]
    rw [e, hS] at hj
    have e2 : (partR r 0).cnt.toNat - 1 = need r.pay.length - 1 := by simp [partR]
    rw [← h0, e2]
    rw [h0] at hj ⊢
    rw [hj]
    simp [partR]
theorem joinFrom_cut {r : RecS} (hf : fine r.kind r.gen r.num) (hl : r.pay.length ≤ 131072) (f : PartS) (h1 : f.kind = r.kind) (h2 : f.gen = r.gen) (h3 : f.num = r.num) (h4 : f.cnt = need r.pay.length) (c : Nat) (hc : c < need r.pay.length) :
    ∀ (k i : Nat) (acc : List UInt8), i + k = need r.pay.length → i ≤ c → joinFrom f ((sectorsR r).take c) k i acc = ([], 23)
  | 0, i, _, h, h5 => by omega
  | k + 1, i, acc, h, h5 => by
    have hsl : (sectorsR r).length = need r.pay.length := by simp [sectorsR]
    rw [joinFrom]
    rcases Nat.lt_or_ge i c with h6 | h6
    · have hg : ((sectorsR r).take c)[i]? = some (encode (partR r i)) := by
        rw [List.getElem?_take, if_pos h6]
        have := sectors_get (r := r) (i := i) (by omega) []
        rwa [List.append_nil] at this
      rw [hg]
      simp only [decode_encode (check_part hf hl (show i < need r.pay.length from by omega))]
      rw [if_neg (by simp), if_neg (by simp [partR, h1, h2, h3, h4])]
      exact joinFrom_cut hf hl f h1 h2 h3 h4 c hc k (i + 1) _ (by omega) (by omega)
    · rw [List.getElem?_eq_none (by simp; omega)]
theorem join_cut {r : RecS} (hf : fine r.kind r.gen r.num) (hl : r.pay.length ≤ 131072) (c : Nat) (h0 : 0 < c) (hc : c < need r.pay.length) : join ((sectorsR r).take c) = (zeroR, 0, 23) := by
  have hd := decode_encode (check_part hf hl (show 0 < need r.pay.length from by omega))
  have hg : ((sectorsR r).take c)[0]? = some (encode (partR r 0)) := by
    rw [List.getElem?_take, if_pos h0]
    have := sectors_get (r := r) (i := 0) (by omega) []
    rwa [List.append_nil] at this
  have hj := joinFrom_cut hf hl (partR r 0) rfl rfl rfl rfl c hc (need r.pay.length - 1) 1 (partR r 0).bytes (by omega) (by omega)
  cases hS : (sectorsR r).take c with
  | nil => rw [hS] at hg; simp at hg
  | cons b l =>
    rw [hS] at hg hj
    simp only [List.getElem?_cons_zero, Option.some.injEq] at hg
    unfold join
    simp only [hg, hd]
    rw [if_neg (by simp), if_neg (by simp [partR])]
    have e2 : (partR r 0).cnt.toNat - 1 = need r.pay.length - 1 := by simp [partR]
    rw [e2]
    rw [hg] at hj
    rw [hj]
    simp
/-- Complete records of a generation with consecutive numbers. -/
def scan : Nat → Int → Int → List (List UInt8) → List RecS × Int × Int
  | 0, _, _, _ => ([], 0, 0)
  | fuel + 1, gen, num, l =>
    if l = [] then ([], 0, 0)
    else if (join l).2.2 ≠ 0 then ([], 0, (join l).2.2)
    else if (join l).1.gen ≠ gen ∨ (join l).1.num ≠ num then ([], 0, 30)
    else ((join l).1 :: (scan fuel gen (num + 1) (l.drop (join l).2.1.toNat)).1, (join l).2.1 + (scan fuel gen (num + 1) (l.drop (join l).2.1.toNat)).2.1, (scan fuel gen (num + 1) (l.drop (join l).2.1.toNat)).2.2)
def salvage : Nat → List (List UInt8) → List RecS
  | 0, _ => []
  | fuel + 1, l =>
    if l = [] then []
    else if (join l).2.2 ≠ 0 then salvage fuel l.tail
    else (join l).1 :: salvage fuel (l.drop (join l).2.1.toNat)
theorem decode_ok {b : List UInt8} (h : (decode b).2 = 0) : check (decode b).1 = 0 ∧ b.length = 256 := by
  unfold decode at h ⊢
  split
  · rename_i h1; rw [if_pos h1] at h; cases h
  rename_i h1
  rw [if_neg h1] at h
  split
  · rename_i h2; rw [if_pos h2] at h; cases h
  rename_i h2
  rw [if_neg h2] at h
  split
  · rename_i h3; rw [if_pos h3] at h; cases h
  rename_i h3
  rw [if_neg h3] at h
  split
  · rename_i h4; rw [if_pos h4] at h; cases h
  rename_i h4
  rw [if_neg h4] at h
  split
  · rename_i h5; rw [if_pos h5] at h; cases h
  rename_i h5
  rw [if_neg h5] at h
  split
  · rename_i h6; rw [if_pos h6] at h; cases h
  rename_i h6
  exact ⟨Decidable.not_not.1 h6, by omega⟩
theorem joinFrom_none {f : PartS} {l : List (List UInt8)} {k i : Nat} {acc : List UInt8} (h : l[i]? = none) : joinFrom f l (k + 1) i acc = ([], 23) := by rw [joinFrom, h]
theorem joinFrom_err {f : PartS} {l : List (List UInt8)} {k i : Nat} {acc b : List UInt8} (h : l[i]? = some b) (he : (decode b).2 ≠ 0) : joinFrom f l (k + 1) i acc = ([], (decode b).2) := by
  rw [joinFrom, h]; simp only; rw [if_pos he]
theorem joinFrom_seq {f : PartS} {l : List (List UInt8)} {k i : Nat} {acc b : List UInt8} (h : l[i]? = some b) (he : (decode b).2 = 0) (hne : (decode b).1.idx ≠ i ∨ (decode b).1.kind ≠ f.kind ∨ (decode b).1.gen ≠ f.gen ∨ (decode b).1.num ≠ f.num ∨ (decode b).1.cnt ≠ f.cnt) : joinFrom f l (k + 1) i acc = ([], 30) := by
  rw [joinFrom, h]; simp only; rw [if_neg (by simp [he]), if_pos hne]
theorem joinFrom_step {f : PartS} {l : List (List UInt8)} {k i : Nat} {acc b : List UInt8} (h : l[i]? = some b) (he : (decode b).2 = 0) (hne : ¬ ((decode b).1.idx ≠ i ∨ (decode b).1.kind ≠ f.kind ∨ (decode b).1.gen ≠ f.gen ∨ (decode b).1.num ≠ f.num ∨ (decode b).1.cnt ≠ f.cnt)) : joinFrom f l (k + 1) i acc = joinFrom f l k (i + 1) (acc ++ (decode b).1.bytes) := by
  rw [joinFrom, h]; simp only; rw [if_neg (by simp [he]), if_neg hne]
theorem join_err {l : List (List UInt8)} {b : List UInt8} (h : l[0]? = some b) (he : (decode b).2 ≠ 0) : join l = (zeroR, 0, (decode b).2) := by
  match l, h with
  | x :: l, h => simp only [List.getElem?_cons_zero, Option.some.injEq] at h; subst h; rw [join]; rw [if_pos he]
theorem join_idx {l : List (List UInt8)} {b : List UInt8} (h : l[0]? = some b) (he : (decode b).2 = 0) (hi : (decode b).1.idx ≠ 0) : join l = (zeroR, 0, 30) := by
  match l, h with
  | x :: l, h => simp only [List.getElem?_cons_zero, Option.some.injEq] at h; subst h; rw [join]; rw [if_neg (by simp [he]), if_pos hi]
theorem join_from {l : List (List UInt8)} {b : List UInt8} {R : List UInt8 × Int} (h : l[0]? = some b) (he : (decode b).2 = 0) (hi : (decode b).1.idx = 0) (hR : joinFrom (decode b).1 l ((decode b).1.cnt.toNat - 1) 1 (decode b).1.bytes = R) :
    join l = if R.2 ≠ 0 then (zeroR, 0, R.2) else (⟨(decode b).1.kind, (decode b).1.gen, (decode b).1.num, R.1⟩, (decode b).1.cnt, 0) := by
  subst hR
  match l, h with
  | x :: l, h => simp only [List.getElem?_cons_zero, Option.some.injEq] at h; subst h; rw [join]; rw [if_neg (by simp [he]), if_neg (by simp [hi])]
def scanAll (gen num : Int) (l : List (List UInt8)) : List RecS × Int × Int := if ¬ ((0 ≤ gen ∧ gen ≤ 2147483647) ∧ (0 ≤ num ∧ num ≤ 2147483647)) then ([], 0, 2) else scan (l.length + 1) gen num l
theorem join_cnt {l : List (List UInt8)} (h : (join l).2.2 = 0) : 1 ≤ (join l).2.1 ∧ (join l).2.1 ≤ 586 ∧ l ≠ [] := by
  match l with
  | [] => simp [join] at h
  | b :: r =>
    have hb : (b :: r)[0]? = some b := rfl
    by_cases he : (decode b).2 = 0
    case neg => rw [join_err hb he] at h; exact absurd h he
    by_cases hi : (decode b).1.idx = 0
    case neg => rw [join_idx hb he hi] at h; cases h
    rw [join_from hb he hi rfl] at h ⊢
    split at h
    · rename_i h1; exact absurd h h1
    rename_i h1
    rw [if_neg h1]
    have := check_zero (decode_ok he).1
    exact ⟨this.2.1, this.2.2.1, by simp⟩
theorem joinFrom_pos {f : PartS} {l : List (List UInt8)} : ∀ (k i : Nat) (acc : List UInt8), (joinFrom f l k i acc).2 = 0 → i + k ≤ l.length ∨ k = 0
  | 0, i, acc, _ => .inr rfl
  | k + 1, i, acc, h => by
    left
    cases hb : l[i]? with
    | none => rw [joinFrom_none hb] at h; cases h
    | some b =>
      have hi := (List.getElem?_eq_some_iff.1 hb).1
      by_cases he : (decode b).2 = 0
      case neg => rw [joinFrom_err hb he] at h; exact absurd h he
      by_cases hne : (decode b).1.idx ≠ i ∨ (decode b).1.kind ≠ f.kind ∨ (decode b).1.gen ≠ f.gen ∨ (decode b).1.num ≠ f.num ∨ (decode b).1.cnt ≠ f.cnt
      · rw [joinFrom_seq hb he hne] at h; cases h
      · rw [joinFrom_step hb he hne] at h
        have := joinFrom_pos k (i + 1) _ h
        omega
theorem join_le {l : List (List UInt8)} (h : (join l).2.2 = 0) : (join l).2.1.toNat ≤ l.length := by
  match l with
  | [] => simp [join] at h
  | b :: r =>
    have hb : (b :: r)[0]? = some b := rfl
    by_cases he : (decode b).2 = 0
    case neg => rw [join_err hb he] at h; exact absurd h he
    by_cases hi : (decode b).1.idx = 0
    case neg => rw [join_idx hb he hi] at h; cases h
    rw [join_from hb he hi rfl] at h ⊢
    split at h
    · rename_i h1; exact absurd h h1
    rename_i h1
    rw [if_neg h1]
    have h2 := check_zero (decode_ok he).1
    have := joinFrom_pos _ _ _ (Decidable.not_not.1 h1)
    simp only [List.length_cons] at *
    omega
theorem joinFrom_len {f : PartS} {l : List (List UInt8)} : ∀ (k i : Nat) (acc : List UInt8), (joinFrom f l k i acc).1.length ≤ acc.length + 224 * k
  | 0, i, acc => by simp [joinFrom]
  | k + 1, i, acc => by
    cases hb : l[i]? with
    | none => rw [joinFrom_none hb]; simp
    | some b =>
      by_cases he : (decode b).2 = 0
      case neg => rw [joinFrom_err hb he]; simp
      by_cases hne : (decode b).1.idx ≠ i ∨ (decode b).1.kind ≠ f.kind ∨ (decode b).1.gen ≠ f.gen ∨ (decode b).1.num ≠ f.num ∨ (decode b).1.cnt ≠ f.cnt
      · rw [joinFrom_seq hb he hne]; simp
      · rw [joinFrom_step hb he hne]
        have := joinFrom_len (f := f) (l := l) k (i + 1) (acc ++ (decode b).1.bytes)
        have h2 := check_zero (decode_ok he).1
        rw [List.length_append] at this
        omega
theorem join_pay (l : List (List UInt8)) : (join l).1.pay.length ≤ 131264 := by
  match l with
  | [] => simp [join, zeroR]
  | b :: r =>
    have hb : (b :: r)[0]? = some b := rfl
    by_cases he : (decode b).2 = 0
    case neg => rw [join_err hb he]; simp [zeroR]
    by_cases hi : (decode b).1.idx = 0
    case neg => rw [join_idx hb he hi]; simp [zeroR]
    rw [join_from hb he hi rfl]
    split
    · simp [zeroR]
    · have h2 := check_zero (decode_ok he).1
      have := joinFrom_len (f := (decode b).1) (l := b :: r) ((decode b).1.cnt.toNat - 1) 1 (decode b).1.bytes
      simp only
      omega
end Go.RC
