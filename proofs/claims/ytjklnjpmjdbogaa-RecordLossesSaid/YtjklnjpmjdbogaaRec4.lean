/- Records, plain: what Scan makes of records whose sectors are lost from some place on. -/
import Derived.Test.YtjklnjpmjdbogaaRecA
set_option linter.unusedVariables false
set_option linter.unusedSimpArgs false
namespace Go.RC
open Go.SL Go.SH Go.RowKit
def runL (g n : Int) (ps : List (List UInt8)) : Nat → List (List UInt8)
  | 0 => []
  | i + 1 => runL g n ps i ++ (split ⟨0, g, IntKind.i64.wrap (n + i), (ps.getD i []).take 600⟩).1
theorem split_small {R : RecS} (h : R.pay.length ≤ 600) : (split R).1.length ≤ 3 ∧ ∀ l ∈ (split R).1, l.length = 256 := by
  rw [split]
  split
  · simp
  · rw [if_neg (by omega)]
    refine ⟨by simp [sectorsR, need]; omega, ?_⟩
    intro l hl
    obtain ⟨i, _, rfl⟩ := List.mem_map.1 hl
    exact encode_len _
def recN (ps : List (List UInt8)) (i : Nat) : RecS := ⟨0, 5, 7 + i, (ps.getD i []).take 600⟩
theorem recN_fine (ps : List (List UInt8)) {i : Nat} (hi : i < 6) : fine (recN ps i).kind (recN ps i).gen (recN ps i).num := by
  unfold recN fine; simp only; omega
theorem recN_len (ps : List (List UInt8)) (i : Nat) : (recN ps i).pay.length ≤ 600 := by simp [recN]; omega
theorem sectorsR_len (r : RecS) : (sectorsR r).length = need r.pay.length := by simp [sectorsR]
theorem runL_succ (ps : List (List UInt8)) {i : Nat} (hi : i < 6) : runL 5 7 ps (i + 1) = runL 5 7 ps i ++ sectorsR (recN ps i) := by
  rw [runL]
  have e : (⟨0, 5, IntKind.i64.wrap (7 + i), (ps.getD i []).take 600⟩ : RecS) = recN ps i := by
    rw [IntWalk.i64_in _ (by omega)]; rfl
  rw [e]
  have hl := recN_len ps i
  rw [split, if_neg (by simpa using recN_fine ps hi), if_neg (by omega)]
theorem runL_pre (ps : List (List UInt8)) (i : Nat) : ∀ (j : Nat), i ≤ j → ∃ T, runL 5 7 ps j = runL 5 7 ps i ++ T
  | 0, h => ⟨[], by rw [show i = 0 by omega]; simp⟩
  | j + 1, h => by
    rcases Nat.lt_or_ge i (j + 1) with h1 | h1
    · obtain ⟨T, hT⟩ := runL_pre ps i j (by omega)
      exact ⟨T ++ _, by rw [runL, hT, List.append_assoc]⟩
    · exact ⟨[], by rw [show i = j + 1 by omega]; simp⟩
theorem runL_map (ps : List (List UInt8)) : ∀ (W : Nat), W ≤ 6 → runL 5 7 ps W = ((List.range W).map (recN ps)).flatMap sectorsR
  | 0, _ => rfl
  | W + 1, h => by
    rw [runL_succ ps (by omega), runL_map ps W (by omega), List.range_succ]
    simp
theorem joinFrom_bad {r : RecS} (hf : fine r.kind r.gen r.num) (hl : r.pay.length ≤ 131072) {f : PartS} {l : List (List UInt8)} {c : Nat} (hget : ∀ i, i < c → l[i]? = some (encode (partR r i))) (hc : c < need r.pay.length)
    (hbad : l[c]? = none ∨ ∃ b, l[c]? = some b ∧ (decode b).2 = 22) :
    ∀ (k i : Nat) (acc : List UInt8), i + k = need r.pay.length → i ≤ c → (joinFrom f l k i acc).2 ≠ 0
  | 0, i, acc, h, h5 => by omega
  | k + 1, i, acc, h, h5 => by
    rcases Nat.lt_or_ge i c with h6 | h6
    · rw [joinFrom, hget i h6]
      simp only [decode_encode (check_part hf hl (show i < need r.pay.length from by omega))]
      rw [if_neg (by simp)]
      split
      · simp
      · exact joinFrom_bad hf hl hget hc hbad k (i + 1) _ (by omega) (by omega)
    · rw [show i = c by omega]
      rcases hbad with hb | ⟨b, hb, hd⟩
      · rw [joinFrom_none hb]; simp
      · rw [joinFrom_err hb (by rw [hd]; simp), hd]; simp
theorem join_bad {r : RecS} (hf : fine r.kind r.gen r.num) (hl : r.pay.length ≤ 131072) {l : List (List UInt8)} {c : Nat} (hget : ∀ i, i < c → l[i]? = some (encode (partR r i))) (hc : c < need r.pay.length)
    (hbad : l[c]? = none ∨ ∃ b, l[c]? = some b ∧ (decode b).2 = 22) : (join l).2.2 ≠ 0 := by
  rcases Nat.eq_zero_or_pos c with h0 | h0
  · subst h0
    rcases hbad with hb | ⟨b, hb, hd⟩
    · have : l = [] := by cases l with | nil => rfl | cons x l => simp at hb
      subst this
      simp [join]
    · rw [join_err hb (by rw [hd]; simp), hd]; simp
  · have hg := hget 0 h0
    have hd := decode_encode (check_part hf hl (show 0 < need r.pay.length from by omega))
    have h1 : (decode (encode (partR r 0))).2 = 0 := by rw [hd]
    have h2 : (decode (encode (partR r 0))).1.idx = 0 := by rw [hd]; rfl
    have hJ := joinFrom_bad hf hl (f := (decode (encode (partR r 0))).1) hget hc hbad (need r.pay.length - 1) 1 (decode (encode (partR r 0))).1.bytes (by omega) (by omega)
    have e2 : (decode (encode (partR r 0))).1.cnt.toNat - 1 = need r.pay.length - 1 := by rw [hd]; simp [partR]
    rw [join_from hg h1 h2 (by rw [e2])]
    rw [if_pos hJ]
    exact hJ
theorem scan_seq {g : Int} {T : List (List UInt8)} (hT : T ≠ [] → (join T).2.2 ≠ 0) : ∀ (rs : List RecS) (F : Nat) (n : Int),
    (∀ (i : Nat) r, rs[i]? = some r → fine r.kind r.gen r.num ∧ r.pay.length ≤ 131072 ∧ r.gen = g ∧ r.num = n + i) → rs.length < F →
    scan F g n (rs.flatMap sectorsR ++ T) = (rs, ((rs.flatMap sectorsR).length : Int), if T = [] then 0 else (join T).2.2)
  | [], F + 1, n, h, hF => by
    simp only [List.flatMap_nil, List.nil_append]
    rw [scan]
    by_cases h0 : T = []
    · rw [if_pos h0, if_pos h0]; rfl
    · rw [if_neg h0, if_neg h0, if_pos (hT h0)]; rfl
  | r :: rs, F + 1, n, h, hF => by
    obtain ⟨h1, h2, h3, h4⟩ := h 0 r rfl
    have hnp := need_pos r.pay.length
    have hsl := sectorsR_len r
    rw [List.flatMap_cons, List.append_assoc, scan, join_split h1 h2]
    rw [if_neg (by intro h; have := congrArg List.length h; simp [hsl] at this; omega), if_neg (by simp), if_neg (by simp only [h3, h4]; simp)]
    simp only [Int.toNat_natCast]
    rw [← hsl, List.drop_left, scan_seq hT rs F (n + 1) (fun i r hr => by
      obtain ⟨a, b, c, d⟩ := h (i + 1) r (by simpa using hr)
      exact ⟨a, b, c, by rw [d]; simp; omega⟩) (by simp at hF; omega)]
    simp
theorem losses {ps : List (List UInt8)} {c : List (List UInt8)} {W at_ K : Nat} (hK : K ≤ 6) (hW : W < K) (h1 : (runL 5 7 ps W).length ≤ at_) (h2 : at_ < (runL 5 7 ps (W + 1)).length)
    (hc : c.take at_ = (runL 5 7 ps K).take at_) (hbad : c.length = at_ ∨ ∃ b, c[at_]? = some b ∧ (decode b).2 = 22) :
    ∃ e, scanAll 5 7 c = ((List.range W).map (recN ps), ((runL 5 7 ps W).length : Int), e) ∧ (e = 0 ↔ c.length = (runL 5 7 ps W).length) := by
  obtain ⟨T1, hT1⟩ := runL_pre ps (W + 1) K (by omega)
  rw [runL_succ ps (by omega)] at hT1 h2
  have hsl := sectorsR_len (recN ps W)
  have hf := recN_fine ps (i := W) (by omega)
  have hl := recN_len ps W
  rw [List.length_append, hsl] at h2
  have hlen : at_ ≤ c.length := by
    rcases hbad with h | ⟨b, h, _⟩
    · omega
    · have := (List.getElem?_eq_some_iff.1 h).1; omega
  obtain ⟨T, hT⟩ : ∃ T, c = runL 5 7 ps W ++ T := by
    refine ⟨c.drop (runL 5 7 ps W).length, ?_⟩
    have : c.take (runL 5 7 ps W).length = runL 5 7 ps W := by
      have := congrArg (List.take (runL 5 7 ps W).length) hc
      rw [List.take_take, List.take_take, Nat.min_eq_left h1, hT1, List.append_assoc, List.take_left] at this
      exact this
    conv => lhs; rw [← List.take_append_drop (runL 5 7 ps W).length c, this]
  have hget : ∀ i, i < at_ - (runL 5 7 ps W).length → T[i]? = some (encode (partR (recN ps W) i)) := by
    intro i hi
    have h3 := congrArg (fun l => l[(runL 5 7 ps W).length + i]?) hc
    simp only [List.getElem?_take, show (runL 5 7 ps W).length + i < at_ from by omega, if_true] at h3
    rw [hT, hT1, List.append_assoc, List.getElem?_append_right (by omega), List.getElem?_append_right (by omega), Nat.add_sub_cancel_left] at h3
    rw [h3, sectors_get (by omega)]
  have hb2 : T[at_ - (runL 5 7 ps W).length]? = none ∨ ∃ b, T[at_ - (runL 5 7 ps W).length]? = some b ∧ (decode b).2 = 22 := by
    rcases hbad with h | ⟨b, h, hd⟩
    · left
      rw [hT, List.length_append] at h
      exact List.getElem?_eq_none (by omega)
    · right
      rw [hT, List.getElem?_append_right h1] at h
      exact ⟨b, h, hd⟩
  have hj := join_bad hf (by omega) hget (by omega) hb2
  have hs := scan_seq (g := 5) (T := T) (fun _ => hj) ((List.range W).map (recN ps)) (c.length + 1) 7 (fun i r hr => by
    rw [List.getElem?_map] at hr
    rcases Nat.lt_or_ge i W with hi | hi
    · rw [List.getElem?_range hi] at hr
      simp at hr
      subst hr
      have := recN_len ps i
      exact ⟨recN_fine ps (by omega), by omega, rfl, rfl⟩
    · rw [List.getElem?_eq_none (by simpa using hi)] at hr; cases hr) (by
      have hge : ∀ W, W ≤ 6 → W ≤ (runL 5 7 ps W).length := by
        intro W
        induction W with
        | zero => intro _; omega
        | succ W ih =>
          intro h
          have := ih (by omega)
          have hp := need_pos (recN ps W).pay.length
          rw [runL_succ ps (by omega), List.length_append, sectorsR_len]
          omega
      have := hge W (by omega)
      simp
      omega)
  rw [← runL_map ps W (by omega), ← hT] at hs
  refine ⟨_, by rw [scanAll, if_neg (by omega)]; exact hs, ?_⟩
  rw [hT, List.length_append]
  by_cases h0 : T = []
  · rw [if_pos h0, h0]; simp
  · rw [if_neg h0]
    have : 0 < T.length := List.length_pos_iff.2 h0
    constructor
    · intro h; exact absurd h hj
    · intro h; omega
end Go.RC
