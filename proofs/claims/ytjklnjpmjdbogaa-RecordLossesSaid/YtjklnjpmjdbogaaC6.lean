/- Records: contracts (6): decoding in general; Need, Split. -/
import Derived.Test.YtjklnjpmjdbogaaC5
import Derived.Test.YtjklnjpmjdbogaaRecA
namespace Go.Proofs.Try
open Go.RowKit Go.SL Go.SH Go.RC
set_option maxRecDepth 100000
set_option linter.unusedSimpArgs false
set_option linter.unusedVariables false
section
variable {w : World} {I : Gh} {L : List Ch}
theorem decode_ct (v : Value) (bs : List UInt8) (n : Nat) (hv : IsSl v n) (hl : bs.length = n) (hr : Rds I L v (bs.map byteV)) (hb : n ≤ 1099511627) (hS : Sat w I L) :
    Calls Try.prog 21 #[v] w fun e w' => ∃ u, e = .returned (.tuple #[partV (RC.decode bs).1 u, .int .i64 (RC.decode bs).2]) ∧ IsSl u (RC.decode bs).1.bytes.length ∧ Sat w' I (Row u 5 1 (RC.decode bs).1.bytes.length ((RC.decode bs).1.bytes.map byteV) :: L) := by
  by_cases hbad : n ≠ 256 ∨ (sha (bs.drop 16)).take 16 ≠ bs.take 16
  · refine (decodeBad_ct v bs n hv hl hr hb hbad hS).mono ?_
    rintro e w ⟨rfl, hS⟩
    have hz : (RC.decode bs).1 = zeroP := by
      unfold RC.decode
      split
      · rfl
      split
      · rfl
      split
      · rfl
      rename_i h1 h2 h3
      rcases hbad with h | h
      · omega
      · exact absurd h h3
    refine ⟨_, rfl, ?_⟩
    rw [hz]
    exact ⟨IsSl.nil, hS.nilRow _ _⟩
  · have h1 : n = 256 := Decidable.byContradiction fun h => hbad (.inl h)
    have h2 : (sha (bs.drop 16)).take 16 = bs.take 16 := Decidable.byContradiction fun h => hbad (.inr h)
    subst h1
    exact decodeGood_ct v bs hv hl hr h2 hS
theorem need_ct (n : Int) (hS : Sat w I L) : Calls Try.prog 31 #[.int .i64 n] w fun e w' => e = .returned (.tuple (if 0 ≤ n ∧ n ≤ 131072 then #[.int .i64 (need n.toNat), .int .i64 0] else #[.int .i64 0, .int .i64 2])) ∧ Sat w' I L := by
  by_cases h : 0 ≤ n ∧ n ≤ 131072
  · rw [if_pos h]
    go_enter Try.func31, Try.ntmps31
    repeat' (first
      | ((with_reducible apply wp_region_plain (id := 0)); refine xv (ex_assign (ev_const _ _)) ?_; refine xv (ex_assign (ev_const _ _)) ?_; refine wl_nil ?_)
      | ((with_reducible apply wp_region_plain (id := 1)); refine xv (ex_move (ev_at rfl)) ?_; refine wl_of rfl (wp_callL (cbT rfl) (EvL.c (ev_at rfl) (EvL.c (ev_const _ _) EvL.n)) ?_); refine (within_ct _ _ hS).mono ?_; rintro e w ⟨rfl, hS⟩; rw [decide_eq_true h]; refine ⟨_, rfl, wl_put (by simp only [lset] <;> rfl) ?_⟩; refine xv (ex_not (ev_at rfl)) ?_; refine wl_nil ?_)
      | ((with_reducible apply wp_region_plain (id := 3)); refine xv (ex_move (ev_at rfl)) ?_; refine xv (ex_arith (ev_at rfl) (ev_const _ _) rfl (by first | exact IntWalk.i64_in _ (by omega) | rfl)) ?_; refine xv (ex_arith (ev_at rfl) (ev_const _ _) rfl (by first | exact IntWalk.i64_in _ (by omega) | rfl)) ?_; refine xv (ex_quo (ev_at rfl) (ev_const _ _) (by first | decide | omega) (by omega) (by first | exact IntWalk.i64_in _ (by omega) | rfl)) ?_; refine xv (ex_max2 (ev_const _ _) (ev_at rfl)) ?_; refine xv (ex_assign (ev_at rfl)) ?_; refine xv (ex_assign (ev_const _ _)) ?_; refine wl_nil ?_)
      | ((fail_if_success (with_reducible apply wp_region_plain)); (fail_if_success (with_reducible apply wp_region_GS)); go_step))
    refine endN (by first | exact .inl rfl | exact .inr rfl) rfl (ResL.rt rfl (ResL.rt rfl ResL.rn)) rfl ?_
    refine ⟨?_, hS⟩
    congr 5
    unfold need
    split <;> omega
  · rw [if_neg h]
    go_enter Try.func31, Try.ntmps31
    repeat' (first
      | ((with_reducible apply wp_region_plain (id := 0)); refine xv (ex_assign (ev_const _ _)) ?_; refine xv (ex_assign (ev_const _ _)) ?_; refine wl_nil ?_)
      | ((with_reducible apply wp_region_plain (id := 1)); refine xv (ex_move (ev_at rfl)) ?_; refine wl_of rfl (wp_callL (cbT rfl) (EvL.c (ev_at rfl) (EvL.c (ev_const _ _) EvL.n)) ?_); refine (within_ct _ _ hS).mono ?_; rintro e w ⟨rfl, hS⟩; rw [decide_eq_false h]; refine ⟨_, rfl, wl_put (by simp only [lset] <;> rfl) ?_⟩; refine xv (ex_not (ev_at rfl)) ?_; refine wl_nil ?_)
      | ((with_reducible apply wp_region_plain (id := 2)); refine xv (ex_assign (ev_const _ _)) ?_; refine xv (ex_assign (ev_const _ _)) ?_; refine wl_nil ?_)
      | ((fail_if_success (with_reducible apply wp_region_plain)); (fail_if_success (with_reducible apply wp_region_GS)); go_step))
    refine endN (by first | exact .inl rfl | exact .inr rfl) rfl (ResL.rt rfl (ResL.rt rfl ResL.rn)) rfl ?_
    exact ⟨rfl, hS⟩
/-- Slices of bytes, all frozen. -/
def BytesL (I : Gh) (vs : List Value) (ls : List (List UInt8)) : Prop := vs.length = ls.length ∧ ∀ (i : Nat) (u : Value) (l : List UInt8), vs[i]? = some u → ls[i]? = some l → SlI I u l.length (l.map byteV)
def SecI (I : Gh) (v : Value) (ls : List (List UInt8)) : Prop := ∃ vs, SlI I v ls.length vs ∧ BytesL I vs ls
theorem BytesL.mono {I J : Gh} {vs : List Value} {ls : List (List UInt8)} (h : BytesL I vs ls) (hle : I.le J) : BytesL J vs ls := ⟨h.1, fun i u l h1 h2 => (h.2 i u l h1 h2).mono hle⟩
theorem SecI.mono {I J : Gh} {v : Value} {ls : List (List UInt8)} (h : SecI I v ls) (hle : I.le J) : SecI J v ls := by
  obtain ⟨vs, h1, h2⟩ := h
  exact ⟨vs, h1.mono hle, h2.mono hle⟩
theorem SecI.nil (I : Gh) : SecI I (.slice none 0 0) [] := ⟨[], SlI.nil I, rfl, fun i u l h => by simp at h⟩
theorem BytesL.nil (I : Gh) : BytesL I [] [] := ⟨rfl, fun i u l h => by simp at h⟩
theorem BytesL.snoc {I : Gh} {vs : List Value} {ls : List (List UInt8)} {u : Value} {l : List UInt8} (h : BytesL I vs ls) (hu : SlI I u l.length (l.map byteV)) : BytesL I (vs ++ [u]) (ls ++ [l]) := by
  refine ⟨by simp [h.1], fun i u' l' h1 h2 => ?_⟩
  rcases Nat.lt_trichotomy i vs.length with hi | hi | hi
  · rw [List.getElem?_append_left hi] at h1
    rw [List.getElem?_append_left (by rw [← h.1]; exact hi)] at h2
    exact h.2 i u' l' h1 h2
  · subst hi
    rw [List.getElem?_append_right (Nat.le_refl _)] at h1
    rw [h.1, List.getElem?_append_right (Nat.le_refl _)] at h2
    simp at h1 h2
    subst h1 h2
    exact hu
  · rw [List.getElem?_append_right (by omega), List.getElem?_eq_none (by simp; omega)] at h1
    cases h1
def recV (r : RecS) (v : Value) : Value := .agg [.int .i64 r.kind, .int .i64 r.gen, .int .i64 r.num, v].toArray
set_option maxHeartbeats 8000000 in
theorem split_ct (r : RecS) (pv : Value) (hv : IsSl pv r.pay.length) (hr : Rds I L pv (r.pay.map byteV)) (hS : Sat w I L) :
    Calls Try.prog 28 #[recV r pv] w fun e w' => ∃ J u, e = .returned (.tuple #[u, .int .i64 (split r).2]) ∧ I.le J ∧ SecI J u (split r).1 ∧ Sat w' J L := by
  by_cases hf : fine r.kind r.gen r.num
  case neg =>
    have hsp : split r = ([], 2) := by rw [split, if_pos hf]
    rw [hsp]
    go_enter Try.func28, Try.ntmps28
    repeat' (first
      | ((with_reducible apply wp_region_plain (id := 0)); refine wl_of rfl (wp_boxN (ev_at rfl) hS fun b1 w hS => wl_put (by simp only [lset] <;> rfl) ?_); refine xv (ex_assign (ev_const _ _)) ?_; refine xv (ex_assign (ev_const _ _)) ?_; refine wl_nil ?_)
      | ((with_reducible apply wp_region_plain (id := 1)); (first | refine xv (ex_fa (ev_at rfl) (flT rfl)) ?_ | refine xv (ex_faE (ev_at rfl) (flT rfl) (by assumption) (by assumption)) ?_); refine xv (ex_load (ev_at rfl) (ld1 hS (kdT rfl) rfl)) ?_; (first | refine xv (ex_fa (ev_at rfl) (flT rfl)) ?_ | refine xv (ex_faE (ev_at rfl) (flT rfl) (by assumption) (by assumption)) ?_); refine xv (ex_load (ev_at rfl) (ld1 hS (kdT rfl) rfl)) ?_; (first | refine xv (ex_fa (ev_at rfl) (flT rfl)) ?_ | refine xv (ex_faE (ev_at rfl) (flT rfl) (by assumption) (by assumption)) ?_); refine xv (ex_load (ev_at rfl) (ld1 hS (kdT rfl) rfl)) ?_; refine xv (ex_buildS (plT rfl) (zeT rfl) (Fills.cons rfl (ev_at rfl) (by first | exact IsSl.cellsL (by assumption) | exact cellsL1 rfl | rfl) rfl rfl (Fills.cons rfl (ev_at rfl) (by first | exact IsSl.cellsL (by assumption) | exact cellsL1 rfl | rfl) rfl rfl (Fills.cons rfl (ev_at rfl) (by first | exact IsSl.cellsL (by assumption) | exact cellsL1 rfl | rfl) rfl rfl Fills.nil)))) ?_; refine wl_of rfl (wp_callL (cbT rfl) (EvL.c (ev_at rfl) EvL.n) ?_); refine (valid_ct _ _ _ hS).mono ?_; rintro e w ⟨rfl, hS⟩; rw [decide_eq_false hf]; refine ⟨_, rfl, wl_put (by simp only [lset] <;> rfl) ?_⟩; refine xv (ex_not (ev_at rfl)) ?_; refine xv (ex_assign (ev_at rfl)) ?_; refine wl_nil ?_)
      | ((with_reducible apply wp_region_plain (id := 2)); refine xv (ex_assign (ev_const _ _)) ?_; refine xv (ex_assign (ev_const _ _)) ?_; refine wl_nil ?_)
      | ((fail_if_success (with_reducible apply wp_region_plain)); (fail_if_success (with_reducible apply wp_region_GS)); go_step))
    refine endN (by first | exact .inl rfl | exact .inr rfl) rfl (ResL.rt rfl (ResL.rt rfl ResL.rn)) rfl ?_
    exact ⟨I, _, rfl, Gh.le.refl I, SecI.nil I, hS.drop⟩
  by_cases hlen : 131072 < r.pay.length
  case pos =>
    have hsp : split r = ([], 5) := by rw [split, if_neg (by simpa using hf), if_pos hlen]
    rw [hsp]
    go_enter Try.func28, Try.ntmps28
    repeat' (first
      | ((with_reducible apply wp_region_plain (id := 0)); refine wl_of rfl (wp_boxN (ev_at rfl) hS fun b1 w hS => wl_put (by simp only [lset] <;> rfl) ?_); refine xv (ex_assign (ev_const _ _)) ?_; refine xv (ex_assign (ev_const _ _)) ?_; refine wl_nil ?_)
      | ((with_reducible apply wp_region_plain (id := 1)); (first | refine xv (ex_fa (ev_at rfl) (flT rfl)) ?_ | refine xv (ex_faE (ev_at rfl) (flT rfl) (by assumption) (by assumption)) ?_); refine xv (ex_load (ev_at rfl) (ld1 hS (kdT rfl) rfl)) ?_; (first | refine xv (ex_fa (ev_at rfl) (flT rfl)) ?_ | refine xv (ex_faE (ev_at rfl) (flT rfl) (by assumption) (by assumption)) ?_); refine xv (ex_load (ev_at rfl) (ld1 hS (kdT rfl) rfl)) ?_; (first | refine xv (ex_fa (ev_at rfl) (flT rfl)) ?_ | refine xv (ex_faE (ev_at rfl) (flT rfl) (by assumption) (by assumption)) ?_); refine xv (ex_load (ev_at rfl) (ld1 hS (kdT rfl) rfl)) ?_; refine xv (ex_buildS (plT rfl) (zeT rfl) (Fills.cons rfl (ev_at rfl) (by first | exact IsSl.cellsL (by assumption) | exact cellsL1 rfl | rfl) rfl rfl (Fills.cons rfl (ev_at rfl) (by first | exact IsSl.cellsL (by assumption) | exact cellsL1 rfl | rfl) rfl rfl (Fills.cons rfl (ev_at rfl) (by first | exact IsSl.cellsL (by assumption) | exact cellsL1 rfl | rfl) rfl rfl Fills.nil)))) ?_; refine wl_of rfl (wp_callL (cbT rfl) (EvL.c (ev_at rfl) EvL.n) ?_); refine (valid_ct _ _ _ hS).mono ?_; rintro e w ⟨rfl, hS⟩; rw [decide_eq_true hf]; refine ⟨_, rfl, wl_put (by simp only [lset] <;> rfl) ?_⟩; refine xv (ex_not (ev_at rfl)) ?_; refine xv (ex_assign (ev_at rfl)) ?_; refine wl_nil ?_)
      | ((with_reducible apply wp_region_plain (id := 3)); (first | refine xv (ex_fa (ev_at rfl) (flT rfl)) ?_ | refine xv (ex_faE (ev_at rfl) (flT rfl) (by assumption) (by assumption)) ?_); refine xv (ex_load (ev_at rfl) (ld1 hS (kdT rfl) rfl)) ?_; refine xv (ex_len (ev_at rfl) (slT rfl) (by first | assumption | exact IsSl.nil)) ?_; refine xv (ex_cmp (ev_at rfl) (ev_const _ _) (by first | exact gtrT (by omega) | exact gtrF (by omega) | rfl)) ?_; refine xv (ex_assign (ev_at rfl)) ?_; refine wl_nil ?_)
      | ((with_reducible apply wp_region_plain (id := 4)); refine xv (ex_assign (ev_const _ _)) ?_; refine xv (ex_assign (ev_const _ _)) ?_; refine wl_nil ?_)
      | ((fail_if_success (with_reducible apply wp_region_plain)); (fail_if_success (with_reducible apply wp_region_GS)); go_step))
    refine endN (by first | exact .inl rfl | exact .inr rfl) rfl (ResL.rt rfl (ResL.rt rfl ResL.rn)) rfl ?_
    exact ⟨I, _, rfl, Gh.le.refl I, SecI.nil I, hS.drop⟩
  have hsp : split r = (sectorsR r, 0) := by rw [split, if_neg (by simpa using hf), if_neg hlen]
  rw [hsp]
  have hnd := need_pos r.pay.length
  have hn586 : need r.pay.length ≤ 586 := by unfold need; omega
  go_enter Try.func28, Try.ntmps28
  repeat' (first
    | ((with_reducible apply wp_region_plain (id := 0)); refine wl_of rfl (wp_boxN (ev_at rfl) hS fun b1 w hS => wl_put (by simp only [lset] <;> rfl) ?_); refine xv (ex_assign (ev_const _ _)) ?_; refine xv (ex_assign (ev_const _ _)) ?_; refine wl_nil ?_)
    | ((with_reducible apply wp_region_plain (id := 1)); (first | refine xv (ex_fa (ev_at rfl) (flT rfl)) ?_ | refine xv (ex_faE (ev_at rfl) (flT rfl) (by assumption) (by assumption)) ?_); refine xv (ex_load (ev_at rfl) (ld1 hS (kdT rfl) rfl)) ?_; (first | refine xv (ex_fa (ev_at rfl) (flT rfl)) ?_ | refine xv (ex_faE (ev_at rfl) (flT rfl) (by assumption) (by assumption)) ?_); refine xv (ex_load (ev_at rfl) (ld1 hS (kdT rfl) rfl)) ?_; (first | refine xv (ex_fa (ev_at rfl) (flT rfl)) ?_ | refine xv (ex_faE (ev_at rfl) (flT rfl) (by assumption) (by assumption)) ?_); refine xv (ex_load (ev_at rfl) (ld1 hS (kdT rfl) rfl)) ?_; refine xv (ex_buildS (plT rfl) (zeT rfl) (Fills.cons rfl (ev_at rfl) (by first | exact IsSl.cellsL (by assumption) | exact cellsL1 rfl | rfl) rfl rfl (Fills.cons rfl (ev_at rfl) (by first | exact IsSl.cellsL (by assumption) | exact cellsL1 rfl | rfl) rfl rfl (Fills.cons rfl (ev_at rfl) (by first | exact IsSl.cellsL (by assumption) | exact cellsL1 rfl | rfl) rfl rfl Fills.nil)))) ?_; refine wl_of rfl (wp_callL (cbT rfl) (EvL.c (ev_at rfl) EvL.n) ?_); refine (valid_ct _ _ _ hS).mono ?_; rintro e w ⟨rfl, hS⟩; rw [decide_eq_true hf]; refine ⟨_, rfl, wl_put (by simp only [lset] <;> rfl) ?_⟩; refine xv (ex_not (ev_at rfl)) ?_; refine xv (ex_assign (ev_at rfl)) ?_; refine wl_nil ?_)
    | ((with_reducible apply wp_region_plain (id := 3)); (first | refine xv (ex_fa (ev_at rfl) (flT rfl)) ?_ | refine xv (ex_faE (ev_at rfl) (flT rfl) (by assumption) (by assumption)) ?_); refine xv (ex_load (ev_at rfl) (ld1 hS (kdT rfl) rfl)) ?_; refine xv (ex_len (ev_at rfl) (slT rfl) (by first | assumption | exact IsSl.nil)) ?_; refine xv (ex_cmp (ev_at rfl) (ev_const _ _) (by first | exact gtrT (by omega) | exact gtrF (by omega) | rfl)) ?_; refine xv (ex_assign (ev_at rfl)) ?_; refine wl_nil ?_)
    | ((with_reducible apply wp_region_plain (id := 5)); (first | refine xv (ex_fa (ev_at rfl) (flT rfl)) ?_ | refine xv (ex_faE (ev_at rfl) (flT rfl) (by assumption) (by assumption)) ?_); refine xv (ex_load (ev_at rfl) (ld1 hS (kdT rfl) rfl)) ?_; refine xv (ex_len (ev_at rfl) (slT rfl) (by first | assumption | exact IsSl.nil)) ?_; refine wl_of rfl (wp_callL (cbT rfl) (EvL.c (ev_at rfl) EvL.n) ?_); refine (need_ct _ hS).mono ?_; rintro e w ⟨rfl, hS⟩; rw [if_pos ⟨by omega, by omega⟩, Int.toNat_natCast]; refine ⟨_, rfl, wl_put (by simp only [lset] <;> rfl) ?_⟩; refine xv (ex_move (ev_at rfl)) ?_; refine xv (ex_extract (ev_at rfl) rfl) ?_; refine xv (ex_extract (ev_at rfl) rfl) ?_; refine xv (ex_assign (ev_at rfl)) ?_; refine xv (ex_assign (ev_at rfl)) ?_; refine wl_nil ?_)
    | ((with_reducible apply wp_region_plain (id := 6)); refine xv (ex_assign (ev_const _ _)) ?_; refine wl_nil ?_)
    | ((with_reducible apply wp_region_plain (id := 7)); refine xv (ex_move (ev_at rfl)) ?_; refine xv (ex_move (ev_const _ _)) ?_; refine wl_nil ?_)
    | ((fail_if_success (with_reducible apply wp_region_plain)); (fail_if_success (with_reducible apply wp_region_GS)); go_step))
  generalize hN : need r.pay.length = N at hnd hn586
  have hS := hS.nilRow 22 1
  have hsl : (sectorsR r).length = N := by simp [sectorsR, hN]
  refine wp_loopM [false, false, true, true, false, false, true, true, true, true, true, false, false, false, false, false, false, false, false, false, false, false, false, false, false, false, false, false, false, false, false, false, false, false, true, true, true, true, true, true, true, true, true, true, true, true, true, true, true, true, true, true, true, true, true, true, true, true, true, true, true, true, true, true, true, true, true, true, true, true, true, true] (fun n f w => ∃ (i : Nat) (J : Gh) (u : Value) (vs : List Value), n = N - i ∧ f 34 = .int .i64 i ∧ i ≤ N ∧ f 6 = u ∧ I.le J ∧ BytesL J vs ((sectorsR r).take i) ∧ Sat w J (Row u 22 1 i vs :: Cells b1 50 [.int .i64 r.kind, .int .i64 r.gen, .int .i64 r.num, pv] :: L)) rfl N ⟨0, I, _, _, rfl, rfl, by omega, rfl, Gh.le.refl I, BytesL.nil I, hS⟩ ?_
  clear hS
  rintro n f w ⟨i, J, u, vs, rfl, h34, hi, h6, hJ, hvs, hS⟩
  simp only [havoc, Nat.reduceAdd, h34, h6]
  have hui := (hS.rowH (v := u)).1
  by_cases hlt : i < N
  case neg =>
    have : i = N := by omega
    subst this
    rw [List.take_of_length_le (by omega)] at hvs
    repeat' (first
      | ((with_reducible apply wp_region_plain (id := 8)); refine xv (ex_cmp (ev_at rfl) (ev_at rfl) (by first | exact lssT (by omega) | exact lssF (by omega) | rfl)) ?_; refine wl_nil ?_)
      | ((with_reducible apply wp_region_plain (id := 17)); refine xv (ex_move (ev_at rfl)) ?_; refine xv (ex_assign (ev_at rfl)) ?_; refine xv (ex_assign (ev_const _ _)) ?_; refine wl_nil ?_)
      | ((fail_if_success (with_reducible apply wp_region_plain)); (fail_if_success (with_reducible apply wp_region_GS)); go_step))
    refine endN (by first | exact .inl rfl | exact .inr rfl) rfl (ResL.rt rfl (ResL.rt rfl ResL.rn)) rfl ?_
    obtain ⟨J2, hJ2, hS, hu⟩ := hS.freezeRow
    exact ⟨J2, u, rfl, hJ.trans hJ2, ⟨vs, by rw [hsl]; exact hu, hvs.mono hJ2⟩, hS.drop⟩
  have hspec := need_spec r.pay.length i (by omega)
  rw [hN] at hspec
  obtain ⟨hiN, hmin, hge, hle⟩ : ∃ m : Nat, (if (r.pay.length : Int) < ((i : Int) + 1) * 224 then (r.pay.length : Int) else ((i : Int) + 1) * 224) = (m : Int) ∧ i * 224 ≤ m ∧ m ≤ r.pay.length := by
    by_cases h : (r.pay.length : Int) < ((i : Int) + 1) * 224
    · exact ⟨r.pay.length, by rw [if_pos h], by omega, by omega⟩
    · exact ⟨(i + 1) * 224, by rw [if_neg h]; omega, by omega, by omega⟩
  have hchk := check_part hf (by omega) (i := i) (by rw [hN]; exact hlt)
  have hpr : partR r i = ⟨r.kind, r.gen, r.num, i, N, (r.pay.drop (224 * i)).take 224⟩ := by rw [partR, hN]
  have hpl : ((r.pay.drop (224 * i)).take 224).length = hiN - i * 224 := by
    simp only [List.length_take, List.length_drop]
    split at hmin <;> omega
  have hv2 := hv.slv (l := i * 224) (h := hiN) (sz := 1) hge hle
  have hsub : sub (r.pay.map byteV) (i * 224 * 1) ((hiN - i * 224) * 1) = ((r.pay.drop (224 * i)).take 224).map byteV := by
    simp only [sub, Nat.mul_one]
    rw [← List.map_drop, ← List.map_take, Nat.mul_comm i 224]
    congr 1
    rw [List.take_eq_take_iff]
    simp only [List.length_drop]
    simp only [List.length_take, List.length_drop] at hpl
    omega
  have hr2 : Rds I L (slv pv (i * 224) hiN 1) (((r.pay.drop (224 * i)).take 224).map byteV) := by
    intro w X hS
    have := (hr w X hS).slv (sz := 1) hv hge hle
    rwa [hsub] at this
  have hsec : (sectorsR r)[i]? = some (encode (partR r i)) := by
    have := sectors_get (r := r) (i := i) (by rw [hN]; exact hlt) []
    rwa [List.append_nil] at this
  have htk : (sectorsR r).take (i + 1) = (sectorsR r).take i ++ [encode (partR r i)] := by rw [List.take_add_one, hsec]; rfl
  have henl := encode_len (partR r i)
  have hen := fun (w : World) (L2 : List Ch) (hr2 : Rds J L2 (slv pv (i * 224) hiN 1) (((r.pay.drop (224 * i)).take 224).map byteV)) hS => encodeOk_ct (w := w) (I := J) (L := L2) (partR r i) (slv pv (i * 224) hiN 1) hchk (by rw [hpr, hpl]; exact hv2) (by rw [hpr]; exact hr2) hS
  generalize encode (partR r i) = E at hsec htk henl hen
  rw [hpr] at hen
  unfold partV at hen
  simp only at hen
  have e1 : ((i : Int) * 224).toNat = i * 224 := by omega
  rw [← e1] at hen hr2 hv2
  repeat' (first
    | ((with_reducible apply wp_region_plain (id := 8)); refine xv (ex_cmp (ev_at rfl) (ev_at rfl) (by first | exact lssT (by omega) | exact lssF (by omega) | rfl)) ?_; refine wl_nil ?_)
    | ((with_reducible apply wp_region_plain (id := 9)); refine xv (ex_move (ev_at rfl)) ?_; refine xv (ex_assign (ev_at rfl)) ?_; refine wl_nil ?_)
    | ((with_reducible apply wp_region_plain (id := 10)); (first | refine xv (ex_fa (ev_at rfl) (flT rfl)) ?_ | refine xv (ex_faE (ev_at rfl) (flT rfl) (by assumption) (by assumption)) ?_); refine xv (ex_load (ev_at rfl) (ld1 hS (kdT rfl) rfl)) ?_; (first | refine xv (ex_fa (ev_at rfl) (flT rfl)) ?_ | refine xv (ex_faE (ev_at rfl) (flT rfl) (by assumption) (by assumption)) ?_); refine xv (ex_load (ev_at rfl) (ld1 hS (kdT rfl) rfl)) ?_; (first | refine xv (ex_fa (ev_at rfl) (flT rfl)) ?_ | refine xv (ex_faE (ev_at rfl) (flT rfl) (by assumption) (by assumption)) ?_); refine xv (ex_load (ev_at rfl) (ld1 hS (kdT rfl) rfl)) ?_; refine xv (ex_move (ev_at rfl)) ?_; refine xv (ex_move (ev_at rfl)) ?_; refine xv (ex_buildS (plT rfl) (zeT rfl) (Fills.cons rfl (ev_at rfl) (by first | exact IsSl.cellsL (by assumption) | exact cellsL1 rfl | rfl) rfl rfl (Fills.cons rfl (ev_at rfl) (by first | exact IsSl.cellsL (by assumption) | exact cellsL1 rfl | rfl) rfl rfl (Fills.cons rfl (ev_at rfl) (by first | exact IsSl.cellsL (by assumption) | exact cellsL1 rfl | rfl) rfl rfl (Fills.cons rfl (ev_at rfl) (by first | exact IsSl.cellsL (by assumption) | exact cellsL1 rfl | rfl) rfl rfl (Fills.cons rfl (ev_at rfl) (by first | exact IsSl.cellsL (by assumption) | exact cellsL1 rfl | rfl) rfl rfl Fills.nil)))))) ?_; refine wl_of rfl (wp_alloc hS (zeT rfl) fun b8 w hS => wl_put (by simp only [lset] <;> rfl) ?_); refine wl_of rfl (wp_storeN (ev_at rfl) (ev_at rfl) hS (szT rfl) rfl (by first | rfl | assumption | (simp only [sub, splice, List.take_succ_cons, List.take_zero, List.drop_succ_cons, List.drop_zero, List.nil_append, List.cons_append, List.length_cons, List.length_nil, Nat.reduceAdd, List.all_cons, List.all_nil, Bool.and_eq_true, Bool.and_true]; ((repeat' apply And.intro) <;> first | rfl | assumption | exact IsSl.one (by assumption)))) fun w hS => wl_put0 ?_); refine wl_nil ?_; (try simp only [lset, splice, sub, List.take_succ_cons, List.take_zero, List.drop_succ_cons, List.drop_zero, List.nil_append, List.cons_append, List.length_cons, List.length_nil, Nat.reduceAdd, Nat.zero_add, rep_zero] at hS))
    | ((with_reducible apply wp_region_plain (id := 11)); (first | refine xv (ex_fa (ev_at rfl) (flT rfl)) ?_ | refine xv (ex_faE (ev_at rfl) (flT rfl) (by assumption) (by assumption)) ?_); refine xv (ex_load (ev_at rfl) (ld1 hS (kdT rfl) rfl)) ?_; refine xv (ex_move (ev_at rfl)) ?_; refine xv (ex_arith (ev_at rfl) (ev_const _ _) rfl (by first | exact IntWalk.i64_in _ (by omega) | rfl)) ?_; refine xv (ex_move (ev_at rfl)) ?_; refine xv (ex_arith (ev_at rfl) (ev_const _ _) rfl (by first | exact IntWalk.i64_in _ (by omega) | rfl)) ?_; refine xv (ex_arith (ev_at rfl) (ev_const _ _) rfl (by first | exact IntWalk.i64_in _ (by omega) | rfl)) ?_; (first | refine xv (ex_fa (ev_at rfl) (flT rfl)) ?_ | refine xv (ex_faE (ev_at rfl) (flT rfl) (by assumption) (by assumption)) ?_); refine xv (ex_load (ev_at rfl) (ld1 hS (kdT rfl) rfl)) ?_; refine xv (ex_len (ev_at rfl) (slT rfl) (by first | assumption | exact IsSl.nil)) ?_; refine xv (ex_min2r (r := (hiN : Int)) (ev_at rfl) (ev_at rfl) hmin) ?_; refine xv (ex_sliceLH (ev_at rfl) (ev_at rfl) (ev_at rfl) (slT rfl) (szT rfl) (by first | assumption | exact IsSl.nil) (by omega) (by omega) (by omega)) ?_; (first | refine xv (ex_fa (ev_at rfl) (flT rfl)) ?_ | refine xv (ex_faE (ev_at rfl) (flT rfl) (by assumption) (by assumption)) ?_); refine wl_of rfl (wp_store1 (ev_at rfl) (ev_at rfl) hS (szT rfl) rfl (IsSl.one hv2) fun w hS => wl_put0 ?_); refine wl_nil ?_; (try simp only [lset, splice, sub, List.take_succ_cons, List.take_zero, List.drop_succ_cons, List.drop_zero, List.nil_append, List.cons_append, List.length_cons, List.length_nil, Nat.reduceAdd, Nat.zero_add, rep_zero] at hS))
    | ((with_reducible apply wp_region_plain (id := 12)); refine xv (ex_load (ev_at rfl) (ldN hS (kdT rfl) (szT rfl) rfl)) ?_; refine wl_of rfl (wp_callL (cbT rfl) (EvL.c (ev_at rfl) EvL.n) ?_); refine (hen _ _ (hr2.mono hJ).le hS).mono ?_; rintro e w ⟨J2, u2, rfl, hJ2, hu2, hS⟩; have hu2i := hu2.is; refine ⟨_, rfl, wl_put (by simp only [lset] <;> rfl) ?_⟩; refine xv (ex_move (ev_at rfl)) ?_; refine xv (ex_extract (ev_at rfl) rfl) ?_; refine xv (ex_extract (ev_at rfl) rfl) ?_; refine xv (ex_assign (ev_at rfl)) ?_; refine xv (ex_assign (ev_at rfl)) ?_; refine wl_nil ?_)
    | ((with_reducible apply wp_region_plain (id := 13)); refine xv (ex_move (ev_at rfl)) ?_; refine xv (ex_cmp (ev_at rfl) (ev_const _ _) (by first | exact neqT (by omega) | exact neqF (by omega) | rfl)) ?_; refine wl_nil ?_)
    | ((with_reducible apply wp_region_plain (id := 15)); refine xv (ex_move (ev_at rfl)) ?_; refine xv (ex_move (ev_at rfl)) ?_; refine wl_of rfl (wp_buildSlice (slT rfl) (szT rfl) (zeT rfl) (fillsOne1 (ev_at rfl) (by first | rfl | exact IsSl.one (by assumption))) hS rfl (by first | rfl | assumption | (simp only [sub, splice, List.take_succ_cons, List.take_zero, List.drop_succ_cons, List.drop_zero, List.nil_append, List.cons_append, List.length_cons, List.length_nil, Nat.reduceAdd, List.all_cons, List.all_nil, Bool.and_eq_true, Bool.and_true]; ((repeat' apply And.intro) <;> first | rfl | assumption | exact IsSl.one (by assumption)))) fun b69 w hS => wl_put (by simp only [lset] <;> rfl) ?_); refine wl_of rfl (wp_append1 (ev_at rfl) (ev_at rfl) (slT rfl) (szT rfl) (byT rfl) (zeT rfl) hS (by omega) (by omega) rfl fun v70 w hS hv70 => wl_put (by simp only [lset] <;> rfl) ?_); refine xv (ex_assign (ev_at rfl)) ?_; refine wl_nil ?_; (try simp only [lset, splice, sub, List.take_succ_cons, List.take_zero, List.drop_succ_cons, List.drop_zero, List.nil_append, List.cons_append, List.length_cons, List.length_nil, Nat.reduceAdd, Nat.zero_add, rep_zero] at hS))
    | ((with_reducible apply wp_region_plain (id := 16)); refine xv (ex_arith (ev_at rfl) (ev_const _ _) rfl (by first | exact IntWalk.i64_in _ (by omega) | rfl)) ?_; refine xv (ex_move (ev_at rfl)) ?_; refine wl_nil ?_)
    | ((fail_if_success (with_reducible apply wp_region_plain)); (fail_if_success (with_reducible apply wp_region_GS)); go_step))
  refine loopEndM rfl (N - (i + 1)) ⟨i + 1, J2, _, _, rfl, rfl, by omega, rfl, hJ.trans hJ2, by rw [htk]; exact (hvs.mono hJ2).snoc (by rw [henl]; exact hu2), hS.drop⟩ (by omega)
end
end Go.Proofs.Try
