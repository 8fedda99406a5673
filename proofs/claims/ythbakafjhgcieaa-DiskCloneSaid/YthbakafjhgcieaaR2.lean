/- The reference: contracts (2): Write, Flush. -/
import Derived.Test.YthbakafjhgcieaaR1
namespace Go.Proofs.Try
open Go.RowKit Go.SL Go.DK
set_option maxRecDepth 100000
set_option linter.unusedSimpArgs false
set_option linter.unusedVariables false
section
variable {w : World} {I : Gh} {L : List Ch}
theorem RSlim (R : RS) (hl : -1 ≤ R.lim ∧ R.lim ≤ 9223372036854775807) : -1 ≤ R.counted.1.lim ∧ R.counted.1.lim ≤ 9223372036854775807 := by
  unfold RS.counted
  split
  · exact hl
  · simp only; split <;> omega
theorem counted_dur (R : RS) : R.counted.1.dur = R.dur := by unfold RS.counted; split <;> rfl
theorem counted_wr (R : RS) : R.counted.1.wr = R.wr := by unfold RS.counted; split <;> rfl
set_option maxHeartbeats 2000000 in
theorem rwrite_ct (v : Value) (R : RS) (k : Int) (bv : Value) (bs : List UInt8) (hb : IsSl bv bs.length) (hr : Rds I L bv (bs.map byteV)) (hv : RefI I v R) (hR : R.Ok) (hl : -1 ≤ R.lim ∧ R.lim ≤ 9223372036854775807) (hfew : R.wr.length < 1000) (hS : Sat w I L) :
    Calls Try.prog 42 #[v, .int .i64 k, bv] w fun e w' => ∃ v' J, e = .returned (.tuple #[v', .int .i64 (R.write k bs).2]) ∧ I.le J ∧ RefI J v' (R.write k bs).1 ∧ Sat w' J L := by
  obtain ⟨dv, wv, dcs, wcs, rfl, h1, h2, h3, h4⟩ := id hv
  have h1i := h1.is
  have h3i := h3.is
  by_cases hd : R.down = true
  · have e : R.write k bs = (R, 28) := by simp [RS.write, hd]
    rw [e]
    go_enter Try.func42, Try.ntmps42
    repeat' (first
      | ((with_reducible apply wp_region_plain (id := 0)); refine wl_of rfl (wp_boxN (ev_at rfl) hS fun b3 w hS => wl_put (by simp only [lset] <;> rfl) ?_); refine wl_of rfl (wp_alloc hS (zeT rfl) fun b6 w hS => wl_put (by simp only [lset] <;> rfl) ?_); refine xv (ex_assign (ev_const _ _)) ?_; refine wl_nil ?_)
      | ((with_reducible apply wp_region_plain (id := 1)); (first | refine xv (ex_fa (ev_at rfl) (flT rfl)) ?_ | refine xv (ex_faE (ev_at rfl) (flT rfl) (by assumption) (by assumption)) ?_); refine xv (ex_load (v := .bool true) (ev_at rfl) (ld1 hS (kdT rfl) (by rw [← hd]; rfl))) ?_; refine wl_nil ?_)
      | ((with_reducible apply wp_region_plain (id := 2)); refine xv (ex_load (ev_at rfl) (ldN hS (kdT rfl) (szT rfl) rfl)) ?_; refine wl_of rfl (wp_storeN (ev_at rfl) (ev_at rfl) hS (szT rfl) rfl (by first | rfl | assumption | (simp only [sub, splice, List.take_succ_cons, List.take_zero, List.drop_succ_cons, List.drop_zero, List.nil_append, List.cons_append, List.length_cons, List.length_nil, Nat.reduceAdd, List.all_cons, List.all_nil, Bool.and_eq_true, Bool.and_true]; ((repeat' apply And.intro) <;> first | rfl | assumption | exact IsSl.one (by assumption)))) fun w hS => wl_put0 ?_); refine xv (ex_assign (ev_const _ _)) ?_; refine wl_nil ?_; (try simp only [lset, splice, sub, List.take_succ_cons, List.take_zero, List.drop_succ_cons, List.drop_zero, List.nil_append, List.cons_append, List.length_cons, List.length_nil, Nat.reduceAdd, Nat.zero_add, rep_zero] at hS))
      | ((fail_if_success (with_reducible apply wp_region_plain)); (fail_if_success (with_reducible apply wp_region_GS)); go_step))
    refine endN (by first | exact .inl rfl | exact .inr rfl) rfl (ResL.rc rfl (ldN hS (kdT rfl) (szT rfl) rfl) (ResL.rt rfl ResL.rn)) rfl ?_
    exact ⟨_, I, rfl, Gh.le.refl I, hv, hS.drop.drop⟩
  · have hd : R.down = false := by simpa using hd
    by_cases hk : 0 ≤ k ∧ k < R.dur.length
    · by_cases h256 : bs.length = 256
      · cases hc : R.counted.2 with
        | true =>
          have e : R.write k bs = (R.counted.1, 28) := by simp [RS.write, hd, hk, h256, hc]
          rw [e]
          go_enter Try.func42, Try.ntmps42
          repeat' (first
            | ((with_reducible apply wp_region_plain (id := 0)); refine wl_of rfl (wp_boxN (ev_at rfl) hS fun b3 w hS => wl_put (by simp only [lset] <;> rfl) ?_); refine wl_of rfl (wp_alloc hS (zeT rfl) fun b6 w hS => wl_put (by simp only [lset] <;> rfl) ?_); refine xv (ex_assign (ev_const _ _)) ?_; refine wl_nil ?_)
            | ((with_reducible apply wp_region_plain (id := 1)); (first | refine xv (ex_fa (ev_at rfl) (flT rfl)) ?_ | refine xv (ex_faE (ev_at rfl) (flT rfl) (by assumption) (by assumption)) ?_); refine xv (ex_load (v := .bool false) (ev_at rfl) (ld1 hS (kdT rfl) (by rw [← hd]; rfl))) ?_; refine wl_nil ?_)
            | ((with_reducible apply wp_region_plain (id := 3)); refine xv (ex_load (ev_at rfl) (ldN hS (kdT rfl) (szT rfl) rfl)) ?_; refine xv (ex_move (ev_at rfl)) ?_; refine wl_of rfl (wp_callL (cbT rfl) (EvL.c (ev_at rfl) (EvL.c (ev_at rfl) EvL.n)) ?_); refine (ris_ct (rdV dv wv R) R k hv.rr hS).mono ?_; rintro e w ⟨rfl, hS⟩; rw [decide_eq_true hk]; refine ⟨_, rfl, wl_put (by simp only [lset] <;> rfl) ?_⟩; refine xv (ex_not (ev_at rfl)) ?_; refine wl_nil ?_)
            | ((with_reducible apply wp_region_plain (id := 5)); refine xv (ex_move (ev_at rfl)) ?_; refine xv (ex_len (ev_at rfl) (slT rfl) (by first | assumption | exact IsSl.nil)) ?_; refine xv (ex_cmp (ev_at rfl) (ev_const _ _) (by first | exact neqT (by omega) | exact neqF (by omega) | rfl)) ?_; refine wl_nil ?_)
            | ((with_reducible apply wp_region_plain (id := 7)); refine xv (ex_load (ev_at rfl) (ldN hS (kdT rfl) (szT rfl) rfl)) ?_; refine wl_of rfl (wp_callL (cbT rfl) (EvL.c (ev_at rfl) EvL.n) ?_); refine (copyF_ct (rdV dv wv R) R hv hR hS).mono ?_; rintro e w ⟨d2, w2, us, cs, J, rfl, hJ, hus, hcs, hS⟩; have hd2 := (hS.row 0 rfl).1; have hw2 := (hS.row 1 rfl).1; refine ⟨_, rfl, wl_put (by simp only [lset] <;> rfl) ?_⟩; refine wl_of rfl (wp_callL (cbT rfl) (EvL.c (ev_at rfl) EvL.n) ?_); refine (counted_ct d2 w2 R _ _ hd2 hw2 hl hS).mono ?_; rintro e w ⟨rfl, hS⟩; rw [hc]; refine ⟨_, rfl, wl_put (by simp only [lset] <;> rfl) ?_⟩; refine xv (ex_move (ev_at rfl)) ?_; refine xv (ex_extract (ev_at rfl) rfl) ?_; refine xv (ex_extract (ev_at rfl) rfl) ?_; refine wl_of rfl (wp_storeN (ev_at rfl) (ev_at rfl) hS (szT rfl) rfl (by first | rfl | assumption | (simp only [sub, splice, List.take_succ_cons, List.take_zero, List.drop_succ_cons, List.drop_zero, List.nil_append, List.cons_append, List.length_cons, List.length_nil, Nat.reduceAdd, List.all_cons, List.all_nil, Bool.and_eq_true, Bool.and_true]; ((repeat' apply And.intro) <;> first | rfl | assumption | exact IsSl.one (by assumption)))) fun w hS => wl_put0 ?_); refine xv (ex_assign (ev_at rfl)) ?_; refine wl_nil ?_; (try simp only [lset, splice, sub, List.take_succ_cons, List.take_zero, List.drop_succ_cons, List.drop_zero, List.nil_append, List.cons_append, List.length_cons, List.length_nil, Nat.reduceAdd, Nat.zero_add, rep_zero] at hS))
            | ((with_reducible apply wp_region_plain (id := 8)); refine xv (ex_move (ev_at rfl)) ?_; refine wl_nil ?_)
            | ((with_reducible apply wp_region_plain (id := 9)); refine xv (ex_load (ev_at rfl) (ldN hS (kdT rfl) (szT rfl) rfl)) ?_; refine wl_of rfl (wp_storeN (ev_at rfl) (ev_at rfl) hS (szT rfl) rfl (by first | rfl | assumption | (simp only [sub, splice, List.take_succ_cons, List.take_zero, List.drop_succ_cons, List.drop_zero, List.nil_append, List.cons_append, List.length_cons, List.length_nil, Nat.reduceAdd, List.all_cons, List.all_nil, Bool.and_eq_true, Bool.and_true]; ((repeat' apply And.intro) <;> first | rfl | assumption | exact IsSl.one (by assumption)))) fun w hS => wl_put0 ?_); refine xv (ex_assign (ev_const _ _)) ?_; refine wl_nil ?_; (try simp only [lset, splice, sub, List.take_succ_cons, List.take_zero, List.drop_succ_cons, List.drop_zero, List.nil_append, List.cons_append, List.length_cons, List.length_nil, Nat.reduceAdd, Nat.zero_add, rep_zero] at hS))
            | ((fail_if_success (with_reducible apply wp_region_plain)); (fail_if_success (with_reducible apply wp_region_GS)); go_step))
          refine endN (by first | exact .inl rfl | exact .inr rfl) rfl (ResL.rc rfl (ldN hS (kdT rfl) (szT rfl) rfl) (ResL.rt rfl ResL.rn)) rfl ?_
          obtain ⟨J1, hJ1, hS, s1⟩ := hS.freezeRow
          obtain ⟨J2, hJ2, hS, s2⟩ := hS.freezeRow
          refine ⟨_, J2, rfl, (hJ.trans hJ1).trans hJ2, ?_, hS.drop.drop⟩
          exact ⟨d2, w2, us, cs, rfl, by rw [counted_dur]; exact s1.mono hJ2, by rw [counted_dur]; exact (hus.mono hJ1).mono hJ2, by rw [counted_wr]; exact s2, by rw [counted_wr]; exact (hcs.mono hJ1).mono hJ2⟩
        | false =>
          have e : R.write k bs = ({ R.counted.1 with wr := R.wr ++ [(k, bs)] }, 0) := by simp [RS.write, hd, hk, h256, hc]
          rw [e]
          go_enter Try.func42, Try.ntmps42
          repeat' (first
            | ((with_reducible apply wp_region_plain (id := 0)); refine wl_of rfl (wp_boxN (ev_at rfl) hS fun b3 w hS => wl_put (by simp only [lset] <;> rfl) ?_); refine wl_of rfl (wp_alloc hS (zeT rfl) fun b6 w hS => wl_put (by simp only [lset] <;> rfl) ?_); refine xv (ex_assign (ev_const _ _)) ?_; refine wl_nil ?_)
            | ((with_reducible apply wp_region_plain (id := 1)); (first | refine xv (ex_fa (ev_at rfl) (flT rfl)) ?_ | refine xv (ex_faE (ev_at rfl) (flT rfl) (by assumption) (by assumption)) ?_); refine xv (ex_load (v := .bool false) (ev_at rfl) (ld1 hS (kdT rfl) (by rw [← hd]; rfl))) ?_; refine wl_nil ?_)
            | ((with_reducible apply wp_region_plain (id := 3)); refine xv (ex_load (ev_at rfl) (ldN hS (kdT rfl) (szT rfl) rfl)) ?_; refine xv (ex_move (ev_at rfl)) ?_; refine wl_of rfl (wp_callL (cbT rfl) (EvL.c (ev_at rfl) (EvL.c (ev_at rfl) EvL.n)) ?_); refine (ris_ct (rdV dv wv R) R k hv.rr hS).mono ?_; rintro e w ⟨rfl, hS⟩; rw [decide_eq_true hk]; refine ⟨_, rfl, wl_put (by simp only [lset] <;> rfl) ?_⟩; refine xv (ex_not (ev_at rfl)) ?_; refine wl_nil ?_)
            | ((with_reducible apply wp_region_plain (id := 5)); refine xv (ex_move (ev_at rfl)) ?_; refine xv (ex_len (ev_at rfl) (slT rfl) (by first | assumption | exact IsSl.nil)) ?_; refine xv (ex_cmp (ev_at rfl) (ev_const _ _) (by first | exact neqT (by omega) | exact neqF (by omega) | rfl)) ?_; refine wl_nil ?_)
            | ((with_reducible apply wp_region_plain (id := 7)); refine xv (ex_load (ev_at rfl) (ldN hS (kdT rfl) (szT rfl) rfl)) ?_; refine wl_of rfl (wp_callL (cbT rfl) (EvL.c (ev_at rfl) EvL.n) ?_); refine (copyF_ct (rdV dv wv R) R hv hR hS).mono ?_; rintro e w ⟨d2, w2, us, cs, J, rfl, hJ, hus, hcs, hS⟩; have hd2 := (hS.row 0 rfl).1; have hw2 := (hS.row 1 rfl).1; refine ⟨_, rfl, wl_put (by simp only [lset] <;> rfl) ?_⟩; refine wl_of rfl (wp_callL (cbT rfl) (EvL.c (ev_at rfl) EvL.n) ?_); refine (counted_ct d2 w2 R _ _ hd2 hw2 hl hS).mono ?_; rintro e w ⟨rfl, hS⟩; rw [hc]; refine ⟨_, rfl, wl_put (by simp only [lset] <;> rfl) ?_⟩; refine xv (ex_move (ev_at rfl)) ?_; refine xv (ex_extract (ev_at rfl) rfl) ?_; refine xv (ex_extract (ev_at rfl) rfl) ?_; refine wl_of rfl (wp_storeN (ev_at rfl) (ev_at rfl) hS (szT rfl) rfl (by first | rfl | assumption | (simp only [sub, splice, List.take_succ_cons, List.take_zero, List.drop_succ_cons, List.drop_zero, List.nil_append, List.cons_append, List.length_cons, List.length_nil, Nat.reduceAdd, List.all_cons, List.all_nil, Bool.and_eq_true, Bool.and_true]; ((repeat' apply And.intro) <;> first | rfl | assumption | exact IsSl.one (by assumption)))) fun w hS => wl_put0 ?_); refine xv (ex_assign (ev_at rfl)) ?_; refine wl_nil ?_; (try simp only [lset, splice, sub, List.take_succ_cons, List.take_zero, List.drop_succ_cons, List.drop_zero, List.nil_append, List.cons_append, List.length_cons, List.length_nil, Nat.reduceAdd, Nat.zero_add, rep_zero] at hS))
            | ((with_reducible apply wp_region_plain (id := 8)); refine xv (ex_move (ev_at rfl)) ?_; refine wl_nil ?_)
            | ((with_reducible apply wp_region_GS (id := 10) 11 (fun j => [0, 1, 2, 3, 4, 5, 6, 7, 9].contains j) mixed); rfl; exact hS; (clear hS; intro w hS); (first | refine xp 0 rfl rfl (fun w => ex_fa (ev_at rfl) (flT rfl)) ?_ | refine xp 0 rfl rfl (fun w => ex_faE (ev_at rfl) (flT rfl) (by assumption) (by assumption)) ?_); refine xr 1 hS rfl rfl (fun w X hS => ex_load (ev_at rfl) (ld1 hS (kdT rfl) rfl)) ?_; refine xp 2 rfl rfl (fun w => ex_move (ev_at rfl)) ?_; refine xp 4 rfl rfl (fun w => ex_move (ev_at rfl)) ?_; refine wg_loud 3 (by decide +kernel) rfl rfl (wp_buildSlice (slT rfl) (szT rfl) (zeT rfl) Fills.nil hS rfl (by first | rfl | assumption) fun b32 w hS => ⟨gsT hS, wg_p (by simp only [lset] <;> rfl) ?_⟩); refine wg_loud 5 (by decide +kernel) rfl rfl (wp_append (ev_at rfl) (ev_at rfl) (slT rfl) (szT rfl) (byT rfl) (zeT rfl) hS ((hr.mono hJ).src hS hb (by simp) (byteV_Oc _)) (by omega) (by omega) rfl fun v34 w hS hv34 => ⟨gsT hS, wg_p (by simp only [lset] <;> rfl) ?_⟩); refine xp 6 rfl rfl (fun w => ex_buildS (plT rfl) (zeT rfl) (Fills.cons rfl (ev_at rfl) (by first | exact IsSl.cellsL (by assumption) | exact cellsL1 rfl | rfl) rfl rfl (Fills.cons rfl (ev_at rfl) (by first | exact IsSl.cellsL (by assumption) | exact cellsL1 rfl | rfl) rfl rfl Fills.nil))) ?_; refine wg_loud 7 (by decide +kernel) rfl rfl (wp_buildSlice (slT rfl) (szT rfl) (zeT rfl) (fillsOneN (ev_at rfl) rfl rfl) hS rfl (by first | rfl | assumption | (simp only [sub, splice, List.take_succ_cons, List.take_zero, List.drop_succ_cons, List.drop_zero, List.nil_append, List.cons_append, List.length_cons, List.length_nil, Nat.reduceAdd, List.all_cons, List.all_nil, Bool.and_eq_true, Bool.and_true]; ((repeat' apply And.intro) <;> first | rfl | assumption | exact IsSl.one (by assumption)))) fun b36 w hS => ⟨gsT hS, wg_p (by simp only [lset] <;> rfl) ?_⟩); refine wg_loud 8 (by decide +kernel) rfl rfl (wp_append1 (ev_at rfl) (ev_at rfl) (slT rfl) (szT rfl) (byT rfl) (zeT rfl) hS (by omega) (by omega) rfl fun v37 w hS hv37 => ⟨gsF rfl, wg_p (by simp only [lset] <;> rfl) ?_⟩); (first | refine xp 9 rfl rfl (fun w => ex_fa (ev_at rfl) (flT rfl)) ?_ | refine xp 9 rfl rfl (fun w => ex_faE (ev_at rfl) (flT rfl) (by assumption) (by assumption)) ?_); refine wg_loud 10 (by decide +kernel) rfl rfl (wp_store1 (ev_at rfl) (ev_at rfl) hS (szT rfl) rfl (by first | rfl | exact IsSl.one (by assumption)) fun w hS => ⟨gsF rfl, wg_n ?_⟩); refine wg_end (by decide +kernel) ?_; (try simp only [lset, splice, sub, List.take_succ_cons, List.take_zero, List.drop_succ_cons, List.drop_zero, List.nil_append, List.cons_append, List.length_cons, List.length_nil, Nat.reduceAdd, Nat.zero_add, rep_zero] at hS))
            | ((with_reducible apply wp_region_plain (id := 11)); refine xv (ex_load (ev_at rfl) (ldN hS (kdT rfl) (szT rfl) rfl)) ?_; refine wl_of rfl (wp_storeN (ev_at rfl) (ev_at rfl) hS (szT rfl) rfl (by first | rfl | assumption | (simp only [sub, splice, List.take_succ_cons, List.take_zero, List.drop_succ_cons, List.drop_zero, List.nil_append, List.cons_append, List.length_cons, List.length_nil, Nat.reduceAdd, List.all_cons, List.all_nil, Bool.and_eq_true, Bool.and_true]; ((repeat' apply And.intro) <;> first | rfl | assumption | exact IsSl.one (by assumption)))) fun w hS => wl_put0 ?_); refine xv (ex_assign (ev_const _ _)) ?_; refine wl_nil ?_; (try simp only [lset, splice, sub, List.take_succ_cons, List.take_zero, List.drop_succ_cons, List.drop_zero, List.nil_append, List.cons_append, List.length_cons, List.length_nil, Nat.reduceAdd, Nat.zero_add, rep_zero] at hS))
            | ((fail_if_success (with_reducible apply wp_region_plain)); (fail_if_success (with_reducible apply wp_region_GS)); go_step))
          refine endN (by first | exact .inl rfl | exact .inr rfl) rfl (ResL.rc rfl (ldN hS (kdT rfl) (szT rfl) rfl) (ResL.rt rfl ResL.rn)) rfl ?_
          obtain ⟨J1, hJ1, hS, s1⟩ := hS.freezeRow
          obtain ⟨J2, hJ2, hS, s2⟩ := hS.freezeRow
          obtain ⟨J3, hJ3, hS, s3⟩ := hS.freezeRow
          refine ⟨_, J3, rfl, ((hJ.trans hJ1).trans hJ2).trans hJ3, ?_, hS.drop.drop⟩
          refine ⟨d2, v37, us, cs ++ [.int .i64 k, v34], rfl, by rw [counted_dur]; exact s2.mono hJ3, by rw [counted_dur]; exact ((hus.mono hJ1).mono hJ2).mono hJ3, ?_, ?_⟩
          · simpa using s3
          · exact (((hcs.mono hJ1).snoc s1).mono hJ2).mono hJ3
      · have e : R.write k bs = (R, 2) := by simp [RS.write, hd, hk, h256]
        rw [e]
        go_enter Try.func42, Try.ntmps42
        repeat' (first
          | ((with_reducible apply wp_region_plain (id := 0)); refine wl_of rfl (wp_boxN (ev_at rfl) hS fun b3 w hS => wl_put (by simp only [lset] <;> rfl) ?_); refine wl_of rfl (wp_alloc hS (zeT rfl) fun b6 w hS => wl_put (by simp only [lset] <;> rfl) ?_); refine xv (ex_assign (ev_const _ _)) ?_; refine wl_nil ?_)
          | ((with_reducible apply wp_region_plain (id := 1)); (first | refine xv (ex_fa (ev_at rfl) (flT rfl)) ?_ | refine xv (ex_faE (ev_at rfl) (flT rfl) (by assumption) (by assumption)) ?_); refine xv (ex_load (v := .bool false) (ev_at rfl) (ld1 hS (kdT rfl) (by rw [← hd]; rfl))) ?_; refine wl_nil ?_)
          | ((with_reducible apply wp_region_plain (id := 3)); refine xv (ex_load (ev_at rfl) (ldN hS (kdT rfl) (szT rfl) rfl)) ?_; refine xv (ex_move (ev_at rfl)) ?_; refine wl_of rfl (wp_callL (cbT rfl) (EvL.c (ev_at rfl) (EvL.c (ev_at rfl) EvL.n)) ?_); refine (ris_ct (rdV dv wv R) R k hv.rr hS).mono ?_; rintro e w ⟨rfl, hS⟩; rw [decide_eq_true hk]; refine ⟨_, rfl, wl_put (by simp only [lset] <;> rfl) ?_⟩; refine xv (ex_not (ev_at rfl)) ?_; refine wl_nil ?_)
          | ((with_reducible apply wp_region_plain (id := 5)); refine xv (ex_move (ev_at rfl)) ?_; refine xv (ex_len (ev_at rfl) (slT rfl) (by first | assumption | exact IsSl.nil)) ?_; refine xv (ex_cmp (ev_at rfl) (ev_const _ _) (by first | exact neqT (by omega) | exact neqF (by omega) | rfl)) ?_; refine wl_nil ?_)
          | ((with_reducible apply wp_region_plain (id := 6)); refine xv (ex_load (ev_at rfl) (ldN hS (kdT rfl) (szT rfl) rfl)) ?_; refine wl_of rfl (wp_storeN (ev_at rfl) (ev_at rfl) hS (szT rfl) rfl (by first | rfl | assumption | (simp only [sub, splice, List.take_succ_cons, List.take_zero, List.drop_succ_cons, List.drop_zero, List.nil_append, List.cons_append, List.length_cons, List.length_nil, Nat.reduceAdd, List.all_cons, List.all_nil, Bool.and_eq_true, Bool.and_true]; ((repeat' apply And.intro) <;> first | rfl | assumption | exact IsSl.one (by assumption)))) fun w hS => wl_put0 ?_); refine xv (ex_assign (ev_const _ _)) ?_; refine wl_nil ?_; (try simp only [lset, splice, sub, List.take_succ_cons, List.take_zero, List.drop_succ_cons, List.drop_zero, List.nil_append, List.cons_append, List.length_cons, List.length_nil, Nat.reduceAdd, Nat.zero_add, rep_zero] at hS))
          | ((fail_if_success (with_reducible apply wp_region_plain)); (fail_if_success (with_reducible apply wp_region_GS)); go_step))
        refine endN (by first | exact .inl rfl | exact .inr rfl) rfl (ResL.rc rfl (ldN hS (kdT rfl) (szT rfl) rfl) (ResL.rt rfl ResL.rn)) rfl ?_
        exact ⟨_, I, rfl, Gh.le.refl I, hv, hS.drop.drop⟩
    · have e : R.write k bs = (R, 8) := by simp [RS.write, hd, hk]
      rw [e]
      go_enter Try.func42, Try.ntmps42
      repeat' (first
        | ((with_reducible apply wp_region_plain (id := 0)); refine wl_of rfl (wp_boxN (ev_at rfl) hS fun b3 w hS => wl_put (by simp only [lset] <;> rfl) ?_); refine wl_of rfl (wp_alloc hS (zeT rfl) fun b6 w hS => wl_put (by simp only [lset] <;> rfl) ?_); refine xv (ex_assign (ev_const _ _)) ?_; refine wl_nil ?_)
        | ((with_reducible apply wp_region_plain (id := 1)); (first | refine xv (ex_fa (ev_at rfl) (flT rfl)) ?_ | refine xv (ex_faE (ev_at rfl) (flT rfl) (by assumption) (by assumption)) ?_); refine xv (ex_load (v := .bool false) (ev_at rfl) (ld1 hS (kdT rfl) (by rw [← hd]; rfl))) ?_; refine wl_nil ?_)
        | ((with_reducible apply wp_region_plain (id := 3)); refine xv (ex_load (ev_at rfl) (ldN hS (kdT rfl) (szT rfl) rfl)) ?_; refine xv (ex_move (ev_at rfl)) ?_; refine wl_of rfl (wp_callL (cbT rfl) (EvL.c (ev_at rfl) (EvL.c (ev_at rfl) EvL.n)) ?_); refine (ris_ct (rdV dv wv R) R k hv.rr hS).mono ?_; rintro e w ⟨rfl, hS⟩; rw [decide_eq_false hk]; refine ⟨_, rfl, wl_put (by simp only [lset] <;> rfl) ?_⟩; refine xv (ex_not (ev_at rfl)) ?_; refine wl_nil ?_)
        | ((with_reducible apply wp_region_plain (id := 4)); refine xv (ex_load (ev_at rfl) (ldN hS (kdT rfl) (szT rfl) rfl)) ?_; refine wl_of rfl (wp_storeN (ev_at rfl) (ev_at rfl) hS (szT rfl) rfl (by first | rfl | assumption | (simp only [sub, splice, List.take_succ_cons, List.take_zero, List.drop_succ_cons, List.drop_zero, List.nil_append, List.cons_append, List.length_cons, List.length_nil, Nat.reduceAdd, List.all_cons, List.all_nil, Bool.and_eq_true, Bool.and_true]; ((repeat' apply And.intro) <;> first | rfl | assumption | exact IsSl.one (by assumption)))) fun w hS => wl_put0 ?_); refine xv (ex_assign (ev_const _ _)) ?_; refine wl_nil ?_; (try simp only [lset, splice, sub, List.take_succ_cons, List.take_zero, List.drop_succ_cons, List.drop_zero, List.nil_append, List.cons_append, List.length_cons, List.length_nil, Nat.reduceAdd, Nat.zero_add, rep_zero] at hS))
        | ((fail_if_success (with_reducible apply wp_region_plain)); (fail_if_success (with_reducible apply wp_region_GS)); go_step))
      refine endN (by first | exact .inl rfl | exact .inr rfl) rfl (ResL.rc rfl (ldN hS (kdT rfl) (szT rfl) rfl) (ResL.rt rfl ResL.rn)) rfl ?_
      exact ⟨_, I, rfl, Gh.le.refl I, hv, hS.drop.drop⟩
def durV (R : RS) (i : Nat) : List (List UInt8) := (List.range i).map (fun (j : Nat) => R.vis (j : Int)) ++ R.dur.drop i
theorem durV_len (R : RS) (i : Nat) (h : i ≤ R.dur.length) : (durV R i).length = R.dur.length := by simp [durV]; omega
def midR (R : RS) (i : Nat) : RS := ⟨durV R i, R.wr, R.counted.1.lim, R.counted.1.down, R.counted.1.ops⟩
theorem okvis {R : RS} (h : R.Ok) (i : Nat) (hi : i < R.dur.length) : (R.vis i).length = 256 := by
  unfold RS.vis
  cases hg : lastOf R.wr i with
  | some v => exact h.wr _ (lastOf_mem hg)
  | none =>
    simp [hi]
    exact h.dur _ (List.getElem_mem hi)
theorem durV_ok {R : RS} (h : R.Ok) (i : Nat) (hi : i ≤ R.dur.length) : ∀ b ∈ durV R i, b.length = 256 := by
  intro b hb
  rcases List.mem_append.1 hb with hb | hb
  · obtain ⟨j, hj, rfl⟩ := List.mem_map.1 hb
    have := List.mem_range.1 hj
    exact okvis h j (by omega)
  · exact h.dur b (List.mem_of_mem_drop hb)
set_option maxHeartbeats 2000000 in
theorem rflush_ct (v : Value) (R : RS) (hv : RefI I v R) (hR : R.Ok) (hl : -1 ≤ R.lim ∧ R.lim ≤ 9223372036854775807) (hS : Sat w I L) :
    Calls Try.prog 26 #[v] w fun e w' => ∃ v' J, e = .returned (.tuple #[v', .int .i64 R.flush.2]) ∧ I.le J ∧ RefI J v' R.flush.1 ∧ Sat w' J L := by
  obtain ⟨dv, wv, dcs, wcs, rfl, h1, h2, h3, h4⟩ := id hv
  have h1i := h1.is
  have h3i := h3.is
  have hn := hR.n
  by_cases hd : R.down = true
  · have e : R.flush = (R, 28) := by simp [RS.flush, hd]
    rw [e]
    go_enter Try.func26, Try.ntmps26
    repeat' (first
      | ((with_reducible apply wp_region_plain (id := 0)); refine wl_of rfl (wp_boxN (ev_at rfl) hS fun b1 w hS => wl_put (by simp only [lset] <;> rfl) ?_); refine wl_of rfl (wp_alloc hS (zeT rfl) fun b2 w hS => wl_put (by simp only [lset] <;> rfl) ?_); refine xv (ex_assign (ev_const _ _)) ?_; refine wl_nil ?_)
      | ((with_reducible apply wp_region_plain (id := 1)); (first | refine xv (ex_fa (ev_at rfl) (flT rfl)) ?_ | refine xv (ex_faE (ev_at rfl) (flT rfl) (by assumption) (by assumption)) ?_); refine xv (ex_load (v := .bool true) (ev_at rfl) (ld1 hS (kdT rfl) (by rw [← hd]; rfl))) ?_; refine wl_nil ?_)
      | ((with_reducible apply wp_region_plain (id := 2)); refine xv (ex_load (ev_at rfl) (ldN hS (kdT rfl) (szT rfl) rfl)) ?_; refine wl_of rfl (wp_storeN (ev_at rfl) (ev_at rfl) hS (szT rfl) rfl (by first | rfl | assumption | (simp only [sub, splice, List.take_succ_cons, List.take_zero, List.drop_succ_cons, List.drop_zero, List.nil_append, List.cons_append, List.length_cons, List.length_nil, Nat.reduceAdd, List.all_cons, List.all_nil, Bool.and_eq_true, Bool.and_true]; ((repeat' apply And.intro) <;> first | rfl | assumption | exact IsSl.one (by assumption)))) fun w hS => wl_put0 ?_); refine xv (ex_assign (ev_const _ _)) ?_; refine wl_nil ?_; (try simp only [lset, splice, sub, List.take_succ_cons, List.take_zero, List.drop_succ_cons, List.drop_zero, List.nil_append, List.cons_append, List.length_cons, List.length_nil, Nat.reduceAdd, Nat.zero_add, rep_zero] at hS))
      | ((fail_if_success (with_reducible apply wp_region_plain)); (fail_if_success (with_reducible apply wp_region_GS)); go_step))
    refine endN (by first | exact .inl rfl | exact .inr rfl) rfl (ResL.rc rfl (ldN hS (kdT rfl) (szT rfl) rfl) (ResL.rt rfl ResL.rn)) rfl ?_
    exact ⟨_, I, rfl, Gh.le.refl I, hv, hS.drop.drop⟩
  · have hd : R.down = false := by simpa using hd
    cases hc : R.counted.2 with
    | true =>
      have e : R.flush = (R.counted.1, 28) := by simp [RS.flush, hd, hc]
      rw [e]
      go_enter Try.func26, Try.ntmps26
      repeat' (first
        | ((with_reducible apply wp_region_plain (id := 0)); refine wl_of rfl (wp_boxN (ev_at rfl) hS fun b1 w hS => wl_put (by simp only [lset] <;> rfl) ?_); refine wl_of rfl (wp_alloc hS (zeT rfl) fun b2 w hS => wl_put (by simp only [lset] <;> rfl) ?_); refine xv (ex_assign (ev_const _ _)) ?_; refine wl_nil ?_)
        | ((with_reducible apply wp_region_plain (id := 1)); (first | refine xv (ex_fa (ev_at rfl) (flT rfl)) ?_ | refine xv (ex_faE (ev_at rfl) (flT rfl) (by assumption) (by assumption)) ?_); refine xv (ex_load (v := .bool false) (ev_at rfl) (ld1 hS (kdT rfl) (by rw [← hd]; rfl))) ?_; refine wl_nil ?_)
        | ((with_reducible apply wp_region_plain (id := 3)); refine xv (ex_load (ev_at rfl) (ldN hS (kdT rfl) (szT rfl) rfl)) ?_; refine wl_of rfl (wp_callL (cbT rfl) (EvL.c (ev_at rfl) EvL.n) ?_); refine (copyF_ct (rdV dv wv R) R hv hR hS).mono ?_; rintro e w ⟨d2, w2, us, cs, J, rfl, hJ, hus, hcs, hS⟩; have hd2 := (hS.row 0 rfl).1; have hw2 := (hS.row 1 rfl).1; refine ⟨_, rfl, wl_put (by simp only [lset] <;> rfl) ?_⟩; refine wl_of rfl (wp_callL (cbT rfl) (EvL.c (ev_at rfl) EvL.n) ?_); refine (counted_ct d2 w2 R _ _ hd2 hw2 hl hS).mono ?_; rintro e w ⟨rfl, hS⟩; rw [hc]; refine ⟨_, rfl, wl_put (by simp only [lset] <;> rfl) ?_⟩; refine xv (ex_move (ev_at rfl)) ?_; refine xv (ex_extract (ev_at rfl) rfl) ?_; refine xv (ex_extract (ev_at rfl) rfl) ?_; refine wl_of rfl (wp_storeN (ev_at rfl) (ev_at rfl) hS (szT rfl) rfl (by first | rfl | assumption | (simp only [sub, splice, List.take_succ_cons, List.take_zero, List.drop_succ_cons, List.drop_zero, List.nil_append, List.cons_append, List.length_cons, List.length_nil, Nat.reduceAdd, List.all_cons, List.all_nil, Bool.and_eq_true, Bool.and_true]; ((repeat' apply And.intro) <;> first | rfl | assumption | exact IsSl.one (by assumption)))) fun w hS => wl_put0 ?_); refine xv (ex_assign (ev_at rfl)) ?_; refine wl_nil ?_; (try simp only [lset, splice, sub, List.take_succ_cons, List.take_zero, List.drop_succ_cons, List.drop_zero, List.nil_append, List.cons_append, List.length_cons, List.length_nil, Nat.reduceAdd, Nat.zero_add, rep_zero] at hS))
        | ((with_reducible apply wp_region_plain (id := 4)); refine xv (ex_move (ev_at rfl)) ?_; refine wl_nil ?_)
        | ((with_reducible apply wp_region_plain (id := 5)); refine xv (ex_load (ev_at rfl) (ldN hS (kdT rfl) (szT rfl) rfl)) ?_; refine wl_of rfl (wp_storeN (ev_at rfl) (ev_at rfl) hS (szT rfl) rfl (by first | rfl | assumption | (simp only [sub, splice, List.take_succ_cons, List.take_zero, List.drop_succ_cons, List.drop_zero, List.nil_append, List.cons_append, List.length_cons, List.length_nil, Nat.reduceAdd, List.all_cons, List.all_nil, Bool.and_eq_true, Bool.and_true]; ((repeat' apply And.intro) <;> first | rfl | assumption | exact IsSl.one (by assumption)))) fun w hS => wl_put0 ?_); refine xv (ex_assign (ev_const _ _)) ?_; refine wl_nil ?_; (try simp only [lset, splice, sub, List.take_succ_cons, List.take_zero, List.drop_succ_cons, List.drop_zero, List.nil_append, List.cons_append, List.length_cons, List.length_nil, Nat.reduceAdd, Nat.zero_add, rep_zero] at hS))
        | ((fail_if_success (with_reducible apply wp_region_plain)); (fail_if_success (with_reducible apply wp_region_GS)); go_step))
      refine endN (by first | exact .inl rfl | exact .inr rfl) rfl (ResL.rc rfl (ldN hS (kdT rfl) (szT rfl) rfl) (ResL.rt rfl ResL.rn)) rfl ?_
      obtain ⟨J1, hJ1, hS, s1⟩ := hS.freezeRow
      obtain ⟨J2, hJ2, hS, s2⟩ := hS.freezeRow
      refine ⟨_, J2, rfl, (hJ.trans hJ1).trans hJ2, ?_, hS.drop.drop⟩
      exact ⟨d2, w2, us, cs, rfl, by rw [counted_dur]; exact s1.mono hJ2, by rw [counted_dur]; exact (hus.mono hJ1).mono hJ2, by rw [counted_wr]; exact s2, by rw [counted_wr]; exact (hcs.mono hJ1).mono hJ2⟩
    | false =>
      have e : R.flush = ({ R.counted.1 with dur := durV R R.dur.length, wr := [] }, 0) := by simp [RS.flush, hd, hc, durV]
      rw [e]
      go_enter Try.func26, Try.ntmps26
      repeat' (first
        | ((with_reducible apply wp_region_plain (id := 0)); refine wl_of rfl (wp_boxN (ev_at rfl) hS fun b1 w hS => wl_put (by simp only [lset] <;> rfl) ?_); refine wl_of rfl (wp_alloc hS (zeT rfl) fun b2 w hS => wl_put (by simp only [lset] <;> rfl) ?_); refine xv (ex_assign (ev_const _ _)) ?_; refine wl_nil ?_)
        | ((with_reducible apply wp_region_plain (id := 1)); (first | refine xv (ex_fa (ev_at rfl) (flT rfl)) ?_ | refine xv (ex_faE (ev_at rfl) (flT rfl) (by assumption) (by assumption)) ?_); refine xv (ex_load (v := .bool false) (ev_at rfl) (ld1 hS (kdT rfl) (by rw [← hd]; rfl))) ?_; refine wl_nil ?_)
        | ((with_reducible apply wp_region_plain (id := 3)); refine xv (ex_load (ev_at rfl) (ldN hS (kdT rfl) (szT rfl) rfl)) ?_; refine wl_of rfl (wp_callL (cbT rfl) (EvL.c (ev_at rfl) EvL.n) ?_); refine (copyF_ct (rdV dv wv R) R hv hR hS).mono ?_; rintro e w ⟨d2, w2, us, cs, J, rfl, hJ, hus, hcs, hS⟩; have hd2 := (hS.row 0 rfl).1; have hw2 := (hS.row 1 rfl).1; refine ⟨_, rfl, wl_put (by simp only [lset] <;> rfl) ?_⟩; refine wl_of rfl (wp_callL (cbT rfl) (EvL.c (ev_at rfl) EvL.n) ?_); refine (counted_ct d2 w2 R _ _ hd2 hw2 hl hS).mono ?_; rintro e w ⟨rfl, hS⟩; rw [hc]; refine ⟨_, rfl, wl_put (by simp only [lset] <;> rfl) ?_⟩; refine xv (ex_move (ev_at rfl)) ?_; refine xv (ex_extract (ev_at rfl) rfl) ?_; refine xv (ex_extract (ev_at rfl) rfl) ?_; refine wl_of rfl (wp_storeN (ev_at rfl) (ev_at rfl) hS (szT rfl) rfl (by first | rfl | assumption | (simp only [sub, splice, List.take_succ_cons, List.take_zero, List.drop_succ_cons, List.drop_zero, List.nil_append, List.cons_append, List.length_cons, List.length_nil, Nat.reduceAdd, List.all_cons, List.all_nil, Bool.and_eq_true, Bool.and_true]; ((repeat' apply And.intro) <;> first | rfl | assumption | exact IsSl.one (by assumption)))) fun w hS => wl_put0 ?_); refine xv (ex_assign (ev_at rfl)) ?_; refine wl_nil ?_; (try simp only [lset, splice, sub, List.take_succ_cons, List.take_zero, List.drop_succ_cons, List.drop_zero, List.nil_append, List.cons_append, List.length_cons, List.length_nil, Nat.reduceAdd, Nat.zero_add, rep_zero] at hS))
        | ((with_reducible apply wp_region_plain (id := 4)); refine xv (ex_move (ev_at rfl)) ?_; refine wl_nil ?_)
        | ((with_reducible apply wp_region_plain (id := 6)); refine xv (ex_assign (ev_const _ _)) ?_; refine wl_nil ?_)
        | ((fail_if_success (with_reducible apply wp_region_plain)); (fail_if_success (with_reducible apply wp_region_GS)); go_step))
      refine wp_loopR [false, false, false, false, false, true, false, false, false, false, false, false, false, false, false, false, false, true, true, true, true, true, true, true, true, true, true, true, true, true, true] (fun f w => ∃ (i : Nat) (us : List Value) (J2 : Gh), f 5 = .int .i64 i ∧ i ≤ R.dur.length ∧ I.le J2 ∧ BssI J2 (durV R i) us ∧ PendI J2 R.wr cs ∧ Sat w J2 (Row d2 30 1 R.dur.length us :: Row w2 85 2 R.wr.length cs ::
        Cells b2 45 [.slice none 0 0, .slice none 0 0, .int .i64 0, .bool false, .int .i64 0] :: Cells b1 45 [d2, w2, .int .i64 R.counted.1.lim, .bool R.counted.1.down, .int .i64 R.counted.1.ops] :: L)) (fun f _ => R.dur.length - ivN (f 5)) rfl ⟨0, us, J, rfl, by omega, hJ, by simpa [durV] using hus, hcs, hS⟩ ?_
      clear hS hus hcs hJ
      rintro f w ⟨i, us, J, h5, hi, hJ, hus, hcs, hS⟩
      simp only [havoc, Nat.reduceAdd, h5]
      by_cases hlt : i < R.dur.length
      · have hRi : (midR R i).Ok := ⟨by simp only [midR]; rw [durV_len R i hi]; exact hn, durV_ok hR i hi, hR.wr, hR.few, by simp only [midR]; rw [durV_len R i hi]; exact hR.keys⟩
        have hvi : (midR R i).vis i = R.vis i := by
          simp only [RS.vis, midR]
          congr 1
          simp [durV, List.getElem?_append_right]
        have hdl : IsSl d2 (midR R i).dur.length := by simp only [midR]; rw [durV_len R i hi]; exact hd2
        have hil : (i : Int) < (midR R i).dur.length := by simp only [midR]; rw [durV_len R i hi]; omega
        have hul : us.length = R.dur.length := by rw [hus.len, durV_len R i hi]
        have hrf : RefR J (Row d2 30 1 R.dur.length us :: Row w2 85 2 R.wr.length cs ::
            Cells b2 45 [.slice none 0 0, .slice none 0 0, .int .i64 0, .bool false, .int .i64 0] :: Cells b1 45 [d2, w2, .int .i64 R.counted.1.lim, .bool R.counted.1.down, .int .i64 R.counted.1.ops] :: L) (rdV d2 w2 (midR R i)) (midR R i) :=
          ⟨d2, w2, us, cs, rfl, ⟨hdl, Rds.at 0 rfl⟩, hus, ⟨hw2, Rds.at 1 rfl⟩, hcs⟩
        repeat' (first
          | ((with_reducible apply wp_region_plain (id := 7)); refine xv (ex_move (ev_at rfl)) ?_; (first | refine xv (ex_fa (ev_at rfl) (flT rfl)) ?_ | refine xv (ex_faE (ev_at rfl) (flT rfl) (by assumption) (by assumption)) ?_); refine xv (ex_load (ev_at rfl) (ld1 hS (kdT rfl) rfl)) ?_; refine xv (ex_len (ev_at rfl) (slT rfl) (by first | assumption | exact IsSl.nil)) ?_; refine xv (ex_cmp (ev_at rfl) (ev_at rfl) (by first | exact lssT (by omega) | exact lssF (by omega) | rfl)) ?_; refine wl_nil ?_)
          | ((with_reducible apply wp_region_GS (id := 9) 8 (fun j => [0, 1, 2, 3, 4, 5, 6].contains j) mixed); rfl; exact hS; (clear hS; intro w hS); (first | refine xp 0 rfl rfl (fun w => ex_fa (ev_at rfl) (flT rfl)) ?_ | refine xp 0 rfl rfl (fun w => ex_faE (ev_at rfl) (flT rfl) (by assumption) (by assumption)) ?_); refine xr 1 hS rfl rfl (fun w X hS => ex_load (ev_at rfl) (ld1 hS (kdT rfl) rfl)) ?_; refine xp 2 rfl rfl (fun w => ex_move (ev_at rfl)) ?_; refine xr 3 hS rfl rfl (fun w X hS => ex_load (ev_at rfl) (ldN hS (kdT rfl) (szT rfl) rfl)) ?_; refine xp 4 rfl rfl (fun w => ex_move (ev_at rfl)) ?_; refine wg_loud 5 (by decide +kernel) rfl rfl (wp_callL (cbT rfl) (EvL.c (ev_at rfl) (EvL.c (ev_at rfl) EvL.n)) ?_); refine (rvis_ct (rdV d2 w2 (midR R i)) (midR R i) i hrf hRi ⟨by omega, hil⟩ hS).mono ?_; rintro e w ⟨u, rfl, hS⟩; rw [hvi] at hS; have hu := hS.row0.1; refine ⟨_, rfl, ⟨gsT hS, wg_p (by simp only [lset] <;> rfl) ?_⟩⟩; (first | refine xp 6 rfl rfl (fun w => ex_iaN (ev_at rfl) (ev_at rfl) (slT rfl) (szT rfl) (by first | assumption | exact IsSl.nil) (by omega)) ?_ | refine xp 6 rfl rfl (fun w => ex_ia (ev_at rfl) (ev_at rfl) (slT rfl) (szT rfl) (by first | assumption | exact IsSl.nil) (by omega) (by omega)) ?_); refine wg_loud 7 (by decide +kernel) rfl rfl (wp_storeE1 (ev_at rfl) (ev_at rfl) hS (szT rfl) (by rw [hul]; omega) hu.one fun w hS => ⟨gsF rfl, wg_n ?_⟩); refine wg_end (by decide +kernel) ?_; (try simp only [lset, splice, sub, List.take_succ_cons, List.take_zero, List.drop_succ_cons, List.drop_zero, List.nil_append, List.cons_append, List.length_cons, List.length_nil, Nat.reduceAdd, Nat.zero_add, rep_zero] at hS))
          | ((with_reducible apply wp_region_plain (id := 8)); refine xv (ex_move (ev_at rfl)) ?_; refine xv (ex_arith (ev_at rfl) (ev_const _ _) rfl (by first | exact IntWalk.i64_in _ (by omega) | rfl)) ?_; refine xv (ex_assign (ev_at rfl)) ?_; refine wl_nil ?_)
          | ((fail_if_success (with_reducible apply wp_region_plain)); (fail_if_success (with_reducible apply wp_region_GS)); go_step))
        obtain ⟨J1, hJ1, hS, s1⟩ := hS.freezeRow
        refine loopEnd rfl ⟨i + 1, _, J1, rfl, by omega, hJ.trans hJ1, ?_, hcs.mono hJ1, hS⟩ (by simp only [h5, nth, ivN]; omega)
        have h6 := (hus.mono hJ1).set s1 i
        rw [durV, pre_set (fun (j : Nat) => R.vis (j : Int)) R.dur i hlt] at h6
        rw [Nat.mul_one]
        exact h6
      · have hi : i = R.dur.length := by omega
        subst hi
        repeat' (first
          | ((with_reducible apply wp_region_plain (id := 7)); refine xv (ex_move (ev_at rfl)) ?_; (first | refine xv (ex_fa (ev_at rfl) (flT rfl)) ?_ | refine xv (ex_faE (ev_at rfl) (flT rfl) (by assumption) (by assumption)) ?_); refine xv (ex_load (ev_at rfl) (ld1 hS (kdT rfl) rfl)) ?_; refine xv (ex_len (ev_at rfl) (slT rfl) (by first | assumption | exact IsSl.nil)) ?_; refine xv (ex_cmp (ev_at rfl) (ev_at rfl) (by first | exact lssT (by omega) | exact lssF (by omega) | rfl)) ?_; refine wl_nil ?_)
          | ((with_reducible apply wp_region_plain (id := 10)); (first | refine xv (ex_fa (ev_at rfl) (flT rfl)) ?_ | refine xv (ex_faE (ev_at rfl) (flT rfl) (by assumption) (by assumption)) ?_); refine wl_of rfl (wp_store1 (ev_at rfl) (ev_const _ _) hS (szT rfl) rfl (by first | rfl | exact IsSl.one (by assumption)) fun w hS => wl_put0 ?_); refine wl_nil ?_; (try simp only [lset, Nat.reduceAdd, Nat.zero_add] at hS))
          | ((with_reducible apply wp_region_plain (id := 11)); refine xv (ex_load (ev_at rfl) (ldN hS (kdT rfl) (szT rfl) rfl)) ?_; refine wl_of rfl (wp_storeN (ev_at rfl) (ev_at rfl) hS (szT rfl) rfl (by first | rfl | assumption | (simp only [sub, splice, List.take_succ_cons, List.take_zero, List.drop_succ_cons, List.drop_zero, List.nil_append, List.cons_append, List.length_cons, List.length_nil, Nat.reduceAdd, List.all_cons, List.all_nil, Bool.and_eq_true, Bool.and_true]; ((repeat' apply And.intro) <;> first | rfl | assumption | exact IsSl.one (by assumption)))) fun w hS => wl_put0 ?_); refine xv (ex_assign (ev_const _ _)) ?_; refine wl_nil ?_; (try simp only [lset, splice, sub, List.take_succ_cons, List.take_zero, List.drop_succ_cons, List.drop_zero, List.nil_append, List.cons_append, List.length_cons, List.length_nil, Nat.reduceAdd, Nat.zero_add, rep_zero] at hS))
          | ((fail_if_success (with_reducible apply wp_region_plain)); (fail_if_success (with_reducible apply wp_region_GS)); go_step))
        refine endN (by first | exact .inl rfl | exact .inr rfl) rfl (ResL.rc rfl (ldN hS (kdT rfl) (szT rfl) rfl) (ResL.rt rfl ResL.rn)) rfl ?_
        obtain ⟨J1, hJ1, hS, s1⟩ := hS.freezeRow
        refine ⟨_, J1, rfl, hJ.trans hJ1, ?_, hS.drop.drop.drop⟩
        exact ⟨d2, .slice none 0 0, us, [], rfl, by rw [durV_len _ _ (Nat.le_refl _)]; exact s1, hus.mono hJ1, SlI.nil _, rfl⟩
end
end Go.Proofs.Try
