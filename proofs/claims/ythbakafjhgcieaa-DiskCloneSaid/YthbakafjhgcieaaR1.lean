/- The reference: contracts (1). -/
import Derived.Test.YthbakafjhgcieaaDC9
import Derived.Test.YthbakafjhgcieaaRModel
namespace Go.Proofs.Try
open Go.RowKit Go.SL Go.DK
set_option maxRecDepth 100000
set_option linter.unusedSimpArgs false
set_option linter.unusedVariables false
section
variable {w : World} {I : Gh} {L : List Ch}
set_option maxHeartbeats 1000000 in
theorem rnew_no (n : Int) (h : ¬ (1 ≤ n ∧ n ≤ 4096)) (hS : Sat w I L) :
    Calls Try.prog 36 #[.int .i64 n] w fun e w' => ∃ v, e = .returned (.tuple #[v, .int .i64 2]) ∧ Sat w' I L := by
  by_cases h1 : n < 1
  all_goals
    have h3 : n < 1 ∨ 4096 < n := by omega
    go_enter Try.func36, Try.ntmps36
    repeat' (first
      | ((with_reducible apply wp_region_plain (id := 0)); refine wl_of rfl (wp_alloc hS (zeT rfl) fun b2 w hS => wl_put (by simp only [lset] <;> rfl) ?_); refine xv (ex_assign (ev_const _ _)) ?_; refine wl_nil ?_)
      | ((with_reducible apply wp_region_plain (id := 1)); refine xv (ex_move (ev_at rfl)) ?_; refine xv (ex_cmp (ev_at rfl) (ev_const _ _) (by first | exact lssT (by omega) | exact lssF (by omega) | rfl)) ?_; refine xv (ex_move (ev_at rfl)) ?_; (first | refine wl_skip rfl rfl (by simp only [lset] <;> rfl) ?_ | (refine xv (ex_move (ev_at rfl)) ?_)); (first | refine wl_skip rfl rfl (by simp only [lset] <;> rfl) ?_ | (refine xv (ex_cmp (ev_at rfl) (ev_const _ _) (by first | exact gtrT (by omega) | exact gtrF (by omega) | rfl)) ?_)); (first | refine xv (ex_pickT (ev_at rfl) (ev_const _ _)) ?_ | refine xv (ex_pickF (ev_at rfl) (ev_at rfl)) ?_ | refine xv (ex_pickOr (ev_at rfl) (ev_const _ _) (ev_at rfl)) ?_); refine wl_nil ?_)
      | ((with_reducible apply wp_region_plain (id := 2)); refine xv (ex_buildS (plT rfl) (zeT rfl) Fills.nil) ?_; refine wl_of rfl (wp_storeN (ev_at rfl) (ev_at rfl) hS (szT rfl) rfl (by first | rfl | assumption | (simp only [sub, splice, List.take_succ_cons, List.take_zero, List.drop_succ_cons, List.drop_zero, List.nil_append, List.cons_append, List.length_cons, List.length_nil, Nat.reduceAdd, List.all_cons, List.all_nil, Bool.and_eq_true, Bool.and_true]; ((repeat' apply And.intro) <;> first | rfl | assumption | exact IsSl.one (by assumption)))) fun w hS => wl_put0 ?_); refine xv (ex_assign (ev_const _ _)) ?_; refine wl_nil ?_; (try simp only [lset, splice, sub, List.take_succ_cons, List.take_zero, List.drop_succ_cons, List.drop_zero, List.nil_append, List.cons_append, List.length_cons, List.length_nil, Nat.reduceAdd, Nat.zero_add, rep_zero] at hS))
      | ((fail_if_success (with_reducible apply wp_region_plain)); (fail_if_success (with_reducible apply wp_region_GS)); go_step))
    refine endN (by first | exact .inl rfl | exact .inr rfl) rfl (ResL.rc rfl (ldN hS (kdT rfl) (szT rfl) rfl) (ResL.rt rfl ResL.rn)) rfl ?_
    exact ⟨_, rfl, hS.drop⟩
set_option maxHeartbeats 1000000 in
theorem rnew_ok (n : Int) (h : 1 ≤ n ∧ n ≤ 4096) (hS : Sat w I L) :
    Calls Try.prog 36 #[.int .i64 n] w fun e w' => ∃ v J, e = .returned (.tuple #[v, .int .i64 0]) ∧ I.le J ∧ RefI J v (RS.new n.toNat) ∧ Sat w' J L := by
  obtain ⟨h1, h2⟩ := h
  go_enter Try.func36, Try.ntmps36
  repeat' (first
    | ((with_reducible apply wp_region_plain (id := 0)); refine wl_of rfl (wp_alloc hS (zeT rfl) fun b2 w hS => wl_put (by simp only [lset] <;> rfl) ?_); refine xv (ex_assign (ev_const _ _)) ?_; refine wl_nil ?_)
    | ((with_reducible apply wp_region_plain (id := 1)); refine xv (ex_move (ev_at rfl)) ?_; refine xv (ex_cmp (ev_at rfl) (ev_const _ _) (by first | exact lssT (by omega) | exact lssF (by omega) | rfl)) ?_; refine xv (ex_move (ev_at rfl)) ?_; (first | refine wl_skip rfl rfl (by simp only [lset] <;> rfl) ?_ | (refine xv (ex_move (ev_at rfl)) ?_)); (first | refine wl_skip rfl rfl (by simp only [lset] <;> rfl) ?_ | (refine xv (ex_cmp (ev_at rfl) (ev_const _ _) (by first | exact gtrT (by omega) | exact gtrF (by omega) | rfl)) ?_)); (first | refine xv (ex_pickT (ev_at rfl) (ev_const _ _)) ?_ | refine xv (ex_pickF (ev_at rfl) (ev_at rfl)) ?_ | refine xv (ex_pickOr (ev_at rfl) (ev_const _ _) (ev_at rfl)) ?_); refine wl_nil ?_)
    | ((with_reducible apply wp_region_plain (id := 3)); refine xv (ex_buildS (plT rfl) (zeT rfl) (Fills.cons rfl (ev_const _ _) (by first | exact IsSl.cellsL (by assumption) | exact cellsL1 rfl | rfl) rfl rfl Fills.nil)) ?_; refine wl_of rfl (wp_alloc hS (zeT rfl) fun b4 w hS => wl_put (by simp only [lset] <;> rfl) ?_); refine wl_of rfl (wp_storeN (ev_at rfl) (ev_at rfl) hS (szT rfl) rfl (by first | rfl | assumption | (simp only [sub, splice, List.take_succ_cons, List.take_zero, List.drop_succ_cons, List.drop_zero, List.nil_append, List.cons_append, List.length_cons, List.length_nil, Nat.reduceAdd, List.all_cons, List.all_nil, Bool.and_eq_true, Bool.and_true]; ((repeat' apply And.intro) <;> first | rfl | assumption | exact IsSl.one (by assumption)))) fun w hS => wl_put0 ?_); refine wl_nil ?_; (try simp only [lset, splice, sub, List.take_succ_cons, List.take_zero, List.drop_succ_cons, List.drop_zero, List.nil_append, List.cons_append, List.length_cons, List.length_nil, Nat.reduceAdd, Nat.zero_add, rep_zero] at hS))
    | ((with_reducible apply wp_region_plain (id := 4)); refine xv (ex_assign (ev_const _ _)) ?_; refine wl_nil ?_)
    | ((fail_if_success (with_reducible apply wp_region_plain)); (fail_if_success (with_reducible apply wp_region_GS)); go_step))
  have hS := hS.nilRow 30 1
  refine wp_loopR [false, false, false, false, false, true, false, false, false, false, false, false, false, false, true, true, true, true, true, true, true, true, true, true, true] (fun f w => ∃ (i : Nat) (dv : Value) (us : List Value) (J : Gh), f 5 = .int .i64 i ∧ (i : Int) ≤ n ∧ I.le J ∧ BssI J (List.replicate i zSec) us ∧ Sat w J (Row dv 30 1 i us :: Cells b4 45 [dv, .slice none 0 0, .int .i64 (-1), .bool false, .int .i64 0] ::
      Cells b2 45 [.slice none 0 0, .slice none 0 0, .int .i64 0, .bool false, .int .i64 0] :: L)) (fun f _ => n.toNat - ivN (f 5)) rfl ⟨0, _, [], I, rfl, by omega, Gh.le.refl I, rfl, hS⟩ ?_
  clear hS
  rintro f w ⟨i, dv, us, J, h5, hi, hle, hb, hS⟩
  have hdv := hS.row0.1
  simp only [havoc, Nat.reduceAdd, h5]
  by_cases hlt : (i : Int) < n
  · repeat' (first
      | ((with_reducible apply wp_region_plain (id := 5)); refine xv (ex_move (ev_at rfl)) ?_; refine xv (ex_move (ev_at rfl)) ?_; refine xv (ex_cmp (ev_at rfl) (ev_at rfl) (by first | exact lssT (by omega) | exact lssF (by omega) | rfl)) ?_; refine wl_nil ?_)
      | ((with_reducible apply wp_region_GS (id := 7) 7 (fun j => [0, 1, 2, 3, 5].contains j) mixed); rfl; exact hS; (clear hS; intro w hS); (first | refine xp 0 rfl rfl (fun w => ex_fa (ev_at rfl) (flT rfl)) ?_ | refine xp 0 rfl rfl (fun w => ex_faE (ev_at rfl) (flT rfl) (by assumption) (by assumption)) ?_); refine xr 1 hS rfl rfl (fun w X hS => ex_load (ev_at rfl) (ld1 hS (kdT rfl) rfl)) ?_; refine wg_loud 2 (by decide +kernel) rfl rfl (wp_makeSlice (n := 256) (ev_const _ _) (ev_const _ _) (slT rfl) (szT rfl) (byT rfl) (zeT rfl) hS rfl rfl (by omega) (by omega) rfl fun b21 w hS => ⟨gsT hS, wg_p (by simp only [lset] <;> rfl) ?_⟩); refine wg_loud 3 (by decide +kernel) rfl rfl (wp_buildSlice (slT rfl) (szT rfl) (zeT rfl) (fillsOne1 (ev_at rfl) (by first | rfl | exact IsSl.one (by assumption))) hS rfl (by first | rfl | assumption | (simp only [sub, splice, List.take_succ_cons, List.take_zero, List.drop_succ_cons, List.drop_zero, List.nil_append, List.cons_append, List.length_cons, List.length_nil, Nat.reduceAdd, List.all_cons, List.all_nil, Bool.and_eq_true, Bool.and_true]; ((repeat' apply And.intro) <;> first | rfl | assumption | exact IsSl.one (by assumption)))) fun b22 w hS => ⟨gsT hS, wg_p (by simp only [lset] <;> rfl) ?_⟩); refine wg_loud 4 (by decide +kernel) rfl rfl (wp_append1 (ev_at rfl) (ev_at rfl) (slT rfl) (szT rfl) (byT rfl) (zeT rfl) hS (by omega) (by omega) rfl fun v23 w hS hv23 => ⟨gsF rfl, wg_p (by simp only [lset] <;> rfl) ?_⟩); (first | refine xp 5 rfl rfl (fun w => ex_fa (ev_at rfl) (flT rfl)) ?_ | refine xp 5 rfl rfl (fun w => ex_faE (ev_at rfl) (flT rfl) (by assumption) (by assumption)) ?_); refine wg_loud 6 (by decide +kernel) rfl rfl (wp_store1 (ev_at rfl) (ev_at rfl) hS (szT rfl) rfl (by first | rfl | exact IsSl.one (by assumption)) fun w hS => ⟨gsF rfl, wg_n ?_⟩); refine wg_end (by decide +kernel) ?_; (try simp only [lset, splice, sub, List.take_succ_cons, List.take_zero, List.drop_succ_cons, List.drop_zero, List.nil_append, List.cons_append, List.length_cons, List.length_nil, Nat.reduceAdd, Nat.zero_add, rep_zero] at hS))
      | ((with_reducible apply wp_region_plain (id := 6)); refine xv (ex_move (ev_at rfl)) ?_; refine xv (ex_arith (ev_at rfl) (ev_const _ _) rfl (by first | exact IntWalk.i64_in _ (by omega) | rfl)) ?_; refine xv (ex_assign (ev_at rfl)) ?_; refine wl_nil ?_)
      | ((fail_if_success (with_reducible apply wp_region_plain)); (fail_if_success (with_reducible apply wp_region_GS)); go_step))
    rw [zeros_rep] at hS
    obtain ⟨J', hle', hS, hsl⟩ := hS.freezeRow
    refine loopEnd rfl ⟨i + 1, _, _, J', rfl, by omega, hle.trans hle', ?_, hS⟩ (by simp only [h5, nth, ivN]; omega)
    rw [List.replicate_succ']
    exact (hb.mono hle').snoc (by rw [zSec_l]; exact hsl)
  · repeat' (first
      | ((with_reducible apply wp_region_plain (id := 5)); refine xv (ex_move (ev_at rfl)) ?_; refine xv (ex_move (ev_at rfl)) ?_; refine xv (ex_cmp (ev_at rfl) (ev_at rfl) (by first | exact lssT (by omega) | exact lssF (by omega) | rfl)) ?_; refine wl_nil ?_)
      | ((with_reducible apply wp_region_plain (id := 8)); refine xv (ex_load (ev_at rfl) (ldN hS (kdT rfl) (szT rfl) rfl)) ?_; refine wl_of rfl (wp_storeN (ev_at rfl) (ev_at rfl) hS (szT rfl) rfl (by first | rfl | assumption | (simp only [sub, splice, List.take_succ_cons, List.take_zero, List.drop_succ_cons, List.drop_zero, List.nil_append, List.cons_append, List.length_cons, List.length_nil, Nat.reduceAdd, List.all_cons, List.all_nil, Bool.and_eq_true, Bool.and_true]; ((repeat' apply And.intro) <;> first | rfl | assumption | exact IsSl.one (by assumption)))) fun w hS => wl_put0 ?_); refine xv (ex_assign (ev_const _ _)) ?_; refine wl_nil ?_; (try simp only [lset, splice, sub, List.take_succ_cons, List.take_zero, List.drop_succ_cons, List.drop_zero, List.nil_append, List.cons_append, List.length_cons, List.length_nil, Nat.reduceAdd, Nat.zero_add, rep_zero] at hS))
      | ((fail_if_success (with_reducible apply wp_region_plain)); (fail_if_success (with_reducible apply wp_region_GS)); go_step))
    refine endN (by first | exact .inl rfl | exact .inr rfl) rfl (ResL.rc rfl (ldN hS (kdT rfl) (szT rfl) rfl) (ResL.rt rfl ResL.rn)) rfl ?_
    have hi : i = n.toNat := by omega
    subst hi
    obtain ⟨J', hle', hS, hsl⟩ := hS.freezeRow
    exact ⟨_, J', rfl, hle.trans hle', ⟨dv, .slice none 0 0, us, [], rfl, (by simpa [RS.new] using hsl), hb.mono hle', SlI.nil _, rfl⟩, hS.drop.drop⟩
set_option maxHeartbeats 1000000 in
theorem ris_ct (v : Value) (R : RS) (k : Int) (hv : RefR I L v R) (hS : Sat w I L) :
    Calls Try.prog 55 #[v, .int .i64 k] w fun e w' => e = .returned (.bool (decide (0 ≤ k ∧ k < R.dur.length))) ∧ Sat w' I L := by
  obtain ⟨dv, wv, dcs, wcs, rfl, h1, h2, h3, h4⟩ := hv
  have h1i := h1.1
  by_cases h0 : 0 ≤ k
  · by_cases hlt : k < R.dur.length
    all_goals
      go_enter Try.func55, Try.ntmps55
      repeat' (first
        | ((with_reducible apply wp_region_plain (id := 0)); refine wl_of rfl (wp_boxN (ev_at rfl) hS fun b2 w hS => wl_put (by simp only [lset] <;> rfl) ?_); refine xv (ex_assign (ev_const _ _)) ?_; refine wl_nil ?_)
        | ((with_reducible apply wp_region_plain (id := 1)); refine xv (ex_move (ev_at rfl)) ?_; refine xv (ex_cmp (ev_at rfl) (ev_const _ _) (by first | exact geqT (by omega) | exact geqF (by omega) | rfl)) ?_; refine xv (ex_move (ev_at rfl)) ?_; (first | refine wl_skip rfl rfl (by simp only [lset] <;> rfl) ?_ | (refine xv (ex_move (ev_at rfl)) ?_)); (first | refine wl_skip rfl rfl (by simp only [lset] <;> rfl) ?_ | ((first | refine xv (ex_fa (ev_at rfl) (flT rfl)) ?_ | refine xv (ex_faE (ev_at rfl) (flT rfl) (by assumption) (by assumption)) ?_))); (first | refine wl_skip rfl rfl (by simp only [lset] <;> rfl) ?_ | (refine xv (ex_load (ev_at rfl) (ld1 hS (kdT rfl) rfl)) ?_)); (first | refine wl_skip rfl rfl (by simp only [lset] <;> rfl) ?_ | (refine xv (ex_len (ev_at rfl) (slT rfl) (by first | assumption | exact IsSl.nil)) ?_)); (first | refine wl_skip rfl rfl (by simp only [lset] <;> rfl) ?_ | (refine xv (ex_cmp (ev_at rfl) (ev_at rfl) (by first | exact lssT (by omega) | exact lssF (by omega) | rfl)) ?_)); (first | refine xv (ex_pickT (ev_at rfl) (ev_at rfl)) ?_ | refine xv (ex_pickF (ev_at rfl) (ev_const _ _)) ?_ | refine xv (ex_pickAnd (ev_at rfl) (ev_at rfl) (ev_const _ _)) ?_); refine xv (ex_assign (ev_at rfl)) ?_; refine wl_nil ?_)
        | ((fail_if_success (with_reducible apply wp_region_plain)); (fail_if_success (with_reducible apply wp_region_GS)); go_step))
      refine end1 (by first | exact .inl rfl | exact .inr rfl) rfl (ResL.rt rfl ResL.rn) ?_
      exact ⟨by simp [h0, hlt], hS.drop⟩
  · go_enter Try.func55, Try.ntmps55
    repeat' (first
      | ((with_reducible apply wp_region_plain (id := 0)); refine wl_of rfl (wp_boxN (ev_at rfl) hS fun b2 w hS => wl_put (by simp only [lset] <;> rfl) ?_); refine xv (ex_assign (ev_const _ _)) ?_; refine wl_nil ?_)
      | ((with_reducible apply wp_region_plain (id := 1)); refine xv (ex_move (ev_at rfl)) ?_; refine xv (ex_cmp (ev_at rfl) (ev_const _ _) (by first | exact geqT (by omega) | exact geqF (by omega) | rfl)) ?_; refine xv (ex_move (ev_at rfl)) ?_; (first | refine wl_skip rfl rfl (by simp only [lset] <;> rfl) ?_ | (refine xv (ex_move (ev_at rfl)) ?_)); (first | refine wl_skip rfl rfl (by simp only [lset] <;> rfl) ?_ | ((first | refine xv (ex_fa (ev_at rfl) (flT rfl)) ?_ | refine xv (ex_faE (ev_at rfl) (flT rfl) (by assumption) (by assumption)) ?_))); (first | refine wl_skip rfl rfl (by simp only [lset] <;> rfl) ?_ | (refine xv (ex_load (ev_at rfl) (ld1 hS (kdT rfl) rfl)) ?_)); (first | refine wl_skip rfl rfl (by simp only [lset] <;> rfl) ?_ | (refine xv (ex_len (ev_at rfl) (slT rfl) (by first | assumption | exact IsSl.nil)) ?_)); (first | refine wl_skip rfl rfl (by simp only [lset] <;> rfl) ?_ | (refine xv (ex_cmp (ev_at rfl) (ev_at rfl) (by first | exact lssT (by omega) | exact lssF (by omega) | rfl)) ?_)); (first | refine xv (ex_pickT (ev_at rfl) (ev_at rfl)) ?_ | refine xv (ex_pickF (ev_at rfl) (ev_const _ _)) ?_ | refine xv (ex_pickAnd (ev_at rfl) (ev_at rfl) (ev_const _ _)) ?_); refine xv (ex_assign (ev_at rfl)) ?_; refine wl_nil ?_)
      | ((fail_if_success (with_reducible apply wp_region_plain)); (fail_if_success (with_reducible apply wp_region_GS)); go_step))
    refine end1 (by first | exact .inl rfl | exact .inr rfl) rfl (ResL.rt rfl ResL.rn) ?_
    exact ⟨by simp [h0], hS.drop⟩
set_option maxHeartbeats 1000000 in
theorem counted_ct (dv wv : Value) (R : RS) (n m : Nat) (h1 : IsSl dv n) (h2 : IsSl wv m) (hl : -1 ≤ R.lim ∧ R.lim ≤ 9223372036854775807) (hS : Sat w I L) :
    Calls Try.prog 40 #[rdV dv wv R] w fun e w' => e = .returned (.tuple #[rdV dv wv R.counted.1, .bool R.counted.2]) ∧ Sat w' I L := by
  by_cases h0 : R.lim = 0
  · have hc : R.counted = ({ R with down := true }, true) := by simp [RS.counted, h0]
    rw [hc]
    go_enter Try.func40, Try.ntmps40
    repeat' (first
      | ((with_reducible apply wp_region_plain (id := 0)); refine wl_of rfl (wp_boxN (ev_at rfl) hS fun b1 w hS => wl_put (by simp only [lset] <;> rfl) ?_); refine wl_of rfl (wp_alloc hS (zeT rfl) fun b2 w hS => wl_put (by simp only [lset] <;> rfl) ?_); refine xv (ex_assign (ev_const _ _)) ?_; refine wl_nil ?_)
      | ((with_reducible apply wp_region_plain (id := 1)); (first | refine xv (ex_fa (ev_at rfl) (flT rfl)) ?_ | refine xv (ex_faE (ev_at rfl) (flT rfl) (by assumption) (by assumption)) ?_); refine xv (ex_load (ev_at rfl) (ld1 hS (kdT rfl) rfl)) ?_; refine xv (ex_cmp (ev_at rfl) (ev_const _ _) (by first | exact eqlT (by omega) | exact eqlF (by omega) | rfl)) ?_; refine wl_nil ?_)
      | ((with_reducible apply wp_region_plain (id := 2)); (first | refine xv (ex_fa (ev_at rfl) (flT rfl)) ?_ | refine xv (ex_faE (ev_at rfl) (flT rfl) (by assumption) (by assumption)) ?_); refine wl_of rfl (wp_store1 (ev_at rfl) (ev_const _ _) hS (szT rfl) rfl (by first | rfl | exact IsSl.one (by assumption)) fun w hS => wl_put0 ?_); refine wl_nil ?_; (try simp only [lset, Nat.reduceAdd, Nat.zero_add] at hS))
      | ((with_reducible apply wp_region_plain (id := 3)); refine xv (ex_load (ev_at rfl) (ldN hS (kdT rfl) (szT rfl) rfl)) ?_; refine wl_of rfl (wp_storeN (ev_at rfl) (ev_at rfl) hS (szT rfl) rfl (by first | rfl | assumption | (simp only [sub, splice, List.take_succ_cons, List.take_zero, List.drop_succ_cons, List.drop_zero, List.nil_append, List.cons_append, List.length_cons, List.length_nil, Nat.reduceAdd, List.all_cons, List.all_nil, Bool.and_eq_true, Bool.and_true]; ((repeat' apply And.intro) <;> first | rfl | assumption | exact IsSl.one (by assumption)))) fun w hS => wl_put0 ?_); refine xv (ex_assign (ev_const _ _)) ?_; refine wl_nil ?_; (try simp only [lset, splice, sub, List.take_succ_cons, List.take_zero, List.drop_succ_cons, List.drop_zero, List.nil_append, List.cons_append, List.length_cons, List.length_nil, Nat.reduceAdd, Nat.zero_add, rep_zero] at hS))
      | ((fail_if_success (with_reducible apply wp_region_plain)); (fail_if_success (with_reducible apply wp_region_GS)); go_step))
    refine endN (by first | exact .inl rfl | exact .inr rfl) rfl (ResL.rc rfl (ldN hS (kdT rfl) (szT rfl) rfl) (ResL.rt rfl ResL.rn)) rfl ?_
    exact ⟨rfl, hS.drop.drop⟩
  · by_cases h3 : 0 < R.lim
    · have hc : R.counted = ({ R with lim := R.lim - 1, ops := up (R.ops + 1) }, false) := by simp [RS.counted, h0, h3]
      rw [hc]
      go_enter Try.func40, Try.ntmps40
      repeat' (first
        | ((with_reducible apply wp_region_plain (id := 0)); refine wl_of rfl (wp_boxN (ev_at rfl) hS fun b1 w hS => wl_put (by simp only [lset] <;> rfl) ?_); refine wl_of rfl (wp_alloc hS (zeT rfl) fun b2 w hS => wl_put (by simp only [lset] <;> rfl) ?_); refine xv (ex_assign (ev_const _ _)) ?_; refine wl_nil ?_)
        | ((with_reducible apply wp_region_plain (id := 1)); (first | refine xv (ex_fa (ev_at rfl) (flT rfl)) ?_ | refine xv (ex_faE (ev_at rfl) (flT rfl) (by assumption) (by assumption)) ?_); refine xv (ex_load (ev_at rfl) (ld1 hS (kdT rfl) rfl)) ?_; refine xv (ex_cmp (ev_at rfl) (ev_const _ _) (by first | exact eqlT (by omega) | exact eqlF (by omega) | rfl)) ?_; refine wl_nil ?_)
        | ((with_reducible apply wp_region_plain (id := 4)); (first | refine xv (ex_fa (ev_at rfl) (flT rfl)) ?_ | refine xv (ex_faE (ev_at rfl) (flT rfl) (by assumption) (by assumption)) ?_); refine xv (ex_load (ev_at rfl) (ld1 hS (kdT rfl) rfl)) ?_; refine xv (ex_cmp (ev_at rfl) (ev_const _ _) (by first | exact gtrT (by omega) | exact gtrF (by omega) | rfl)) ?_; refine wl_nil ?_)
        | ((with_reducible apply wp_region_plain (id := 5)); (first | refine xv (ex_fa (ev_at rfl) (flT rfl)) ?_ | refine xv (ex_faE (ev_at rfl) (flT rfl) (by assumption) (by assumption)) ?_); refine xv (ex_load (ev_at rfl) (ld1 hS (kdT rfl) rfl)) ?_; refine xv (ex_arith (ev_at rfl) (ev_const _ _) rfl (by first | exact IntWalk.i64_in _ (by omega) | rfl)) ?_; (first | refine xv (ex_fa (ev_at rfl) (flT rfl)) ?_ | refine xv (ex_faE (ev_at rfl) (flT rfl) (by assumption) (by assumption)) ?_); refine wl_of rfl (wp_store1 (ev_at rfl) (ev_at rfl) hS (szT rfl) rfl (by first | rfl | exact IsSl.one (by assumption)) fun w hS => wl_put0 ?_); refine wl_nil ?_; (try simp only [lset, Nat.reduceAdd, Nat.zero_add] at hS))
        | ((with_reducible apply wp_region_plain (id := 6)); (first | refine xv (ex_fa (ev_at rfl) (flT rfl)) ?_ | refine xv (ex_faE (ev_at rfl) (flT rfl) (by assumption) (by assumption)) ?_); refine xv (ex_load (ev_at rfl) (ld1 hS (kdT rfl) rfl)) ?_; refine xv (ex_arith (ev_at rfl) (ev_const _ _) rfl (by first | exact IntWalk.i64_in _ (by omega) | rfl)) ?_; (first | refine xv (ex_fa (ev_at rfl) (flT rfl)) ?_ | refine xv (ex_faE (ev_at rfl) (flT rfl) (by assumption) (by assumption)) ?_); refine wl_of rfl (wp_store1 (ev_at rfl) (ev_at rfl) hS (szT rfl) rfl (by first | rfl | exact IsSl.one (by assumption)) fun w hS => wl_put0 ?_); refine wl_nil ?_; (try simp only [lset, Nat.reduceAdd, Nat.zero_add] at hS))
        | ((with_reducible apply wp_region_plain (id := 7)); refine xv (ex_load (ev_at rfl) (ldN hS (kdT rfl) (szT rfl) rfl)) ?_; refine wl_of rfl (wp_storeN (ev_at rfl) (ev_at rfl) hS (szT rfl) rfl (by first | rfl | assumption | (simp only [sub, splice, List.take_succ_cons, List.take_zero, List.drop_succ_cons, List.drop_zero, List.nil_append, List.cons_append, List.length_cons, List.length_nil, Nat.reduceAdd, List.all_cons, List.all_nil, Bool.and_eq_true, Bool.and_true]; ((repeat' apply And.intro) <;> first | rfl | assumption | exact IsSl.one (by assumption)))) fun w hS => wl_put0 ?_); refine xv (ex_assign (ev_const _ _)) ?_; refine wl_nil ?_; (try simp only [lset, splice, sub, List.take_succ_cons, List.take_zero, List.drop_succ_cons, List.drop_zero, List.nil_append, List.cons_append, List.length_cons, List.length_nil, Nat.reduceAdd, Nat.zero_add, rep_zero] at hS))
        | ((fail_if_success (with_reducible apply wp_region_plain)); (fail_if_success (with_reducible apply wp_region_GS)); go_step))
      refine endN (by first | exact .inl rfl | exact .inr rfl) rfl (ResL.rc rfl (ldN hS (kdT rfl) (szT rfl) rfl) (ResL.rt rfl ResL.rn)) rfl ?_
      exact ⟨rfl, hS.drop.drop⟩
    · have hc : R.counted = ({ R with ops := up (R.ops + 1) }, false) := by simp [RS.counted, h0, h3]
      rw [hc]
      go_enter Try.func40, Try.ntmps40
      repeat' (first
        | ((with_reducible apply wp_region_plain (id := 0)); refine wl_of rfl (wp_boxN (ev_at rfl) hS fun b1 w hS => wl_put (by simp only [lset] <;> rfl) ?_); refine wl_of rfl (wp_alloc hS (zeT rfl) fun b2 w hS => wl_put (by simp only [lset] <;> rfl) ?_); refine xv (ex_assign (ev_const _ _)) ?_; refine wl_nil ?_)
        | ((with_reducible apply wp_region_plain (id := 1)); (first | refine xv (ex_fa (ev_at rfl) (flT rfl)) ?_ | refine xv (ex_faE (ev_at rfl) (flT rfl) (by assumption) (by assumption)) ?_); refine xv (ex_load (ev_at rfl) (ld1 hS (kdT rfl) rfl)) ?_; refine xv (ex_cmp (ev_at rfl) (ev_const _ _) (by first | exact eqlT (by omega) | exact eqlF (by omega) | rfl)) ?_; refine wl_nil ?_)
        | ((with_reducible apply wp_region_plain (id := 4)); (first | refine xv (ex_fa (ev_at rfl) (flT rfl)) ?_ | refine xv (ex_faE (ev_at rfl) (flT rfl) (by assumption) (by assumption)) ?_); refine xv (ex_load (ev_at rfl) (ld1 hS (kdT rfl) rfl)) ?_; refine xv (ex_cmp (ev_at rfl) (ev_const _ _) (by first | exact gtrT (by omega) | exact gtrF (by omega) | rfl)) ?_; refine wl_nil ?_)
        | ((with_reducible apply wp_region_plain (id := 6)); (first | refine xv (ex_fa (ev_at rfl) (flT rfl)) ?_ | refine xv (ex_faE (ev_at rfl) (flT rfl) (by assumption) (by assumption)) ?_); refine xv (ex_load (ev_at rfl) (ld1 hS (kdT rfl) rfl)) ?_; refine xv (ex_arith (ev_at rfl) (ev_const _ _) rfl (by first | exact IntWalk.i64_in _ (by omega) | rfl)) ?_; (first | refine xv (ex_fa (ev_at rfl) (flT rfl)) ?_ | refine xv (ex_faE (ev_at rfl) (flT rfl) (by assumption) (by assumption)) ?_); refine wl_of rfl (wp_store1 (ev_at rfl) (ev_at rfl) hS (szT rfl) rfl (by first | rfl | exact IsSl.one (by assumption)) fun w hS => wl_put0 ?_); refine wl_nil ?_; (try simp only [lset, Nat.reduceAdd, Nat.zero_add] at hS))
        | ((with_reducible apply wp_region_plain (id := 7)); refine xv (ex_load (ev_at rfl) (ldN hS (kdT rfl) (szT rfl) rfl)) ?_; refine wl_of rfl (wp_storeN (ev_at rfl) (ev_at rfl) hS (szT rfl) rfl (by first | rfl | assumption | (simp only [sub, splice, List.take_succ_cons, List.take_zero, List.drop_succ_cons, List.drop_zero, List.nil_append, List.cons_append, List.length_cons, List.length_nil, Nat.reduceAdd, List.all_cons, List.all_nil, Bool.and_eq_true, Bool.and_true]; ((repeat' apply And.intro) <;> first | rfl | assumption | exact IsSl.one (by assumption)))) fun w hS => wl_put0 ?_); refine xv (ex_assign (ev_const _ _)) ?_; refine wl_nil ?_; (try simp only [lset, splice, sub, List.take_succ_cons, List.take_zero, List.drop_succ_cons, List.drop_zero, List.nil_append, List.cons_append, List.length_cons, List.length_nil, Nat.reduceAdd, Nat.zero_add, rep_zero] at hS))
        | ((fail_if_success (with_reducible apply wp_region_plain)); (fail_if_success (with_reducible apply wp_region_GS)); go_step))
      refine endN (by first | exact .inl rfl | exact .inr rfl) rfl (ResL.rc rfl (ldN hS (kdT rfl) (szT rfl) rfl) (ResL.rt rfl ResL.rn)) rfl ?_
      exact ⟨rfl, hS.drop.drop⟩
set_option maxHeartbeats 1000000 in
theorem rvis_ct (v : Value) (R : RS) (k : Int) (hv : RefR I L v R) (hR : R.Ok) (hk : 0 ≤ k ∧ k < R.dur.length) (hS : Sat w I L) :
    Calls Try.prog 25 #[v, .int .i64 k] w fun e w' => ∃ u, e = .returned u ∧ Sat w' I (Row u 5 1 (R.vis k).length ((R.vis k).map byteV) :: L) := by
  obtain ⟨dv, wv, dcs, wcs, rfl, h1, h2, h3, h4⟩ := hv
  have h1i := h1.1
  have h3i := h3.1
  obtain ⟨k', rfl⟩ := Int.eq_ofNat_of_zero_le hk.1
  have hk' : k' < R.dur.length := by omega
  obtain ⟨b0, hb0⟩ : ∃ b0, R.dur[k']? = some b0 := ⟨_, List.getElem?_eq_getElem hk'⟩
  have hbl := hR.dur b0 (List.mem_of_getElem? hb0)
  have hfew := hR.few
  obtain ⟨u0, hu0, hu1⟩ := h2.get hb0
  go_enter Try.func25, Try.ntmps25
  repeat' (first
    | ((with_reducible apply wp_region_plain (id := 0)); refine wl_of rfl (wp_boxN (ev_at rfl) hS fun b2 w hS => wl_put (by simp only [lset] <;> rfl) ?_); refine xv (ex_assign (ev_const _ _)) ?_; refine wl_nil ?_)
    | ((with_reducible apply wp_region_plain (id := 1)); refine wl_of rfl (wp_buildSlice (slT rfl) (szT rfl) (zeT rfl) Fills.nil hS rfl (by first | rfl | assumption) fun b7 w hS => wl_put (by simp only [lset] <;> rfl) ?_); (first | refine xv (ex_fa (ev_at rfl) (flT rfl)) ?_ | refine xv (ex_faE (ev_at rfl) (flT rfl) (by assumption) (by assumption)) ?_); refine xv (ex_load (ev_at rfl) (by first | exact ld1 hS (kdT rfl) rfl | exact ldE1 (h1.2.rd hS) h1i hk' (kdT rfl) (by simpa using hu1))) ?_; refine xv (ex_move (ev_at rfl)) ?_; (first | refine xv (ex_iaN (ev_at rfl) (ev_at rfl) (slT rfl) (szT rfl) (by first | assumption | exact IsSl.nil) (by omega)) ?_ | refine xv (ex_ia (ev_at rfl) (ev_at rfl) (slT rfl) (szT rfl) (by first | assumption | exact IsSl.nil) (by omega) (by omega)) ?_); refine xv (ex_load (ev_at rfl) (by first | exact ld1 hS (kdT rfl) rfl | exact ldE1 (h1.2.rd hS) h1i hk' (kdT rfl) (by simpa using hu1))) ?_; refine wl_of rfl (wp_append (ev_at rfl) (ev_at rfl) (slT rfl) (szT rfl) (byT rfl) (zeT rfl) hS (srcI hS hu0 (by simp)) (by omega) (by omega) rfl fun v13 w hS hv13 => wl_put (by simp only [lset] <;> rfl) ?_); refine xv (ex_assign (ev_at rfl)) ?_; refine wl_nil ?_; (try simp only [lset, splice, sub, List.take_succ_cons, List.take_zero, List.drop_succ_cons, List.drop_zero, List.nil_append, List.cons_append, List.length_cons, List.length_nil, Nat.reduceAdd, Nat.zero_add, rep_zero] at hS))
    | ((with_reducible apply wp_region_plain (id := 2)); refine xv (ex_assign (ev_const _ _)) ?_; refine wl_nil ?_)
    | ((fail_if_success (with_reducible apply wp_region_plain)); (fail_if_success (with_reducible apply wp_region_GS)); go_step))
  refine wp_loopR [false, false, false, false, false, true, true, false, false, false, false, false, false, false, true, true, true, true, true, true, true, true, true, true, true, true, true, true, true, true, true, true, true, true, true, true, true] (fun f w => ∃ (i : Nat) (u : Value) (bs : List UInt8), f 6 = .int .i64 i ∧ f 5 = u ∧ i ≤ R.wr.length ∧ bs = (lastOf (R.wr.take i) k').getD b0 ∧ Sat w I (Row u 5 1 bs.length (bs.map byteV) ::
      Cells b2 45 [dv, wv, .int .i64 R.lim, .bool R.down, .int .i64 R.ops] :: L)) (fun f _ => R.wr.length - ivN (f 6)) rfl ⟨0, _, b0, rfl, rfl, by omega, rfl, hS⟩ ?_
  clear hS
  rintro f w ⟨i, u, bs, h6, h5, hi, hbs, hS⟩
  simp only [havoc, Nat.reduceAdd, h6, h5]
  by_cases hlt : i < R.wr.length
  · obtain ⟨p, hp1⟩ : ∃ p, R.wr[i]? = some p := ⟨_, List.getElem?_eq_getElem hlt⟩
    have hp2 := hR.wr p (List.mem_of_getElem? hp1)
    obtain ⟨q, hq1, hq2, hq3⟩ := h4.get hp1
    by_cases hk : p.1 = k'
    · repeat' (first
        | ((with_reducible apply wp_region_plain (id := 3)); refine xv (ex_move (ev_at rfl)) ?_; (first | refine xv (ex_fa (ev_at rfl) (flT rfl)) ?_ | refine xv (ex_faE (ev_at rfl) (flT rfl) (by assumption) (by assumption)) ?_); refine xv (ex_load (ev_at rfl) (by first | exact ld1 hS (kdT rfl) rfl | exact ldE1 (u := .int .i64 p.1) (h3.2.rd hS) h3i hlt (kdT rfl) (by simpa using hq2) | exact ldE1 (u := q) (h3.2.rd hS) h3i hlt (kdT rfl) (by simpa using hq3))) ?_; refine xv (ex_len (ev_at rfl) (slT rfl) (by first | assumption | exact IsSl.nil)) ?_; refine xv (ex_cmp (ev_at rfl) (ev_at rfl) (by first | exact lssT (by omega) | exact lssF (by omega) | rfl)) ?_; refine wl_nil ?_)
        | ((with_reducible apply wp_region_plain (id := 5)); (first | refine xv (ex_fa (ev_at rfl) (flT rfl)) ?_ | refine xv (ex_faE (ev_at rfl) (flT rfl) (by assumption) (by assumption)) ?_); refine xv (ex_load (ev_at rfl) (by first | exact ld1 hS (kdT rfl) rfl | exact ldE1 (u := .int .i64 p.1) (h3.2.rd hS) h3i hlt (kdT rfl) (by simpa using hq2) | exact ldE1 (u := q) (h3.2.rd hS) h3i hlt (kdT rfl) (by simpa using hq3))) ?_; refine xv (ex_move (ev_at rfl)) ?_; (first | refine xv (ex_iaN (ev_at rfl) (ev_at rfl) (slT rfl) (szT rfl) (by first | assumption | exact IsSl.nil) (by omega)) ?_ | refine xv (ex_ia (ev_at rfl) (ev_at rfl) (slT rfl) (szT rfl) (by first | assumption | exact IsSl.nil) (by omega) (by omega)) ?_); (first | refine xv (ex_fa (ev_at rfl) (flT rfl)) ?_ | refine xv (ex_faE (ev_at rfl) (flT rfl) (by assumption) (by assumption)) ?_); refine xv (ex_load (ev_at rfl) (by first | exact ld1 hS (kdT rfl) rfl | exact ldE1 (u := .int .i64 p.1) (h3.2.rd hS) h3i hlt (kdT rfl) (by simpa using hq2) | exact ldE1 (u := q) (h3.2.rd hS) h3i hlt (kdT rfl) (by simpa using hq3))) ?_; refine xv (ex_move (ev_at rfl)) ?_; refine xv (ex_cmp (ev_at rfl) (ev_at rfl) (by first | exact eqlT (by omega) | exact eqlF (by omega) | rfl)) ?_; refine wl_nil ?_)
        | ((with_reducible apply wp_region_plain (id := 6)); refine wl_of rfl (wp_buildSlice (slT rfl) (szT rfl) (zeT rfl) Fills.nil hS rfl (by first | rfl | assumption) fun b29 w hS => wl_put (by simp only [lset] <;> rfl) ?_); (first | refine xv (ex_fa (ev_at rfl) (flT rfl)) ?_ | refine xv (ex_faE (ev_at rfl) (flT rfl) (by assumption) (by assumption)) ?_); refine xv (ex_load (ev_at rfl) (by first | exact ld1 hS (kdT rfl) rfl | exact ldE1 (u := .int .i64 p.1) (h3.2.rd hS) h3i hlt (kdT rfl) (by simpa using hq2) | exact ldE1 (u := q) (h3.2.rd hS) h3i hlt (kdT rfl) (by simpa using hq3))) ?_; refine xv (ex_move (ev_at rfl)) ?_; (first | refine xv (ex_iaN (ev_at rfl) (ev_at rfl) (slT rfl) (szT rfl) (by first | assumption | exact IsSl.nil) (by omega)) ?_ | refine xv (ex_ia (ev_at rfl) (ev_at rfl) (slT rfl) (szT rfl) (by first | assumption | exact IsSl.nil) (by omega) (by omega)) ?_); (first | refine xv (ex_fa (ev_at rfl) (flT rfl)) ?_ | refine xv (ex_faE (ev_at rfl) (flT rfl) (by assumption) (by assumption)) ?_); refine xv (ex_load (ev_at rfl) (by first | exact ld1 hS (kdT rfl) rfl | exact ldE1 (u := .int .i64 p.1) (h3.2.rd hS) h3i hlt (kdT rfl) (by simpa using hq2) | exact ldE1 (u := q) (h3.2.rd hS) h3i hlt (kdT rfl) (by simpa using hq3))) ?_; refine wl_of rfl (wp_append (ev_at rfl) (ev_at rfl) (slT rfl) (szT rfl) (byT rfl) (zeT rfl) hS (srcI hS hq1 (by simp)) (by omega) (by omega) rfl fun v36 w hS hv36 => wl_put (by simp only [lset] <;> rfl) ?_); refine xv (ex_assign (ev_at rfl)) ?_; refine wl_nil ?_; (try simp only [lset, splice, sub, List.take_succ_cons, List.take_zero, List.drop_succ_cons, List.drop_zero, List.nil_append, List.cons_append, List.length_cons, List.length_nil, Nat.reduceAdd, Nat.zero_add, rep_zero] at hS))
        | ((with_reducible apply wp_region_plain (id := 4)); refine xv (ex_move (ev_at rfl)) ?_; refine xv (ex_arith (ev_at rfl) (ev_const _ _) rfl (by first | exact IntWalk.i64_in _ (by omega) | rfl)) ?_; refine xv (ex_assign (ev_at rfl)) ?_; refine wl_nil ?_)
        | ((fail_if_success (with_reducible apply wp_region_plain)); (fail_if_success (with_reducible apply wp_region_GS)); go_step))
      refine loopEnd rfl ⟨i + 1, _, p.2, rfl, rfl, by omega, ?_, ?_⟩ (by simp only [h6, nth, ivN]; omega)
      · rw [take_snoc hp1, lastOf_snoc, if_pos hk]; rfl
      · exact hS.swap.drop
    · repeat' (first
        | ((with_reducible apply wp_region_plain (id := 3)); refine xv (ex_move (ev_at rfl)) ?_; (first | refine xv (ex_fa (ev_at rfl) (flT rfl)) ?_ | refine xv (ex_faE (ev_at rfl) (flT rfl) (by assumption) (by assumption)) ?_); refine xv (ex_load (ev_at rfl) (by first | exact ld1 hS (kdT rfl) rfl | exact ldE1 (u := .int .i64 p.1) (h3.2.rd hS) h3i hlt (kdT rfl) (by simpa using hq2))) ?_; refine xv (ex_len (ev_at rfl) (slT rfl) (by first | assumption | exact IsSl.nil)) ?_; refine xv (ex_cmp (ev_at rfl) (ev_at rfl) (by first | exact lssT (by omega) | exact lssF (by omega) | rfl)) ?_; refine wl_nil ?_)
        | ((with_reducible apply wp_region_plain (id := 5)); (first | refine xv (ex_fa (ev_at rfl) (flT rfl)) ?_ | refine xv (ex_faE (ev_at rfl) (flT rfl) (by assumption) (by assumption)) ?_); refine xv (ex_load (ev_at rfl) (by first | exact ld1 hS (kdT rfl) rfl | exact ldE1 (u := .int .i64 p.1) (h3.2.rd hS) h3i hlt (kdT rfl) (by simpa using hq2))) ?_; refine xv (ex_move (ev_at rfl)) ?_; (first | refine xv (ex_iaN (ev_at rfl) (ev_at rfl) (slT rfl) (szT rfl) (by first | assumption | exact IsSl.nil) (by omega)) ?_ | refine xv (ex_ia (ev_at rfl) (ev_at rfl) (slT rfl) (szT rfl) (by first | assumption | exact IsSl.nil) (by omega) (by omega)) ?_); (first | refine xv (ex_fa (ev_at rfl) (flT rfl)) ?_ | refine xv (ex_faE (ev_at rfl) (flT rfl) (by assumption) (by assumption)) ?_); refine xv (ex_load (ev_at rfl) (by first | exact ld1 hS (kdT rfl) rfl | exact ldE1 (u := .int .i64 p.1) (h3.2.rd hS) h3i hlt (kdT rfl) (by simpa using hq2))) ?_; refine xv (ex_move (ev_at rfl)) ?_; refine xv (ex_cmp (ev_at rfl) (ev_at rfl) (by first | exact eqlT (by omega) | exact eqlF (by omega) | rfl)) ?_; refine wl_nil ?_)
        | ((with_reducible apply wp_region_plain (id := 4)); refine xv (ex_move (ev_at rfl)) ?_; refine xv (ex_arith (ev_at rfl) (ev_const _ _) rfl (by first | exact IntWalk.i64_in _ (by omega) | rfl)) ?_; refine xv (ex_assign (ev_at rfl)) ?_; refine wl_nil ?_)
        | ((fail_if_success (with_reducible apply wp_region_plain)); (fail_if_success (with_reducible apply wp_region_GS)); go_step))
      refine loopEnd rfl ⟨i + 1, _, bs, rfl, rfl, by omega, ?_, hS⟩ (by simp only [h6, nth, ivN]; omega)
      rw [take_snoc hp1, lastOf_snoc, if_neg hk]; exact hbs
  · repeat' (first
      | ((with_reducible apply wp_region_plain (id := 3)); refine xv (ex_move (ev_at rfl)) ?_; (first | refine xv (ex_fa (ev_at rfl) (flT rfl)) ?_ | refine xv (ex_faE (ev_at rfl) (flT rfl) (by assumption) (by assumption)) ?_); refine xv (ex_load (ev_at rfl) (ld1 hS (kdT rfl) rfl)) ?_; refine xv (ex_len (ev_at rfl) (slT rfl) (by first | assumption | exact IsSl.nil)) ?_; refine xv (ex_cmp (ev_at rfl) (ev_at rfl) (by first | exact lssT (by omega) | exact lssF (by omega) | rfl)) ?_; refine wl_nil ?_)
      | ((with_reducible apply wp_region_plain (id := 7)); refine xv (ex_move (ev_at rfl)) ?_; refine xv (ex_assign (ev_at rfl)) ?_; refine wl_nil ?_)
      | ((fail_if_success (with_reducible apply wp_region_plain)); (fail_if_success (with_reducible apply wp_region_GS)); go_step))
    refine end1 (by first | exact .inl rfl | exact .inr rfl) rfl (ResL.rt rfl ResL.rn) ?_
    have hi : i = R.wr.length := by omega
    subst hi
    rw [List.take_length] at hbs
    have e : R.vis k' = bs := by rw [hbs, RS.vis]; simp [hb0]
    rw [e]
    exact ⟨_, rfl, hS.swap.drop⟩
set_option maxHeartbeats 1000000 in
theorem rread_ct (v : Value) (R : RS) (k : Int) (hv : RefR I L v R) (hR : R.Ok) (hS : Sat w I L) :
    Calls Try.prog 43 #[v, .int .i64 k] w fun e w' => ∃ u, e = .returned (.tuple #[u, .int .i64 (R.read k).2]) ∧ Sat w' I (Row u 5 1 (R.read k).1.length ((R.read k).1.map byteV) :: L) := by
  obtain ⟨dv, wv, dcs, wcs, rfl, h1, h2, h3, h4⟩ := id hv
  have h1i := h1.1
  have h3i := h3.1
  by_cases hd : R.down = true
  · have e : R.read k = ([], 28) := by simp [RS.read, hd]
    rw [e]
    go_enter Try.func43, Try.ntmps43
    repeat' (first
      | ((with_reducible apply wp_region_plain (id := 0)); refine wl_of rfl (wp_boxN (ev_at rfl) hS fun b2 w hS => wl_put (by simp only [lset] <;> rfl) ?_); refine xv (ex_assign (ev_const _ _)) ?_; refine xv (ex_assign (ev_const _ _)) ?_; refine wl_nil ?_)
      | ((with_reducible apply wp_region_plain (id := 1)); (first | refine xv (ex_fa (ev_at rfl) (flT rfl)) ?_ | refine xv (ex_faE (ev_at rfl) (flT rfl) (by assumption) (by assumption)) ?_); refine xv (ex_load (v := .bool true) (ev_at rfl) (ld1 hS (kdT rfl) (by rw [← hd]; rfl))) ?_; refine wl_nil ?_)
      | ((with_reducible apply wp_region_plain (id := 2)); refine xv (ex_assign (ev_const _ _)) ?_; refine xv (ex_assign (ev_const _ _)) ?_; refine wl_nil ?_)
      | ((fail_if_success (with_reducible apply wp_region_plain)); (fail_if_success (with_reducible apply wp_region_GS)); go_step))
    refine endN (by first | exact .inl rfl | exact .inr rfl) rfl (ResL.rt rfl (ResL.rt rfl ResL.rn)) rfl ?_
    exact ⟨_, rfl, hS.drop.nilRow _ _⟩
  · have hd : R.down = false := by simpa using hd
    by_cases hk : 0 ≤ k ∧ k < R.dur.length
    · have e : R.read k = (R.vis k, 0) := by simp [RS.read, hd, hk]
      rw [e]
      go_enter Try.func43, Try.ntmps43
      repeat' (first
        | ((with_reducible apply wp_region_plain (id := 0)); refine wl_of rfl (wp_boxN (ev_at rfl) hS fun b2 w hS => wl_put (by simp only [lset] <;> rfl) ?_); refine xv (ex_assign (ev_const _ _)) ?_; refine xv (ex_assign (ev_const _ _)) ?_; refine wl_nil ?_)
        | ((with_reducible apply wp_region_plain (id := 1)); (first | refine xv (ex_fa (ev_at rfl) (flT rfl)) ?_ | refine xv (ex_faE (ev_at rfl) (flT rfl) (by assumption) (by assumption)) ?_); refine xv (ex_load (v := .bool false) (ev_at rfl) (ld1 hS (kdT rfl) (by rw [← hd]; rfl))) ?_; refine wl_nil ?_)
        | ((with_reducible apply wp_region_plain (id := 3)); refine xv (ex_load (ev_at rfl) (ldN hS (kdT rfl) (szT rfl) rfl)) ?_; refine xv (ex_move (ev_at rfl)) ?_; refine wl_of rfl (wp_callL (cbT rfl) (EvL.c (ev_at rfl) (EvL.c (ev_at rfl) EvL.n)) ?_); refine (ris_ct (rdV dv wv R) R k (hv.le) hS).mono ?_; rintro e w ⟨rfl, hS⟩; rw [decide_eq_true hk]; refine ⟨_, rfl, wl_put (by simp only [lset] <;> rfl) ?_⟩; refine xv (ex_not (ev_at rfl)) ?_; refine wl_nil ?_)
        | ((with_reducible apply wp_region_plain (id := 5)); refine xv (ex_load (ev_at rfl) (ldN hS (kdT rfl) (szT rfl) rfl)) ?_; refine xv (ex_move (ev_at rfl)) ?_; refine wl_of rfl (wp_callL (cbT rfl) (EvL.c (ev_at rfl) (EvL.c (ev_at rfl) EvL.n)) ?_); refine (rvis_ct (rdV dv wv R) R k (hv.le) hR hk hS).mono ?_; rintro e w ⟨u, rfl, hS⟩; have hu := hS.row0.1; refine ⟨_, rfl, wl_put (by simp only [lset] <;> rfl) ?_⟩; refine xv (ex_assign (ev_at rfl)) ?_; refine xv (ex_assign (ev_const _ _)) ?_; refine wl_nil ?_)
        | ((fail_if_success (with_reducible apply wp_region_plain)); (fail_if_success (with_reducible apply wp_region_GS)); go_step))
      refine endN (by first | exact .inl rfl | exact .inr rfl) rfl (ResL.rt rfl (ResL.rt rfl ResL.rn)) rfl ?_
      exact ⟨_, rfl, hS.swap.drop⟩
    · have e : R.read k = ([], 8) := by simp [RS.read, hd, hk]
      rw [e]
      go_enter Try.func43, Try.ntmps43
      repeat' (first
        | ((with_reducible apply wp_region_plain (id := 0)); refine wl_of rfl (wp_boxN (ev_at rfl) hS fun b2 w hS => wl_put (by simp only [lset] <;> rfl) ?_); refine xv (ex_assign (ev_const _ _)) ?_; refine xv (ex_assign (ev_const _ _)) ?_; refine wl_nil ?_)
        | ((with_reducible apply wp_region_plain (id := 1)); (first | refine xv (ex_fa (ev_at rfl) (flT rfl)) ?_ | refine xv (ex_faE (ev_at rfl) (flT rfl) (by assumption) (by assumption)) ?_); refine xv (ex_load (v := .bool false) (ev_at rfl) (ld1 hS (kdT rfl) (by rw [← hd]; rfl))) ?_; refine wl_nil ?_)
        | ((with_reducible apply wp_region_plain (id := 3)); refine xv (ex_load (ev_at rfl) (ldN hS (kdT rfl) (szT rfl) rfl)) ?_; refine xv (ex_move (ev_at rfl)) ?_; refine wl_of rfl (wp_callL (cbT rfl) (EvL.c (ev_at rfl) (EvL.c (ev_at rfl) EvL.n)) ?_); refine (ris_ct (rdV dv wv R) R k (hv.le) hS).mono ?_; rintro e w ⟨rfl, hS⟩; rw [decide_eq_false hk]; refine ⟨_, rfl, wl_put (by simp only [lset] <;> rfl) ?_⟩; refine xv (ex_not (ev_at rfl)) ?_; refine wl_nil ?_)
        | ((with_reducible apply wp_region_plain (id := 4)); refine xv (ex_assign (ev_const _ _)) ?_; refine xv (ex_assign (ev_const _ _)) ?_; refine wl_nil ?_)
        | ((fail_if_success (with_reducible apply wp_region_plain)); (fail_if_success (with_reducible apply wp_region_GS)); go_step))
      refine endN (by first | exact .inl rfl | exact .inr rfl) rfl (ResL.rt rfl (ResL.rt rfl ResL.rn)) rfl ?_
      exact ⟨_, rfl, hS.drop.nilRow _ _⟩
set_option maxHeartbeats 2000000 in
theorem copy_ct (v : Value) (R : RS) (hv : RefI I v R) (hR : R.Ok) (hS : Sat w I L) :
    Calls Try.prog 41 #[v] w fun e w' => ∃ (dv wv : Value) (ps : List (Value × List UInt8)) (qs : List (Int × Value × List UInt8)), e = .returned (rdV dv wv R) ∧ ps.map Prod.snd = R.dur ∧ (qs.map fun q => (q.1, q.2.2)) = R.wr ∧
      Sat w' I (Row dv 30 1 R.dur.length (ps.map Prod.fst) :: InB 5 ps :: Row wv 85 2 R.wr.length (qs.flatMap fun q => [.int .i64 q.1, q.2.1]) :: InB 5 (qs.map Prod.snd) :: L) := by
  obtain ⟨dv, wv, dcs, wcs, rfl, h1, h2, h3, h4⟩ := id hv
  have h1i := h1.is
  have h3i := h3.is
  have hfew := hR.few
  have hn := hR.n
  go_enter Try.func41, Try.ntmps41
  repeat' (first
    | ((with_reducible apply wp_region_plain (id := 0)); refine wl_of rfl (wp_boxN (ev_at rfl) hS fun b1 w hS => wl_put (by simp only [lset] <;> rfl) ?_); refine wl_of rfl (wp_alloc hS (zeT rfl) fun b2 w hS => wl_put (by simp only [lset] <;> rfl) ?_); refine wl_nil ?_)
    | ((with_reducible apply wp_region_plain (id := 1)); refine xv (ex_assign (ev_const _ _)) ?_; refine wl_nil ?_)
    | ((with_reducible apply wp_region_plain (id := 2)); refine xv (ex_assign (ev_const _ _)) ?_; refine wl_nil ?_)
    | ((fail_if_success (with_reducible apply wp_region_plain)); (fail_if_success (with_reducible apply wp_region_GS)); go_step))
  have hS := (InB.nil (E := 5) hS).nilRow 30 1
  refine wp_loopR [false, false, false, true, true, false, false, true, true, true, true, true, true, true, true, true, true, true, true, true, true, true, true, true] (fun f w => ∃ (i : Nat) (d2 : Value) (ps : List (Value × List UInt8)), f 4 = .int .i64 i ∧ f 3 = d2 ∧ i ≤ R.dur.length ∧ ps.map Prod.snd = R.dur.take i ∧ Sat w I (Row d2 30 1 i (ps.map Prod.fst) :: InB 5 ps ::
      Cells b2 45 [.slice none 0 0, .slice none 0 0, .int .i64 0, .bool false, .int .i64 0] :: Cells b1 45 [dv, wv, .int .i64 R.lim, .bool R.down, .int .i64 R.ops] :: L)) (fun f _ => R.dur.length - ivN (f 4)) rfl ⟨0, _, [], rfl, rfl, by omega, rfl, hS⟩ ?_
  clear hS
  rintro f w ⟨i, d2, ps, h4', h3', hi, hps, hS⟩
  simp only [havoc, Nat.reduceAdd, h4', h3']
  by_cases hlt : i < R.dur.length
  · obtain ⟨b0, hb0⟩ : ∃ b0, R.dur[i]? = some b0 := ⟨_, List.getElem?_eq_getElem hlt⟩
    have hbl := hR.dur b0 (List.mem_of_getElem? hb0)
    obtain ⟨u0, hu0, hu1⟩ := h2.get hb0
    repeat' (first
      | ((with_reducible apply wp_region_plain (id := 3)); refine xv (ex_move (ev_at rfl)) ?_; (first | refine xv (ex_fa (ev_at rfl) (flT rfl)) ?_ | refine xv (ex_faE (ev_at rfl) (flT rfl) (by assumption) (by assumption)) ?_); refine xv (ex_load (ev_at rfl) (by first | exact ld1 hS (kdT rfl) rfl | exact ldE1 (u := u0) (hS.rdSI h1) h1i hlt (kdT rfl) (by simpa using hu1))) ?_; refine xv (ex_len (ev_at rfl) (slT rfl) (by first | assumption | exact IsSl.nil)) ?_; refine xv (ex_cmp (ev_at rfl) (ev_at rfl) (by first | exact lssT (by omega) | exact lssF (by omega) | rfl)) ?_; refine wl_nil ?_)
      | ((with_reducible apply wp_region_plain (id := 5)); refine xv (ex_move (ev_at rfl)) ?_; refine wl_of rfl (wp_buildSlice (slT rfl) (szT rfl) (zeT rfl) Fills.nil hS rfl (by first | rfl | assumption) fun b15 w hS => wl_put (by simp only [lset] <;> rfl) ?_); (first | refine xv (ex_fa (ev_at rfl) (flT rfl)) ?_ | refine xv (ex_faE (ev_at rfl) (flT rfl) (by assumption) (by assumption)) ?_); refine xv (ex_load (ev_at rfl) (by first | exact ld1 hS (kdT rfl) rfl | exact ldE1 (u := u0) (hS.rdSI h1) h1i hlt (kdT rfl) (by simpa using hu1))) ?_; refine xv (ex_move (ev_at rfl)) ?_; (first | refine xv (ex_iaN (ev_at rfl) (ev_at rfl) (slT rfl) (szT rfl) (by first | assumption | exact IsSl.nil) (by omega)) ?_ | refine xv (ex_ia (ev_at rfl) (ev_at rfl) (slT rfl) (szT rfl) (by first | assumption | exact IsSl.nil) (by omega) (by omega)) ?_); refine xv (ex_load (ev_at rfl) (by first | exact ld1 hS (kdT rfl) rfl | exact ldE1 (u := u0) (hS.rdSI h1) h1i hlt (kdT rfl) (by simpa using hu1))) ?_; refine wl_of rfl (wp_append (ev_at rfl) (ev_at rfl) (slT rfl) (szT rfl) (byT rfl) (zeT rfl) hS (srcI hS hu0 (by simp)) (by omega) (by omega) rfl fun v21 w hS hv21 => wl_put (by simp only [lset] <;> rfl) ?_); refine wl_of rfl (wp_buildSlice (slT rfl) (szT rfl) (zeT rfl) (fillsOne1 (ev_at rfl) (by first | rfl | exact IsSl.one (by assumption))) hS rfl (by first | rfl | assumption | (simp only [sub, splice, List.take_succ_cons, List.take_zero, List.drop_succ_cons, List.drop_zero, List.nil_append, List.cons_append, List.length_cons, List.length_nil, Nat.reduceAdd, List.all_cons, List.all_nil, Bool.and_eq_true, Bool.and_true]; ((repeat' apply And.intro) <;> first | rfl | assumption | exact IsSl.one (by assumption)))) fun b22 w hS => wl_put (by simp only [lset] <;> rfl) ?_); refine wl_of rfl (wp_append1 (ev_at rfl) (ev_at rfl) (slT rfl) (szT rfl) (byT rfl) (zeT rfl) hS (by omega) (by omega) rfl fun v23 w hS hv23 => wl_put (by simp only [lset] <;> rfl) ?_); refine xv (ex_assign (ev_at rfl)) ?_; refine wl_nil ?_; (try simp only [lset, splice, sub, List.take_succ_cons, List.take_zero, List.drop_succ_cons, List.drop_zero, List.nil_append, List.cons_append, List.length_cons, List.length_nil, Nat.reduceAdd, Nat.zero_add, rep_zero] at hS))
      | ((with_reducible apply wp_region_plain (id := 4)); refine xv (ex_move (ev_at rfl)) ?_; refine xv (ex_arith (ev_at rfl) (ev_const _ _) rfl (by first | exact IntWalk.i64_in _ (by omega) | rfl)) ?_; refine xv (ex_assign (ev_at rfl)) ?_; refine wl_nil ?_)
      | ((fail_if_success (with_reducible apply wp_region_plain)); (fail_if_success (with_reducible apply wp_region_GS)); go_step))
    refine loopEnd rfl ⟨i + 1, _, ps ++ [(v21, b0)], rfl, rfl, by omega, ?_, ?_⟩ (by simp only [h4', nth, ivN]; omega)
    · rw [take_snoc hb0, List.map_append, hps]; rfl
    · have h5 := (InB.snoc (hS.perm (List.Perm.cons _ (List.Perm.swap _ _ _)))).swap
      rw [List.map_append]
      exact h5
  · have hi : i = R.dur.length := by omega
    subst hi
    rw [List.take_length] at hps
    repeat' (first
      | ((with_reducible apply wp_region_plain (id := 3)); refine xv (ex_move (ev_at rfl)) ?_; (first | refine xv (ex_fa (ev_at rfl) (flT rfl)) ?_ | refine xv (ex_faE (ev_at rfl) (flT rfl) (by assumption) (by assumption)) ?_); refine xv (ex_load (ev_at rfl) (ld1 hS (kdT rfl) rfl)) ?_; refine xv (ex_len (ev_at rfl) (slT rfl) (by first | assumption | exact IsSl.nil)) ?_; refine xv (ex_cmp (ev_at rfl) (ev_at rfl) (by first | exact lssT (by omega) | exact lssF (by omega) | rfl)) ?_; refine wl_nil ?_)
      | ((with_reducible apply wp_region_plain (id := 6)); refine xv (ex_assign (ev_const _ _)) ?_; refine wl_nil ?_)
      | ((with_reducible apply wp_region_plain (id := 7)); refine xv (ex_assign (ev_const _ _)) ?_; refine wl_nil ?_)
      | ((fail_if_success (with_reducible apply wp_region_plain)); (fail_if_success (with_reducible apply wp_region_GS)); go_step))
    have hS := (InB.nil (E := 5) hS).nilRow 85 2
    refine wp_loopR [false, false, false, false, false, true, true, false, false, false, false, false, false, false, false, false, false, false, false, false, false, false, false, false, true, true, true, true, true, true, true, true, true, true, true, true, true, true, true, true, true, true, true, true, true, true, true, true, true] (fun f w => ∃ (i : Nat) (w2 : Value) (qs : List (Int × Value × List UInt8)), f 6 = .int .i64 i ∧ f 5 = w2 ∧ i ≤ R.wr.length ∧ (qs.map fun q => (q.1, q.2.2)) = R.wr.take i ∧ Sat w I (Row w2 85 2 i (qs.flatMap fun q => [.int .i64 q.1, q.2.1]) :: InB 5 (qs.map Prod.snd) ::
      Row d2 30 1 R.dur.length (ps.map Prod.fst) :: InB 5 ps ::
      Cells b2 45 [.slice none 0 0, .slice none 0 0, .int .i64 0, .bool false, .int .i64 0] :: Cells b1 45 [dv, wv, .int .i64 R.lim, .bool R.down, .int .i64 R.ops] :: L)) (fun f _ => R.wr.length - ivN (f 6)) rfl ⟨0, _, [], rfl, rfl, by omega, rfl, hS⟩ ?_
    clear hS
    rintro f w ⟨i, w2, qs, h6', h5', hi, hqs, hS⟩
    simp only [havoc, Nat.reduceAdd, h6', h5']
    by_cases hlt : i < R.wr.length
    · obtain ⟨p, hp1⟩ : ∃ p, R.wr[i]? = some p := ⟨_, List.getElem?_eq_getElem hlt⟩
      have hp2 := hR.wr p (List.mem_of_getElem? hp1)
      obtain ⟨q, hq1, hq2, hq3⟩ := h4.get hp1
      have hqi := hq1.is
      repeat' (first
        | ((with_reducible apply wp_region_plain (id := 8)); refine xv (ex_move (ev_at rfl)) ?_; (first | refine xv (ex_fa (ev_at rfl) (flT rfl)) ?_ | refine xv (ex_faE (ev_at rfl) (flT rfl) (by assumption) (by assumption)) ?_); refine xv (ex_load (ev_at rfl) (by first | exact ld1 hS (kdT rfl) rfl | exact ldE1 (u := .int .i64 p.1) (hS.rdSI h3) h3i hlt (kdT rfl) (by simpa using hq2) | exact ldE1 (u := q) (hS.rdSI h3) h3i hlt (kdT rfl) (by simpa using hq3))) ?_; refine xv (ex_len (ev_at rfl) (slT rfl) (by first | assumption | exact IsSl.nil)) ?_; refine xv (ex_cmp (ev_at rfl) (ev_at rfl) (by first | exact lssT (by omega) | exact lssF (by omega) | rfl)) ?_; refine wl_nil ?_)
        | ((with_reducible apply wp_region_GS (id := 10) 19 (fun j => [0, 1, 2, 3, 4, 5, 6, 7, 8, 9, 10, 11, 12, 13, 14, 15, 16, 18].contains j) mixed); rfl; exact hS; (clear hS; intro w hS); refine xp 0 rfl rfl (fun w => ex_move (ev_at rfl)) ?_; (first | refine xp 1 rfl rfl (fun w => ex_fa (ev_at rfl) (flT rfl)) ?_ | refine xp 1 rfl rfl (fun w => ex_faE (ev_at rfl) (flT rfl) (by assumption) (by assumption)) ?_); refine xr 2 hS rfl rfl (fun w X hS => ex_load (ev_at rfl) (by first | exact ld1 hS (kdT rfl) rfl | exact ldE1 (u := .int .i64 p.1) (hS.rdSI h3) h3i hlt (kdT rfl) (by simpa using hq2) | exact ldE1 (u := q) (hS.rdSI h3) h3i hlt (kdT rfl) (by simpa using hq3))) ?_; refine xp 3 rfl rfl (fun w => ex_move (ev_at rfl)) ?_; (first | refine xp 4 rfl rfl (fun w => ex_iaN (ev_at rfl) (ev_at rfl) (slT rfl) (szT rfl) (by first | assumption | exact IsSl.nil) (by omega)) ?_ | refine xp 4 rfl rfl (fun w => ex_ia (ev_at rfl) (ev_at rfl) (slT rfl) (szT rfl) (by first | assumption | exact IsSl.nil) (by omega) (by omega)) ?_); (first | refine xp 5 rfl rfl (fun w => ex_fa (ev_at rfl) (flT rfl)) ?_ | refine xp 5 rfl rfl (fun w => ex_faE (ev_at rfl) (flT rfl) (by assumption) (by assumption)) ?_); refine xr 6 hS rfl rfl (fun w X hS => ex_load (ev_at rfl) (by first | exact ld1 hS (kdT rfl) rfl | exact ldE1 (u := .int .i64 p.1) (hS.rdSI h3) h3i hlt (kdT rfl) (by simpa using hq2) | exact ldE1 (u := q) (hS.rdSI h3) h3i hlt (kdT rfl) (by simpa using hq3))) ?_; (first | refine xp 8 rfl rfl (fun w => ex_fa (ev_at rfl) (flT rfl)) ?_ | refine xp 8 rfl rfl (fun w => ex_faE (ev_at rfl) (flT rfl) (by assumption) (by assumption)) ?_); refine xr 9 hS rfl rfl (fun w X hS => ex_load (ev_at rfl) (by first | exact ld1 hS (kdT rfl) rfl | exact ldE1 (u := .int .i64 p.1) (hS.rdSI h3) h3i hlt (kdT rfl) (by simpa using hq2) | exact ldE1 (u := q) (hS.rdSI h3) h3i hlt (kdT rfl) (by simpa using hq3))) ?_; refine xp 10 rfl rfl (fun w => ex_move (ev_at rfl)) ?_; (first | refine xp 11 rfl rfl (fun w => ex_iaN (ev_at rfl) (ev_at rfl) (slT rfl) (szT rfl) (by first | assumption | exact IsSl.nil) (by omega)) ?_ | refine xp 11 rfl rfl (fun w => ex_ia (ev_at rfl) (ev_at rfl) (slT rfl) (szT rfl) (by first | assumption | exact IsSl.nil) (by omega) (by omega)) ?_); (first | refine xp 12 rfl rfl (fun w => ex_fa (ev_at rfl) (flT rfl)) ?_ | refine xp 12 rfl rfl (fun w => ex_faE (ev_at rfl) (flT rfl) (by assumption) (by assumption)) ?_); refine xr 13 hS rfl rfl (fun w X hS => ex_load (ev_at rfl) (by first | exact ld1 hS (kdT rfl) rfl | exact ldE1 (u := .int .i64 p.1) (hS.rdSI h3) h3i hlt (kdT rfl) (by simpa using hq2) | exact ldE1 (u := q) (hS.rdSI h3) h3i hlt (kdT rfl) (by simpa using hq3))) ?_; refine wg_loud 7 (by decide +kernel) rfl rfl (wp_buildSlice (slT rfl) (szT rfl) (zeT rfl) Fills.nil hS rfl (by first | rfl | assumption) fun b38 w hS => ⟨gsT hS, wg_p (by simp only [lset] <;> rfl) ?_⟩); refine wg_loud 14 (by decide +kernel) rfl rfl (wp_append (ev_at rfl) (ev_at rfl) (slT rfl) (szT rfl) (byT rfl) (zeT rfl) hS (srcI hS hq1 (by simp)) (by omega) (by omega) rfl fun v45 w hS hv45 => ⟨gsT hS, wg_p (by simp only [lset] <;> rfl) ?_⟩); refine xp 15 rfl rfl (fun w => ex_buildS (plT rfl) (zeT rfl) (Fills.cons rfl (ev_at rfl) (by first | exact IsSl.cellsL (by assumption) | exact cellsL1 rfl | rfl) rfl rfl (Fills.cons rfl (ev_at rfl) (by first | exact IsSl.cellsL (by assumption) | exact cellsL1 rfl | rfl) rfl rfl Fills.nil))) ?_; refine wg_loud 16 (by decide +kernel) rfl rfl (wp_buildSlice (slT rfl) (szT rfl) (zeT rfl) (fillsOneN (ev_at rfl) rfl rfl) hS rfl (by first | rfl | assumption | (simp only [sub, splice, List.take_succ_cons, List.take_zero, List.drop_succ_cons, List.drop_zero, List.nil_append, List.cons_append, List.length_cons, List.length_nil, Nat.reduceAdd, List.all_cons, List.all_nil, Bool.and_eq_true, Bool.and_true]; ((repeat' apply And.intro) <;> first | rfl | assumption | exact IsSl.one (by assumption)))) fun b47 w hS => ⟨gsT hS, wg_p (by simp only [lset] <;> rfl) ?_⟩); refine wg_loud 17 (by decide +kernel) rfl rfl (wp_append1 (ev_at rfl) (ev_at rfl) (slT rfl) (szT rfl) (byT rfl) (zeT rfl) hS (by omega) (by omega) rfl fun v48 w hS hv48 => ⟨gsF rfl, wg_p (by simp only [lset] <;> rfl) ?_⟩); refine xp 18 rfl rfl (fun w => ex_assign (ev_at rfl)) ?_; refine wg_end (by decide +kernel) ?_; (try simp only [lset, splice, sub, List.take_succ_cons, List.take_zero, List.drop_succ_cons, List.drop_zero, List.nil_append, List.cons_append, List.length_cons, List.length_nil, Nat.reduceAdd, Nat.zero_add, rep_zero] at hS))
        | ((with_reducible apply wp_region_plain (id := 9)); refine xv (ex_move (ev_at rfl)) ?_; refine xv (ex_arith (ev_at rfl) (ev_const _ _) rfl (by first | exact IntWalk.i64_in _ (by omega) | rfl)) ?_; refine xv (ex_assign (ev_at rfl)) ?_; refine wl_nil ?_)
        | ((fail_if_success (with_reducible apply wp_region_plain)); (fail_if_success (with_reducible apply wp_region_GS)); go_step))
      refine loopEnd rfl ⟨i + 1, _, qs ++ [(p.1, v45, p.2)], rfl, rfl, by omega, ?_, ?_⟩ (by simp only [h6', nth, ivN]; omega)
      · rw [take_snoc hp1, List.map_append, hqs]; rfl
      · have h5 := (InB.snoc (hS.perm (List.Perm.cons _ (List.Perm.swap _ _ _)))).swap
        rw [List.map_append, List.flatMap_append]
        exact h5
    · have hi : i = R.wr.length := by omega
      subst hi
      rw [List.take_length] at hqs
      have hd2 := (hS.row 2 rfl).1
      have hw2 := hS.row0.1
      repeat' (first
        | ((with_reducible apply wp_region_plain (id := 8)); refine xv (ex_move (ev_at rfl)) ?_; (first | refine xv (ex_fa (ev_at rfl) (flT rfl)) ?_ | refine xv (ex_faE (ev_at rfl) (flT rfl) (by assumption) (by assumption)) ?_); refine xv (ex_load (ev_at rfl) (ld1 hS (kdT rfl) rfl)) ?_; refine xv (ex_len (ev_at rfl) (slT rfl) (by first | assumption | exact IsSl.nil)) ?_; refine xv (ex_cmp (ev_at rfl) (ev_at rfl) (by first | exact lssT (by omega) | exact lssF (by omega) | rfl)) ?_; refine wl_nil ?_)
        | ((with_reducible apply wp_region_plain (id := 11)); refine xv (ex_move (ev_at rfl)) ?_; refine xv (ex_move (ev_at rfl)) ?_; (first | refine xv (ex_fa (ev_at rfl) (flT rfl)) ?_ | refine xv (ex_faE (ev_at rfl) (flT rfl) (by assumption) (by assumption)) ?_); refine wl_of rfl (wp_store1 (ev_at rfl) (ev_at rfl) hS (szT rfl) rfl (by first | rfl | exact IsSl.one (by assumption)) fun w hS => wl_put0 ?_); (first | refine xv (ex_fa (ev_at rfl) (flT rfl)) ?_ | refine xv (ex_faE (ev_at rfl) (flT rfl) (by assumption) (by assumption)) ?_); refine wl_of rfl (wp_store1 (ev_at rfl) (ev_at rfl) hS (szT rfl) rfl (by first | rfl | exact IsSl.one (by assumption)) fun w hS => wl_put0 ?_); refine wl_nil ?_; (try simp only [lset, Nat.reduceAdd, Nat.zero_add] at hS))
        | ((with_reducible apply wp_region_plain (id := 12)); refine xv (ex_load (ev_at rfl) (ldN hS (kdT rfl) (szT rfl) rfl)) ?_; refine wl_of rfl (wp_storeN (ev_at rfl) (ev_at rfl) hS (szT rfl) rfl (by first | rfl | assumption | (simp only [sub, splice, List.take_succ_cons, List.take_zero, List.drop_succ_cons, List.drop_zero, List.nil_append, List.cons_append, List.length_cons, List.length_nil, Nat.reduceAdd, List.all_cons, List.all_nil, Bool.and_eq_true, Bool.and_true]; ((repeat' apply And.intro) <;> first | rfl | assumption | exact IsSl.one (by assumption)))) fun w hS => wl_put0 ?_); refine wl_nil ?_; (try simp only [lset, splice, sub, List.take_succ_cons, List.take_zero, List.drop_succ_cons, List.drop_zero, List.nil_append, List.cons_append, List.length_cons, List.length_nil, Nat.reduceAdd, Nat.zero_add, rep_zero] at hS))
        | ((fail_if_success (with_reducible apply wp_region_plain)); (fail_if_success (with_reducible apply wp_region_GS)); go_step))
      refine end1 (by first | exact .inl rfl | exact .inr rfl) rfl (ResL.rc rfl (ldN hS (kdT rfl) (szT rfl) rfl) ResL.rn) ?_
      have h5 := (hS.dropAt 4 rfl).dropAt 4 rfl
      exact ⟨d2, w2, ps, qs, rfl, hps, hqs, h5.perm (List.perm_append_comm_assoc [_, _] [_, _] L)⟩
theorem copyF_ct (v : Value) (R : RS) (hv : RefI I v R) (hR : R.Ok) (hS : Sat w I L) :
    Calls Try.prog 41 #[v] w fun e w' => ∃ dv wv us cs J, e = .returned (rdV dv wv R) ∧ I.le J ∧ BssI J R.dur us ∧ PendI J R.wr cs ∧ Sat w' J (Row dv 30 1 R.dur.length us :: Row wv 85 2 R.wr.length cs :: L) := by
  refine (copy_ct v R hv hR hS).mono ?_
  rintro e w' ⟨dv, wv, ps, qs, rfl, hps, hqs, hS⟩
  obtain ⟨J, hle, hS, hb⟩ := InB.freeze hS.swap
  obtain ⟨K, hle2, hS, hb2⟩ := InB.freeze (hS.rot3.rot3)
  refine ⟨dv, wv, _, _, K, rfl, hle.trans hle2, ?_, ?_, hS⟩
  · rw [← hps]; exact hb.mono hle2
  · rw [← hqs]; exact pend_of_bss hb2
end
end Go.Proofs.Try
