/- Spools: the law's own functions: small, sameIds. -/
import Derived.Test.YtggkomlobfpapaaSC6
import Derived.Test.YtggkomlobfpapaaSR3
import Derived.Test.YtggkomlobfpapaaSpOp
namespace Go.Proofs.Try
open Go.RowKit Go.SL Go.SS Go.SP
set_option maxRecDepth 100000
set_option linter.unusedSimpArgs false
set_option linter.unusedVariables false
section
variable {w : World} {I : Gh} {L : List Ch}
theorem opAt {l : List SpOp} {i j : Nat} {a : SpOp} {u : Value} (h : l[i]? = some a) (hu : (opC a)[j]? = some u) (hj : j < 37) : (flatE opC l)[i * 37 + j]? = some u := by
  have h1 := sub_flatE elOp h
  rw [← h1] at hu
  simp only [sub, List.getElem?_take, List.getElem?_drop, hj, if_true] at hu
  exact hu
theorem small_ct (v : Value) (l : List SpOp) (hln : l.length ≤ 9223372036854775807) (hv : IsSl v l.length) (hr : Rds I [] v (flatE opC l)) (hS : Sat w I L) :
    Calls Try.prog 15 #[v] w fun e w' => e = .returned (.bool (smallOps l)) ∧ Sat w' I L := by
  generalize hR : smallOps l = R
  go_enter Try.func15, Try.ntmps15
  repeat' (first
    | ((with_reducible apply wp_region_plain (id := 0)); refine xv (ex_assign (ev_const _ _)) ?_; refine wl_nil ?_)
    | ((with_reducible apply wp_region_plain (id := 1)); refine xv (ex_assign (ev_const _ _)) ?_; refine wl_nil ?_)
    | ((with_reducible apply wp_region_plain (id := 2)); refine xv (ex_move (ev_at rfl)) ?_; refine xv (ex_move (ev_at rfl)) ?_; refine xv (ex_len (ev_at rfl) (slT rfl) (by first | assumption | exact IsSl.nil)) ?_; refine xv (ex_cmp (ev_at rfl) (ev_at rfl) (by first | exact lssT (by omega) | exact lssF (by omega) | rfl)) ?_; refine wl_nil ?_)
    | ((with_reducible apply wp_region_plain (id := 4)); refine xv (ex_move (ev_at rfl)) ?_; refine xv (ex_move (ev_at rfl)) ?_; (first | refine xv (ex_iaN (ev_at rfl) (ev_at rfl) (slT rfl) (szT rfl) (by first | assumption | exact IsSl.nil) (by omega)) ?_ | refine xv (ex_ia (ev_at rfl) (ev_at rfl) (slT rfl) (szT rfl) (by first | assumption | exact IsSl.nil) (by omega) (by omega)) ?_); (first | refine xv (ex_fa (ev_at rfl) (flT rfl)) ?_ | refine xv (ex_faE (ev_at rfl) (flT rfl) (by assumption) (by assumption)) ?_); (first | refine xv (ex_fa (ev_at rfl) (flT rfl)) ?_ | refine xv (ex_faE (ev_at rfl) (flT rfl) (by assumption) (by assumption)) ?_); refine xv (ex_load (ev_at rfl) (ld1 hS (kdT rfl) rfl)) ?_; refine xv (ex_lenStrL (ev_at rfl) (unT rfl)) ?_; refine xv (ex_cmp (ev_at rfl) (ev_const _ _) (by first | exact gtrT (by omega) | exact gtrF (by omega) | rfl)) ?_; refine wl_nil ?_)
    | ((with_reducible apply wp_region_plain (id := 5)); refine xv (ex_assign (ev_const _ _)) ?_; refine wl_nil ?_)
    | ((with_reducible apply wp_region_plain (id := 3)); refine xv (ex_move (ev_at rfl)) ?_; refine xv (ex_arith (ev_at rfl) (ev_const _ _) rfl (by first | exact IntWalk.i64_in _ (by omega) | rfl)) ?_; refine xv (ex_assign (ev_at rfl)) ?_; refine wl_nil ?_)
    | ((with_reducible apply wp_region_plain (id := 6)); refine xv (ex_move (ev_at rfl)) ?_; refine xv (ex_len (ev_at rfl) (slT rfl) (by first | assumption | exact IsSl.nil)) ?_; refine xv (ex_cmp (ev_at rfl) (ev_const _ _) (by first | exact leqT (by omega) | exact leqF (by omega) | rfl)) ?_; refine xv (ex_assign (ev_at rfl)) ?_; refine wl_nil ?_)
    | ((fail_if_success (with_reducible apply wp_region_plain)); (fail_if_success (with_reducible apply wp_region_GS)); go_step))
  refine wp_loopM [false, false, true, true, true, true, true, true, true, true, true, true, true, true, true, true, true, true] (fun n f w => ∃ (i : Nat), n = l.length - i ∧ f 3 = .int .i64 i ∧ i ≤ l.length ∧ smallOps l = ((l.drop i).all (fun o => decide (o.art.text.length ≤ 200)) && decide (l.length ≤ 40)) ∧ Sat w I L) rfl l.length ⟨0, rfl, rfl, by omega, rfl, hS⟩ ?_
  clear hS
  rintro n f w ⟨i, rfl, h3, hi, hk, hS⟩
  simp only [havoc, Nat.reduceAdd, h3]
  by_cases hlt : i < l.length
  case neg =>
    rw [List.drop_of_length_le (by omega), List.all_nil, Bool.true_and, hR] at hk
    by_cases h40 : l.length ≤ 40
    all_goals
      repeat' (first
        | ((with_reducible apply wp_region_plain (id := 0)); refine xv (ex_assign (ev_const _ _)) ?_; refine wl_nil ?_)
        | ((with_reducible apply wp_region_plain (id := 1)); refine xv (ex_assign (ev_const _ _)) ?_; refine wl_nil ?_)
        | ((with_reducible apply wp_region_plain (id := 2)); refine xv (ex_move (ev_at rfl)) ?_; refine xv (ex_move (ev_at rfl)) ?_; refine xv (ex_len (ev_at rfl) (slT rfl) (by first | assumption | exact IsSl.nil)) ?_; refine xv (ex_cmp (ev_at rfl) (ev_at rfl) (by first | exact lssT (by omega) | exact lssF (by omega) | rfl)) ?_; refine wl_nil ?_)
        | ((with_reducible apply wp_region_plain (id := 4)); refine xv (ex_move (ev_at rfl)) ?_; refine xv (ex_move (ev_at rfl)) ?_; (first | refine xv (ex_iaN (ev_at rfl) (ev_at rfl) (slT rfl) (szT rfl) (by first | assumption | exact IsSl.nil) (by omega)) ?_ | refine xv (ex_ia (ev_at rfl) (ev_at rfl) (slT rfl) (szT rfl) (by first | assumption | exact IsSl.nil) (by omega) (by omega)) ?_); (first | refine xv (ex_fa (ev_at rfl) (flT rfl)) ?_ | refine xv (ex_faE (ev_at rfl) (flT rfl) (by assumption) (by assumption)) ?_); (first | refine xv (ex_fa (ev_at rfl) (flT rfl)) ?_ | refine xv (ex_faE (ev_at rfl) (flT rfl) (by assumption) (by assumption)) ?_); refine xv (ex_load (ev_at rfl) (ld1 hS (kdT rfl) rfl)) ?_; refine xv (ex_lenStrL (ev_at rfl) (unT rfl)) ?_; refine xv (ex_cmp (ev_at rfl) (ev_const _ _) (by first | exact gtrT (by omega) | exact gtrF (by omega) | rfl)) ?_; refine wl_nil ?_)
        | ((with_reducible apply wp_region_plain (id := 5)); refine xv (ex_assign (ev_const _ _)) ?_; refine wl_nil ?_)
        | ((with_reducible apply wp_region_plain (id := 3)); refine xv (ex_move (ev_at rfl)) ?_; refine xv (ex_arith (ev_at rfl) (ev_const _ _) rfl (by first | exact IntWalk.i64_in _ (by omega) | rfl)) ?_; refine xv (ex_assign (ev_at rfl)) ?_; refine wl_nil ?_)
        | ((with_reducible apply wp_region_plain (id := 6)); refine xv (ex_move (ev_at rfl)) ?_; refine xv (ex_len (ev_at rfl) (slT rfl) (by first | assumption | exact IsSl.nil)) ?_; refine xv (ex_cmp (ev_at rfl) (ev_const _ _) (by first | exact leqT (by omega) | exact leqF (by omega) | rfl)) ?_; refine xv (ex_assign (ev_at rfl)) ?_; refine wl_nil ?_)
        | ((fail_if_success (with_reducible apply wp_region_plain)); (fail_if_success (with_reducible apply wp_region_GS)); go_step))
      refine end1 (by first | exact .inl rfl | exact .inr rfl) rfl (ResL.rt rfl ResL.rn) ?_
      exact ⟨by rw [hk]; simp [h40], hS⟩
  have hg : l[i]? = some l[i] := List.getElem?_eq_getElem hlt
  have hdr : l.drop i = l[i] :: l.drop (i + 1) := List.drop_eq_getElem_cons hlt
  generalize l[i] = x at hg hdr
  have hgt := opAt hg (opGet x).2.2.2.1 (by omega)
  have hrd := hr.rd0 hS
  by_cases hlen : x.art.text.length ≤ 200
  · rw [hdr, List.all_cons, decide_eq_true hlen, Bool.true_and] at hk
    repeat' (first
      | ((with_reducible apply wp_region_plain (id := 0)); refine xv (ex_assign (ev_const _ _)) ?_; refine wl_nil ?_)
      | ((with_reducible apply wp_region_plain (id := 1)); refine xv (ex_assign (ev_const _ _)) ?_; refine wl_nil ?_)
      | ((with_reducible apply wp_region_plain (id := 2)); refine xv (ex_move (ev_at rfl)) ?_; refine xv (ex_move (ev_at rfl)) ?_; refine xv (ex_len (ev_at rfl) (slT rfl) (by first | assumption | exact IsSl.nil)) ?_; refine xv (ex_cmp (ev_at rfl) (ev_at rfl) (by first | exact lssT (by omega) | exact lssF (by omega) | rfl)) ?_; refine wl_nil ?_)
      | ((with_reducible apply wp_region_plain (id := 4)); refine xv (ex_move (ev_at rfl)) ?_; refine xv (ex_move (ev_at rfl)) ?_; (first | refine xv (ex_iaN (ev_at rfl) (ev_at rfl) (slT rfl) (szT rfl) (by first | assumption | exact IsSl.nil) (by omega)) ?_ | refine xv (ex_ia (ev_at rfl) (ev_at rfl) (slT rfl) (szT rfl) (by first | assumption | exact IsSl.nil) (by omega) (by omega)) ?_); (first | refine xv (ex_fa (ev_at rfl) (flT rfl)) ?_ | refine xv (ex_faE (ev_at rfl) (flT rfl) (by assumption) (by assumption)) ?_); (first | refine xv (ex_fa (ev_at rfl) (flT rfl)) ?_ | refine xv (ex_faE (ev_at rfl) (flT rfl) (by assumption) (by assumption)) ?_); refine xv (ex_load (ev_at rfl) (ldE1 (hr.rd0 hS) hv (m := i) hlt (kdT rfl) hgt)) ?_; refine xv (ex_lenStrL (ev_at rfl) (unT rfl)) ?_; refine xv (ex_cmp (ev_at rfl) (ev_const _ _) (by first | exact gtrT (by omega) | exact gtrF (by omega) | rfl)) ?_; refine wl_nil ?_)
      | ((with_reducible apply wp_region_plain (id := 5)); refine xv (ex_assign (ev_const _ _)) ?_; refine wl_nil ?_)
      | ((with_reducible apply wp_region_plain (id := 3)); refine xv (ex_move (ev_at rfl)) ?_; refine xv (ex_arith (ev_at rfl) (ev_const _ _) rfl (by first | exact IntWalk.i64_in _ (by omega) | rfl)) ?_; refine xv (ex_assign (ev_at rfl)) ?_; refine wl_nil ?_)
      | ((with_reducible apply wp_region_plain (id := 6)); refine xv (ex_move (ev_at rfl)) ?_; refine xv (ex_len (ev_at rfl) (slT rfl) (by first | assumption | exact IsSl.nil)) ?_; refine xv (ex_cmp (ev_at rfl) (ev_const _ _) (by first | exact leqT (by omega) | exact leqF (by omega) | rfl)) ?_; refine xv (ex_assign (ev_at rfl)) ?_; refine wl_nil ?_)
      | ((fail_if_success (with_reducible apply wp_region_plain)); (fail_if_success (with_reducible apply wp_region_GS)); go_step))
    exact loopEndM rfl (l.length - (i + 1)) ⟨i + 1, rfl, rfl, by omega, hk, hS⟩ (by omega)
  · rw [hdr, List.all_cons, decide_eq_false hlen, Bool.false_and, Bool.false_and, hR] at hk
    repeat' (first
      | ((with_reducible apply wp_region_plain (id := 0)); refine xv (ex_assign (ev_const _ _)) ?_; refine wl_nil ?_)
      | ((with_reducible apply wp_region_plain (id := 1)); refine xv (ex_assign (ev_const _ _)) ?_; refine wl_nil ?_)
      | ((with_reducible apply wp_region_plain (id := 2)); refine xv (ex_move (ev_at rfl)) ?_; refine xv (ex_move (ev_at rfl)) ?_; refine xv (ex_len (ev_at rfl) (slT rfl) (by first | assumption | exact IsSl.nil)) ?_; refine xv (ex_cmp (ev_at rfl) (ev_at rfl) (by first | exact lssT (by omega) | exact lssF (by omega) | rfl)) ?_; refine wl_nil ?_)
      | ((with_reducible apply wp_region_plain (id := 4)); refine xv (ex_move (ev_at rfl)) ?_; refine xv (ex_move (ev_at rfl)) ?_; (first | refine xv (ex_iaN (ev_at rfl) (ev_at rfl) (slT rfl) (szT rfl) (by first | assumption | exact IsSl.nil) (by omega)) ?_ | refine xv (ex_ia (ev_at rfl) (ev_at rfl) (slT rfl) (szT rfl) (by first | assumption | exact IsSl.nil) (by omega) (by omega)) ?_); (first | refine xv (ex_fa (ev_at rfl) (flT rfl)) ?_ | refine xv (ex_faE (ev_at rfl) (flT rfl) (by assumption) (by assumption)) ?_); (first | refine xv (ex_fa (ev_at rfl) (flT rfl)) ?_ | refine xv (ex_faE (ev_at rfl) (flT rfl) (by assumption) (by assumption)) ?_); refine xv (ex_load (ev_at rfl) (ldE1 (hr.rd0 hS) hv (m := i) hlt (kdT rfl) hgt)) ?_; refine xv (ex_lenStrL (ev_at rfl) (unT rfl)) ?_; refine xv (ex_cmp (ev_at rfl) (ev_const _ _) (by first | exact gtrT (by omega) | exact gtrF (by omega) | rfl)) ?_; refine wl_nil ?_)
      | ((with_reducible apply wp_region_plain (id := 5)); refine xv (ex_assign (ev_const _ _)) ?_; refine wl_nil ?_)
      | ((with_reducible apply wp_region_plain (id := 3)); refine xv (ex_move (ev_at rfl)) ?_; refine xv (ex_arith (ev_at rfl) (ev_const _ _) rfl (by first | exact IntWalk.i64_in _ (by omega) | rfl)) ?_; refine xv (ex_assign (ev_at rfl)) ?_; refine wl_nil ?_)
      | ((with_reducible apply wp_region_plain (id := 6)); refine xv (ex_move (ev_at rfl)) ?_; refine xv (ex_len (ev_at rfl) (slT rfl) (by first | assumption | exact IsSl.nil)) ?_; refine xv (ex_cmp (ev_at rfl) (ev_const _ _) (by first | exact leqT (by omega) | exact leqF (by omega) | rfl)) ?_; refine xv (ex_assign (ev_at rfl)) ?_; refine wl_nil ?_)
      | ((fail_if_success (with_reducible apply wp_region_plain)); (fail_if_success (with_reducible apply wp_region_GS)); go_step))
    refine end1 (by first | exact .inl rfl | exact .inr rfl) rfl (ResL.rt rfl ResL.rn) ?_
    exact ⟨by rw [hk], hS⟩
theorem sameIds_ct (u1 u2 : Value) (l : List Id32) (hln : l.length ≤ 1073741824) (h1 : IsSl u1 l.length) (h2 : IsSl u2 l.length) (hr1 : Rds I L u1 (flatE idC l)) (hr2 : Rds I L u2 (flatE idC l)) (hS : Sat w I L) :
    Calls Try.prog 48 #[u1, u2] w fun e w' => e = .returned (.bool true) ∧ Sat w' I L := by
  go_enter Try.func48, Try.ntmps48
  repeat' (first
    | ((with_reducible apply wp_region_plain (id := 0)); refine xv (ex_assign (ev_const _ _)) ?_; refine wl_nil ?_)
    | ((with_reducible apply wp_region_plain (id := 1)); refine xv (ex_move (ev_at rfl)) ?_; refine xv (ex_len (ev_at rfl) (slT rfl) (by first | assumption | exact IsSl.nil)) ?_; refine xv (ex_move (ev_at rfl)) ?_; refine xv (ex_len (ev_at rfl) (slT rfl) (by first | assumption | exact IsSl.nil)) ?_; refine xv (ex_cmp (ev_at rfl) (ev_at rfl) (by first | exact neqT (by omega) | exact neqF (by omega) | rfl)) ?_; refine wl_nil ?_)
    | ((with_reducible apply wp_region_plain (id := 2)); refine xv (ex_assign (ev_const _ _)) ?_; refine wl_nil ?_)
    | ((with_reducible apply wp_region_plain (id := 3)); refine xv (ex_assign (ev_const _ _)) ?_; refine wl_nil ?_)
    | ((with_reducible apply wp_region_plain (id := 4)); refine xv (ex_move (ev_at rfl)) ?_; refine xv (ex_move (ev_at rfl)) ?_; refine xv (ex_len (ev_at rfl) (slT rfl) (by first | assumption | exact IsSl.nil)) ?_; refine xv (ex_cmp (ev_at rfl) (ev_at rfl) (by first | exact lssT (by omega) | exact lssF (by omega) | rfl)) ?_; refine wl_nil ?_)
    | ((with_reducible apply wp_region_GS (id := 6) 9 (fun j => [0, 1, 2, 3, 4, 5, 6, 7, 8].contains j) mixed); rfl; exact hS; (clear hS; intro w hS); refine xp 0 rfl rfl (fun w => ex_move (ev_at rfl)) ?_; refine xp 1 rfl rfl (fun w => ex_move (ev_at rfl)) ?_; (first | refine xp 2 rfl rfl (fun w => ex_iaN (ev_at rfl) (ev_at rfl) (slT rfl) (szT rfl) (by first | assumption | exact IsSl.nil) (by omega)) ?_ | refine xp 2 rfl rfl (fun w => ex_ia (ev_at rfl) (ev_at rfl) (slT rfl) (szT rfl) (by first | assumption | exact IsSl.nil) (by omega) (by omega)) ?_); refine xr 3 hS rfl rfl (fun w X hS => ex_load (ev_at rfl) (ldN hS (kdT rfl) (szT rfl) rfl)) ?_; refine xp 4 rfl rfl (fun w => ex_move (ev_at rfl)) ?_; refine xp 5 rfl rfl (fun w => ex_move (ev_at rfl)) ?_; (first | refine xp 6 rfl rfl (fun w => ex_iaN (ev_at rfl) (ev_at rfl) (slT rfl) (szT rfl) (by first | assumption | exact IsSl.nil) (by omega)) ?_ | refine xp 6 rfl rfl (fun w => ex_ia (ev_at rfl) (ev_at rfl) (slT rfl) (szT rfl) (by first | assumption | exact IsSl.nil) (by omega) (by omega)) ?_); refine xr 7 hS rfl rfl (fun w X hS => ex_load (ev_at rfl) (ldN hS (kdT rfl) (szT rfl) rfl)) ?_; refine xp 8 rfl rfl (fun w => ex_neqArr (ev_at rfl) (ev_at rfl) (by fail)) ?_; refine wg_end (by decide +kernel) ?_)
    | ((with_reducible apply wp_region_plain (id := 7)); refine xv (ex_assign (ev_const _ _)) ?_; refine wl_nil ?_)
    | ((with_reducible apply wp_region_plain (id := 5)); refine xv (ex_move (ev_at rfl)) ?_; refine xv (ex_arith (ev_at rfl) (ev_const _ _) rfl (by first | exact IntWalk.i64_in _ (by omega) | rfl)) ?_; refine xv (ex_assign (ev_at rfl)) ?_; refine wl_nil ?_)
    | ((with_reducible apply wp_region_plain (id := 8)); refine xv (ex_assign (ev_const _ _)) ?_; refine wl_nil ?_)
    | ((fail_if_success (with_reducible apply wp_region_plain)); (fail_if_success (with_reducible apply wp_region_GS)); go_step))
  refine wp_loopM [false, false, false, false, true, true, false, false, false, false, false, true, true, true, true, true, true, true, true, true, true, true, true, true, true, true] (fun n f w => ∃ (i : Nat), n = l.length - i ∧ f 5 = .int .i64 i ∧ i ≤ l.length ∧ Sat w I L) rfl l.length ⟨0, rfl, rfl, by omega, hS⟩ ?_
  clear hS
  rintro n f w ⟨i, rfl, h5, hi, hS⟩
  simp only [havoc, Nat.reduceAdd, h5]
  by_cases hlt : i < l.length
  case neg =>
    repeat' (first
      | ((with_reducible apply wp_region_plain (id := 0)); refine xv (ex_assign (ev_const _ _)) ?_; refine wl_nil ?_)
      | ((with_reducible apply wp_region_plain (id := 1)); refine xv (ex_move (ev_at rfl)) ?_; refine xv (ex_len (ev_at rfl) (slT rfl) (by first | assumption | exact IsSl.nil)) ?_; refine xv (ex_move (ev_at rfl)) ?_; refine xv (ex_len (ev_at rfl) (slT rfl) (by first | assumption | exact IsSl.nil)) ?_; refine xv (ex_cmp (ev_at rfl) (ev_at rfl) (by first | exact neqT (by omega) | exact neqF (by omega) | rfl)) ?_; refine wl_nil ?_)
      | ((with_reducible apply wp_region_plain (id := 2)); refine xv (ex_assign (ev_const _ _)) ?_; refine wl_nil ?_)
      | ((with_reducible apply wp_region_plain (id := 3)); refine xv (ex_assign (ev_const _ _)) ?_; refine wl_nil ?_)
      | ((with_reducible apply wp_region_plain (id := 4)); refine xv (ex_move (ev_at rfl)) ?_; refine xv (ex_move (ev_at rfl)) ?_; refine xv (ex_len (ev_at rfl) (slT rfl) (by first | assumption | exact IsSl.nil)) ?_; refine xv (ex_cmp (ev_at rfl) (ev_at rfl) (by first | exact lssT (by omega) | exact lssF (by omega) | rfl)) ?_; refine wl_nil ?_)
      | ((with_reducible apply wp_region_GS (id := 6) 9 (fun j => [0, 1, 2, 3, 4, 5, 6, 7, 8].contains j) mixed); rfl; exact hS; (clear hS; intro w hS); refine xp 0 rfl rfl (fun w => ex_move (ev_at rfl)) ?_; refine xp 1 rfl rfl (fun w => ex_move (ev_at rfl)) ?_; (first | refine xp 2 rfl rfl (fun w => ex_iaN (ev_at rfl) (ev_at rfl) (slT rfl) (szT rfl) (by first | assumption | exact IsSl.nil) (by omega)) ?_ | refine xp 2 rfl rfl (fun w => ex_ia (ev_at rfl) (ev_at rfl) (slT rfl) (szT rfl) (by first | assumption | exact IsSl.nil) (by omega) (by omega)) ?_); refine xr 3 hS rfl rfl (fun w X hS => ex_load (ev_at rfl) (ldN hS (kdT rfl) (szT rfl) rfl)) ?_; refine xp 4 rfl rfl (fun w => ex_move (ev_at rfl)) ?_; refine xp 5 rfl rfl (fun w => ex_move (ev_at rfl)) ?_; (first | refine xp 6 rfl rfl (fun w => ex_iaN (ev_at rfl) (ev_at rfl) (slT rfl) (szT rfl) (by first | assumption | exact IsSl.nil) (by omega)) ?_ | refine xp 6 rfl rfl (fun w => ex_ia (ev_at rfl) (ev_at rfl) (slT rfl) (szT rfl) (by first | assumption | exact IsSl.nil) (by omega) (by omega)) ?_); refine xr 7 hS rfl rfl (fun w X hS => ex_load (ev_at rfl) (ldN hS (kdT rfl) (szT rfl) rfl)) ?_; refine xp 8 rfl rfl (fun w => ex_neqArr (ev_at rfl) (ev_at rfl) (by fail)) ?_; refine wg_end (by decide +kernel) ?_)
      | ((with_reducible apply wp_region_plain (id := 7)); refine xv (ex_assign (ev_const _ _)) ?_; refine wl_nil ?_)
      | ((with_reducible apply wp_region_plain (id := 5)); refine xv (ex_move (ev_at rfl)) ?_; refine xv (ex_arith (ev_at rfl) (ev_const _ _) rfl (by first | exact IntWalk.i64_in _ (by omega) | rfl)) ?_; refine xv (ex_assign (ev_at rfl)) ?_; refine wl_nil ?_)
      | ((with_reducible apply wp_region_plain (id := 8)); refine xv (ex_assign (ev_const _ _)) ?_; refine wl_nil ?_)
      | ((fail_if_success (with_reducible apply wp_region_plain)); (fail_if_success (with_reducible apply wp_region_GS)); go_step))
    refine end1 (by first | exact .inl rfl | exact .inr rfl) rfl (ResL.rt rfl ResL.rn) ?_
    exact ⟨rfl, hS⟩
  have hg : l[i]? = some l[i] := List.getElem?_eq_getElem hlt
  generalize l[i] = x at hg
  have hdc : (!decide (x = x)) = false := by simp
  repeat' (first
    | ((with_reducible apply wp_region_plain (id := 0)); refine xv (ex_assign (ev_const _ _)) ?_; refine wl_nil ?_)
    | ((with_reducible apply wp_region_plain (id := 1)); refine xv (ex_move (ev_at rfl)) ?_; refine xv (ex_len (ev_at rfl) (slT rfl) (by first | assumption | exact IsSl.nil)) ?_; refine xv (ex_move (ev_at rfl)) ?_; refine xv (ex_len (ev_at rfl) (slT rfl) (by first | assumption | exact IsSl.nil)) ?_; refine xv (ex_cmp (ev_at rfl) (ev_at rfl) (by first | exact neqT (by omega) | exact neqF (by omega) | rfl)) ?_; refine wl_nil ?_)
    | ((with_reducible apply wp_region_plain (id := 2)); refine xv (ex_assign (ev_const _ _)) ?_; refine wl_nil ?_)
    | ((with_reducible apply wp_region_plain (id := 3)); refine xv (ex_assign (ev_const _ _)) ?_; refine wl_nil ?_)
    | ((with_reducible apply wp_region_plain (id := 4)); refine xv (ex_move (ev_at rfl)) ?_; refine xv (ex_move (ev_at rfl)) ?_; refine xv (ex_len (ev_at rfl) (slT rfl) (by first | assumption | exact IsSl.nil)) ?_; refine xv (ex_cmp (ev_at rfl) (ev_at rfl) (by first | exact lssT (by omega) | exact lssF (by omega) | rfl)) ?_; refine wl_nil ?_)
    | ((with_reducible apply wp_region_GS (id := 6) 9 (fun j => [0, 1, 2, 3, 4, 5, 6, 7, 8].contains j) mixed); rfl; exact hS; (clear hS; intro w hS); refine xp 0 rfl rfl (fun w => ex_move (ev_at rfl)) ?_; refine xp 1 rfl rfl (fun w => ex_move (ev_at rfl)) ?_; (first | refine xp 2 rfl rfl (fun w => ex_iaN (ev_at rfl) (ev_at rfl) (slT rfl) (szT rfl) (by first | assumption | exact IsSl.nil) (by omega)) ?_ | refine xp 2 rfl rfl (fun w => ex_ia (ev_at rfl) (ev_at rfl) (slT rfl) (szT rfl) (by first | assumption | exact IsSl.nil) (by omega) (by omega)) ?_); refine xr 3 hS rfl rfl (fun w X hS => ex_load (ev_at rfl) (ldEl elId (hr1.rd hS) h1 (i := i) hlt hg (kdT rfl) (szT rfl))) ?_; refine xp 4 rfl rfl (fun w => ex_move (ev_at rfl)) ?_; refine xp 5 rfl rfl (fun w => ex_move (ev_at rfl)) ?_; (first | refine xp 6 rfl rfl (fun w => ex_iaN (ev_at rfl) (ev_at rfl) (slT rfl) (szT rfl) (by first | assumption | exact IsSl.nil) (by omega)) ?_ | refine xp 6 rfl rfl (fun w => ex_ia (ev_at rfl) (ev_at rfl) (slT rfl) (szT rfl) (by first | assumption | exact IsSl.nil) (by omega) (by omega)) ?_); refine xr 7 hS rfl rfl (fun w X hS => ex_load (ev_at rfl) (ldEl elId (hr2.rd hS) h2 (i := i) hlt hg (kdT rfl) (szT rfl))) ?_; refine xp 8 rfl rfl (fun w => ex_neqId (i := x) (j := x) (ev_at rfl) (ev_at rfl) rfl rfl hdc (arT rfl) (inT rfl) (szT rfl) agId) ?_; refine wg_end (by decide +kernel) ?_)
    | ((with_reducible apply wp_region_plain (id := 7)); refine xv (ex_assign (ev_const _ _)) ?_; refine wl_nil ?_)
    | ((with_reducible apply wp_region_plain (id := 5)); refine xv (ex_move (ev_at rfl)) ?_; refine xv (ex_arith (ev_at rfl) (ev_const _ _) rfl (by first | exact IntWalk.i64_in _ (by omega) | rfl)) ?_; refine xv (ex_assign (ev_at rfl)) ?_; refine wl_nil ?_)
    | ((with_reducible apply wp_region_plain (id := 8)); refine xv (ex_assign (ev_const _ _)) ?_; refine wl_nil ?_)
    | ((fail_if_success (with_reducible apply wp_region_plain)); (fail_if_success (with_reducible apply wp_region_GS)); go_step))
  exact loopEndM rfl (l.length - (i + 1)) ⟨i + 1, rfl, rfl, by omega, hS⟩ (by omega)
end
end Go.Proofs.Try
