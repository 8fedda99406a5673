/- The device: contracts (4): store, Write. -/
import Derived.Test.YthbakafjhgcieaaDC3
namespace Go.Proofs.Try
open Go.RowKit Go.SL Go.DK
set_option maxRecDepth 100000
set_option linter.unusedSimpArgs false
set_option linter.unusedVariables false
section
variable {w : World} {I : Gh} {L : List Ch}
theorem zeros_rep : SL.rep 256 [Value.int .u8 0] = zSec.map byteV := by rw [rep_byte]; rfl
set_option maxHeartbeats 1000000 in
theorem store_ct (b m : Nat) (k : Int) (bs : List UInt8) (s pv ops lm lt dn : Value) (dur : List (Int × List UInt8)) (hb : bs.length = 256) (hS : Sat w I (Cells b 71 [s, .map (some m), pv, ops, lm, lt, dn] :: MapI m (dkv dur) :: L)) :
    Calls Try.prog 35 #[.pointer (some ⟨b, 0, none⟩), .int .i64 k, secV bs] w fun e w' => e = .returned (.tuple #[]) ∧ Sat w' I (Cells b 71 [s, .map (some m), pv, ops, lm, lt, dn] :: MapI m (dkv (put dur k bs)) :: L) := by
  go_enter Try.func35, Try.ntmps35
  repeat' (first
    | ((with_reducible apply wp_region_plain (id := 0)); refine wl_of rfl (wp_boxN (ev_at rfl) hS fun b5 w hS => wl_put (by simp only [lset] <;> rfl) ?_); refine wl_nil ?_)
    | ((with_reducible apply wp_region_plain (id := 1)); refine xv (ex_load (ev_at rfl) (by first | exact ldN hS (kdT rfl) (szT rfl) rfl | exact ldW hS (kdT rfl) (szT rfl) (by simpa using hb))) ?_; refine xv (ex_buildA (arT rfl) (szT rfl) (zeT rfl) Fills.nil) ?_; refine xv (ex_eqlArr (ev_at rfl) (ev_at rfl) (l := bs) (r := zSec) rfl (by simp [zSec, byteV]) (arT rfl) (inT rfl) (szT rfl) hb rfl (by kernel_rfl)) ?_; refine wl_nil ?_)
    | ((with_reducible apply wp_region_plain (id := 2)); refine xv (ex_move (ev_at rfl)) ?_; (first | refine xv (ex_nilCheck (ev_at rfl)) ?_ | refine xv (ex_nilCheckF (ev_at rfl)) ?_); (first | refine xv (ex_fa (ev_at rfl) (flT rfl)) ?_ | refine xv (ex_faE (ev_at rfl) (flT rfl) (by assumption) (by assumption)) ?_); refine xv (ex_load (ev_at rfl) (by first | exact ld1 hS (kdT rfl) rfl | exact ldW hS (kdT rfl) (szT rfl) (by simpa using hb))) ?_; refine xv (ex_move (ev_at rfl)) ?_; refine wl_of rfl (wp_delete (ev_at rfl) (ev_at rfl) (unT rfl) (unT rfl) hS fun w hS => wl_put0 ?_); refine wl_nil ?_)
    | ((with_reducible apply wp_region_GS (id := 3) 7 (fun j => [0, 1, 2, 3, 4, 5].contains j) mixed); rfl; exact hS; (clear hS; intro w hS); refine xp 0 rfl rfl (fun w => ex_move (ev_at rfl)) ?_; (first | refine xp 1 rfl rfl (fun w => ex_nilCheck (ev_at rfl)) ?_ | refine xp 1 rfl rfl (fun w => ex_nilCheckF (ev_at rfl)) ?_); (first | refine xp 2 rfl rfl (fun w => ex_fa (ev_at rfl) (flT rfl)) ?_ | refine xp 2 rfl rfl (fun w => ex_faE (ev_at rfl) (flT rfl) (by assumption) (by assumption)) ?_); refine xr 3 hS rfl rfl (fun w X hS => ex_load (ev_at rfl) (by first | exact ld1 hS (kdT rfl) rfl | exact ldW hS (kdT rfl) (szT rfl) (by simpa using hb))) ?_; refine xp 4 rfl rfl (fun w => ex_move (ev_at rfl)) ?_; refine xr 5 hS rfl rfl (fun w X hS => ex_load (ev_at rfl) (by first | exact ldN hS (kdT rfl) (szT rfl) rfl | exact ldW hS (kdT rfl) (szT rfl) (by simpa using hb))) ?_; refine wg_loud 6 (by decide +kernel) rfl rfl (wp_mapUpdate (ev_at rfl) (ev_at rfl) (ev_at rfl) (unT rfl) (unT rfl) hS fun w hS => ⟨gsF rfl, wg_n ?_⟩); refine wg_end (by decide +kernel) ?_)
    | ((fail_if_success (with_reducible apply wp_region_plain)); (fail_if_success (with_reducible apply wp_region_GS)); go_step))
  · skip
    refine endN (by first | exact .inl rfl | exact .inr rfl) rfl ResL.rn rfl ?_
    have hz : bs = zSec := by simpa using ‹(bs == zSec) = true›
    refine ⟨rfl, ?_⟩
    have := hS.drop
    rw [dkv, kvDel_map] at this
    simpa [put, hz, dkv] using this
  · skip
    refine endN (by first | exact .inl rfl | exact .inr rfl) rfl ResL.rn rfl ?_
    have hz : ¬ bs = zSec := by simpa using ‹(bs == zSec) = false›
    refine ⟨rfl, ?_⟩
    have := hS.drop
    rw [dkv, show Value.agg (List.map byteV bs).toArray = secV bs from rfl, kvSet_map] at this
    simpa [put, hz, dkv] using this

set_option maxHeartbeats 1000000 in
theorem write_ct (b : Nat) (D : DS) (k : Int) (bs : List UInt8) (bv : Value) (hv : IsSl bv bs.length) (hr : Rds I L bv (bs.map byteV)) (hk : D.pend.length < 1000) (hp : ∀ p ∈ D.pend, p.2.length = 256) (hS : Sat w I (DiskC b D :: L)) :
    Calls Try.prog 18 #[.pointer (some ⟨b, 0, none⟩), .int .i64 k, bv] w fun e w' => e = .returned (.int .i64 (D.write k bs).2) ∧ Sat w' I (DiskC b (D.write k bs).1 :: L) := by
  obtain ⟨m, pv, hS⟩ := disk_open hS
  cases D with | mk n dur pend ops limd lim down => ?_
  simp only at hS hk hp ⊢
  cases down with
  | true =>
    go_enter Try.func18, Try.ntmps18
    repeat' (first
      | ((with_reducible apply wp_region_plain (id := 0)); refine xv (ex_assign (ev_const _ _)) ?_; refine wl_nil ?_)
      | ((with_reducible apply wp_region_plain (id := 1)); refine xv (ex_move (ev_at rfl)) ?_; (first | refine xv (ex_eqlPtrS (ev_at rfl) (ev_const _ _) (unT rfl)) ?_ | refine xv (ex_eqlPtrN (ev_at rfl) (ev_const _ _) (unT rfl)) ?_ | refine xv (ex_eqlPtr (ev_at rfl) (ev_const _ _) (unT rfl)) ?_); refine xv (ex_assign (ev_at rfl)) ?_; refine wl_nil ?_)
      | ((with_reducible apply wp_region_plain (id := 3)); refine xv (ex_move (ev_at rfl)) ?_; (first | refine xv (ex_nilCheck (ev_at rfl)) ?_ | refine xv (ex_nilCheckF (ev_at rfl)) ?_); (first | refine xv (ex_fa (ev_at rfl) (flT rfl)) ?_ | refine xv (ex_faE (ev_at rfl) (flT rfl) (by assumption) (by assumption)) ?_); refine xv (ex_load (ev_at rfl) (ld1 hS (kdT rfl) rfl)) ?_; refine xv (ex_assign (ev_at rfl)) ?_; refine wl_nil ?_)
      | ((with_reducible apply wp_region_plain (id := 4)); refine xv (ex_assign (ev_const _ _)) ?_; refine wl_nil ?_)
      | ((fail_if_success (with_reducible apply wp_region_plain)); (fail_if_success (with_reducible apply wp_region_GS)); go_step))
    refine end1 (by first | exact .inl rfl | exact .inr rfl) rfl (ResL.rt rfl ResL.rn) ?_
    exact ⟨rfl, disk_shut hS⟩
  | false =>
    by_cases h1 : 0 ≤ k ∧ k < n
    · by_cases h2 : bs.length = 256
      · by_cases h3 : limd = true ∧ lim = 0
        · obtain ⟨rfl, rfl⟩ := h3
          go_enter Try.func18, Try.ntmps18
          repeat' (first
            | ((with_reducible apply wp_region_plain (id := 0)); refine xv (ex_assign (ev_const _ _)) ?_; refine wl_nil ?_)
            | ((with_reducible apply wp_region_plain (id := 1)); refine xv (ex_move (ev_at rfl)) ?_; (first | refine xv (ex_eqlPtrS (ev_at rfl) (ev_const _ _) (unT rfl)) ?_ | refine xv (ex_eqlPtrN (ev_at rfl) (ev_const _ _) (unT rfl)) ?_ | refine xv (ex_eqlPtr (ev_at rfl) (ev_const _ _) (unT rfl)) ?_); refine xv (ex_assign (ev_at rfl)) ?_; refine wl_nil ?_)
            | ((with_reducible apply wp_region_plain (id := 3)); refine xv (ex_move (ev_at rfl)) ?_; (first | refine xv (ex_nilCheck (ev_at rfl)) ?_ | refine xv (ex_nilCheckF (ev_at rfl)) ?_); (first | refine xv (ex_fa (ev_at rfl) (flT rfl)) ?_ | refine xv (ex_faE (ev_at rfl) (flT rfl) (by assumption) (by assumption)) ?_); refine xv (ex_load (ev_at rfl) (ld1 hS (kdT rfl) rfl)) ?_; refine xv (ex_assign (ev_at rfl)) ?_; refine wl_nil ?_)
            | ((with_reducible apply wp_region_plain (id := 5)); refine xv (ex_move (ev_at rfl)) ?_; refine xv (ex_move (ev_at rfl)) ?_; refine wl_of rfl (wp_callL (cbT rfl) (EvL.c (ev_at rfl) (EvL.c (ev_at rfl) EvL.n)) ?_); refine (has_t b _ _ _ _ _ _ _ _ h1 hS).mono ?_; rintro e w ⟨rfl, hS⟩; refine ⟨_, rfl, wl_put (by simp only [lset] <;> rfl) ?_⟩; refine xv (ex_not (ev_at rfl)) ?_; refine xv (ex_assign (ev_at rfl)) ?_; refine wl_nil ?_)
            | ((with_reducible apply wp_region_plain (id := 7)); refine xv (ex_move (ev_at rfl)) ?_; refine xv (ex_len (ev_at rfl) (slT rfl) (by first | assumption | exact IsSl.nil)) ?_; refine xv (ex_cmp (ev_at rfl) (ev_const _ _) (by first | exact neqT (by omega) | exact neqF (by omega) | rfl)) ?_; refine xv (ex_assign (ev_at rfl)) ?_; refine wl_nil ?_)
            | ((with_reducible apply wp_region_plain (id := 9)); refine xv (ex_move (ev_at rfl)) ?_; refine wl_of rfl (wp_callL (cbT rfl) (EvL.c (ev_at rfl) EvL.n) ?_); refine (operate_down b _ _ _ _ _ hS).mono ?_; rintro e w ⟨rfl, hS⟩; refine ⟨_, rfl, wl_put (by simp only [lset] <;> rfl) ?_⟩; refine xv (ex_assign (ev_at rfl)) ?_; refine wl_nil ?_)
            | ((with_reducible apply wp_region_plain (id := 10)); refine xv (ex_move (ev_at rfl)) ?_; refine xv (ex_cmp (ev_at rfl) (ev_const _ _) (by first | exact neqT (by omega) | exact neqF (by omega) | rfl)) ?_; refine wl_nil ?_)
            | ((with_reducible apply wp_region_plain (id := 11)); refine xv (ex_move (ev_at rfl)) ?_; refine xv (ex_assign (ev_at rfl)) ?_; refine wl_nil ?_)
            | ((fail_if_success (with_reducible apply wp_region_plain)); (fail_if_success (with_reducible apply wp_region_GS)); go_step))
          refine end1 (by first | exact .inl rfl | exact .inr rfl) rfl (ResL.rt rfl ResL.rn) ?_
          refine ⟨by simp [DS.write, h1, h2, DS.crash], ?_⟩
          have := disk_shut (D := ⟨n, dur, pend, ops, true, 0, true⟩) hS
          simpa [DS.write, h1, h2, DS.crash] using this
        · go_enter Try.func18, Try.ntmps18
          repeat' (first
            | ((with_reducible apply wp_region_plain (id := 0)); refine xv (ex_assign (ev_const _ _)) ?_; refine wl_nil ?_)
            | ((with_reducible apply wp_region_plain (id := 1)); refine xv (ex_move (ev_at rfl)) ?_; (first | refine xv (ex_eqlPtrS (ev_at rfl) (ev_const _ _) (unT rfl)) ?_ | refine xv (ex_eqlPtrN (ev_at rfl) (ev_const _ _) (unT rfl)) ?_ | refine xv (ex_eqlPtr (ev_at rfl) (ev_const _ _) (unT rfl)) ?_); refine xv (ex_assign (ev_at rfl)) ?_; refine wl_nil ?_)
            | ((with_reducible apply wp_region_plain (id := 3)); refine xv (ex_move (ev_at rfl)) ?_; (first | refine xv (ex_nilCheck (ev_at rfl)) ?_ | refine xv (ex_nilCheckF (ev_at rfl)) ?_); (first | refine xv (ex_fa (ev_at rfl) (flT rfl)) ?_ | refine xv (ex_faE (ev_at rfl) (flT rfl) (by assumption) (by assumption)) ?_); refine xv (ex_load (ev_at rfl) (by first | exact ld1 hS (kdT rfl) rfl | exact ldA (hr.rd hS) hv (by omega) (kdT rfl) (szT rfl) (by simpa using h2))) ?_; refine xv (ex_assign (ev_at rfl)) ?_; refine wl_nil ?_)
            | ((with_reducible apply wp_region_plain (id := 5)); refine xv (ex_move (ev_at rfl)) ?_; refine xv (ex_move (ev_at rfl)) ?_; refine wl_of rfl (wp_callL (cbT rfl) (EvL.c (ev_at rfl) (EvL.c (ev_at rfl) EvL.n)) ?_); refine (has_t b _ _ _ _ _ _ _ _ h1 hS).mono ?_; rintro e w ⟨rfl, hS⟩; refine ⟨_, rfl, wl_put (by simp only [lset] <;> rfl) ?_⟩; refine xv (ex_not (ev_at rfl)) ?_; refine xv (ex_assign (ev_at rfl)) ?_; refine wl_nil ?_)
            | ((with_reducible apply wp_region_plain (id := 7)); refine xv (ex_move (ev_at rfl)) ?_; refine xv (ex_len (ev_at rfl) (slT rfl) (by first | assumption | exact IsSl.nil)) ?_; refine xv (ex_cmp (ev_at rfl) (ev_const _ _) (by first | exact neqT (by omega) | exact neqF (by omega) | rfl)) ?_; refine xv (ex_assign (ev_at rfl)) ?_; refine wl_nil ?_)
            | ((with_reducible apply wp_region_plain (id := 9)); refine xv (ex_move (ev_at rfl)) ?_; refine wl_of rfl (wp_callL (cbT rfl) (EvL.c (ev_at rfl) EvL.n) ?_); refine (operate_ok b _ _ _ _ _ _ _ (by intro h h'; exact h3 ⟨h, h'⟩) hS).mono ?_; rintro e w ⟨rfl, hS⟩; refine ⟨_, rfl, wl_put (by simp only [lset] <;> rfl) ?_⟩; refine xv (ex_assign (ev_at rfl)) ?_; refine wl_nil ?_)
            | ((with_reducible apply wp_region_plain (id := 10)); refine xv (ex_move (ev_at rfl)) ?_; refine xv (ex_cmp (ev_at rfl) (ev_const _ _) (by first | exact neqT (by omega) | exact neqF (by omega) | rfl)) ?_; refine wl_nil ?_)
            | ((with_reducible apply wp_region_GS (id := 12) 15 (fun j => [0, 1, 2, 3, 4, 5, 6, 7, 8, 9, 10, 12, 13].contains j) mixed); rfl; exact hS; (clear hS; intro w hS); refine xp 0 rfl rfl (fun w => ex_move (ev_at rfl)) ?_; refine xp 1 rfl rfl (fun w => ex_move (ev_at rfl)) ?_; (first | refine xp 2 rfl rfl (fun w => ex_nilCheck (ev_at rfl)) ?_ | refine xp 2 rfl rfl (fun w => ex_nilCheckF (ev_at rfl)) ?_); (first | refine xp 3 rfl rfl (fun w => ex_fa (ev_at rfl) (flT rfl)) ?_ | refine xp 3 rfl rfl (fun w => ex_faE (ev_at rfl) (flT rfl) (by assumption) (by assumption)) ?_); refine xr 4 hS rfl rfl (fun w X hS => ex_load (ev_at rfl) (by first | exact ld1 hS (kdT rfl) rfl | exact ldA (hr.rd hS) hv (by omega) (kdT rfl) (szT rfl) (by simpa using h2))) ?_; refine xp 5 rfl rfl (fun w => ex_move (ev_at rfl)) ?_; refine xp 6 rfl rfl (fun w => ex_move (ev_at rfl)) ?_; refine xp 7 rfl rfl (fun w => ex_arrPtr (ev_at rfl) (arT rfl) (by first | assumption | exact IsSl.nil) (by omega) (by omega)) ?_; refine xr 8 hS rfl rfl (fun w X hS => ex_load (ev_at rfl) (by first | exact ldN hS (kdT rfl) (szT rfl) rfl | exact ldA (hr.rd hS) hv (by omega) (kdT rfl) (szT rfl) (by simpa using h2))) ?_; refine xp 9 rfl rfl (fun w => ex_buildS (plT rfl) (zeT rfl) (fillsPair (ev_at rfl) (ev_at rfl) rfl (by simpa using h2) rfl)) ?_; refine wg_loud 10 (by decide +kernel) rfl rfl (wp_buildSlice (slT rfl) (szT rfl) (zeT rfl) (fillsOneN (ev_at rfl) (by simp [h2]) rfl) hS (by simp [h2]) (by simp only [List.all_cons, byteV_all]; rfl) fun b40 w hS => ⟨gsT hS, wg_p (by simp only [lset] <;> rfl) ?_⟩); refine wg_loud 11 (by decide +kernel) rfl rfl (wp_append1 (ev_at rfl) (ev_at rfl) (slT rfl) (szT rfl) (byT rfl) (zeT rfl) hS (by omega) (by omega) rfl fun v41 w hS hv41 => ⟨gsF rfl, wg_p (by simp only [lset] <;> rfl) ?_⟩); (first | refine xp 12 rfl rfl (fun w => ex_nilCheck (ev_at rfl)) ?_ | refine xp 12 rfl rfl (fun w => ex_nilCheckF (ev_at rfl)) ?_); (first | refine xp 13 rfl rfl (fun w => ex_fa (ev_at rfl) (flT rfl)) ?_ | refine xp 13 rfl rfl (fun w => ex_faE (ev_at rfl) (flT rfl) (by assumption) (by assumption)) ?_); refine wg_loud 14 (by decide +kernel) rfl rfl (wp_store1 (ev_at rfl) (ev_at rfl) hS (szT rfl) rfl (by first | rfl | exact IsSl.one (by assumption)) fun w hS => ⟨gsF rfl, wg_n ?_⟩); refine wg_end (by decide +kernel) ?_; (try simp only [lset, splice, sub, List.take_succ_cons, List.take_zero, List.drop_succ_cons, List.drop_zero, List.nil_append, List.cons_append, List.length_cons, List.length_nil, Nat.reduceAdd, Nat.zero_add, rep_zero] at hS))
            | ((with_reducible apply wp_region_plain (id := 13)); refine xv (ex_assign (ev_const _ _)) ?_; refine wl_nil ?_)
            | ((fail_if_success (with_reducible apply wp_region_plain)); (fail_if_success (with_reducible apply wp_region_GS)); go_step))
          refine end1 (by first | exact .inl rfl | exact .inr rfl) rfl (ResL.rt rfl ResL.rn) ?_
          have e : flatP pend ++ (Value.int .i64 k :: List.map byteV bs) = flatP (pend ++ [(k, bs)]) := by rw [flatP_append]; simp [flatP]
          have e2 : pend.length + 1 = (pend ++ [(k, bs)]).length := by simp
          rw [e, e2] at hS
          have hc : (DS.mk n dur pend ops limd lim false).crash = false := by simp [DS.crash]; intro h; exact fun h' => h3 ⟨h, h'⟩
          refine ⟨by simp [DS.write, h1, h2, hc], ?_⟩
          have := disk_shut (D := ⟨n, dur, pend ++ [(k, bs)], up (ops + 1), limd, up (lim - 1), false⟩) hS
          simpa [DS.write, h1, h2, hc, DS.tick] using this
      · go_enter Try.func18, Try.ntmps18
        repeat' (first
          | ((with_reducible apply wp_region_plain (id := 0)); refine xv (ex_assign (ev_const _ _)) ?_; refine wl_nil ?_)
          | ((with_reducible apply wp_region_plain (id := 1)); refine xv (ex_move (ev_at rfl)) ?_; (first | refine xv (ex_eqlPtrS (ev_at rfl) (ev_const _ _) (unT rfl)) ?_ | refine xv (ex_eqlPtrN (ev_at rfl) (ev_const _ _) (unT rfl)) ?_ | refine xv (ex_eqlPtr (ev_at rfl) (ev_const _ _) (unT rfl)) ?_); refine xv (ex_assign (ev_at rfl)) ?_; refine wl_nil ?_)
          | ((with_reducible apply wp_region_plain (id := 3)); refine xv (ex_move (ev_at rfl)) ?_; (first | refine xv (ex_nilCheck (ev_at rfl)) ?_ | refine xv (ex_nilCheckF (ev_at rfl)) ?_); (first | refine xv (ex_fa (ev_at rfl) (flT rfl)) ?_ | refine xv (ex_faE (ev_at rfl) (flT rfl) (by assumption) (by assumption)) ?_); refine xv (ex_load (ev_at rfl) (ld1 hS (kdT rfl) rfl)) ?_; refine xv (ex_assign (ev_at rfl)) ?_; refine wl_nil ?_)
          | ((with_reducible apply wp_region_plain (id := 5)); refine xv (ex_move (ev_at rfl)) ?_; refine xv (ex_move (ev_at rfl)) ?_; refine wl_of rfl (wp_callL (cbT rfl) (EvL.c (ev_at rfl) (EvL.c (ev_at rfl) EvL.n)) ?_); refine (has_t b _ _ _ _ _ _ _ _ h1 hS).mono ?_; rintro e w ⟨rfl, hS⟩; refine ⟨_, rfl, wl_put (by simp only [lset] <;> rfl) ?_⟩; refine xv (ex_not (ev_at rfl)) ?_; refine xv (ex_assign (ev_at rfl)) ?_; refine wl_nil ?_)
          | ((with_reducible apply wp_region_plain (id := 7)); refine xv (ex_move (ev_at rfl)) ?_; refine xv (ex_len (ev_at rfl) (slT rfl) (by first | assumption | exact IsSl.nil)) ?_; refine xv (ex_cmp (ev_at rfl) (ev_const _ _) (by first | exact neqT (by omega) | exact neqF (by omega) | rfl)) ?_; refine xv (ex_assign (ev_at rfl)) ?_; refine wl_nil ?_)
          | ((with_reducible apply wp_region_plain (id := 8)); refine xv (ex_assign (ev_const _ _)) ?_; refine wl_nil ?_)
          | ((fail_if_success (with_reducible apply wp_region_plain)); (fail_if_success (with_reducible apply wp_region_GS)); go_step))
        refine end1 (by first | exact .inl rfl | exact .inr rfl) rfl (ResL.rt rfl ResL.rn) ?_
        refine ⟨by simp [DS.write, h1, h2], ?_⟩
        have := disk_shut (D := ⟨n, dur, pend, ops, limd, lim, false⟩) hS
        simpa [DS.write, h1, h2] using this
    · go_enter Try.func18, Try.ntmps18
      repeat' (first
        | ((with_reducible apply wp_region_plain (id := 0)); refine xv (ex_assign (ev_const _ _)) ?_; refine wl_nil ?_)
        | ((with_reducible apply wp_region_plain (id := 1)); refine xv (ex_move (ev_at rfl)) ?_; (first | refine xv (ex_eqlPtrS (ev_at rfl) (ev_const _ _) (unT rfl)) ?_ | refine xv (ex_eqlPtrN (ev_at rfl) (ev_const _ _) (unT rfl)) ?_ | refine xv (ex_eqlPtr (ev_at rfl) (ev_const _ _) (unT rfl)) ?_); refine xv (ex_assign (ev_at rfl)) ?_; refine wl_nil ?_)
        | ((with_reducible apply wp_region_plain (id := 3)); refine xv (ex_move (ev_at rfl)) ?_; (first | refine xv (ex_nilCheck (ev_at rfl)) ?_ | refine xv (ex_nilCheckF (ev_at rfl)) ?_); (first | refine xv (ex_fa (ev_at rfl) (flT rfl)) ?_ | refine xv (ex_faE (ev_at rfl) (flT rfl) (by assumption) (by assumption)) ?_); refine xv (ex_load (ev_at rfl) (ld1 hS (kdT rfl) rfl)) ?_; refine xv (ex_assign (ev_at rfl)) ?_; refine wl_nil ?_)
        | ((with_reducible apply wp_region_plain (id := 5)); refine xv (ex_move (ev_at rfl)) ?_; refine xv (ex_move (ev_at rfl)) ?_; refine wl_of rfl (wp_callL (cbT rfl) (EvL.c (ev_at rfl) (EvL.c (ev_at rfl) EvL.n)) ?_); refine (has_f b _ _ _ _ _ _ _ _ h1 hS).mono ?_; rintro e w ⟨rfl, hS⟩; refine ⟨_, rfl, wl_put (by simp only [lset] <;> rfl) ?_⟩; refine xv (ex_not (ev_at rfl)) ?_; refine xv (ex_assign (ev_at rfl)) ?_; refine wl_nil ?_)
        | ((with_reducible apply wp_region_plain (id := 6)); refine xv (ex_assign (ev_const _ _)) ?_; refine wl_nil ?_)
        | ((fail_if_success (with_reducible apply wp_region_plain)); (fail_if_success (with_reducible apply wp_region_GS)); go_step))
      refine end1 (by first | exact .inl rfl | exact .inr rfl) rfl (ResL.rt rfl ResL.rn) ?_
      refine ⟨by simp [DS.write, h1], ?_⟩
      have := disk_shut (D := ⟨n, dur, pend, ops, limd, lim, false⟩) hS
      simpa [DS.write, h1] using this
end
end Go.Proofs.Try
