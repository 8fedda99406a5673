/- The device: contracts (11): Clone. -/
import Derived.Test.YthbakafjhgcieaaDD2
import Derived.Test.YthbakafjhgcieaaSLMap2
namespace Go.Proofs.Try
open Go.RowKit Go.SL Go.DK
set_option maxRecDepth 100000
set_option linter.unusedSimpArgs false
set_option linter.unusedVariables false
section
variable {w : World} {I : Gh} {L : List Ch}
theorem mclone_ct (m : Nat) (kv : List (Int × Value)) (hS : Sat w I (MapI m kv :: L)) :
    Calls Try.prog 38 #[.map (some m)] w fun e w' => ∃ m', e = .returned (.map (some m')) ∧ Sat w' I (MapI m' kv :: MapI m kv :: L) := by
  go_enter Try.func38, Try.ntmps38
  repeat' (first
    | ((with_reducible apply wp_region_plain (id := 0)); refine xv (ex_assign (ev_const _ _)) ?_; refine wl_nil ?_)
    | ((with_reducible apply wp_region_plain (id := 1)); refine xv (ex_move (ev_at rfl)) ?_; refine xv (ex_eqlMapNil (ev_at rfl) (ev_const _ _) (unT rfl)) ?_; refine wl_nil ?_)
    | ((with_reducible apply wp_region_plain (id := 2)); refine xv (ex_assign (ev_const _ _)) ?_; refine wl_nil ?_)
    | ((with_reducible apply wp_region_plain (id := 3)); refine xv (ex_move (ev_at rfl)) ?_; refine xv (ex_makeIfaceMap (ev_at rfl) (unT rfl)) ?_; refine wl_of rfl (wp_mapsClone (ev_at rfl) Try.func54 (by kernel_rfl) (by kernel_rfl) (by kernel_rfl) (by kernel_rfl) hS fun m' w hS => wl_put (by simp only [lset] <;> rfl) ?_); refine xv (ex_typeAssertMap (ev_at rfl) (unT rfl)) ?_; refine xv (ex_assign (ev_at rfl)) ?_; refine wl_nil ?_; (try simp only [lset, splice, sub, List.take_succ_cons, List.take_zero, List.drop_succ_cons, List.drop_zero, List.nil_append, List.cons_append, List.length_cons, List.length_nil, Nat.reduceAdd, Nat.zero_add, rep_zero] at hS))
    | ((fail_if_success (with_reducible apply wp_region_plain)); (fail_if_success (with_reducible apply wp_region_GS)); go_step))
  refine end1 (by first | exact .inl rfl | exact .inr rfl) rfl (ResL.rt rfl ResL.rn) ?_
  exact ⟨m', rfl, hS⟩
theorem sclone_ct (v : Value) (n : Nat) (xs : List Value) (hv : IsSl v n) (hr : Rds I L v xs) (hl : xs.length = n * 257) (ho : Oc xs) (hn : n ≤ 1000) (hS : Sat w I L) :
    Calls Try.prog 39 #[v] w fun e w' => ∃ u, e = .returned u ∧ Sat w' I (Row u 75 257 n xs :: L) := by
  obtain ⟨q, cap, rfl, h1, h2⟩ := id hv
  cases q with
  | none =>
    have h3 := h2 rfl
    subst h3
    have : xs = [] := List.eq_nil_of_length_eq_zero (by simpa using hl)
    subst this
    go_enter Try.func39, Try.ntmps39
    repeat' (first
      | ((with_reducible apply wp_region_plain (id := 0)); refine xv (ex_assign (ev_const _ _)) ?_; refine wl_nil ?_)
      | ((with_reducible apply wp_region_plain (id := 1)); refine xv (ex_move (ev_at rfl)) ?_; refine xv (ex_eqlSliceNil (ev_at rfl) (ev_const _ _) (unT rfl)) ?_; refine wl_nil ?_)
      | ((with_reducible apply wp_region_plain (id := 2)); refine xv (ex_assign (ev_const _ _)) ?_; refine wl_nil ?_)
      | ((with_reducible apply wp_region_plain (id := 3)); refine wl_of rfl (wp_buildSlice (slT rfl) (szT rfl) (zeT rfl) Fills.nil hS rfl (by first | rfl | assumption) fun b5 w hS => wl_put (by simp only [lset] <;> rfl) ?_); refine xv (ex_move (ev_at rfl)) ?_; refine wl_of rfl (wp_append (ev_at rfl) (ev_at rfl) (slT rfl) (szT rfl) (byT rfl) (zeT rfl) hS (by first | exact srcR hS | exact srcI hS (by assumption) (by assumption)) (by omega) (by omega) rfl fun v7 w hS hv7 => wl_put (by simp only [lset] <;> rfl) ?_); refine xv (ex_assign (ev_at rfl)) ?_; refine wl_nil ?_; (try simp only [lset, splice, sub, List.take_succ_cons, List.take_zero, List.drop_succ_cons, List.drop_zero, List.nil_append, List.cons_append, List.length_cons, List.length_nil, Nat.reduceAdd, Nat.zero_add, rep_zero] at hS))
      | ((fail_if_success (with_reducible apply wp_region_plain)); (fail_if_success (with_reducible apply wp_region_GS)); go_step))
    refine end1 (by first | exact .inl rfl | exact .inr rfl) rfl (ResL.rt rfl ResL.rn) ?_
    exact ⟨_, rfl, hS.nilRow _ _⟩
  | some q =>
    go_enter Try.func39, Try.ntmps39
    repeat' (first
      | ((with_reducible apply wp_region_plain (id := 0)); refine xv (ex_assign (ev_const _ _)) ?_; refine wl_nil ?_)
      | ((with_reducible apply wp_region_plain (id := 1)); refine xv (ex_move (ev_at rfl)) ?_; refine xv (ex_eqlSliceNil (ev_at rfl) (ev_const _ _) (unT rfl)) ?_; refine wl_nil ?_)
      | ((with_reducible apply wp_region_plain (id := 2)); refine xv (ex_assign (ev_const _ _)) ?_; refine wl_nil ?_)
      | ((with_reducible apply wp_region_plain (id := 3)); refine wl_of rfl (wp_buildSlice (slT rfl) (szT rfl) (zeT rfl) Fills.nil hS rfl (by first | rfl | assumption) fun b5 w hS => wl_put (by simp only [lset] <;> rfl) ?_); refine xv (ex_move (ev_at rfl)) ?_; refine wl_of rfl (wp_append (ev_at rfl) (ev_at rfl) (slT rfl) (szT rfl) (byT rfl) (zeT rfl) hS (hr.src hS hv hl ho) (by omega) (by omega) rfl fun v7 w hS hv7 => wl_put (by simp only [lset] <;> rfl) ?_); refine xv (ex_assign (ev_at rfl)) ?_; refine wl_nil ?_; (try simp only [lset, splice, sub, List.take_succ_cons, List.take_zero, List.drop_succ_cons, List.drop_zero, List.nil_append, List.cons_append, List.length_cons, List.length_nil, Nat.reduceAdd, Nat.zero_add, rep_zero] at hS))
      | ((fail_if_success (with_reducible apply wp_region_plain)); (fail_if_success (with_reducible apply wp_region_GS)); go_step))
    refine end1 (by first | exact .inl rfl | exact .inr rfl) rfl (ResL.rt rfl ResL.rn) ?_
    exact ⟨_, rfl, by simpa using hS⟩
set_option maxHeartbeats 4000000 in
theorem clone_ct (b : Nat) (D : DS) (hD : D.Ok) (hp : D.pend.length < 1000) (hS : Sat w I (DiskC b D :: L)) :
    Calls Try.prog 24 #[.pointer (some ⟨b, 0, none⟩)] w fun e w' => ∃ b', e = .returned (.pointer (some ⟨b', 0, none⟩)) ∧ Sat w' I (DiskC b' D :: DiskC b D :: L) := by
  obtain ⟨m, pv, hS⟩ := disk_open hS
  obtain ⟨hv, hl, -, -, ho⟩ := hS.row 2 rfl
  go_enter Try.func24, Try.ntmps24
  repeat' (first
    | ((with_reducible apply wp_region_plain (id := 0)); refine xv (ex_assign (ev_const _ _)) ?_; refine wl_nil ?_)
    | ((with_reducible apply wp_region_plain (id := 1)); refine xv (ex_move (ev_at rfl)) ?_; (first | refine xv (ex_eqlPtrS (ev_at rfl) (ev_const _ _) (unT rfl)) ?_ | refine xv (ex_eqlPtrN (ev_at rfl) (ev_const _ _) (unT rfl)) ?_ | refine xv (ex_eqlPtr (ev_at rfl) (ev_const _ _) (unT rfl)) ?_); refine wl_nil ?_)
    | ((with_reducible apply wp_region_plain (id := 2)); refine xv (ex_assign (ev_const _ _)) ?_; refine wl_nil ?_)
    | ((with_reducible apply wp_region_plain (id := 3)); refine xv (ex_move (ev_at rfl)) ?_; (first | refine xv (ex_nilCheck (ev_at rfl)) ?_ | refine xv (ex_nilCheckF (ev_at rfl)) ?_); refine xv (ex_load (ev_at rfl) (ldN hS (kdT rfl) (szT rfl) rfl)) ?_; refine wl_of rfl (wp_alloc hS (zeT rfl) fun b3 w hS => wl_put (by simp only [lset] <;> rfl) ?_); refine wl_of rfl (wp_storeN (ev_at rfl) (ev_at rfl) hS (szT rfl) rfl (by first | rfl | assumption | (simp only [sub, splice, List.take_succ_cons, List.take_zero, List.drop_succ_cons, List.drop_zero, List.nil_append, List.cons_append, List.length_cons, List.length_nil, Nat.reduceAdd, List.all_cons, List.all_nil, Bool.and_eq_true, Bool.and_true]; ((repeat' apply And.intro) <;> first | rfl | assumption | exact IsSl.one (by assumption)))) fun w hS => wl_put0 ?_); refine wl_nil ?_; (try simp only [lset, splice, sub, List.take_succ_cons, List.take_zero, List.drop_succ_cons, List.drop_zero, List.nil_append, List.cons_append, List.length_cons, List.length_nil, Nat.reduceAdd, Nat.zero_add, rep_zero] at hS))
    | ((with_reducible apply wp_region_GS (id := 4) 14 (fun j => [0, 1, 2, 3, 4, 5, 6, 7, 8, 9, 10, 12].contains j) mixed); rfl; exact hS; (clear hS; intro w hS); refine xp 0 rfl rfl (fun w => ex_move (ev_at rfl)) ?_; (first | refine xp 1 rfl rfl (fun w => ex_nilCheck (ev_at rfl)) ?_ | refine xp 1 rfl rfl (fun w => ex_nilCheckF (ev_at rfl)) ?_); (first | refine xp 2 rfl rfl (fun w => ex_fa (ev_at rfl) (flT rfl)) ?_ | refine xp 2 rfl rfl (fun w => ex_faE (ev_at rfl) (flT rfl) (by assumption) (by assumption)) ?_); refine xr 3 hS rfl rfl (fun w X hS => ex_load (ev_at rfl) (ld1 hS (kdT rfl) rfl)) ?_; refine xp 5 rfl rfl (fun w => ex_move (ev_at rfl)) ?_; (first | refine xp 6 rfl rfl (fun w => ex_nilCheck (ev_at rfl)) ?_ | refine xp 6 rfl rfl (fun w => ex_nilCheckF (ev_at rfl)) ?_); (first | refine xp 7 rfl rfl (fun w => ex_fa (ev_at rfl) (flT rfl)) ?_ | refine xp 7 rfl rfl (fun w => ex_faE (ev_at rfl) (flT rfl) (by assumption) (by assumption)) ?_); refine xr 8 hS rfl rfl (fun w X hS => ex_load (ev_at rfl) (ld1 hS (kdT rfl) rfl)) ?_; refine wg_loud 4 (by decide +kernel) rfl rfl (wp_callL (cbT rfl) (EvL.c (ev_at rfl) EvL.n) ?_); refine (mclone_ct m _ hS.up2).mono ?_; rintro e w ⟨m2, rfl, hS⟩; have hS := hS.swap.dn3; refine ⟨_, rfl, ⟨gsT hS, wg_p (by simp only [lset] <;> rfl) ?_⟩⟩; refine wg_loud 9 (by decide +kernel) rfl rfl (wp_callL (cbT rfl) (EvL.c (ev_at rfl) EvL.n) ?_); refine (sclone_ct pv _ _ hv (Rds.at 4 rfl) hl ho (by omega) hS).mono ?_; rintro e w ⟨u2, rfl, hS⟩; have hu2 := hS.row0.1; refine ⟨_, rfl, ⟨gsT hS, wg_p (by simp only [lset] <;> rfl) ?_⟩⟩; (first | refine xp 10 rfl rfl (fun w => ex_fa (ev_at rfl) (flT rfl)) ?_ | refine xp 10 rfl rfl (fun w => ex_faE (ev_at rfl) (flT rfl) (by assumption) (by assumption)) ?_); refine wg_loud 11 (by decide +kernel) rfl rfl (wp_store1 (ev_at rfl) (ev_at rfl) hS (szT rfl) rfl (by first | rfl | exact IsSl.one (by assumption)) fun w hS => ⟨gsF rfl, wg_n ?_⟩); (first | refine xp 12 rfl rfl (fun w => ex_fa (ev_at rfl) (flT rfl)) ?_ | refine xp 12 rfl rfl (fun w => ex_faE (ev_at rfl) (flT rfl) (by assumption) (by assumption)) ?_); refine wg_loud 13 (by decide +kernel) rfl rfl (wp_store1 (ev_at rfl) (ev_at rfl) hS (szT rfl) rfl (by first | rfl | exact IsSl.one (by assumption)) fun w hS => ⟨gsF rfl, wg_n ?_⟩); refine wg_end (by decide +kernel) ?_; (try simp only [lset, Nat.reduceAdd, Nat.zero_add] at hS))
    | ((with_reducible apply wp_region_plain (id := 5)); refine xv (ex_assign (ev_at rfl)) ?_; refine wl_nil ?_)
    | ((fail_if_success (with_reducible apply wp_region_plain)); (fail_if_success (with_reducible apply wp_region_GS)); go_step))
  refine end1 (by first | exact .inl rfl | exact .inr rfl) rfl (ResL.rt rfl ResL.rn) ?_
  refine ⟨b3, rfl, ?_⟩
  have h1 := disk_shut (D := D) hS.up5.up5.up5
  exact disk_shut (D := D) h1.swap.up2.up3
end
end Go.Proofs.Try
