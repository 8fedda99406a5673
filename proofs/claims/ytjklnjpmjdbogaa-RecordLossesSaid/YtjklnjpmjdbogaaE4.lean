/- The reference of records: contracts (4): Decode. -/
import Derived.Test.YtjklnjpmjdbogaaE4a
import Derived.Test.YtjklnjpmjdbogaaSLB
namespace Go.Proofs.Try
open Go.RowKit Go.SL Go.SH Go.RC
set_option maxRecDepth 100000
set_option linter.unusedSimpArgs false
set_option linter.unusedVariables false
section
variable {w : World} {I : Gh} {L : List Ch}
theorem rdecodeLen_ct (v : Value) (bs : List UInt8) (n : Nat) (hv : IsSl v n) (hl : bs.length = n) (hbad : n ≠ 256) (hS : Sat w I L) :
    Calls Try.prog 25 #[v] w fun e w' => e = .returned (.tuple #[partV (RC.decode bs).1 (.slice none 0 0), .int .i64 (RC.decode bs).2]) ∧ Sat w' I L := by
  by_cases h1 : n < 256
  · go_enter Try.func25, Try.ntmps25
    repeat' (first
      | ((with_reducible apply wp_region_plain (id := 0)); refine wl_of rfl (wp_alloc hS (zeT rfl) fun b2 w hS => wl_put (by simp only [lset] <;> rfl) ?_); refine xv (ex_assign (ev_const _ _)) ?_; refine wl_nil ?_)
      | ((with_reducible apply wp_region_plain (id := 1)); refine xv (ex_move (ev_at rfl)) ?_; refine xv (ex_len (ev_at rfl) (slT rfl) (by first | assumption | exact IsSl.nil)) ?_; refine xv (ex_cmp (ev_at rfl) (ev_const _ _) (by first | exact lssT (by omega) | exact lssF (by omega) | rfl)) ?_; refine wl_nil ?_)
      | ((with_reducible apply wp_region_plain (id := 2)); refine xv (ex_buildS (plT rfl) (zeT rfl) Fills.nil) ?_; refine wl_of rfl (wp_storeN (ev_at rfl) (ev_at rfl) hS (szT rfl) rfl (by first | rfl | assumption | (simp only [sub, splice, List.take_succ_cons, List.take_zero, List.drop_succ_cons, List.drop_zero, List.nil_append, List.cons_append, List.length_cons, List.length_nil, Nat.reduceAdd, List.all_cons, List.all_nil, Bool.and_eq_true, Bool.and_true]; ((repeat' apply And.intro) <;> first | rfl | assumption | exact IsSl.one (by assumption)))) fun w hS => wl_put0 ?_); refine xv (ex_assign (ev_const _ _)) ?_; refine wl_nil ?_; (try simp only [lset, splice, sub, List.take_succ_cons, List.take_zero, List.drop_succ_cons, List.drop_zero, List.nil_append, List.cons_append, List.length_cons, List.length_nil, Nat.reduceAdd, Nat.zero_add, rep_zero] at hS))
      | ((fail_if_success (with_reducible apply wp_region_plain)); (fail_if_success (with_reducible apply wp_region_GS)); go_step))
    refine endN (by first | exact .inl rfl | exact .inr rfl) rfl (ResL.rc rfl (ldN hS (kdT rfl) (szT rfl) rfl) (ResL.rt rfl ResL.rn)) rfl ?_
    exact ⟨by rw [RC.decode, if_pos (by omega)]; rfl, hS.drop⟩
  · have h2 : 256 < n := by omega
    go_enter Try.func25, Try.ntmps25
    repeat' (first
      | ((with_reducible apply wp_region_plain (id := 0)); refine wl_of rfl (wp_alloc hS (zeT rfl) fun b2 w hS => wl_put (by simp only [lset] <;> rfl) ?_); refine xv (ex_assign (ev_const _ _)) ?_; refine wl_nil ?_)
      | ((with_reducible apply wp_region_plain (id := 1)); refine xv (ex_move (ev_at rfl)) ?_; refine xv (ex_len (ev_at rfl) (slT rfl) (by first | assumption | exact IsSl.nil)) ?_; refine xv (ex_cmp (ev_at rfl) (ev_const _ _) (by first | exact lssT (by omega) | exact lssF (by omega) | rfl)) ?_; refine wl_nil ?_)
      | ((with_reducible apply wp_region_plain (id := 3)); refine xv (ex_move (ev_at rfl)) ?_; refine xv (ex_len (ev_at rfl) (slT rfl) (by first | assumption | exact IsSl.nil)) ?_; refine xv (ex_cmp (ev_at rfl) (ev_const _ _) (by first | exact gtrT (by omega) | exact gtrF (by omega) | rfl)) ?_; refine wl_nil ?_)
      | ((with_reducible apply wp_region_plain (id := 4)); refine xv (ex_buildS (plT rfl) (zeT rfl) Fills.nil) ?_; refine wl_of rfl (wp_storeN (ev_at rfl) (ev_at rfl) hS (szT rfl) rfl (by first | rfl | assumption | (simp only [sub, splice, List.take_succ_cons, List.take_zero, List.drop_succ_cons, List.drop_zero, List.nil_append, List.cons_append, List.length_cons, List.length_nil, Nat.reduceAdd, List.all_cons, List.all_nil, Bool.and_eq_true, Bool.and_true]; ((repeat' apply And.intro) <;> first | rfl | assumption | exact IsSl.one (by assumption)))) fun w hS => wl_put0 ?_); refine xv (ex_assign (ev_const _ _)) ?_; refine wl_nil ?_; (try simp only [lset, splice, sub, List.take_succ_cons, List.take_zero, List.drop_succ_cons, List.drop_zero, List.nil_append, List.cons_append, List.length_cons, List.length_nil, Nat.reduceAdd, Nat.zero_add, rep_zero] at hS))
      | ((fail_if_success (with_reducible apply wp_region_plain)); (fail_if_success (with_reducible apply wp_region_GS)); go_step))
    refine endN (by first | exact .inl rfl | exact .inr rfl) rfl (ResL.rc rfl (ldN hS (kdT rfl) (szT rfl) rfl) (ResL.rt rfl ResL.rn)) rfl ?_
    exact ⟨by rw [RC.decode, if_neg (by omega), if_pos (by omega)]; rfl, hS.drop⟩
set_option maxHeartbeats 8000000 in
theorem rdecode256_ct (v : Value) (bs : List UInt8) (hv : IsSl v 256) (hl : bs.length = 256) (hr : Rds I L v (bs.map byteV)) (hS : Sat w I L) :
    Calls Try.prog 25 #[v] w fun e w' => ∃ u, e = .returned (.tuple #[partV (RC.decode bs).1 u, .int .i64 (RC.decode bs).2]) ∧ IsSl u (RC.decode bs).1.bytes.length ∧ Sat w' I (Row u 5 1 (RC.decode bs).1.bytes.length ((RC.decode bs).1.bytes.map byteV) :: L) := by
  have hdec : RC.decode bs = if (sha (bs.drop 16)).take 16 ≠ bs.take 16 then (zeroP, 22) else if 224 < val (partOf.sub16 bs 30 2) then (zeroP, 3) else if ¬ (bs.drop (32 + (val (partOf.sub16 bs 30 2)).toNat)).all (· == 0) then (zeroP, 3) else if check (partOf bs) ≠ 0 then (zeroP, 3) else (partOf bs, 0) := by
    rw [RC.decode, if_neg (by omega), if_neg (by omega)]
  have hHl := shaLen (bs.drop 16)
  have hv1 := hv.slv (l := 16) (h := 256) (sz := 1) (by omega) (by omega)
  have hr1 : Rds I L (slv v 16 256 1) ((bs.drop 16).map byteV) := by
    have := Rds.part hr hv (l := 16) (h := 256) (by omega) (by omega)
    rwa [List.take_of_length_le (by simp [hl])] at this
  have hsm := fun (w : World) (L2 : List Ch) (hr2 : Rds I L2 (slv v 16 256 1) ((bs.drop 16).map byteV)) hS => rsum_ct (w := w) (I := I) (L := L2) (slv v 16 256 1) (bs.drop 16) 240 hv1 (by simp [hl]) hr2 (by omega) hS
  generalize sha (bs.drop 16) = H at hdec hHl hsm
  have hdl : (H.map byteV).length = 32 := by simp [hHl]
  go_enter Try.func25, Try.ntmps25
  repeat' (first
    | ((with_reducible apply wp_region_plain (id := 0)); refine wl_of rfl (wp_alloc hS (zeT rfl) fun b2 w hS => wl_put (by simp only [lset] <;> rfl) ?_); refine xv (ex_assign (ev_const _ _)) ?_; refine wl_nil ?_)
    | ((with_reducible apply wp_region_plain (id := 1)); refine xv (ex_move (ev_at rfl)) ?_; refine xv (ex_len (ev_at rfl) (slT rfl) (by first | assumption | exact IsSl.nil)) ?_; refine xv (ex_cmp (ev_at rfl) (ev_const _ _) (by first | exact lssT (by omega) | exact lssF (by omega) | rfl)) ?_; refine wl_nil ?_)
    | ((with_reducible apply wp_region_plain (id := 3)); refine xv (ex_move (ev_at rfl)) ?_; refine xv (ex_len (ev_at rfl) (slT rfl) (by first | assumption | exact IsSl.nil)) ?_; refine xv (ex_cmp (ev_at rfl) (ev_const _ _) (by first | exact gtrT (by omega) | exact gtrF (by omega) | rfl)) ?_; refine wl_nil ?_)
    | ((with_reducible apply wp_region_plain (id := 5)); refine xv (ex_move (ev_at rfl)) ?_; refine xv (ex_sliceL (ev_at rfl) (ev_const _ _) (slT rfl) (szT rfl) (by first | assumption | exact IsSl.nil) (by omega) (by omega)) ?_; refine wl_of rfl (wp_callL (cbT rfl) (EvL.c (ev_at rfl) EvL.n) ?_); refine (hsm _ _ hr1.le hS).mono ?_; rintro e w ⟨rfl, hS⟩; refine ⟨_, rfl, wl_put (by simp only [lset] <;> rfl) ?_⟩; refine wl_of rfl (wp_alloc hS (zeT rfl) fun b4 w hS => wl_put (by simp only [lset] <;> rfl) ?_); refine wl_of rfl (wp_storeW (vs := H.map byteV) (ev_at rfl) (ev_at rfl) hS (szT rfl) hdl rfl (byteV_Oc _) fun w hS => wl_put0 ?_); refine wl_nil ?_; (try simp only [lset, splice, sub, List.take_succ_cons, List.take_zero, List.drop_succ_cons, List.drop_zero, List.nil_append, List.cons_append, List.length_cons, List.length_nil, Nat.reduceAdd, Nat.zero_add, rep_zero] at hS))
    | ((with_reducible apply wp_region_plain (id := 6)); refine xv (ex_assign (ev_const _ _)) ?_; refine wl_nil ?_)
    | ((fail_if_success (with_reducible apply wp_region_plain)); (fail_if_success (with_reducible apply wp_region_GS)); go_step))
  refine wp_loopM [false, false, false, true, false, true, false, false, false, false, false, false, false, false, false, false, false, false, false, false, true, true, true, true, true, true, true, true, true, true, true, true, true] (fun n f w => ∃ i : Nat, n = 16 - i ∧ f 5 = .int .i64 i ∧ i ≤ 16 ∧ H.take i = bs.take i ∧ Sat w I (Cells b4 108 (H.map byteV) :: Cells b2 24 [.int .i64 0, .int .i64 0, .int .i64 0, .int .i64 0, .int .i64 0, .slice none 0 0] :: L)) rfl 16 ⟨0, rfl, rfl, by omega, rfl, hS⟩ ?_
  clear hS
  rintro n f w ⟨i, rfl, h5, hi, heq, hS⟩
  simp only [havoc, Nat.reduceAdd, h5]
  by_cases hlt : i < 16
  case pos =>
    obtain ⟨c1, hc1⟩ : ∃ c, H[i]? = some c := ⟨_, List.getElem?_eq_getElem (by omega)⟩
    obtain ⟨c2, hc2⟩ : ∃ c, bs[i]? = some c := ⟨_, List.getElem?_eq_getElem (by omega)⟩
    by_cases hcc : c1 = c2
    · subst hcc
      repeat' (first
        | ((with_reducible apply wp_region_plain (id := 7)); refine xv (ex_move (ev_at rfl)) ?_; refine xv (ex_cmp (ev_at rfl) (ev_const _ _) (by first | exact lssT (by omega) | exact lssF (by omega) | rfl)) ?_; refine wl_nil ?_)
        | ((with_reducible apply wp_region_GS (id := 9) 8 (fun j => [0, 1, 2, 3, 4, 5, 6, 7].contains j) mixed); rfl; exact hS; (clear hS; intro w hS); refine xp 0 rfl rfl (fun w => ex_move (ev_at rfl)) ?_; (first | refine xp 1 rfl rfl (fun w => ex_iaA (ev_at rfl) (ev_at rfl) (arT rfl) (szT rfl) (by omega) (by omega)) ?_ | refine xp 1 rfl rfl (fun w => ex_iaAE (ev_at rfl) (ev_at rfl) (arT rfl) (szT rfl) (by assumption) (by omega) (by omega) (by omega)) ?_); refine xr 2 hS rfl rfl (fun w X hS => ex_load (ev_at rfl) (ld1 (v := byteV c1) hS (kdT rfl) (byteGet hc1 (by omega)))) ?_; refine xp 3 rfl rfl (fun w => ex_move (ev_at rfl)) ?_; refine xp 4 rfl rfl (fun w => ex_move (ev_at rfl)) ?_; (first | refine xp 5 rfl rfl (fun w => ex_iaN (ev_at rfl) (ev_at rfl) (slT rfl) (szT rfl) (by first | assumption | exact IsSl.nil) (by omega)) ?_ | refine xp 5 rfl rfl (fun w => ex_ia (ev_at rfl) (ev_at rfl) (slT rfl) (szT rfl) (by first | assumption | exact IsSl.nil) (by omega) (by omega)) ?_); refine xr 6 hS rfl rfl (fun w X hS => ex_load (ev_at rfl) (ldE1 (u := byteV c1) (hr.rd hS) hv (m := i) (by omega) (kdT rfl) (byteGet hc2 (by omega)))) ?_; refine xp 7 rfl rfl (fun w => ex_cmp (ev_at rfl) (ev_at rfl) (by first | exact neqT (by omega) | exact neqF (by omega) | rfl)) ?_; refine wg_end (by decide +kernel) ?_)
        | ((with_reducible apply wp_region_plain (id := 8)); refine xv (ex_move (ev_at rfl)) ?_; refine xv (ex_arith (ev_at rfl) (ev_const _ _) rfl (by first | exact IntWalk.i64_in _ (by omega) | rfl)) ?_; refine xv (ex_assign (ev_at rfl)) ?_; refine wl_nil ?_)
        | ((fail_if_success (with_reducible apply wp_region_plain)); (fail_if_success (with_reducible apply wp_region_GS)); go_step))
      exact loopEndM rfl (16 - (i + 1)) ⟨i + 1, rfl, rfl, by omega, by rw [List.take_add_one, List.take_add_one, hc1, hc2, heq], hS⟩ (by omega)
    · have hne : c1.toNat ≠ c2.toNat := fun h => hcc (UInt8.toNat_inj.1 h)
      have hne16 : H.take 16 ≠ bs.take 16 := by
        intro h
        have h1 : (H.take 16)[i]? = some c1 := by rw [List.getElem?_take, if_pos hlt, hc1]
        rw [h, List.getElem?_take, if_pos hlt, hc2] at h1
        exact hcc (Option.some.inj h1).symm
      rw [if_pos hne16] at hdec
      repeat' (first
        | ((with_reducible apply wp_region_plain (id := 7)); refine xv (ex_move (ev_at rfl)) ?_; refine xv (ex_cmp (ev_at rfl) (ev_const _ _) (by first | exact lssT (by omega) | exact lssF (by omega) | rfl)) ?_; refine wl_nil ?_)
        | ((with_reducible apply wp_region_GS (id := 9) 8 (fun j => [0, 1, 2, 3, 4, 5, 6, 7].contains j) mixed); rfl; exact hS; (clear hS; intro w hS); refine xp 0 rfl rfl (fun w => ex_move (ev_at rfl)) ?_; (first | refine xp 1 rfl rfl (fun w => ex_iaA (ev_at rfl) (ev_at rfl) (arT rfl) (szT rfl) (by omega) (by omega)) ?_ | refine xp 1 rfl rfl (fun w => ex_iaAE (ev_at rfl) (ev_at rfl) (arT rfl) (szT rfl) (by assumption) (by omega) (by omega) (by omega)) ?_); refine xr 2 hS rfl rfl (fun w X hS => ex_load (ev_at rfl) (ld1 (v := .int .u8 c1.toNat) hS (kdT rfl) (byteGet hc1 (by omega)))) ?_; refine xp 3 rfl rfl (fun w => ex_move (ev_at rfl)) ?_; refine xp 4 rfl rfl (fun w => ex_move (ev_at rfl)) ?_; (first | refine xp 5 rfl rfl (fun w => ex_iaN (ev_at rfl) (ev_at rfl) (slT rfl) (szT rfl) (by first | assumption | exact IsSl.nil) (by omega)) ?_ | refine xp 5 rfl rfl (fun w => ex_ia (ev_at rfl) (ev_at rfl) (slT rfl) (szT rfl) (by first | assumption | exact IsSl.nil) (by omega) (by omega)) ?_); refine xr 6 hS rfl rfl (fun w X hS => ex_load (ev_at rfl) (ldE1 (u := .int .u8 c2.toNat) (hr.rd hS) hv (m := i) (by omega) (kdT rfl) (byteGet hc2 (by omega)))) ?_; refine xp 7 rfl rfl (fun w => ex_cmp (ev_at rfl) (ev_at rfl) (by first | exact neqT (by omega) | exact neqF (by omega) | rfl)) ?_; refine wg_end (by decide +kernel) ?_)
        | ((with_reducible apply wp_region_plain (id := 10)); refine xv (ex_buildS (plT rfl) (zeT rfl) Fills.nil) ?_; refine wl_of rfl (wp_storeN (ev_at rfl) (ev_at rfl) hS (szT rfl) rfl (by first | rfl | assumption | (simp only [sub, splice, List.take_succ_cons, List.take_zero, List.drop_succ_cons, List.drop_zero, List.nil_append, List.cons_append, List.length_cons, List.length_nil, Nat.reduceAdd, List.all_cons, List.all_nil, Bool.and_eq_true, Bool.and_true]; ((repeat' apply And.intro) <;> first | rfl | assumption | exact IsSl.one (by assumption)))) fun w hS => wl_put0 ?_); refine xv (ex_assign (ev_const _ _)) ?_; refine wl_nil ?_; (try simp only [lset, splice, sub, List.take_succ_cons, List.take_zero, List.drop_succ_cons, List.drop_zero, List.nil_append, List.cons_append, List.length_cons, List.length_nil, Nat.reduceAdd, Nat.zero_add, rep_zero] at hS))
        | ((fail_if_success (with_reducible apply wp_region_plain)); (fail_if_success (with_reducible apply wp_region_GS)); go_step))
      refine endN (by first | exact .inl rfl | exact .inr rfl) rfl (ResL.rc rfl (ldN hS (kdT rfl) (szT rfl) rfl) (ResL.rt rfl ResL.rn)) rfl ?_
      rw [hdec]
      exact ⟨.slice none 0 0, rfl, IsSl.nil, hS.drop.drop.nilRow _ _⟩
  have hi16 : i = 16 := by omega
  subst hi16
  rw [if_neg (by rw [heq]; simp), val_valN] at hdec
  have hvl := valN_lt (partOf.sub16 bs 30 2)
  have hbytes : (partOf bs).bytes = (bs.drop 32).take (valN (partOf.sub16 bs 30 2)) := by
    show (bs.drop 32).take (val (partOf.sub16 bs 30 2)).toNat = _
    rw [val_valN]; rfl
  have hva := fun (off len : Nat) (h : off + len ≤ 256) (h4 : len ≤ 4) (w : World) (L2 : List Ch) (hr2 : Rds I L2 v (bs.map byteV)) hS => valueP_ct (w := w) (I := I) (L := L2) (slv v off (off + len) 1) (partOf.sub16 bs off len) len (by have := hv.slv (l := off) (h := off + len) (sz := 1) (by omega) h; rwa [Nat.add_sub_cancel_left] at this) (by simp [partOf.sub16, hl]; omega) (by have := Rds.part hr2 hv (l := off) (h := off + len) (by omega) h; rwa [Nat.add_sub_cancel_left] at this) h4 hS
  have hN2 : val (partOf.sub16 bs 30 2) = ((valN (partOf.sub16 bs 30 2) : Nat) : Int) := val_valN _
  have hva6 := hva 30 2 (by omega) (by omega)
  rw [hN2] at hva6
  generalize valN (partOf.sub16 bs 30 2) = N at hvl hdec hbytes hva6
  rw [Int.toNat_natCast] at hdec
  clear h5
  by_cases hA : 224 < N
  · rw [if_pos (by omega)] at hdec
    repeat' (first
      | ((with_reducible apply wp_region_plain (id := 7)); refine xv (ex_move (ev_at rfl)) ?_; refine xv (ex_cmp (ev_at rfl) (ev_const _ _) (by first | exact lssT (by omega) | exact lssF (by omega) | rfl)) ?_; refine wl_nil ?_)
      | ((with_reducible apply wp_region_plain (id := 11)); refine xv (ex_move (ev_at rfl)) ?_; refine xv (ex_sliceLH (ev_at rfl) (ev_const _ _) (ev_const _ _) (slT rfl) (szT rfl) (by first | assumption | exact IsSl.nil) (by omega) (by omega) (by omega)) ?_; refine wl_of rfl (wp_callL (cbT rfl) (EvL.c (ev_at rfl) EvL.n) ?_); refine (hva6 _ _ hr.le hS).mono ?_; rintro e w ⟨rfl, rfl⟩; refine ⟨_, rfl, wl_put (by simp only [lset] <;> rfl) ?_⟩; refine xv (ex_assign (ev_at rfl)) ?_; refine wl_nil ?_)
      | ((with_reducible apply wp_region_plain (id := 12)); refine xv (ex_move (ev_at rfl)) ?_; refine xv (ex_cmp (ev_at rfl) (ev_const _ _) (by first | exact gtrT (by omega) | exact gtrF (by omega) | rfl)) ?_; refine wl_nil ?_)
      | ((with_reducible apply wp_region_plain (id := 13)); refine xv (ex_buildS (plT rfl) (zeT rfl) Fills.nil) ?_; refine wl_of rfl (wp_storeN (ev_at rfl) (ev_at rfl) hS (szT rfl) rfl (by first | rfl | assumption | (simp only [sub, splice, List.take_succ_cons, List.take_zero, List.drop_succ_cons, List.drop_zero, List.nil_append, List.cons_append, List.length_cons, List.length_nil, Nat.reduceAdd, List.all_cons, List.all_nil, Bool.and_eq_true, Bool.and_true]; ((repeat' apply And.intro) <;> first | rfl | assumption | exact IsSl.one (by assumption)))) fun w hS => wl_put0 ?_); refine xv (ex_assign (ev_const _ _)) ?_; refine wl_nil ?_; (try simp only [lset, splice, sub, List.take_succ_cons, List.take_zero, List.drop_succ_cons, List.drop_zero, List.nil_append, List.cons_append, List.length_cons, List.length_nil, Nat.reduceAdd, Nat.zero_add, rep_zero] at hS))
      | ((fail_if_success (with_reducible apply wp_region_plain)); (fail_if_success (with_reducible apply wp_region_GS)); go_step))
    refine endN (by first | exact .inl rfl | exact .inr rfl) rfl (ResL.rc rfl (ldN hS (kdT rfl) (szT rfl) rfl) (ResL.rt rfl ResL.rn)) rfl ?_
    rw [hdec]
    exact ⟨.slice none 0 0, rfl, IsSl.nil, hS.drop.drop.nilRow _ _⟩
  rw [if_neg (by omega)] at hdec
  have hPl : (partOf bs).bytes.length = N := by rw [hbytes]; simp [hl]; omega
  have hv4 := hv.slv (l := 32) (h := 32 + N) (sz := 1) (by omega) (by omega)
  rw [Nat.add_sub_cancel_left] at hv4
  have hr4 : Rds I L (slv v 32 (32 + N) 1) ((partOf bs).bytes.map byteV) := by
    have := Rds.part hr hv (l := 32) (h := 32 + N) (by omega) (by omega)
    rwa [Nat.add_sub_cancel_left, ← hbytes] at this
  have k1 : val (partOf.sub16 bs 16 4) = (partOf bs).gen := rfl
  have k2 : val (partOf.sub16 bs 20 4) = (partOf bs).num := rfl
  have k3 : val (partOf.sub16 bs 24 2) = (partOf bs).kind := rfl
  have k4 : val (partOf.sub16 bs 26 2) = (partOf bs).idx := rfl
  have k5 : val (partOf.sub16 bs 28 2) = (partOf bs).cnt := rfl
  have va1 := hva 16 4 (by omega) (by omega)
  have va2 := hva 20 4 (by omega) (by omega)
  have va3 := hva 24 2 (by omega) (by omega)
  have va4 := hva 26 2 (by omega) (by omega)
  have va5 := hva 28 2 (by omega) (by omega)
  rw [k1] at va1
  rw [k2] at va2
  rw [k3] at va3
  rw [k4] at va4
  rw [k5] at va5
  clear hva k1 k2 k3 k4 k5
  generalize partOf bs = P at hdec hbytes hPl hr4 va1 va2 va3 va4 va5
  have hck := fun (w : World) (L2 : List Ch) (u : Value) (hu : IsSl u N) hS => rcheck_ct (w := w) (I := I) (L := L2) P u (by rw [hPl]; exact hu) hS
  unfold partV at hck
  generalize hcv : check P = cv at hck hdec
  repeat' (first
    | ((with_reducible apply wp_region_plain (id := 7)); refine xv (ex_move (ev_at rfl)) ?_; refine xv (ex_cmp (ev_at rfl) (ev_const _ _) (by first | exact lssT (by omega) | exact lssF (by omega) | rfl)) ?_; refine wl_nil ?_)
    | ((with_reducible apply wp_region_plain (id := 11)); refine xv (ex_move (ev_at rfl)) ?_; refine xv (ex_sliceLH (ev_at rfl) (ev_const _ _) (ev_const _ _) (slT rfl) (szT rfl) (by first | assumption | exact IsSl.nil) (by omega) (by omega) (by omega)) ?_; refine wl_of rfl (wp_callL (cbT rfl) (EvL.c (ev_at rfl) EvL.n) ?_); refine (hva6 _ _ hr.le hS).mono ?_; rintro e w ⟨rfl, rfl⟩; refine ⟨_, rfl, wl_put (by simp only [lset] <;> rfl) ?_⟩; refine xv (ex_assign (ev_at rfl)) ?_; refine wl_nil ?_)
    | ((with_reducible apply wp_region_plain (id := 12)); refine xv (ex_move (ev_at rfl)) ?_; refine xv (ex_cmp (ev_at rfl) (ev_const _ _) (by first | exact gtrT (by omega) | exact gtrF (by omega) | rfl)) ?_; refine wl_nil ?_)
    | ((fail_if_success (with_reducible apply wp_region_plain)); (fail_if_success (with_reducible apply wp_region_GS)); go_step))
  refine wp_join [false, false, false, false, false, false, false, true, false, false, false, false, false, false, false, false, false, false, false, false, false, false, false, false, false, false, false, false, false, false, false, false, false, false, false, false, false, false, false, true, true, true, true, true, true, true, true, true, true, true, true, true, true, true, true, true, true, true, true, true, true] (fun f w => ∃ b7 u, f 7 = .pointer (some ⟨b7, 0, none⟩) ∧ IsSl u N ∧ Sat w I (Cells b7 24 [.int .i64 P.kind, .int .i64 P.gen, .int .i64 P.num, .int .i64 P.idx, .int .i64 P.cnt, u] :: Row u 5 1 N (P.bytes.map byteV) :: Cells b4 108 (H.map byteV) :: Cells b2 24 [.int .i64 0, .int .i64 0, .int .i64 0, .int .i64 0, .int .i64 0, .slice none 0 0] :: L)) ?_ ?_
  · (with_reducible apply wp_region_GS (id := 14) 24 (fun j => [0, 1, 2, 3, 4, 5, 6, 7, 8, 9, 10, 11, 12, 13, 14, 15, 16, 17, 18, 19, 20, 21, 22].contains j) mixed)
    rfl
    exact hS
    (clear hS; intro w hS)
    refine xp 0 rfl rfl (fun w => ex_move (ev_at rfl)) ?_
    refine xp 1 rfl rfl (fun w => ex_sliceLH (ev_at rfl) (ev_const _ _) (ev_const _ _) (slT rfl) (szT rfl) (by first | assumption | exact IsSl.nil) (by omega) (by omega) (by omega)) ?_
    refine wg_callL 2 hS (by decide +kernel) rfl (fun _ _ _ h => h) rfl (cbT rfl) (EvL.c (ev_at rfl) EvL.n) (fun w X hS => va1 _ _ hr.le hS) (by simp only [lset] <;> rfl) ?_
    refine xp 3 rfl rfl (fun w => ex_move (ev_at rfl)) ?_
    refine xp 4 rfl rfl (fun w => ex_sliceLH (ev_at rfl) (ev_const _ _) (ev_const _ _) (slT rfl) (szT rfl) (by first | assumption | exact IsSl.nil) (by omega) (by omega) (by omega)) ?_
    refine wg_callL 5 hS (by decide +kernel) rfl (fun _ _ _ h => h) rfl (cbT rfl) (EvL.c (ev_at rfl) EvL.n) (fun w X hS => va2 _ _ hr.le hS) (by simp only [lset] <;> rfl) ?_
    refine xp 6 rfl rfl (fun w => ex_move (ev_at rfl)) ?_
    refine xp 7 rfl rfl (fun w => ex_sliceLH (ev_at rfl) (ev_const _ _) (ev_const _ _) (slT rfl) (szT rfl) (by first | assumption | exact IsSl.nil) (by omega) (by omega) (by omega)) ?_
    refine wg_callL 8 hS (by decide +kernel) rfl (fun _ _ _ h => h) rfl (cbT rfl) (EvL.c (ev_at rfl) EvL.n) (fun w X hS => va3 _ _ hr.le hS) (by simp only [lset] <;> rfl) ?_
    refine xp 9 rfl rfl (fun w => ex_move (ev_at rfl)) ?_
    refine xp 10 rfl rfl (fun w => ex_sliceLH (ev_at rfl) (ev_const _ _) (ev_const _ _) (slT rfl) (szT rfl) (by first | assumption | exact IsSl.nil) (by omega) (by omega) (by omega)) ?_
    refine wg_callL 11 hS (by decide +kernel) rfl (fun _ _ _ h => h) rfl (cbT rfl) (EvL.c (ev_at rfl) EvL.n) (fun w X hS => va4 _ _ hr.le hS) (by simp only [lset] <;> rfl) ?_
    refine xp 12 rfl rfl (fun w => ex_move (ev_at rfl)) ?_
    refine xp 13 rfl rfl (fun w => ex_sliceLH (ev_at rfl) (ev_const _ _) (ev_const _ _) (slT rfl) (szT rfl) (by first | assumption | exact IsSl.nil) (by omega) (by omega) (by omega)) ?_
    refine wg_callL 14 hS (by decide +kernel) rfl (fun _ _ _ h => h) rfl (cbT rfl) (EvL.c (ev_at rfl) EvL.n) (fun w X hS => va5 _ _ hr.le hS) (by simp only [lset] <;> rfl) ?_
    refine xp 16 rfl rfl (fun w => ex_move (ev_at rfl)) ?_
    refine xp 17 rfl rfl (fun w => ex_move (ev_at rfl)) ?_
    refine xp 18 rfl rfl (fun w => ex_arith (s := ((32 + N : Nat) : Int)) (ev_const _ _) (ev_at rfl) rfl (by rw [IntWalk.i64_in _ (by omega)]; omega)) ?_
    refine xp 19 rfl rfl (fun w => ex_sliceLH (ev_at rfl) (ev_const _ _) (ev_at rfl) (slT rfl) (szT rfl) (by first | assumption | exact IsSl.nil) (by omega) (by omega) (by omega)) ?_
    refine wp_mixed (rs := [15, 22]) (by decide +kernel) rfl ?_
    simp only [List.forall_mem_cons, List.not_mem_nil, false_implies, implies_true, and_true]
    refine ⟨?_, ?_⟩
    (focus (refine wo_of rfl rfl (wp_buildSlice (slT rfl) (szT rfl) (zeT rfl) Fills.nil hS rfl (by first | rfl | assumption) fun b54 w hS => ⟨gsT hS, wg_p (by simp only [lset] <;> rfl) ?_⟩); refine wp_mixed (rs := [20, 22]) (by decide +kernel) rfl ?_; simp only [List.forall_mem_cons, List.not_mem_nil, false_implies, implies_true, and_true]; refine ⟨?_, ?_⟩; (focus (refine wo_of rfl rfl (wp_append (ev_at rfl) (ev_at rfl) (slT rfl) (szT rfl) (byT rfl) (zeT rfl) hS (Rds.src hr4 hS hv4 (by simp [hPl]) (byteV_Oc _)) (by omega) (by omega) rfl fun v59 w hS hv59 => ⟨gsT hS, wg_p (by simp only [lset] <;> rfl) ?_⟩); refine xp 21 rfl rfl (fun w => ex_buildS (plT rfl) (zeT rfl) (Fills.cons rfl (ev_at rfl) (by first | exact IsSl.cellsL (by assumption) | exact cellsL1 rfl | rfl) rfl rfl (Fills.cons rfl (ev_at rfl) (by first | exact IsSl.cellsL (by assumption) | exact cellsL1 rfl | rfl) rfl rfl (Fills.cons rfl (ev_at rfl) (by first | exact IsSl.cellsL (by assumption) | exact cellsL1 rfl | rfl) rfl rfl (Fills.cons rfl (ev_at rfl) (by first | exact IsSl.cellsL (by assumption) | exact cellsL1 rfl | rfl) rfl rfl (Fills.cons rfl (ev_at rfl) (by first | exact IsSl.cellsL (by assumption) | exact cellsL1 rfl | rfl) rfl rfl (Fills.cons rfl (ev_at rfl) (by first | exact IsSl.cellsL (by assumption) | exact cellsL1 rfl | rfl) rfl rfl Fills.nil))))))) ?_; refine wg_loud 22 (by decide +kernel) rfl rfl (wp_alloc hS (zeT rfl) fun b7 w hS => ⟨gsT hS, wg_p (by simp only [lset] <;> rfl) ?_⟩); refine wg_loud 23 (by decide +kernel) rfl rfl (wp_storeN (ev_at rfl) (ev_at rfl) hS (szT rfl) rfl (by first | rfl | assumption | (simp only [sub, splice, List.take_succ_cons, List.take_zero, List.drop_succ_cons, List.drop_zero, List.nil_append, List.cons_append, List.length_cons, List.length_nil, Nat.reduceAdd, List.all_cons, List.all_nil, Bool.and_eq_true, Bool.and_true]; ((repeat' apply And.intro) <;> first | rfl | assumption | exact IsSl.one (by assumption)))) fun w hS => ⟨gsF rfl, wg_n ?_⟩); refine wg_end (by decide +kernel) ?_; (try simp only [lset, splice, sub, List.take_succ_cons, List.take_zero, List.drop_succ_cons, List.drop_zero, List.nil_append, List.cons_append, List.length_cons, List.length_nil, Nat.reduceAdd, Nat.zero_add, rep_zero] at hS); first | exact joinEnd rfl ⟨_, _, rfl, by simpa using hv59, by simpa using hS⟩ | exact joinEnd rfl ⟨_, _, rfl, by simpa using hv59, by simpa using hS.swap⟩)); (focus (refine wo_of rfl rfl (wp_alloc hS (zeT rfl) fun b7 w hS => ⟨gsT hS, wg_p (by simp only [lset] <;> rfl) ?_⟩); refine wg_loud 20 (by decide +kernel) rfl rfl (wp_append (ev_at rfl) (ev_at rfl) (slT rfl) (szT rfl) (byT rfl) (zeT rfl) hS (Rds.src hr4 hS hv4 (by simp [hPl]) (byteV_Oc _)) (by omega) (by omega) rfl fun v59 w hS hv59 => ⟨gsT hS, wg_p (by simp only [lset] <;> rfl) ?_⟩); refine xp 21 rfl rfl (fun w => ex_buildS (plT rfl) (zeT rfl) (Fills.cons rfl (ev_at rfl) (by first | exact IsSl.cellsL (by assumption) | exact cellsL1 rfl | rfl) rfl rfl (Fills.cons rfl (ev_at rfl) (by first | exact IsSl.cellsL (by assumption) | exact cellsL1 rfl | rfl) rfl rfl (Fills.cons rfl (ev_at rfl) (by first | exact IsSl.cellsL (by assumption) | exact cellsL1 rfl | rfl) rfl rfl (Fills.cons rfl (ev_at rfl) (by first | exact IsSl.cellsL (by assumption) | exact cellsL1 rfl | rfl) rfl rfl (Fills.cons rfl (ev_at rfl) (by first | exact IsSl.cellsL (by assumption) | exact cellsL1 rfl | rfl) rfl rfl (Fills.cons rfl (ev_at rfl) (by first | exact IsSl.cellsL (by assumption) | exact cellsL1 rfl | rfl) rfl rfl Fills.nil))))))) ?_; refine wg_loud 23 (by decide +kernel) rfl rfl (wp_storeN (ev_at rfl) (ev_at rfl) hS (szT rfl) rfl (by first | rfl | assumption | (simp only [sub, splice, List.take_succ_cons, List.take_zero, List.drop_succ_cons, List.drop_zero, List.nil_append, List.cons_append, List.length_cons, List.length_nil, Nat.reduceAdd, List.all_cons, List.all_nil, Bool.and_eq_true, Bool.and_true]; ((repeat' apply And.intro) <;> first | rfl | assumption | exact IsSl.one (by assumption)))) fun w hS => ⟨gsF rfl, wg_n ?_⟩); refine wg_end (by decide +kernel) ?_; (try simp only [lset, splice, sub, List.take_succ_cons, List.take_zero, List.drop_succ_cons, List.drop_zero, List.nil_append, List.cons_append, List.length_cons, List.length_nil, Nat.reduceAdd, Nat.zero_add, rep_zero] at hS); first | exact joinEnd rfl ⟨_, _, rfl, by simpa using hv59, by simpa using hS⟩ | exact joinEnd rfl ⟨_, _, rfl, by simpa using hv59, by simpa using hS.swap⟩))))
    (focus (refine wo_of rfl rfl (wp_alloc hS (zeT rfl) fun b7 w hS => ⟨gsT hS, wg_p (by simp only [lset] <;> rfl) ?_⟩); refine wg_loud 15 (by decide +kernel) rfl rfl (wp_buildSlice (slT rfl) (szT rfl) (zeT rfl) Fills.nil hS rfl (by first | rfl | assumption) fun b54 w hS => ⟨gsT hS, wg_p (by simp only [lset] <;> rfl) ?_⟩); refine wg_loud 20 (by decide +kernel) rfl rfl (wp_append (ev_at rfl) (ev_at rfl) (slT rfl) (szT rfl) (byT rfl) (zeT rfl) hS (Rds.src hr4 hS hv4 (by simp [hPl]) (byteV_Oc _)) (by omega) (by omega) rfl fun v59 w hS hv59 => ⟨gsT hS, wg_p (by simp only [lset] <;> rfl) ?_⟩); refine xp 21 rfl rfl (fun w => ex_buildS (plT rfl) (zeT rfl) (Fills.cons rfl (ev_at rfl) (by first | exact IsSl.cellsL (by assumption) | exact cellsL1 rfl | rfl) rfl rfl (Fills.cons rfl (ev_at rfl) (by first | exact IsSl.cellsL (by assumption) | exact cellsL1 rfl | rfl) rfl rfl (Fills.cons rfl (ev_at rfl) (by first | exact IsSl.cellsL (by assumption) | exact cellsL1 rfl | rfl) rfl rfl (Fills.cons rfl (ev_at rfl) (by first | exact IsSl.cellsL (by assumption) | exact cellsL1 rfl | rfl) rfl rfl (Fills.cons rfl (ev_at rfl) (by first | exact IsSl.cellsL (by assumption) | exact cellsL1 rfl | rfl) rfl rfl (Fills.cons rfl (ev_at rfl) (by first | exact IsSl.cellsL (by assumption) | exact cellsL1 rfl | rfl) rfl rfl Fills.nil))))))) ?_; refine wg_loud 23 (by decide +kernel) rfl rfl (wp_storeN (ev_at rfl) (ev_at rfl) hS (szT rfl) rfl (by first | rfl | assumption | (simp only [sub, splice, List.take_succ_cons, List.take_zero, List.drop_succ_cons, List.drop_zero, List.nil_append, List.cons_append, List.length_cons, List.length_nil, Nat.reduceAdd, List.all_cons, List.all_nil, Bool.and_eq_true, Bool.and_true]; ((repeat' apply And.intro) <;> first | rfl | assumption | exact IsSl.one (by assumption)))) fun w hS => ⟨gsF rfl, wg_n ?_⟩); refine wg_end (by decide +kernel) ?_; (try simp only [lset, splice, sub, List.take_succ_cons, List.take_zero, List.drop_succ_cons, List.drop_zero, List.nil_append, List.cons_append, List.length_cons, List.length_nil, Nat.reduceAdd, Nat.zero_add, rep_zero] at hS); first | exact joinEnd rfl ⟨_, _, rfl, by simpa using hv59, by simpa using hS⟩ | exact joinEnd rfl ⟨_, _, rfl, by simpa using hv59, by simpa using hS.swap⟩))
  clear hS
  rintro f w ⟨b7, u, h7, hu, hS⟩
  simp only [havoc, Nat.reduceAdd, h7]
  clear hdl hsm va1 va2 va3 va4 va5 hva6
  have hcase : (decide ((bs.drop (32 + N)).all (· == 0) = true) = true ∧ cv = 0 ∧ RC.decode bs = (P, 0)) ∨ (¬ ((bs.drop (32 + N)).all (· == 0) = true ∧ cv = 0) ∧ RC.decode bs = (zeroP, 3)) := by
    rw [hdec]
    by_cases h1 : (bs.drop (32 + N)).all (· == 0) = true
    · by_cases h2 : cv = 0
      · left; simp [h1, h2]
      · right; simp [h1, h2]
    · right; simp [h1]
  clear hdec
  by_cases hc0 : cv = 0
  case neg =>
    have hdec : RC.decode bs = (zeroP, 3) := by
      rcases hcase with ⟨_, h, _⟩ | ⟨_, h⟩
      · exact absurd h hc0
      · exact h
    repeat' (first
      | ((with_reducible apply wp_region_plain (id := 15)); refine xv (ex_load (ev_at rfl) (ldN hS (kdT rfl) (szT rfl) rfl)) ?_; refine wl_of rfl (wp_callL (cbT rfl) (EvL.c (ev_at rfl) EvL.n) ?_); refine (hck _ _ _ hu hS).mono ?_; rintro e w ⟨rfl, hS⟩; refine ⟨_, rfl, wl_put (by simp only [lset] <;> rfl) ?_⟩; refine xv (ex_cmp (ev_at rfl) (ev_const _ _) (by first | exact neqT (by omega) | exact neqF (by omega) | rfl)) ?_; refine wl_nil ?_)
      | ((with_reducible apply wp_region_plain (id := 16)); refine xv (ex_buildS (plT rfl) (zeT rfl) Fills.nil) ?_; refine wl_of rfl (wp_storeN (ev_at rfl) (ev_at rfl) hS (szT rfl) rfl (by first | rfl | assumption | (simp only [sub, splice, List.take_succ_cons, List.take_zero, List.drop_succ_cons, List.drop_zero, List.nil_append, List.cons_append, List.length_cons, List.length_nil, Nat.reduceAdd, List.all_cons, List.all_nil, Bool.and_eq_true, Bool.and_true]; ((repeat' apply And.intro) <;> first | rfl | assumption | exact IsSl.one (by assumption)))) fun w hS => wl_put0 ?_); refine xv (ex_assign (ev_const _ _)) ?_; refine wl_nil ?_; (try simp only [lset, splice, sub, List.take_succ_cons, List.take_zero, List.drop_succ_cons, List.drop_zero, List.nil_append, List.cons_append, List.length_cons, List.length_nil, Nat.reduceAdd, Nat.zero_add, rep_zero] at hS))
      | ((fail_if_success (with_reducible apply wp_region_plain)); (fail_if_success (with_reducible apply wp_region_GS)); go_step))
    refine endN (by first | exact .inl rfl | exact .inr rfl) rfl (ResL.rc rfl (ldN hS (kdT rfl) (szT rfl) rfl) (ResL.rt rfl ResL.rn)) rfl ?_
    rw [hdec]
    exact ⟨.slice none 0 0, rfl, IsSl.nil, hS.drop.drop.drop.drop.nilRow _ _⟩
  subst hc0
  repeat' (first
    | ((with_reducible apply wp_region_plain (id := 15)); refine xv (ex_load (ev_at rfl) (ldN hS (kdT rfl) (szT rfl) rfl)) ?_; refine wl_of rfl (wp_callL (cbT rfl) (EvL.c (ev_at rfl) EvL.n) ?_); refine (hck _ _ _ hu hS).mono ?_; rintro e w ⟨rfl, hS⟩; refine ⟨_, rfl, wl_put (by simp only [lset] <;> rfl) ?_⟩; refine xv (ex_cmp (ev_at rfl) (ev_const _ _) (by first | exact neqT (by omega) | exact neqF (by omega) | rfl)) ?_; refine wl_nil ?_)
    | ((with_reducible apply wp_region_plain (id := 17)); refine xv (ex_move (ev_at rfl)) ?_; refine xv (ex_arith (ev_const _ _) (ev_at rfl) rfl (by first | exact IntWalk.i64_in _ (by omega) | rfl)) ?_; refine xv (ex_assign (ev_at rfl)) ?_; refine wl_nil ?_)
    | ((fail_if_success (with_reducible apply wp_region_plain)); (fail_if_success (with_reducible apply wp_region_GS)); go_step))
  refine wp_loopM [false, false, false, true, false, false, false, false, true, false, false, false, false, false, false, false, false, false, false, false, false, false, false, false, false, false, false, false, false, false, false, false, false, false, false, false, false, false, false, false, false, false, false, false, false, false, false, false, false, false, false, false, false, false, false, false, false, false, false, false, false, false, false, false, false, false, false, true, true, true, true, true, true, true, true, true, true] (fun n f w => ∃ i : Nat, n = 256 - i ∧ f 8 = .int .i64 i ∧ 32 + N ≤ i ∧ i ≤ 256 ∧ (∀ j, 32 + N ≤ j → j < i → bs[j]? = some 0) ∧ Sat w I (Cells b7 24 [.int .i64 P.kind, .int .i64 P.gen, .int .i64 P.num, .int .i64 P.idx, .int .i64 P.cnt, u] :: Row u 5 1 N (P.bytes.map byteV) :: Cells b4 108 (H.map byteV) :: Cells b2 24 [.int .i64 0, .int .i64 0, .int .i64 0, .int .i64 0, .int .i64 0, .slice none 0 0] :: L)) rfl (256 - (32 + N)) ⟨32 + N, rfl, by congr 1 <;> omega, by omega, by omega, fun j h1 h2 => by omega, hS⟩ ?_
  clear hS
  rintro n f w ⟨i, rfl, h8, hi1, hi2, hz, hS⟩
  simp only [havoc, Nat.reduceAdd, h8]
  by_cases hlt : i < 256
  case pos =>
    obtain ⟨c, hc⟩ : ∃ c, bs[i]? = some c := ⟨_, List.getElem?_eq_getElem (by omega)⟩
    by_cases hcc : c = 0
    · subst hcc
      repeat' (first
        | ((with_reducible apply wp_region_plain (id := 18)); refine xv (ex_move (ev_at rfl)) ?_; refine xv (ex_cmp (ev_at rfl) (ev_const _ _) (by first | exact lssT (by omega) | exact lssF (by omega) | rfl)) ?_; refine wl_nil ?_)
        | ((with_reducible apply wp_region_plain (id := 20)); refine xv (ex_move (ev_at rfl)) ?_; refine xv (ex_move (ev_at rfl)) ?_; (first | refine xv (ex_iaN (ev_at rfl) (ev_at rfl) (slT rfl) (szT rfl) (by first | assumption | exact IsSl.nil) (by omega)) ?_ | refine xv (ex_ia (ev_at rfl) (ev_at rfl) (slT rfl) (szT rfl) (by first | assumption | exact IsSl.nil) (by omega) (by omega)) ?_); refine xv (ex_load (ev_at rfl) (ldE1 (u := byteV 0) (hr.rd hS) hv (m := i) (by omega) (kdT rfl) (byteGet hc (by omega)))) ?_; refine xv (ex_cmp (ev_at rfl) (ev_const _ _) (by first | exact neqT (by omega) | exact neqF (by omega) | rfl)) ?_; refine wl_nil ?_)
        | ((with_reducible apply wp_region_plain (id := 19)); refine xv (ex_move (ev_at rfl)) ?_; refine xv (ex_arith (ev_at rfl) (ev_const _ _) rfl (by first | exact IntWalk.i64_in _ (by omega) | rfl)) ?_; refine xv (ex_assign (ev_at rfl)) ?_; refine wl_nil ?_)
        | ((fail_if_success (with_reducible apply wp_region_plain)); (fail_if_success (with_reducible apply wp_region_GS)); go_step))
      exact loopEndM rfl (256 - (i + 1)) ⟨i + 1, rfl, rfl, by omega, by omega, fun j h1 h2 => (by rcases Nat.lt_or_ge j i with h | h; exact hz j h1 h; rw [show j = i by omega]; exact hc), hS⟩ (by omega)
    · have hne : c.toNat ≠ 0 := fun h => hcc (UInt8.toNat_inj.1 h)
      have hdec : RC.decode bs = (zeroP, 3) := by
        rcases hcase with ⟨h, _⟩ | ⟨_, h⟩
        · exfalso
          have h := of_decide_eq_true h
          rw [List.all_eq_true] at h
          have := h c (List.mem_of_getElem? (i := i - (32 + N)) (by rw [List.getElem?_drop, show 32 + N + (i - (32 + N)) = i by omega]; exact hc))
          exact hcc (by simpa using this)
        · exact h
      repeat' (first
        | ((with_reducible apply wp_region_plain (id := 18)); refine xv (ex_move (ev_at rfl)) ?_; refine xv (ex_cmp (ev_at rfl) (ev_const _ _) (by first | exact lssT (by omega) | exact lssF (by omega) | rfl)) ?_; refine wl_nil ?_)
        | ((with_reducible apply wp_region_plain (id := 20)); refine xv (ex_move (ev_at rfl)) ?_; refine xv (ex_move (ev_at rfl)) ?_; (first | refine xv (ex_iaN (ev_at rfl) (ev_at rfl) (slT rfl) (szT rfl) (by first | assumption | exact IsSl.nil) (by omega)) ?_ | refine xv (ex_ia (ev_at rfl) (ev_at rfl) (slT rfl) (szT rfl) (by first | assumption | exact IsSl.nil) (by omega) (by omega)) ?_); refine xv (ex_load (ev_at rfl) (ldE1 (u := .int .u8 c.toNat) (hr.rd hS) hv (m := i) (by omega) (kdT rfl) (byteGet hc (by omega)))) ?_; refine xv (ex_cmp (ev_at rfl) (ev_const _ _) (by first | exact neqT (by omega) | exact neqF (by omega) | rfl)) ?_; refine wl_nil ?_)
        | ((with_reducible apply wp_region_plain (id := 21)); refine xv (ex_buildS (plT rfl) (zeT rfl) Fills.nil) ?_; refine wl_of rfl (wp_storeN (ev_at rfl) (ev_at rfl) hS (szT rfl) rfl (by first | rfl | assumption | (simp only [sub, splice, List.take_succ_cons, List.take_zero, List.drop_succ_cons, List.drop_zero, List.nil_append, List.cons_append, List.length_cons, List.length_nil, Nat.reduceAdd, List.all_cons, List.all_nil, Bool.and_eq_true, Bool.and_true]; ((repeat' apply And.intro) <;> first | rfl | assumption | exact IsSl.one (by assumption)))) fun w hS => wl_put0 ?_); refine xv (ex_assign (ev_const _ _)) ?_; refine wl_nil ?_; (try simp only [lset, splice, sub, List.take_succ_cons, List.take_zero, List.drop_succ_cons, List.drop_zero, List.nil_append, List.cons_append, List.length_cons, List.length_nil, Nat.reduceAdd, Nat.zero_add, rep_zero] at hS))
        | ((fail_if_success (with_reducible apply wp_region_plain)); (fail_if_success (with_reducible apply wp_region_GS)); go_step))
      refine endN (by first | exact .inl rfl | exact .inr rfl) rfl (ResL.rc rfl (ldN hS (kdT rfl) (szT rfl) rfl) (ResL.rt rfl ResL.rn)) rfl ?_
      rw [hdec]
      exact ⟨.slice none 0 0, rfl, IsSl.nil, hS.drop.drop.drop.drop.nilRow _ _⟩
  have hdec : RC.decode bs = (P, 0) := by
    rcases hcase with ⟨_, _, h⟩ | ⟨h, _⟩
    · exact h
    · exfalso
      refine h ⟨?_, rfl⟩
      rw [List.all_eq_true]
      intro x hx
      obtain ⟨j, hj⟩ := List.getElem?_of_mem hx
      rw [List.getElem?_drop] at hj
      have hjl := (List.getElem?_eq_some_iff.1 hj).1
      rw [hz (32 + N + j) (by omega) (by omega)] at hj
      simp [← Option.some.inj hj]
  repeat' (first
    | ((with_reducible apply wp_region_plain (id := 18)); refine xv (ex_move (ev_at rfl)) ?_; refine xv (ex_cmp (ev_at rfl) (ev_const _ _) (by first | exact lssT (by omega) | exact lssF (by omega) | rfl)) ?_; refine wl_nil ?_)
    | ((with_reducible apply wp_region_plain (id := 22)); refine xv (ex_load (ev_at rfl) (ldN hS (kdT rfl) (szT rfl) rfl)) ?_; refine wl_of rfl (wp_storeN (ev_at rfl) (ev_at rfl) hS (szT rfl) rfl (by first | rfl | assumption | (simp only [sub, splice, List.take_succ_cons, List.take_zero, List.drop_succ_cons, List.drop_zero, List.nil_append, List.cons_append, List.length_cons, List.length_nil, Nat.reduceAdd, List.all_cons, List.all_nil, Bool.and_eq_true, Bool.and_true]; ((repeat' apply And.intro) <;> first | rfl | assumption | exact IsSl.one (by assumption)))) fun w hS => wl_put0 ?_); refine xv (ex_assign (ev_const _ _)) ?_; refine wl_nil ?_; (try simp only [lset, splice, sub, List.take_succ_cons, List.take_zero, List.drop_succ_cons, List.drop_zero, List.nil_append, List.cons_append, List.length_cons, List.length_nil, Nat.reduceAdd, Nat.zero_add, rep_zero] at hS))
    | ((fail_if_success (with_reducible apply wp_region_plain)); (fail_if_success (with_reducible apply wp_region_GS)); go_step))
  refine endN (by first | exact .inl rfl | exact .inr rfl) rfl (ResL.rc rfl (ldN hS (kdT rfl) (szT rfl) rfl) (ResL.rt rfl ResL.rn)) rfl ?_
  rw [hdec]
  exact ⟨u, rfl, by rw [hPl]; exact hu, by rw [hPl]; exact hS.drop.del1.del1⟩
end
end Go.Proofs.Try
