/- The device: contracts (5): the loop over slices.Backward; visible; Read. -/
import Derived.Test.YthbakafjhgcieaaDC4
namespace Go.Proofs.Try
open Go.RowKit Go.SL Go.DK
set_option maxRecDepth 100000
set_option linter.unusedSimpArgs false
set_option linter.unusedVariables false
section
variable {w : World} {I : Gh} {L : List Ch}
def RndR (I : Gh) (N0 : List Ch) (pass : Nat → Prop) (stop : Nat → Code → List Ch → Prop) (i : Nat) : Option Code → Gh → List Ch → Prop
  | none, J, M => J = I ∧ M = N0 ∧ pass i
  | some c, J, M => J = I ∧ stop i c M
def RoundOk (I : Gh) (l : Nat) (rec : Loop) (N0 : List Ch) (pass : Nat → Prop) (stop : Nat → Code → List Ch → Prop) (i : Nat) (args : Array Value) : Prop :=
  ∀ w, Sat w I (Blk l (.loop rec) :: N0) → rec.assign.wpIn (Fence.wide.inRound l) 9 Try.prog (Exit.then (fun a1 w1 => ∃ M, Sat w1 I (Blk l (.loop rec) :: M) ∧ ∀ w2, Sat w2 I (Blk l (.loop { rec with state := .busy }) :: M) →
      rec.body.wpIn (Fence.wide.inRound l) 9 Try.prog (rndPost I l rec (RndR I N0 pass stop i)) a1 w2) (fun _ _ _ => False)) ⟨(rec.params.zip args).foldl (fun tmps (t, a) => tmps.setIfInBounds t a) rec.tmps, []⟩ w
set_option maxHeartbeats 1000000 in
theorem back1_ct {l bs N : Nat} {rec : Loop} {pv : Value} {xs : List Value} {pass : Nat → Prop} {stop : Nat → Code → List Ch → Prop} (hrec : rec.state = .ready) (hpd : rec.pending = none) (hps : rec.params.size = 2)
    (hr : Rds I L pv xs) (hv : IsSl pv N) (hl : xs.length = N * 257) (hN : N < 1000000)
    (hround : ∀ i, i < N → RoundOk I l rec (Cells bs 69 [pv] :: L) pass stop i #[.int .i64 i, .agg (sub xs (i * 257) 257).toArray])
    (hS : Sat w I (Blk l (.loop rec) :: Cells bs 69 [pv] :: L)) :
    Calls Try.prog 56 #[.func (.yield l) #[] #[], .pointer (some ⟨bs, 0, none⟩)] w fun e w2 => e = .returned (.tuple #[]) ∧
      (((∀ i, i < N → pass i) ∧ Sat w2 I (Blk l (.loop rec) :: Cells bs 69 [pv] :: L)) ∨
       ∃ i c M, i < N ∧ (∀ j, i < j → j < N → pass j) ∧ stop i c M ∧ Sat w2 I (Blk l (.loop { rec with state := .done, pending := some c }) :: M)) := by
  go_enter Try.func56, Try.ntmps56
  repeat' (first
    | ((with_reducible apply wp_region_plain (id := 0)); refine xv (ex_load (ev_at rfl) (ld1 hS (kdT rfl) rfl)) ?_; refine xv (ex_len (ev_at rfl) (slT rfl) (by first | assumption | exact IsSl.nil)) ?_; refine xv (ex_arith (ev_at rfl) (ev_const _ _) rfl (by first | exact IntWalk.i64_in _ (by omega) | rfl)) ?_; refine xv (ex_assign (ev_at rfl)) ?_; refine wl_nil ?_)
    | ((fail_if_success (with_reducible apply wp_region_plain)); (fail_if_success (with_reducible apply wp_region_GS)); go_step))
  refine wp_loopR [false, false, false, true, false, false, false, true, true, true, true, true, true, true, true, true, true, true, true] (fun f w => ∃ i : Int, f 3 = .int .i64 i ∧ -1 ≤ i ∧ i < N ∧ (∀ j : Nat, i < j → j < N → pass j) ∧ Sat w I (Blk l (.loop rec) :: Cells bs 69 [pv] :: L))
    (fun f _ => match f 3 with | .int _ n => (n + 1).toNat | _ => 0) rfl ⟨(N : Int) - 1, rfl, by omega, by omega, fun j h1 h2 => by omega, hS⟩ ?_
  clear hS
  rintro f w ⟨i, h3, hi0, hi1, hpass, hS⟩
  simp only [havoc, Nat.reduceAdd, h3]
  by_cases hi : 0 ≤ i
  · obtain ⟨k, rfl⟩ := Int.eq_ofNat_of_zero_le hi
    have hk : k < N := by omega
    repeat' (first
      | ((with_reducible apply wp_region_plain (id := 1)); refine xv (ex_move (ev_at rfl)) ?_; refine xv (ex_cmp (ev_at rfl) (ev_const _ _) (by first | exact geqT (by omega) | exact geqF (by omega) | rfl)) ?_; refine wl_nil ?_)
      | ((fail_if_success (with_reducible apply wp_region_plain)); (fail_if_success (with_reducible apply wp_region_GS)); go_step))
    refine wp_region_F ?_
    refine wf_val rfl rfl (ex_move (ev_at rfl)) (by simp only [lset] <;> rfl) ?_
    refine wf_val rfl rfl (ex_move (ev_at rfl)) (by simp only [lset] <;> rfl) ?_
    refine wf_val rfl rfl (ex_load (ev_at rfl) (ld1 hS (kdT rfl) rfl)) (by simp only [lset] <;> rfl) ?_
    refine wf_val rfl rfl (ex_move (ev_at rfl)) (by simp only [lset] <;> rfl) ?_
    refine wf_val rfl rfl (ex_iaN (ev_at rfl) (ev_at rfl) (slT rfl) (szT rfl) hv (by omega)) (by simp only [lset] <;> rfl) ?_
    refine wf_val rfl rfl (ex_load (ev_at rfl) (ldEN (hr.rd hS) hv hk (kdT rfl) (szT rfl) rfl (by simp [sub, hl]; omega))) (by simp only [lset] <;> rfl) ?_
    refine wf_of rfl (wf_yield (i := l) (ev_at rfl) (EvL.c (ev_at rfl) (EvL.c (ev_at rfl) EvL.n)) hS hrec hpd (by simp [hps]) (RndR I (Cells bs 69 [pv] :: L) pass stop k) (hround k hk _ hS) ?_ ?_)
    · rintro J M w ⟨rfl, rfl, hp⟩ hS
      refine wf_put (by simp only [lset] <;> rfl) ?_
      refine wf_val rfl rfl (ex_not (ev_at rfl)) (by simp only [lset] <;> rfl) ?_
      refine wpListIn_nil ?_
      repeat' (first
        | ((with_reducible apply wp_region_plain (id := 2)); refine xv (ex_move (ev_at rfl)) ?_; refine xv (ex_arith (ev_at rfl) (ev_const _ _) rfl (by first | exact IntWalk.i64_in _ (by omega) | rfl)) ?_; refine xv (ex_assign (ev_at rfl)) ?_; refine wl_nil ?_)
        | ((fail_if_success (with_reducible apply wp_region_plain)); (fail_if_success (with_reducible apply wp_region_GS)); go_step))
      refine loopEnd rfl ⟨(k : Int) - 1, rfl, by omega, by omega, fun j h1 h2 => ?_, hS⟩ ?_
      · by_cases hj : j = k
        · subst hj; exact hp
        · exact hpass j (by omega) h2
      · simp only [nth, h3]; omega
    · rintro c J M w ⟨rfl, hst⟩ hS
      refine wf_put (by simp only [lset] <;> rfl) ?_
      refine wf_val rfl rfl (ex_not (ev_at rfl)) (by simp only [lset] <;> rfl) ?_
      refine wpListIn_nil ?_
      repeat' (first
        | ((fail_if_success (with_reducible apply wp_region_plain)); (fail_if_success (with_reducible apply wp_region_GS)); go_step))
      refine endN (by first | exact .inl rfl | exact .inr rfl) rfl ResL.rn rfl ?_
      exact ⟨rfl, .inr ⟨k, c, M, hk, fun j h1 h2 => hpass j (by omega) h2, hst, hS⟩⟩
  · repeat' (first
      | ((with_reducible apply wp_region_plain (id := 1)); refine xv (ex_move (ev_at rfl)) ?_; refine xv (ex_cmp (ev_at rfl) (ev_const _ _) (by first | exact geqT (by omega) | exact geqF (by omega) | rfl)) ?_; refine wl_nil ?_)
      | ((fail_if_success (with_reducible apply wp_region_plain)); (fail_if_success (with_reducible apply wp_region_GS)); go_step))
    refine endN (by first | exact .inl rfl | exact .inr rfl) rfl ResL.rn rfl ?_
    exact ⟨rfl, .inl ⟨fun j hj => hpass j (by omega) hj, hS⟩⟩

set_option maxHeartbeats 1000000 in
theorem backward_ct (pv : Value) (n : Nat) (hpv : IsSl pv n) (hS : Sat w I L) : Calls Try.prog 50 #[pv] w fun e w2 => ∃ bs, e = .returned (.func (.func 56) #[] #[.pointer (some ⟨bs, 0, none⟩)]) ∧ Sat w2 I (Cells bs 69 [pv] :: L) := by
  go_enter Try.func50, Try.ntmps50
  repeat' (first
    | ((with_reducible apply wp_region_plain (id := 0)); refine wl_of rfl (wp_box1 (ev_at rfl) hS (by first | rfl | exact IsSl.one (by assumption)) fun b1 w hS => wl_put (by simp only [lset] <;> rfl) ?_); refine xv (ex_assign (ev_const _ _)) ?_; refine wl_nil ?_)
    | ((with_reducible apply wp_region_plain (id := 1)); refine xv (ex_makeFunc EvL.n (EvL.c (ev_at rfl) EvL.n)) ?_; refine xv (ex_assign (ev_at rfl)) ?_; refine wl_nil ?_)
    | ((fail_if_success (with_reducible apply wp_region_plain)); (fail_if_success (with_reducible apply wp_region_GS)); go_step))
  refine end1 (by first | exact .inl rfl | exact .inr rfl) rfl (ResL.rt rfl ResL.rn) ?_
  exact ⟨b1, rfl, hS⟩

set_option maxHeartbeats 1000000 in
theorem visible_ct (b : Nat) (D : DS) (k : Int) (hD : D.Ok) (hp : D.pend.length < 1000) (hS : Sat w I (DiskC b D :: L)) :
    Calls Try.prog 33 #[.pointer (some ⟨b, 0, none⟩), .int .i64 k] w fun e w' => e = .returned (secV (vis D k)) ∧ Sat w' I (DiskC b D :: L) := by
  obtain ⟨m, pv, hS⟩ := disk_open hS
  obtain ⟨hv, hl, hrd, _⟩ := hS.row 2 rfl
  refine calls_marks Try.func33 rfl ?_
  simp only [Try.ntmps33, List.size_toArray, List.length_cons, List.length_nil, Nat.reduceAdd, Nat.reduceSub, Array.replicate_succ, Array.replicate_zero, List.push_toArray, List.append_toArray, List.nil_append, List.cons_append]
  repeat' (first
    | ((with_reducible apply wp_region_plain (id := 0)); refine wl_of rfl (wp_box1 (ev_at rfl) hS (by first | rfl | exact IsSl.one (by assumption)) fun b3 w hS => wl_put (by simp only [lset] <;> rfl) ?_); refine wl_of rfl (wp_alloc hS (zeT rfl) fun b4 w hS => wl_put (by simp only [lset] <;> rfl) ?_); refine wl_nil ?_)
    | ((with_reducible apply wp_region_plain (id := 1)); refine xv (ex_move (ev_at rfl)) ?_; (first | refine xv (ex_nilCheck (ev_at rfl)) ?_ | refine xv (ex_nilCheckF (ev_at rfl)) ?_); (first | refine xv (ex_fa (ev_at rfl) (flT rfl)) ?_ | refine xv (ex_faE (ev_at rfl) (flT rfl) (by assumption) (by assumption)) ?_); refine xv (ex_load (ev_at rfl) (ld1 hS (kdT rfl) rfl)) ?_; refine wl_of rfl (wp_callL (cbT rfl) (EvL.c (ev_at rfl) EvL.n) ?_); refine (backward_ct pv _ hv hS).mono ?_; rintro e w ⟨bs, rfl, hS⟩; refine ⟨_, rfl, wl_put (by simp only [lset] <;> rfl) ?_⟩; refine wl_nil ?_)
    | ((fail_if_success (with_reducible apply wp_region_plain)); (fail_if_success (with_reducible apply wp_region_GS)); go_step))
  refine wp_rangeFuncS (gf := 56) (lb := [.pointer (some ⟨bs, 0, none⟩)]) (ev_at rfl) (cbT rfl) hS ?_
  clear hS hrd
  intro fn l Dd w hS
  have hS := hS.perm (List.Perm.cons _ (List.Perm.swap _ _ _))
  refine (back1_ct (N := D.pend.length) (pass := fun j => ∀ p, D.pend[j]? = some p → p.1 ≠ k)
    (stop := fun j c M => c = .ret ∧ ∃ p, D.pend[j]? = some p ∧ p.1 = k ∧ M = Cells bs 69 [pv] :: Blk Dd (.deferred (some [])) :: Cells b4 73 (p.2.map byteV) :: Cells b3 3 [.int .i64 k] ::
      Cells b 71 [.int .i64 D.n, .map (some m), pv, .int .i64 D.ops, .bool D.limd, .int .i64 D.lim, .bool D.down] :: MapI m (dkv D.dur) :: Row pv 75 257 D.pend.length (flatP D.pend) :: L)
    rfl rfl rfl (Rds.le (L := Row pv 75 257 D.pend.length (flatP D.pend) :: L) Rds.row) hv hl (by omega) ?_ hS).mono ?_
  · intro i hi w hS
    obtain ⟨p, hp1⟩ : ∃ p, D.pend[i]? = some p := ⟨_, List.getElem?_eq_getElem hi⟩
    have hp2 : p.2.length = 256 := hD.pend p (List.mem_of_getElem? hp1)
    rw [flatP_sub hD.pend hp1, foldl_lsets]
    simp only [lsets, lset]
    refine wi_region rfl (fun _ _ h => h) ?_
    refine wl_of rfl (wp_alloc hS (zeT rfl) fun b6 w hS => wl_put (by simp only [lset] <;> rfl) ?_)
    (first | refine wl_of rfl (wp_storeN (ev_at rfl) (ev_at rfl) hS (szT rfl) rfl (by first | rfl | assumption | (simp only [sub, splice, List.take_succ_cons, List.take_zero, List.drop_succ_cons, List.drop_zero, List.nil_append, List.cons_append, List.length_cons, List.length_nil, Nat.reduceAdd, List.all_cons, List.all_nil, Bool.and_eq_true, Bool.and_true]; ((repeat' apply And.intro) <;> first | rfl | assumption | exact IsSl.one (by assumption)))) fun w hS => wl_put0 ?_) | refine wl_of rfl (wp_storeW (ev_at rfl) (ev_at rfl) hS (szT rfl) (by simp [hp2]) (by simp) (Oc.of_all (by simp only [List.all_cons, byteV_all]; rfl)) fun w hS => wl_put0 ?_))
    refine wl_nil ?_
    (try simp only [lset, splice, sub, List.take_succ_cons, List.take_zero, List.drop_succ_cons, List.drop_zero, List.nil_append, List.cons_append, List.length_cons, List.length_nil, Nat.reduceAdd, Nat.zero_add, rep_zero] at hS)
    refine ⟨_, hS.swap, ?_⟩
    clear hS
    intro w hS
    refine wpIn_block (wpIn_seq ?_)
    refine wi_region rfl (fun _ _ h => h) ?_
    by_cases hk : p.1 = k
    · (first | refine xv (ex_fa (ev_at rfl) (flT rfl)) ?_ | refine xv (ex_faE (ev_at rfl) (flT rfl) (by assumption) (by assumption)) ?_)
      refine xv (ex_load (ev_at rfl) (ld1 hS (kdT rfl) rfl)) ?_
      refine xv (ex_load (ev_at rfl) (ld1 hS (kdT rfl) rfl)) ?_
      refine xv (ex_cmp (ev_at rfl) (ev_at rfl) (by first | exact eqlT (by omega) | exact eqlF (by omega) | rfl)) ?_
      refine wl_nil ?_
      refine wpIn_cond_true (ev_at rfl) (wpIn_seq ?_)
      refine wi_region rfl (fun _ _ h => h) ?_
      (first | refine xv (ex_fa (ev_at rfl) (flT rfl)) ?_ | refine xv (ex_faE (ev_at rfl) (flT rfl) (by assumption) (by assumption)) ?_)
      refine xv (ex_load (ev_at rfl) (by first | exact ldN hS (kdT rfl) (szT rfl) rfl | exact ldNs (ys := p.2.map byteV) hS (kdT rfl) (szT rfl) (by simp [sub, hp2]; rw [List.take_of_length_le (by simp [hp2])]) (by simp [hp2]) (by omega))) ?_
      (first | refine wl_of rfl (wp_storeN (ev_at rfl) (ev_at rfl) hS (szT rfl) rfl (by first | rfl | assumption | (simp only [sub, splice, List.take_succ_cons, List.take_zero, List.drop_succ_cons, List.drop_zero, List.nil_append, List.cons_append, List.length_cons, List.length_nil, Nat.reduceAdd, List.all_cons, List.all_nil, Bool.and_eq_true, Bool.and_true]; ((repeat' apply And.intro) <;> first | rfl | assumption | exact IsSl.one (by assumption)))) fun w hS => wl_put0 ?_) | refine wl_of rfl (wp_storeW (ev_at rfl) (ev_at rfl) hS (szT rfl) (by simp [hp2]) (by simp) (byteV_Oc _) fun w hS => wl_put0 ?_))
      refine wl_nil ?_
      (try simp only [lset, splice, sub, List.take_succ_cons, List.take_zero, List.drop_succ_cons, List.drop_zero, List.nil_append, List.cons_append, List.length_cons, List.length_nil, Nat.reduceAdd, Nat.zero_add, rep_zero] at hS)
      refine wpIn_ret ?_
      exact ⟨I, _, hS.swap.drop, rfl, rfl, p, hp1, hk, rfl⟩
    · (first | refine xv (ex_fa (ev_at rfl) (flT rfl)) ?_ | refine xv (ex_faE (ev_at rfl) (flT rfl) (by assumption) (by assumption)) ?_)
      refine xv (ex_load (ev_at rfl) (ld1 hS (kdT rfl) rfl)) ?_
      refine xv (ex_load (ev_at rfl) (ld1 hS (kdT rfl) rfl)) ?_
      refine xv (ex_cmp (ev_at rfl) (ev_at rfl) (by first | exact eqlT (by omega) | exact eqlF (by omega) | rfl)) ?_
      refine wl_nil ?_
      refine wpIn_cond_false (ev_at rfl) (wpIn_skip ?_)
      refine ⟨I, _, hS.swap.drop, rfl, rfl, ?_⟩
      intro q hq
      rw [hp1] at hq
      cases hq
      exact hk
  · rintro e w (⟨rfl, ⟨hpass, hS⟩ | ⟨i, c, M, hi, hpass, ⟨rfl, p, hp1, hp2, rfl⟩, hS⟩⟩)
    · refine ⟨⟨_, rfl⟩, _, _, _, _, (by simp), hS, ?_⟩
      intro w hS
      show Exit.inBlock _ _ _ _ _
      have hvl := hD.vis_len k
      have hvis : (kvGet (dkv D.dur) k).getD (secV zSec) = .agg ((vis D k).map byteV).toArray := by
        rw [vis_none (fun j p h => hpass j (List.getElem?_eq_some_iff.1 h).1 p h), dget, dkv, kvGet_map]
        cases kvGet D.dur k <;> rfl
      repeat' (first
        | ((with_reducible apply wp_region_GS (id := 5) 7 (fun j => [0, 1, 2, 3, 4, 5].contains j) mixed); rfl; exact hS; (clear hS; intro w hS); refine xp 0 rfl rfl (fun w => ex_move (ev_at rfl)) ?_; (first | refine xp 1 rfl rfl (fun w => ex_nilCheck (ev_at rfl)) ?_ | refine xp 1 rfl rfl (fun w => ex_nilCheckF (ev_at rfl)) ?_); (first | refine xp 2 rfl rfl (fun w => ex_fa (ev_at rfl) (flT rfl)) ?_ | refine xp 2 rfl rfl (fun w => ex_faE (ev_at rfl) (flT rfl) (by assumption) (by assumption)) ?_); refine xr 3 hS rfl rfl (fun w X hS => ex_load (ev_at rfl) (ld1 hS (kdT rfl) rfl)) ?_; refine xr 4 hS rfl rfl (fun w X hS => ex_load (ev_at rfl) (ld1 hS (kdT rfl) rfl)) ?_; refine xr 5 hS rfl rfl (fun w X hS => ex_lookup (ev_at rfl) (ev_at rfl) (unT rfl) (unT rfl) hS (zeroOf (zv := secV zSec) (by kernel_rfl))) ?_; refine wg_loud 6 (by decide +kernel) rfl rfl (wp_storeW (vs := (vis D k).map byteV) (ev_at rfl) ((ev_at rfl).trans hvis) hS (szT rfl) (by simp [hvl]) (by simp) (byteV_Oc _) fun w hS => ⟨gsF rfl, wg_n ?_⟩); refine wg_end (by decide +kernel) ?_; (try simp only [lset, splice, sub, List.take_succ_cons, List.take_zero, List.drop_succ_cons, List.drop_zero, List.nil_append, List.cons_append, List.length_cons, List.length_nil, Nat.reduceAdd, Nat.zero_add, rep_zero] at hS))
        | ((fail_if_success (with_reducible apply wp_region_plain)); (fail_if_success (with_reducible apply wp_region_GS)); go_step))
      refine endM (vs := [secV (vis D k)]) (by first | exact .inl rfl | exact .inr rfl) rfl hS.drop (fun w hS => ResL.rc rfl (ldW hS (kdT rfl) (szT rfl) (by simp [hvl])) ResL.rn) (fun w hS => ⟨rfl, disk_shut hS.drop.drop⟩)
    · refine ⟨⟨_, rfl⟩, _, _, _, _, (by simp), hS, ?_⟩
      clear hS
      intro w hS
      dsimp only
      repeat' (first
        | ((fail_if_success (with_reducible apply wp_region_plain)); (fail_if_success (with_reducible apply wp_region_GS)); go_step))
      have e := vis_some hp1 hp2 (fun j q h1 h2 => hpass j h1 (List.getElem?_eq_some_iff.1 h2).1 q h2)
      have hpl := hD.pend p (List.mem_of_getElem? hp1)
      rw [e]
      refine endM (vs := [secV p.2]) (by first | exact .inl rfl | exact .inr rfl) rfl hS.drop (fun w hS => ResL.rc rfl (ldW hS (kdT rfl) (szT rfl) (by simp [hpl])) ResL.rn) (fun w hS => ⟨rfl, disk_shut hS.drop.drop⟩)
end
end Go.Proofs.Try
