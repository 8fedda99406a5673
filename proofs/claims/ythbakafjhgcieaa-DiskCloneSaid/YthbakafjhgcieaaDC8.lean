/- The device: contracts (8): Restart. -/
import Derived.Test.YthbakafjhgcieaaDC7
namespace Go.Proofs.Try
open Go.RowKit Go.SL Go.DK
set_option maxRecDepth 100000
set_option linter.unusedSimpArgs false
set_option linter.unusedVariables false
section
variable {w : World} {I : Gh} {L : List Ch}
theorem ex_lookD {a : Act} {dst : Option Tmp} {x y : Operand} {ty : TypeId} {pos : String} {af : Array Edge} {gd : Option (Nat × Bool)} {m : Nat} {k : Int} {dur : List (Int × List UInt8)} {rep : Ch → List Ch} (hx : a.eval x = .map (some m)) (hy : a.eval y = .int .i64 k) (hS : Sat w I L) [hi : HasMap L m (dkv dur) rep] :
    Ex Try.prog a ⟨dst, .lookup 68 x y false, ty, pos, af, gd⟩ w (secV (dget dur k)) := by
  have h := ex_lookup (P := Try.prog) (dst := dst) (ty := ty) (pos := pos) (af := af) (gd := gd) (t := 68) hx hy (unT rfl) (unT rfl) hS (zeroOf (zv := secV zSec) (by kernel_rfl))
  rw [dkv, kvGet_map] at h
  unfold dget
  cases hg : kvGet dur k <;> rw [hg] at h <;> exact h
set_option maxHeartbeats 1000000 in
theorem fates_ct (hS : Sat w I L) : Calls Try.prog 37 #[] w fun e w' => e = .returned (.agg ([.func (.func 51) #[] #[], .func (.func 52) #[] #[], .func (.func 53) #[] #[]] : List Value).toArray) ∧ Sat w' I L := by
  go_enter Try.func37, Try.ntmps37
  repeat' (first
    | ((with_reducible apply wp_region_plain (id := 0)); refine wl_of rfl (wp_alloc hS (zeT rfl) fun b0 w hS => wl_put (by simp only [lset] <;> rfl) ?_); refine wl_nil ?_)
    | ((with_reducible apply wp_region_plain (id := 1)); refine xv (ex_buildA (arT rfl) (szT rfl) (zeT rfl) (Fills.cons rfl rfl (by first | exact IsSl.cellsL (by assumption) | exact cellsL1 rfl | rfl) rfl rfl (Fills.cons rfl rfl (by first | exact IsSl.cellsL (by assumption) | exact cellsL1 rfl | rfl) rfl rfl (Fills.cons rfl rfl (by first | exact IsSl.cellsL (by assumption) | exact cellsL1 rfl | rfl) rfl rfl Fills.nil)))) ?_; refine wl_of rfl (wp_storeN (ev_at rfl) (ev_at rfl) hS (szT rfl) rfl (by first | rfl | assumption | (simp only [sub, splice, List.take_succ_cons, List.take_zero, List.drop_succ_cons, List.drop_zero, List.nil_append, List.cons_append, List.length_cons, List.length_nil, Nat.reduceAdd, List.all_cons, List.all_nil, Bool.and_eq_true, Bool.and_true]; ((repeat' apply And.intro) <;> first | rfl | assumption | exact IsSl.one (by assumption)))) fun w hS => wl_put0 ?_); refine wl_nil ?_; (try simp only [lset, splice, sub, List.take_succ_cons, List.take_zero, List.drop_succ_cons, List.drop_zero, List.nil_append, List.cons_append, List.length_cons, List.length_nil, Nat.reduceAdd, Nat.zero_add, rep_zero] at hS))
    | ((fail_if_success (with_reducible apply wp_region_plain)); (fail_if_success (with_reducible apply wp_region_GS)); go_step))
  refine end1 (by first | exact .inl rfl | exact .inr rfl) rfl (ResL.rc rfl (ldN hS (kdT rfl) (szT rfl) rfl) ResL.rn) ?_
  exact ⟨rfl, hS.drop⟩
set_option maxHeartbeats 1000000 in
theorem fate1_ct (old bs : List UInt8) (c : UInt8) (h1 : old.length = 256) (h2 : bs.length = 256) (hc : c.toNat % 3 = 0) (hS : Sat w I L) : Calls Try.prog 51 #[secV old, secV bs, byteV c] w fun e w' => e = .returned (secV (fate old bs c)) ∧ Sat w' I L := by
  go_enter Try.func51, Try.ntmps51
  repeat' (first
    | ((with_reducible apply wp_region_plain (id := 0)); refine wl_of rfl (wp_boxN (ev_at rfl) hS fun b3 w hS => wl_put (by simp only [lset] <;> rfl) ?_); refine wl_of rfl (wp_boxN (ev_at rfl) hS fun b4 w hS => wl_put (by simp only [lset] <;> rfl) ?_); refine wl_of rfl (wp_alloc hS (zeT rfl) fun b6 w hS => wl_put (by simp only [lset] <;> rfl) ?_); refine wl_nil ?_)
    | ((with_reducible apply wp_region_plain (id := 1)); refine xv (ex_load (ev_at rfl) (by first | exact ldN hS (kdT rfl) (szT rfl) rfl | exact ldW hS (kdT rfl) (szT rfl) (by simpa using h1))) ?_; (first | refine wl_of rfl (wp_storeN (ev_at rfl) (ev_at rfl) hS (szT rfl) rfl (by first | rfl | assumption | (simp only [sub, splice, List.take_succ_cons, List.take_zero, List.drop_succ_cons, List.drop_zero, List.nil_append, List.cons_append, List.length_cons, List.length_nil, Nat.reduceAdd, List.all_cons, List.all_nil, Bool.and_eq_true, Bool.and_true]; ((repeat' apply And.intro) <;> first | rfl | assumption | exact IsSl.one (by assumption)))) fun w hS => wl_put0 ?_) | refine wl_of rfl (wp_storeW (ev_at rfl) (ev_at rfl) hS (szT rfl) (by simp [h1]) (by simp) (byteV_Oc _) fun w hS => wl_put0 ?_)); refine wl_nil ?_; (try simp only [lset, splice, sub, List.take_succ_cons, List.take_zero, List.drop_succ_cons, List.drop_zero, List.nil_append, List.cons_append, List.length_cons, List.length_nil, Nat.reduceAdd, Nat.zero_add, rep_zero] at hS))
    | ((fail_if_success (with_reducible apply wp_region_plain)); (fail_if_success (with_reducible apply wp_region_GS)); go_step))
  refine end1 (by first | exact .inl rfl | exact .inr rfl) rfl (ResL.rc rfl (ldW hS (kdT rfl) (szT rfl) (by simp [h1])) ResL.rn) ?_
  refine ⟨by simp [fate, hc, secV], hS.drop.drop.drop⟩
set_option maxHeartbeats 1000000 in
theorem fate2_ct (old bs : List UInt8) (c : UInt8) (h1 : old.length = 256) (h2 : bs.length = 256) (hc : c.toNat % 3 = 1) (hS : Sat w I L) : Calls Try.prog 52 #[secV old, secV bs, byteV c] w fun e w' => e = .returned (secV (fate old bs c)) ∧ Sat w' I L := by
  go_enter Try.func52, Try.ntmps52
  repeat' (first
    | ((with_reducible apply wp_region_plain (id := 0)); refine wl_of rfl (wp_boxN (ev_at rfl) hS fun b3 w hS => wl_put (by simp only [lset] <;> rfl) ?_); refine wl_of rfl (wp_boxN (ev_at rfl) hS fun b4 w hS => wl_put (by simp only [lset] <;> rfl) ?_); refine wl_of rfl (wp_alloc hS (zeT rfl) fun b6 w hS => wl_put (by simp only [lset] <;> rfl) ?_); refine wl_nil ?_)
    | ((with_reducible apply wp_region_plain (id := 1)); refine xv (ex_load (ev_at rfl) (by first | exact ldN hS (kdT rfl) (szT rfl) rfl | exact ldW hS (kdT rfl) (szT rfl) (by simpa using h2))) ?_; (first | refine wl_of rfl (wp_storeN (ev_at rfl) (ev_at rfl) hS (szT rfl) rfl (by first | rfl | assumption | (simp only [sub, splice, List.take_succ_cons, List.take_zero, List.drop_succ_cons, List.drop_zero, List.nil_append, List.cons_append, List.length_cons, List.length_nil, Nat.reduceAdd, List.all_cons, List.all_nil, Bool.and_eq_true, Bool.and_true]; ((repeat' apply And.intro) <;> first | rfl | assumption | exact IsSl.one (by assumption)))) fun w hS => wl_put0 ?_) | refine wl_of rfl (wp_storeW (ev_at rfl) (ev_at rfl) hS (szT rfl) (by simp [h2]) (by simp) (byteV_Oc _) fun w hS => wl_put0 ?_)); refine wl_nil ?_; (try simp only [lset, splice, sub, List.take_succ_cons, List.take_zero, List.drop_succ_cons, List.drop_zero, List.nil_append, List.cons_append, List.length_cons, List.length_nil, Nat.reduceAdd, Nat.zero_add, rep_zero] at hS))
    | ((fail_if_success (with_reducible apply wp_region_plain)); (fail_if_success (with_reducible apply wp_region_GS)); go_step))
  refine end1 (by first | exact .inl rfl | exact .inr rfl) rfl (ResL.rc rfl (ldW hS (kdT rfl) (szT rfl) (by simp [h2])) ResL.rn) ?_
  refine ⟨by simp [fate, hc, secV], hS.drop.drop.drop⟩
set_option maxHeartbeats 1000000 in
theorem fate3_ct (old bs : List UInt8) (c : UInt8) (h1 : old.length = 256) (h2 : bs.length = 256) (hc : c.toNat % 3 = 2) (hS : Sat w I L) : Calls Try.prog 53 #[secV old, secV bs, byteV c] w fun e w' => e = .returned (secV (fate old bs c)) ∧ Sat w' I L := by
  have hk := c.toNat_lt
  have hn : 0 ≤ (c.toNat : Int) / 3 % 17 * 16 ∧ (c.toNat : Int) / 3 % 17 * 16 ≤ 256 := by omega
  have e : ((c.toNat : Int) / 3 % 17 * 16).toNat = c.toNat / 3 % 17 * 16 := by omega
  go_enter Try.func53, Try.ntmps53
  repeat' (first
    | ((with_reducible apply wp_region_plain (id := 0)); refine wl_of rfl (wp_boxN (ev_at rfl) hS fun b3 w hS => wl_put (by simp only [lset] <;> rfl) ?_); refine wl_of rfl (wp_boxN (ev_at rfl) hS fun b4 w hS => wl_put (by simp only [lset] <;> rfl) ?_); refine wl_of rfl (wp_alloc hS (zeT rfl) fun b6 w hS => wl_put (by simp only [lset] <;> rfl) ?_); refine wl_nil ?_)
    | ((with_reducible apply wp_region_plain (id := 1)); refine xv (ex_move (ev_at rfl)) ?_; refine xv (ex_convII (ev_at rfl) (inT rfl) (kdT rfl) (by first | exact IntWalk.i64_in _ (by omega) | rfl)) ?_; refine xv (ex_quo (ev_at rfl) (ev_const _ _) (by first | decide | omega) (by omega) (by first | exact IntWalk.i64_in _ (by omega) | rfl)) ?_; refine xv (ex_rem (ev_at rfl) (ev_const _ _) (by first | decide | omega) (by omega)) ?_; refine xv (ex_arith (ev_at rfl) (ev_const _ _) rfl (by first | exact IntWalk.i64_in _ (by omega) | rfl)) ?_; refine xv (ex_assign (ev_at rfl)) ?_; refine wl_nil ?_)
    | ((with_reducible apply wp_region_GS (id := 2) 5 (fun j => [0, 1, 2, 3].contains j) mixed); rfl; exact hS; (clear hS; intro w hS); refine xp 0 rfl rfl (fun w => ex_move (ev_at rfl)) ?_; refine xp 1 rfl rfl (fun w => ex_sliceAH (ev_at rfl) (ev_at rfl) (arT rfl) (szT rfl) (by omega) (by omega)) ?_; refine xp 2 rfl rfl (fun w => ex_move (ev_at rfl)) ?_; refine xp 3 rfl rfl (fun w => ex_sliceAH (ev_at rfl) (ev_at rfl) (arT rfl) (szT rfl) (by omega) (by omega)) ?_; refine wg_loud 4 (by decide +kernel) rfl rfl (wp_copyA (ev_at rfl) (ev_at rfl) (slT rfl) (szT rfl) hS (by simp [h1]; omega) (by simp [h2]; omega) (byteV_Oc _) fun w hS => ⟨gsF rfl, wg_p (by simp only [lset] <;> rfl) ?_⟩); refine wg_end (by decide +kernel) ?_; (try simp only [lset, splice, sub, List.take_succ_cons, List.take_zero, List.drop_succ_cons, List.drop_zero, List.nil_append, List.cons_append, List.length_cons, List.length_nil, Nat.reduceAdd, Nat.zero_add, rep_zero] at hS))
    | ((with_reducible apply wp_region_plain (id := 3)); refine xv (ex_load (ev_at rfl) (by first | exact ldN hS (kdT rfl) (szT rfl) rfl | exact ldW hS (kdT rfl) (szT rfl) (by simp [h1, h2]; omega))) ?_; (first | refine wl_of rfl (wp_storeN (ev_at rfl) (ev_at rfl) hS (szT rfl) rfl (by first | rfl | assumption | (simp only [sub, splice, List.take_succ_cons, List.take_zero, List.drop_succ_cons, List.drop_zero, List.nil_append, List.cons_append, List.length_cons, List.length_nil, Nat.reduceAdd, List.all_cons, List.all_nil, Bool.and_eq_true, Bool.and_true]; ((repeat' apply And.intro) <;> first | rfl | assumption | exact IsSl.one (by assumption)))) fun w hS => wl_put0 ?_) | refine wl_of rfl (wp_storeW (ev_at rfl) (ev_at rfl) hS (szT rfl) (by simp [h1, h2]; omega) (by simp) (Oc.append (fun u hu => byteV_Oc _ u (List.mem_of_mem_take hu)) (fun u hu => byteV_Oc _ u (List.mem_of_mem_drop hu))) fun w hS => wl_put0 ?_)); refine wl_nil ?_; (try simp only [lset, splice, sub, List.take_succ_cons, List.take_zero, List.drop_succ_cons, List.drop_zero, List.nil_append, List.cons_append, List.length_cons, List.length_nil, Nat.reduceAdd, Nat.zero_add, rep_zero] at hS))
    | ((fail_if_success (with_reducible apply wp_region_plain)); (fail_if_success (with_reducible apply wp_region_GS)); go_step))
  refine end1 (by first | exact .inl rfl | exact .inr rfl) rfl (ResL.rc rfl (ldW hS (kdT rfl) (szT rfl) (by simp [h1, h2]; omega)) ResL.rn) ?_
  refine ⟨?_, hS.drop.drop.drop⟩
  rw [e]
  simp [fate, hc, secV]
theorem fate_ct (k : Nat) (old bs : List UInt8) (c : UInt8) (h1 : old.length = 256) (h2 : bs.length = 256) (hc : c.toNat % 3 = k) (hk : k < 3) (hS : Sat w I L) : Calls Try.prog (51 + k) #[secV old, secV bs, byteV c] w fun e w' => e = .returned (secV (fate old bs c)) ∧ Sat w' I L := by
  match k, hk, hc with
  | 0, _, hc => exact fate1_ct old bs c h1 h2 hc hS
  | 1, _, hc => exact fate2_ct old bs c h1 h2 hc hS
  | 2, _, hc => exact fate3_ct old bs c h1 h2 hc hS

def setTo (D : DS) (ch : List UInt8) (i : Nat) : List (Int × List UInt8) := DK.settle D.dur ch (D.pend.take i)
theorem setTo_succ {D : DS} {ch : List UInt8} {i : Nat} {p : Int × List UInt8} (h : D.pend[i]? = some p) : setTo D ch (i + 1) = put (setTo D ch i) p.1 (fate (dget (setTo D ch i) p.1) p.2 (ch[i]?.getD 0)) := by
  have hi := (List.getElem?_eq_some_iff.1 h).1
  rw [setTo, take_snoc h, settle_snoc, List.length_take, Nat.min_eq_left (Nat.le_of_lt hi)]
  rfl
set_option maxHeartbeats 1000000 in
theorem restart_ct (b : Nat) (D : DS) (cv : Value) (ch : List UInt8) (hcv : IsSl cv ch.length) (hr : Rds I L cv (ch.map byteV)) (hD : D.Ok) (hp : D.pend.length < 1000) (hS : Sat w I (DiskC b D :: L)) :
    Calls Try.prog 23 #[.pointer (some ⟨b, 0, none⟩), cv] w fun e w' => e = .returned (.int .i64 (D.restart ch).2) ∧ Sat w' I (DiskC b (D.restart ch).1 :: L) := by
  obtain ⟨m, pv, hS⟩ := disk_open hS
  by_cases h1 : D.down = true
  case neg =>
    have h1 : D.down = false := by simpa using h1
    rw [h1] at hS
    go_enter Try.func23, Try.ntmps23
    repeat' (first
      | ((with_reducible apply wp_region_plain (id := 0)); refine xv (ex_assign (ev_const _ _)) ?_; refine wl_nil ?_)
      | ((with_reducible apply wp_region_plain (id := 1)); refine xv (ex_move (ev_at rfl)) ?_; (first | refine xv (ex_eqlPtrS (ev_at rfl) (ev_const _ _) (unT rfl)) ?_ | refine xv (ex_eqlPtrN (ev_at rfl) (ev_const _ _) (unT rfl)) ?_ | refine xv (ex_eqlPtr (ev_at rfl) (ev_const _ _) (unT rfl)) ?_); refine wl_nil ?_)
      | ((with_reducible apply wp_region_plain (id := 3)); refine xv (ex_move (ev_at rfl)) ?_; (first | refine xv (ex_nilCheck (ev_at rfl)) ?_ | refine xv (ex_nilCheckF (ev_at rfl)) ?_); (first | refine xv (ex_fa (ev_at rfl) (flT rfl)) ?_ | refine xv (ex_faE (ev_at rfl) (flT rfl) (by assumption) (by assumption)) ?_); refine xv (ex_load (ev_at rfl) (ld1 hS (kdT rfl) rfl)) ?_; refine xv (ex_not (ev_at rfl)) ?_; refine wl_nil ?_)
      | ((with_reducible apply wp_region_plain (id := 4)); refine xv (ex_assign (ev_const _ _)) ?_; refine wl_nil ?_)
      | ((fail_if_success (with_reducible apply wp_region_plain)); (fail_if_success (with_reducible apply wp_region_GS)); go_step))
    refine end1 (by first | exact .inl rfl | exact .inr rfl) rfl (ResL.rt rfl ResL.rn) ?_
    have hf : D.restart ch = (D, 10) := by simp [DS.restart, h1]
    rw [hf]
    exact ⟨rfl, disk_shut (by rw [h1]; exact hS)⟩
  rw [h1] at hS
  obtain ⟨hv, -, -, -⟩ := hS.row 2 rfl
  go_enter Try.func23, Try.ntmps23
  repeat' (first
    | ((with_reducible apply wp_region_plain (id := 0)); refine xv (ex_assign (ev_const _ _)) ?_; refine wl_nil ?_)
    | ((with_reducible apply wp_region_plain (id := 1)); refine xv (ex_move (ev_at rfl)) ?_; (first | refine xv (ex_eqlPtrS (ev_at rfl) (ev_const _ _) (unT rfl)) ?_ | refine xv (ex_eqlPtrN (ev_at rfl) (ev_const _ _) (unT rfl)) ?_ | refine xv (ex_eqlPtr (ev_at rfl) (ev_const _ _) (unT rfl)) ?_); refine wl_nil ?_)
    | ((with_reducible apply wp_region_plain (id := 3)); refine xv (ex_move (ev_at rfl)) ?_; (first | refine xv (ex_nilCheck (ev_at rfl)) ?_ | refine xv (ex_nilCheckF (ev_at rfl)) ?_); (first | refine xv (ex_fa (ev_at rfl) (flT rfl)) ?_ | refine xv (ex_faE (ev_at rfl) (flT rfl) (by assumption) (by assumption)) ?_); refine xv (ex_load (ev_at rfl) (ld1 hS (kdT rfl) rfl)) ?_; refine xv (ex_not (ev_at rfl)) ?_; refine wl_nil ?_)
    | ((with_reducible apply wp_region_plain (id := 5)); refine wl_of rfl (wp_callL (cbT rfl) EvL.n ?_); refine (fates_ct hS).mono ?_; rintro e w ⟨rfl, hS⟩; refine ⟨_, rfl, wl_put (by simp only [lset] <;> rfl) ?_⟩; refine wl_of rfl (wp_alloc hS (zeT rfl) fun b5 w hS => wl_put (by simp only [lset] <;> rfl) ?_); refine wl_of rfl (wp_storeN (ev_at rfl) (ev_at rfl) hS (szT rfl) rfl (by first | rfl | assumption | (simp only [sub, splice, List.take_succ_cons, List.take_zero, List.drop_succ_cons, List.drop_zero, List.nil_append, List.cons_append, List.length_cons, List.length_nil, Nat.reduceAdd, List.all_cons, List.all_nil, Bool.and_eq_true, Bool.and_true]; ((repeat' apply And.intro) <;> first | rfl | assumption | exact IsSl.one (by assumption)))) fun w hS => wl_put0 ?_); refine wl_nil ?_; (try simp only [lset, splice, sub, List.take_succ_cons, List.take_zero, List.drop_succ_cons, List.drop_zero, List.nil_append, List.cons_append, List.length_cons, List.length_nil, Nat.reduceAdd, Nat.zero_add, rep_zero] at hS))
    | ((with_reducible apply wp_region_plain (id := 6)); refine xv (ex_move (ev_at rfl)) ?_; (first | refine xv (ex_nilCheck (ev_at rfl)) ?_ | refine xv (ex_nilCheckF (ev_at rfl)) ?_); (first | refine xv (ex_fa (ev_at rfl) (flT rfl)) ?_ | refine xv (ex_faE (ev_at rfl) (flT rfl) (by assumption) (by assumption)) ?_); refine xv (ex_load (ev_at rfl) (ld1 hS (kdT rfl) rfl)) ?_; refine xv (ex_len (ev_at rfl) (slT rfl) (by first | assumption | exact IsSl.nil)) ?_; refine xv (ex_move (ev_const _ _)) ?_; refine wl_nil ?_)
    | ((fail_if_success (with_reducible apply wp_region_plain)); (fail_if_success (with_reducible apply wp_region_GS)); go_step))
  refine wp_loopR [false, false, false, false, false, false, true, true, true, false, false, false, false, false, false, false, false, false, false, false, false, false, true, true, true, true, true, true, true, true, true, true, true, true, true, true, true, true, true, true, true, true, true, true, true, true, true, true, true, true, true, true, true, true, true] (fun f w => ∃ i : Nat, f 22 = .int .i64 i ∧ i ≤ D.pend.length ∧ Sat w I (Cells b5 81 [.func (.func 51) #[] #[], .func (.func 52) #[] #[], .func (.func 53) #[] #[]] :: Cells b 71 [.int .i64 D.n, .map (some m), pv, .int .i64 D.ops, .bool D.limd, .int .i64 D.lim, .bool true] ::
    MapI m (dkv (setTo D ch i)) :: Row pv 75 257 D.pend.length (flatP D.pend) :: L)) (fun f _ => D.pend.length - ivN (f 22)) rfl ⟨0, rfl, by omega, hS⟩ ?_
  clear hS
  rintro f w ⟨i, h22, hi, hS⟩
  simp only [havoc, Nat.reduceAdd, h22]
  by_cases hlt : i < D.pend.length
  · obtain ⟨p, hp1⟩ : ∃ p, D.pend[i]? = some p := ⟨_, List.getElem?_eq_getElem hlt⟩
    have hp2 : p.2.length = 256 := hD.pend p (List.mem_of_getElem? hp1)
    have hdo : DurOk (setTo D ch i) := DurOk.settle _ _ _ hD.durOk (fun q hq => hD.pend q (List.mem_of_mem_take hq))
    by_cases hlc : i < ch.length
    · obtain ⟨c, hc1⟩ : ∃ c, ch[i]? = some c := ⟨_, List.getElem?_eq_getElem hlc⟩
      have hce : ch[i]?.getD 0 = c := by rw [hc1]; rfl
      repeat' (first
        | ((with_reducible apply wp_region_plain (id := 7)); refine xv (ex_cmp (ev_at rfl) (ev_at rfl) (by first | exact lssT (by omega) | exact lssF (by omega) | rfl)) ?_; refine wl_nil ?_)
        | ((with_reducible apply wp_region_plain (id := 8)); refine xv (ex_move (ev_at rfl)) ?_; (first | refine xv (ex_iaN (ev_at rfl) (ev_at rfl) (slT rfl) (szT rfl) (by first | assumption | exact IsSl.nil) (by omega)) ?_ | refine xv (ex_ia (ev_at rfl) (ev_at rfl) (slT rfl) (szT rfl) (by first | assumption | exact IsSl.nil) (by omega) (by omega)) ?_); refine xv (ex_load (ev_at rfl) (by first | exact ldN hS (kdT rfl) (szT rfl) rfl | exact ldE1 (u := byteV c) (hr.rd hS) hcv hlc (kdT rfl) (by simp [hc1]) | exact ldEN ((hS.rowH (v := pv)).2.2.1) hv hlt (kdT rfl) (szT rfl) (flatP_sub hD.pend hp1) (by simp [hp2]))) ?_; refine wl_of rfl (wp_alloc hS (zeT rfl) fun b7 w hS => wl_put (by simp only [lset] <;> rfl) ?_); refine xv (ex_assign (ev_at rfl)) ?_; (first | refine wl_of rfl (wp_storeN (ev_at rfl) (ev_at rfl) hS (szT rfl) rfl (by first | rfl | assumption | (simp only [sub, splice, List.take_succ_cons, List.take_zero, List.drop_succ_cons, List.drop_zero, List.nil_append, List.cons_append, List.length_cons, List.length_nil, Nat.reduceAdd, List.all_cons, List.all_nil, Bool.and_eq_true, Bool.and_true]; ((repeat' apply And.intro) <;> first | rfl | assumption | exact IsSl.one (by assumption)))) fun w hS => wl_put0 ?_) | refine wl_of rfl (wp_storeW (ev_at rfl) (ev_at rfl) hS (szT rfl) (by simp [hp2]) (by simp) (Oc.of_all (by simp only [List.all_cons, byteV_all]; rfl)) fun w hS => wl_put0 ?_)); refine wl_nil ?_; (try simp only [lset, splice, sub, List.take_succ_cons, List.take_zero, List.drop_succ_cons, List.drop_zero, List.nil_append, List.cons_append, List.length_cons, List.length_nil, Nat.reduceAdd, Nat.zero_add, rep_zero] at hS))
        | ((with_reducible apply wp_region_plain (id := 9)); refine xv (ex_assign (ev_const _ _)) ?_; refine wl_nil ?_)
        | ((with_reducible apply wp_region_plain (id := 10)); refine xv (ex_move (ev_at rfl)) ?_; refine xv (ex_move (ev_at rfl)) ?_; refine xv (ex_len (ev_at rfl) (slT rfl) (by first | assumption | exact IsSl.nil)) ?_; refine xv (ex_cmp (ev_at rfl) (ev_at rfl) (by first | exact lssT (by omega) | exact lssF (by omega) | rfl)) ?_; refine wl_nil ?_)
        | ((with_reducible apply wp_region_plain (id := 11)); refine xv (ex_move (ev_at rfl)) ?_; refine xv (ex_move (ev_at rfl)) ?_; (first | refine xv (ex_iaN (ev_at rfl) (ev_at rfl) (slT rfl) (szT rfl) (by first | assumption | exact IsSl.nil) (by omega)) ?_ | refine xv (ex_ia (ev_at rfl) (ev_at rfl) (slT rfl) (szT rfl) (by first | assumption | exact IsSl.nil) (by omega) (by omega)) ?_); refine xv (ex_load (ev_at rfl) (by first | exact ld1 hS (kdT rfl) rfl | exact ldE1 (u := byteV c) (hr.rd hS) hcv hlc (kdT rfl) (by simp [hc1]) | exact ldEN ((hS.rowH (v := pv)).2.2.1) hv hlt (kdT rfl) (szT rfl) (flatP_sub hD.pend hp1) (by simp [hp2]))) ?_; refine xv (ex_assign (ev_at rfl)) ?_; refine wl_nil ?_)
        | ((fail_if_success (with_reducible apply wp_region_plain)); (fail_if_success (with_reducible apply wp_region_GS)); go_step))
      rcases (by omega : c.toNat % 3 = 0 ∨ c.toNat % 3 = 1 ∨ c.toNat % 3 = 2) with hc | hc | hc
      · have hk1 : 0 + ((c.toNat : Int) % 3).toNat * 1 = 0 := by omega
        (with_reducible apply wp_region_GS (id := 12) 19 (fun j => [0, 1, 2, 3, 4, 5, 6, 7, 8, 9, 10, 11, 12, 13, 14, 15, 16, 17].contains j) mixed)
        rfl
        exact hS
        (clear hS; intro w hS)
        refine xp 0 rfl rfl (fun w => ex_move (ev_at rfl)) ?_
        (first | refine xp 1 rfl rfl (fun w => ex_fa (ev_at rfl) (flT rfl)) ?_ | refine xp 1 rfl rfl (fun w => ex_faE (ev_at rfl) (flT rfl) (by assumption) (by assumption)) ?_)
        refine xr 2 hS rfl rfl (fun w X hS => ex_load (ev_at rfl) (by first | exact ld1 hS (kdT rfl) rfl | exact ld1 hS (kdT rfl) (v := .func (.func 51) #[] #[]) (by rw [hk1]; rfl) | exact ldNs (ys := p.2.map byteV) hS (kdT rfl) (szT rfl) (by simp [sub]; rw [List.take_of_length_le (by simp [hp2])]) (by simp [hp2]) (by omega))) ?_
        refine xp 3 rfl rfl (fun w => ex_move (ev_at rfl)) ?_
        refine xp 4 rfl rfl (fun w => ex_rem (ev_at rfl) (ev_const _ _) (by first | decide | omega) (by omega)) ?_
        (first | refine xp 5 rfl rfl (fun w => ex_iaA (ev_at rfl) (ev_at rfl) (arT rfl) (szT rfl) (by omega) (by omega)) ?_ | refine xp 5 rfl rfl (fun w => ex_iaAE (ev_at rfl) (ev_at rfl) (arT rfl) (szT rfl) (by assumption) (by omega) (by omega) (by omega)) ?_)
        refine xr 6 hS rfl rfl (fun w X hS => ex_load (ev_at rfl) (by first | exact ld1 hS (kdT rfl) rfl | exact ld1 hS (kdT rfl) (v := .func (.func 51) #[] #[]) (by rw [hk1]; rfl) | exact ldNs (ys := p.2.map byteV) hS (kdT rfl) (szT rfl) (by simp [sub]; rw [List.take_of_length_le (by simp [hp2])]) (by simp [hp2]) (by omega))) ?_
        refine xp 7 rfl rfl (fun w => ex_move (ev_at rfl)) ?_
        (first | refine xp 8 rfl rfl (fun w => ex_nilCheck (ev_at rfl)) ?_ | refine xp 8 rfl rfl (fun w => ex_nilCheckF (ev_at rfl)) ?_)
        (first | refine xp 9 rfl rfl (fun w => ex_fa (ev_at rfl) (flT rfl)) ?_ | refine xp 9 rfl rfl (fun w => ex_faE (ev_at rfl) (flT rfl) (by assumption) (by assumption)) ?_)
        refine xr 10 hS rfl rfl (fun w X hS => ex_load (ev_at rfl) (by first | exact ld1 hS (kdT rfl) rfl | exact ld1 hS (kdT rfl) (v := .func (.func 51) #[] #[]) (by rw [hk1]; rfl) | exact ldNs (ys := p.2.map byteV) hS (kdT rfl) (szT rfl) (by simp [sub]; rw [List.take_of_length_le (by simp [hp2])]) (by simp [hp2]) (by omega))) ?_
        (first | refine xp 11 rfl rfl (fun w => ex_fa (ev_at rfl) (flT rfl)) ?_ | refine xp 11 rfl rfl (fun w => ex_faE (ev_at rfl) (flT rfl) (by assumption) (by assumption)) ?_)
        refine xr 12 hS rfl rfl (fun w X hS => ex_load (ev_at rfl) (by first | exact ld1 hS (kdT rfl) rfl | exact ld1 hS (kdT rfl) (v := .func (.func 51) #[] #[]) (by rw [hk1]; rfl) | exact ldNs (ys := p.2.map byteV) hS (kdT rfl) (szT rfl) (by simp [sub]; rw [List.take_of_length_le (by simp [hp2])]) (by simp [hp2]) (by omega))) ?_
        refine xr 13 hS rfl rfl (fun w X hS => ex_lookD (ev_at rfl) (ev_at rfl) hS) ?_
        (first | refine xp 14 rfl rfl (fun w => ex_fa (ev_at rfl) (flT rfl)) ?_ | refine xp 14 rfl rfl (fun w => ex_faE (ev_at rfl) (flT rfl) (by assumption) (by assumption)) ?_)
        refine xr 15 hS rfl rfl (fun w X hS => ex_load (ev_at rfl) (by first | exact ldN hS (kdT rfl) (szT rfl) rfl | exact ld1 hS (kdT rfl) (v := .func (.func 51) #[] #[]) (by rw [hk1]; rfl) | exact ldNs (ys := p.2.map byteV) hS (kdT rfl) (szT rfl) (by simp [sub]; rw [List.take_of_length_le (by simp [hp2])]) (by simp [hp2]) (by omega))) ?_
        refine xp 16 rfl rfl (fun w => ex_move (ev_at rfl)) ?_
        refine wg_loud 17 (by decide +kernel) rfl rfl (wp_callV (ev_at rfl) (cbT rfl) (EvL.c (ev_at rfl) (EvL.c (ev_at rfl) (EvL.c (ev_at rfl) EvL.n))) ?_); refine (fate1_ct _ p.2 _ (hdo.get _) hp2 hc hS).mono ?_; rintro e w ⟨rfl, hS⟩; refine ⟨_, rfl, ⟨gsT hS, wg_p (by simp only [lset] <;> rfl) ?_⟩⟩
        refine wg_loud 18 (by decide +kernel) rfl rfl (wp_callL (cbT rfl) (EvL.c (ev_at rfl) (EvL.c (ev_at rfl) (EvL.c (ev_at rfl) EvL.n))) ?_); refine (store_ct b m p.1 _ _ _ _ _ _ _ _ (fate_len (hdo.get _) hp2 _) hS.drop.rot3).mono ?_; rintro e w ⟨rfl, hS⟩; refine ⟨_, rfl, ⟨gsF rfl, wg_p (by simp only [lset] <;> rfl) ?_⟩⟩
        refine wg_end (by decide +kernel) ?_
        repeat' (first
          | ((with_reducible apply wp_region_plain (id := 13)); refine xv (ex_arith (ev_at rfl) (ev_const _ _) rfl (by first | exact IntWalk.i64_in _ (by omega) | rfl)) ?_; refine xv (ex_move (ev_at rfl)) ?_; refine wl_nil ?_)
          | ((fail_if_success (with_reducible apply wp_region_plain)); (fail_if_success (with_reducible apply wp_region_GS)); go_step))
        refine loopEnd rfl ⟨i + 1, rfl, by omega, ?_⟩ (by simp only [h22, nth, ivN]; omega)
        rw [setTo_succ hp1, hce]
        exact hS.rot3.rot3
      · have hk2 : 0 + ((c.toNat : Int) % 3).toNat * 1 = 1 := by omega
        (with_reducible apply wp_region_GS (id := 12) 19 (fun j => [0, 1, 2, 3, 4, 5, 6, 7, 8, 9, 10, 11, 12, 13, 14, 15, 16, 17].contains j) mixed)
        rfl
        exact hS
        (clear hS; intro w hS)
        refine xp 0 rfl rfl (fun w => ex_move (ev_at rfl)) ?_
        (first | refine xp 1 rfl rfl (fun w => ex_fa (ev_at rfl) (flT rfl)) ?_ | refine xp 1 rfl rfl (fun w => ex_faE (ev_at rfl) (flT rfl) (by assumption) (by assumption)) ?_)
        refine xr 2 hS rfl rfl (fun w X hS => ex_load (ev_at rfl) (by first | exact ld1 hS (kdT rfl) rfl | exact ld1 hS (kdT rfl) (v := .func (.func 52) #[] #[]) (by rw [hk2]; rfl) | exact ldNs (ys := p.2.map byteV) hS (kdT rfl) (szT rfl) (by simp [sub]; rw [List.take_of_length_le (by simp [hp2])]) (by simp [hp2]) (by omega))) ?_
        refine xp 3 rfl rfl (fun w => ex_move (ev_at rfl)) ?_
        refine xp 4 rfl rfl (fun w => ex_rem (ev_at rfl) (ev_const _ _) (by first | decide | omega) (by omega)) ?_
        (first | refine xp 5 rfl rfl (fun w => ex_iaA (ev_at rfl) (ev_at rfl) (arT rfl) (szT rfl) (by omega) (by omega)) ?_ | refine xp 5 rfl rfl (fun w => ex_iaAE (ev_at rfl) (ev_at rfl) (arT rfl) (szT rfl) (by assumption) (by omega) (by omega) (by omega)) ?_)
        refine xr 6 hS rfl rfl (fun w X hS => ex_load (ev_at rfl) (by first | exact ld1 hS (kdT rfl) rfl | exact ld1 hS (kdT rfl) (v := .func (.func 52) #[] #[]) (by rw [hk2]; rfl) | exact ldNs (ys := p.2.map byteV) hS (kdT rfl) (szT rfl) (by simp [sub]; rw [List.take_of_length_le (by simp [hp2])]) (by simp [hp2]) (by omega))) ?_
        refine xp 7 rfl rfl (fun w => ex_move (ev_at rfl)) ?_
        (first | refine xp 8 rfl rfl (fun w => ex_nilCheck (ev_at rfl)) ?_ | refine xp 8 rfl rfl (fun w => ex_nilCheckF (ev_at rfl)) ?_)
        (first | refine xp 9 rfl rfl (fun w => ex_fa (ev_at rfl) (flT rfl)) ?_ | refine xp 9 rfl rfl (fun w => ex_faE (ev_at rfl) (flT rfl) (by assumption) (by assumption)) ?_)
        refine xr 10 hS rfl rfl (fun w X hS => ex_load (ev_at rfl) (by first | exact ld1 hS (kdT rfl) rfl | exact ld1 hS (kdT rfl) (v := .func (.func 52) #[] #[]) (by rw [hk2]; rfl) | exact ldNs (ys := p.2.map byteV) hS (kdT rfl) (szT rfl) (by simp [sub]; rw [List.take_of_length_le (by simp [hp2])]) (by simp [hp2]) (by omega))) ?_
        (first | refine xp 11 rfl rfl (fun w => ex_fa (ev_at rfl) (flT rfl)) ?_ | refine xp 11 rfl rfl (fun w => ex_faE (ev_at rfl) (flT rfl) (by assumption) (by assumption)) ?_)
        refine xr 12 hS rfl rfl (fun w X hS => ex_load (ev_at rfl) (by first | exact ld1 hS (kdT rfl) rfl | exact ld1 hS (kdT rfl) (v := .func (.func 52) #[] #[]) (by rw [hk2]; rfl) | exact ldNs (ys := p.2.map byteV) hS (kdT rfl) (szT rfl) (by simp [sub]; rw [List.take_of_length_le (by simp [hp2])]) (by simp [hp2]) (by omega))) ?_
        refine xr 13 hS rfl rfl (fun w X hS => ex_lookD (ev_at rfl) (ev_at rfl) hS) ?_
        (first | refine xp 14 rfl rfl (fun w => ex_fa (ev_at rfl) (flT rfl)) ?_ | refine xp 14 rfl rfl (fun w => ex_faE (ev_at rfl) (flT rfl) (by assumption) (by assumption)) ?_)
        refine xr 15 hS rfl rfl (fun w X hS => ex_load (ev_at rfl) (by first | exact ldN hS (kdT rfl) (szT rfl) rfl | exact ld1 hS (kdT rfl) (v := .func (.func 52) #[] #[]) (by rw [hk2]; rfl) | exact ldNs (ys := p.2.map byteV) hS (kdT rfl) (szT rfl) (by simp [sub]; rw [List.take_of_length_le (by simp [hp2])]) (by simp [hp2]) (by omega))) ?_
        refine xp 16 rfl rfl (fun w => ex_move (ev_at rfl)) ?_
        refine wg_loud 17 (by decide +kernel) rfl rfl (wp_callV (ev_at rfl) (cbT rfl) (EvL.c (ev_at rfl) (EvL.c (ev_at rfl) (EvL.c (ev_at rfl) EvL.n))) ?_); refine (fate2_ct _ p.2 _ (hdo.get _) hp2 hc hS).mono ?_; rintro e w ⟨rfl, hS⟩; refine ⟨_, rfl, ⟨gsT hS, wg_p (by simp only [lset] <;> rfl) ?_⟩⟩
        refine wg_loud 18 (by decide +kernel) rfl rfl (wp_callL (cbT rfl) (EvL.c (ev_at rfl) (EvL.c (ev_at rfl) (EvL.c (ev_at rfl) EvL.n))) ?_); refine (store_ct b m p.1 _ _ _ _ _ _ _ _ (fate_len (hdo.get _) hp2 _) hS.drop.rot3).mono ?_; rintro e w ⟨rfl, hS⟩; refine ⟨_, rfl, ⟨gsF rfl, wg_p (by simp only [lset] <;> rfl) ?_⟩⟩
        refine wg_end (by decide +kernel) ?_
        repeat' (first
          | ((with_reducible apply wp_region_plain (id := 13)); refine xv (ex_arith (ev_at rfl) (ev_const _ _) rfl (by first | exact IntWalk.i64_in _ (by omega) | rfl)) ?_; refine xv (ex_move (ev_at rfl)) ?_; refine wl_nil ?_)
          | ((fail_if_success (with_reducible apply wp_region_plain)); (fail_if_success (with_reducible apply wp_region_GS)); go_step))
        refine loopEnd rfl ⟨i + 1, rfl, by omega, ?_⟩ (by simp only [h22, nth, ivN]; omega)
        rw [setTo_succ hp1, hce]
        exact hS.rot3.rot3
      · have hk3 : 0 + ((c.toNat : Int) % 3).toNat * 1 = 2 := by omega
        (with_reducible apply wp_region_GS (id := 12) 19 (fun j => [0, 1, 2, 3, 4, 5, 6, 7, 8, 9, 10, 11, 12, 13, 14, 15, 16, 17].contains j) mixed)
        rfl
        exact hS
        (clear hS; intro w hS)
        refine xp 0 rfl rfl (fun w => ex_move (ev_at rfl)) ?_
        (first | refine xp 1 rfl rfl (fun w => ex_fa (ev_at rfl) (flT rfl)) ?_ | refine xp 1 rfl rfl (fun w => ex_faE (ev_at rfl) (flT rfl) (by assumption) (by assumption)) ?_)
        refine xr 2 hS rfl rfl (fun w X hS => ex_load (ev_at rfl) (by first | exact ld1 hS (kdT rfl) rfl | exact ld1 hS (kdT rfl) (v := .func (.func 53) #[] #[]) (by rw [hk3]; rfl) | exact ldNs (ys := p.2.map byteV) hS (kdT rfl) (szT rfl) (by simp [sub]; rw [List.take_of_length_le (by simp [hp2])]) (by simp [hp2]) (by omega))) ?_
        refine xp 3 rfl rfl (fun w => ex_move (ev_at rfl)) ?_
        refine xp 4 rfl rfl (fun w => ex_rem (ev_at rfl) (ev_const _ _) (by first | decide | omega) (by omega)) ?_
        (first | refine xp 5 rfl rfl (fun w => ex_iaA (ev_at rfl) (ev_at rfl) (arT rfl) (szT rfl) (by omega) (by omega)) ?_ | refine xp 5 rfl rfl (fun w => ex_iaAE (ev_at rfl) (ev_at rfl) (arT rfl) (szT rfl) (by assumption) (by omega) (by omega) (by omega)) ?_)
        refine xr 6 hS rfl rfl (fun w X hS => ex_load (ev_at rfl) (by first | exact ld1 hS (kdT rfl) rfl | exact ld1 hS (kdT rfl) (v := .func (.func 53) #[] #[]) (by rw [hk3]; rfl) | exact ldNs (ys := p.2.map byteV) hS (kdT rfl) (szT rfl) (by simp [sub]; rw [List.take_of_length_le (by simp [hp2])]) (by simp [hp2]) (by omega))) ?_
        refine xp 7 rfl rfl (fun w => ex_move (ev_at rfl)) ?_
        (first | refine xp 8 rfl rfl (fun w => ex_nilCheck (ev_at rfl)) ?_ | refine xp 8 rfl rfl (fun w => ex_nilCheckF (ev_at rfl)) ?_)
        (first | refine xp 9 rfl rfl (fun w => ex_fa (ev_at rfl) (flT rfl)) ?_ | refine xp 9 rfl rfl (fun w => ex_faE (ev_at rfl) (flT rfl) (by assumption) (by assumption)) ?_)
        refine xr 10 hS rfl rfl (fun w X hS => ex_load (ev_at rfl) (by first | exact ld1 hS (kdT rfl) rfl | exact ld1 hS (kdT rfl) (v := .func (.func 53) #[] #[]) (by rw [hk3]; rfl) | exact ldNs (ys := p.2.map byteV) hS (kdT rfl) (szT rfl) (by simp [sub]; rw [List.take_of_length_le (by simp [hp2])]) (by simp [hp2]) (by omega))) ?_
        (first | refine xp 11 rfl rfl (fun w => ex_fa (ev_at rfl) (flT rfl)) ?_ | refine xp 11 rfl rfl (fun w => ex_faE (ev_at rfl) (flT rfl) (by assumption) (by assumption)) ?_)
        refine xr 12 hS rfl rfl (fun w X hS => ex_load (ev_at rfl) (by first | exact ld1 hS (kdT rfl) rfl | exact ld1 hS (kdT rfl) (v := .func (.func 53) #[] #[]) (by rw [hk3]; rfl) | exact ldNs (ys := p.2.map byteV) hS (kdT rfl) (szT rfl) (by simp [sub]; rw [List.take_of_length_le (by simp [hp2])]) (by simp [hp2]) (by omega))) ?_
        refine xr 13 hS rfl rfl (fun w X hS => ex_lookD (ev_at rfl) (ev_at rfl) hS) ?_
        (first | refine xp 14 rfl rfl (fun w => ex_fa (ev_at rfl) (flT rfl)) ?_ | refine xp 14 rfl rfl (fun w => ex_faE (ev_at rfl) (flT rfl) (by assumption) (by assumption)) ?_)
        refine xr 15 hS rfl rfl (fun w X hS => ex_load (ev_at rfl) (by first | exact ldN hS (kdT rfl) (szT rfl) rfl | exact ld1 hS (kdT rfl) (v := .func (.func 53) #[] #[]) (by rw [hk3]; rfl) | exact ldNs (ys := p.2.map byteV) hS (kdT rfl) (szT rfl) (by simp [sub]; rw [List.take_of_length_le (by simp [hp2])]) (by simp [hp2]) (by omega))) ?_
        refine xp 16 rfl rfl (fun w => ex_move (ev_at rfl)) ?_
        refine wg_loud 17 (by decide +kernel) rfl rfl (wp_callV (ev_at rfl) (cbT rfl) (EvL.c (ev_at rfl) (EvL.c (ev_at rfl) (EvL.c (ev_at rfl) EvL.n))) ?_); refine (fate3_ct _ p.2 _ (hdo.get _) hp2 hc hS).mono ?_; rintro e w ⟨rfl, hS⟩; refine ⟨_, rfl, ⟨gsT hS, wg_p (by simp only [lset] <;> rfl) ?_⟩⟩
        refine wg_loud 18 (by decide +kernel) rfl rfl (wp_callL (cbT rfl) (EvL.c (ev_at rfl) (EvL.c (ev_at rfl) (EvL.c (ev_at rfl) EvL.n))) ?_); refine (store_ct b m p.1 _ _ _ _ _ _ _ _ (fate_len (hdo.get _) hp2 _) hS.drop.rot3).mono ?_; rintro e w ⟨rfl, hS⟩; refine ⟨_, rfl, ⟨gsF rfl, wg_p (by simp only [lset] <;> rfl) ?_⟩⟩
        refine wg_end (by decide +kernel) ?_
        repeat' (first
          | ((with_reducible apply wp_region_plain (id := 13)); refine xv (ex_arith (ev_at rfl) (ev_const _ _) rfl (by first | exact IntWalk.i64_in _ (by omega) | rfl)) ?_; refine xv (ex_move (ev_at rfl)) ?_; refine wl_nil ?_)
          | ((fail_if_success (with_reducible apply wp_region_plain)); (fail_if_success (with_reducible apply wp_region_GS)); go_step))
        refine loopEnd rfl ⟨i + 1, rfl, by omega, ?_⟩ (by simp only [h22, nth, ivN]; omega)
        rw [setTo_succ hp1, hce]
        exact hS.rot3.rot3
    · have hce : ch[i]?.getD 0 = 0 := by rw [List.getElem?_eq_none (by omega)]; rfl
      repeat' (first
        | ((with_reducible apply wp_region_plain (id := 7)); refine xv (ex_cmp (ev_at rfl) (ev_at rfl) (by first | exact lssT (by omega) | exact lssF (by omega) | rfl)) ?_; refine wl_nil ?_)
        | ((with_reducible apply wp_region_plain (id := 8)); refine xv (ex_move (ev_at rfl)) ?_; (first | refine xv (ex_iaN (ev_at rfl) (ev_at rfl) (slT rfl) (szT rfl) (by first | assumption | exact IsSl.nil) (by omega)) ?_ | refine xv (ex_ia (ev_at rfl) (ev_at rfl) (slT rfl) (szT rfl) (by first | assumption | exact IsSl.nil) (by omega) (by omega)) ?_); refine xv (ex_load (ev_at rfl) (by first | exact ldN hS (kdT rfl) (szT rfl) rfl | exact ldEN ((hS.rowH (v := pv)).2.2.1) hv hlt (kdT rfl) (szT rfl) (flatP_sub hD.pend hp1) (by simp [hp2]))) ?_; refine wl_of rfl (wp_alloc hS (zeT rfl) fun b7 w hS => wl_put (by simp only [lset] <;> rfl) ?_); refine xv (ex_assign (ev_at rfl)) ?_; (first | refine wl_of rfl (wp_storeN (ev_at rfl) (ev_at rfl) hS (szT rfl) rfl (by first | rfl | assumption | (simp only [sub, splice, List.take_succ_cons, List.take_zero, List.drop_succ_cons, List.drop_zero, List.nil_append, List.cons_append, List.length_cons, List.length_nil, Nat.reduceAdd, List.all_cons, List.all_nil, Bool.and_eq_true, Bool.and_true]; ((repeat' apply And.intro) <;> first | rfl | assumption | exact IsSl.one (by assumption)))) fun w hS => wl_put0 ?_) | refine wl_of rfl (wp_storeW (ev_at rfl) (ev_at rfl) hS (szT rfl) (by simp [hp2]) (by simp) (Oc.of_all (by simp only [List.all_cons, byteV_all]; rfl)) fun w hS => wl_put0 ?_)); refine wl_nil ?_; (try simp only [lset, splice, sub, List.take_succ_cons, List.take_zero, List.drop_succ_cons, List.drop_zero, List.nil_append, List.cons_append, List.length_cons, List.length_nil, Nat.reduceAdd, Nat.zero_add, rep_zero] at hS))
        | ((with_reducible apply wp_region_plain (id := 9)); refine xv (ex_assign (v := byteV 0) rfl) ?_; refine wl_nil ?_)
        | ((with_reducible apply wp_region_plain (id := 10)); refine xv (ex_move (ev_at rfl)) ?_; refine xv (ex_move (ev_at rfl)) ?_; refine xv (ex_len (ev_at rfl) (slT rfl) (by first | assumption | exact IsSl.nil)) ?_; refine xv (ex_cmp (ev_at rfl) (ev_at rfl) (by first | exact lssT (by omega) | exact lssF (by omega) | rfl)) ?_; refine wl_nil ?_)
        | ((fail_if_success (with_reducible apply wp_region_plain)); (fail_if_success (with_reducible apply wp_region_GS)); go_step))
      have hc : (0 : UInt8).toNat % 3 = 0 := by decide
      have hk1 : 0 + (((0 : UInt8).toNat : Int) % 3).toNat * 1 = 0 := by omega
      (with_reducible apply wp_region_GS (id := 12) 19 (fun j => [0, 1, 2, 3, 4, 5, 6, 7, 8, 9, 10, 11, 12, 13, 14, 15, 16, 17].contains j) mixed)
      rfl
      exact hS
      (clear hS; intro w hS)
      refine xp 0 rfl rfl (fun w => ex_move (ev_at rfl)) ?_
      (first | refine xp 1 rfl rfl (fun w => ex_fa (ev_at rfl) (flT rfl)) ?_ | refine xp 1 rfl rfl (fun w => ex_faE (ev_at rfl) (flT rfl) (by assumption) (by assumption)) ?_)
      refine xr 2 hS rfl rfl (fun w X hS => ex_load (ev_at rfl) (by first | exact ld1 hS (kdT rfl) rfl | exact ld1 hS (kdT rfl) (v := .func (.func 51) #[] #[]) (by rw [hk1]; rfl) | exact ldNs (ys := p.2.map byteV) hS (kdT rfl) (szT rfl) (by simp [sub]; rw [List.take_of_length_le (by simp [hp2])]) (by simp [hp2]) (by omega))) ?_
      refine xp 3 rfl rfl (fun w => ex_move (ev_at rfl)) ?_
      refine xp 4 rfl rfl (fun w => ex_rem (ev_at rfl) (ev_const _ _) (by first | decide | omega) (by omega)) ?_
      (first | refine xp 5 rfl rfl (fun w => ex_iaA (ev_at rfl) (ev_at rfl) (arT rfl) (szT rfl) (by omega) (by omega)) ?_ | refine xp 5 rfl rfl (fun w => ex_iaAE (ev_at rfl) (ev_at rfl) (arT rfl) (szT rfl) (by assumption) (by omega) (by omega) (by omega)) ?_)
      refine xr 6 hS rfl rfl (fun w X hS => ex_load (ev_at rfl) (by first | exact ld1 hS (kdT rfl) rfl | exact ld1 hS (kdT rfl) (v := .func (.func 51) #[] #[]) (by rw [hk1]; rfl) | exact ldNs (ys := p.2.map byteV) hS (kdT rfl) (szT rfl) (by simp [sub]; rw [List.take_of_length_le (by simp [hp2])]) (by simp [hp2]) (by omega))) ?_
      refine xp 7 rfl rfl (fun w => ex_move (ev_at rfl)) ?_
      (first | refine xp 8 rfl rfl (fun w => ex_nilCheck (ev_at rfl)) ?_ | refine xp 8 rfl rfl (fun w => ex_nilCheckF (ev_at rfl)) ?_)
      (first | refine xp 9 rfl rfl (fun w => ex_fa (ev_at rfl) (flT rfl)) ?_ | refine xp 9 rfl rfl (fun w => ex_faE (ev_at rfl) (flT rfl) (by assumption) (by assumption)) ?_)
      refine xr 10 hS rfl rfl (fun w X hS => ex_load (ev_at rfl) (by first | exact ld1 hS (kdT rfl) rfl | exact ld1 hS (kdT rfl) (v := .func (.func 51) #[] #[]) (by rw [hk1]; rfl) | exact ldNs (ys := p.2.map byteV) hS (kdT rfl) (szT rfl) (by simp [sub]; rw [List.take_of_length_le (by simp [hp2])]) (by simp [hp2]) (by omega))) ?_
      (first | refine xp 11 rfl rfl (fun w => ex_fa (ev_at rfl) (flT rfl)) ?_ | refine xp 11 rfl rfl (fun w => ex_faE (ev_at rfl) (flT rfl) (by assumption) (by assumption)) ?_)
      refine xr 12 hS rfl rfl (fun w X hS => ex_load (ev_at rfl) (by first | exact ld1 hS (kdT rfl) rfl | exact ld1 hS (kdT rfl) (v := .func (.func 51) #[] #[]) (by rw [hk1]; rfl) | exact ldNs (ys := p.2.map byteV) hS (kdT rfl) (szT rfl) (by simp [sub]; rw [List.take_of_length_le (by simp [hp2])]) (by simp [hp2]) (by omega))) ?_
      refine xr 13 hS rfl rfl (fun w X hS => ex_lookD (ev_at rfl) (ev_at rfl) hS) ?_
      (first | refine xp 14 rfl rfl (fun w => ex_fa (ev_at rfl) (flT rfl)) ?_ | refine xp 14 rfl rfl (fun w => ex_faE (ev_at rfl) (flT rfl) (by assumption) (by assumption)) ?_)
      refine xr 15 hS rfl rfl (fun w X hS => ex_load (ev_at rfl) (by first | exact ldN hS (kdT rfl) (szT rfl) rfl | exact ld1 hS (kdT rfl) (v := .func (.func 51) #[] #[]) (by rw [hk1]; rfl) | exact ldNs (ys := p.2.map byteV) hS (kdT rfl) (szT rfl) (by simp [sub]; rw [List.take_of_length_le (by simp [hp2])]) (by simp [hp2]) (by omega))) ?_
      refine xp 16 rfl rfl (fun w => ex_move (ev_at rfl)) ?_
      refine wg_loud 17 (by decide +kernel) rfl rfl (wp_callV (ev_at rfl) (cbT rfl) (EvL.c (ev_at rfl) (EvL.c (ev_at rfl) (EvL.c (ev_at rfl) EvL.n))) ?_); refine (fate1_ct _ p.2 _ (hdo.get _) hp2 hc hS).mono ?_; rintro e w ⟨rfl, hS⟩; refine ⟨_, rfl, ⟨gsT hS, wg_p (by simp only [lset] <;> rfl) ?_⟩⟩
      refine wg_loud 18 (by decide +kernel) rfl rfl (wp_callL (cbT rfl) (EvL.c (ev_at rfl) (EvL.c (ev_at rfl) (EvL.c (ev_at rfl) EvL.n))) ?_); refine (store_ct b m p.1 _ _ _ _ _ _ _ _ (fate_len (hdo.get _) hp2 _) hS.drop.rot3).mono ?_; rintro e w ⟨rfl, hS⟩; refine ⟨_, rfl, ⟨gsF rfl, wg_p (by simp only [lset] <;> rfl) ?_⟩⟩
      refine wg_end (by decide +kernel) ?_
      repeat' (first
        | ((with_reducible apply wp_region_plain (id := 13)); refine xv (ex_arith (ev_at rfl) (ev_const _ _) rfl (by first | exact IntWalk.i64_in _ (by omega) | rfl)) ?_; refine xv (ex_move (ev_at rfl)) ?_; refine wl_nil ?_)
        | ((fail_if_success (with_reducible apply wp_region_plain)); (fail_if_success (with_reducible apply wp_region_GS)); go_step))
      refine loopEnd rfl ⟨i + 1, rfl, by omega, ?_⟩ (by simp only [h22, nth, ivN]; omega)
      rw [setTo_succ hp1, hce]
      exact hS.rot3.rot3
  · repeat' (first
      | ((with_reducible apply wp_region_plain (id := 7)); refine xv (ex_cmp (ev_at rfl) (ev_at rfl) (by first | exact lssT (by omega) | exact lssF (by omega) | rfl)) ?_; refine wl_nil ?_)
      | ((with_reducible apply wp_region_plain (id := 14)); refine xv (ex_move (ev_at rfl)) ?_; refine xv (ex_move (ev_at rfl)) ?_; refine xv (ex_move (ev_at rfl)) ?_; refine xv (ex_move (ev_at rfl)) ?_; (first | refine xv (ex_nilCheck (ev_at rfl)) ?_ | refine xv (ex_nilCheckF (ev_at rfl)) ?_); (first | refine xv (ex_fa (ev_at rfl) (flT rfl)) ?_ | refine xv (ex_faE (ev_at rfl) (flT rfl) (by assumption) (by assumption)) ?_); refine wl_of rfl (wp_store1 (ev_at rfl) (ev_const _ _) hS (szT rfl) rfl (by first | rfl | exact IsSl.one (by assumption)) fun w hS => wl_put0 ?_); (first | refine xv (ex_nilCheck (ev_at rfl)) ?_ | refine xv (ex_nilCheckF (ev_at rfl)) ?_); (first | refine xv (ex_fa (ev_at rfl) (flT rfl)) ?_ | refine xv (ex_faE (ev_at rfl) (flT rfl) (by assumption) (by assumption)) ?_); refine wl_of rfl (wp_store1 (ev_at rfl) (ev_const _ _) hS (szT rfl) rfl (by first | rfl | exact IsSl.one (by assumption)) fun w hS => wl_put0 ?_); (first | refine xv (ex_nilCheck (ev_at rfl)) ?_ | refine xv (ex_nilCheckF (ev_at rfl)) ?_); (first | refine xv (ex_fa (ev_at rfl) (flT rfl)) ?_ | refine xv (ex_faE (ev_at rfl) (flT rfl) (by assumption) (by assumption)) ?_); refine wl_of rfl (wp_store1 (ev_at rfl) (ev_const _ _) hS (szT rfl) rfl (by first | rfl | exact IsSl.one (by assumption)) fun w hS => wl_put0 ?_); (first | refine xv (ex_nilCheck (ev_at rfl)) ?_ | refine xv (ex_nilCheckF (ev_at rfl)) ?_); (first | refine xv (ex_fa (ev_at rfl) (flT rfl)) ?_ | refine xv (ex_faE (ev_at rfl) (flT rfl) (by assumption) (by assumption)) ?_); refine wl_of rfl (wp_store1 (ev_at rfl) (ev_const _ _) hS (szT rfl) rfl (by first | rfl | exact IsSl.one (by assumption)) fun w hS => wl_put0 ?_); refine wl_nil ?_; (try simp only [lset, Nat.reduceAdd, Nat.zero_add] at hS))
      | ((with_reducible apply wp_region_plain (id := 15)); refine xv (ex_assign (ev_const _ _)) ?_; refine wl_nil ?_)
      | ((fail_if_success (with_reducible apply wp_region_plain)); (fail_if_success (with_reducible apply wp_region_GS)); go_step))
    refine end1 (by first | exact .inl rfl | exact .inr rfl) rfl (ResL.rt rfl ResL.rn) ?_
    have hi : i = D.pend.length := by omega
    subst hi
    have e : setTo D ch D.pend.length = DK.settle D.dur ch D.pend := by simp [setTo]
    rw [e] at hS
    have hf : D.restart ch = ({ D with dur := DK.settle D.dur ch D.pend, pend := [], down := false, limd := false, lim := 0 }, 0) := by simp [DS.restart, h1]
    rw [hf]
    refine ⟨rfl, disk_shut (D := { D with dur := DK.settle D.dur ch D.pend, pend := [], down := false, limd := false, lim := 0 }) (m := m) (pv := .slice none 0 0) ?_⟩
    exact (hS.drop.rot3.rot3.drop.nilRow 75 257).rot3
end
end Go.Proofs.Try
