/- Records: contracts (5): the part of a sector. -/
import Derived.Test.YtjklnjpmjdbogaaC4
namespace Go.Proofs.Try
open Go.RowKit Go.SL Go.SH Go.RC
set_option maxRecDepth 100000
set_option linter.unusedSimpArgs false
set_option linter.unusedVariables false
section
variable {w : World} {I : Gh} {L : List Ch}
theorem Rds.cells0 {b n m : Nat} {E : TypeId} {cs : List Value} : Rds I (Cells b E cs :: L) (.slice (some ⟨b, 0, none⟩) n m) cs := by
  have := Rds.cells (I := I) (L := L) (b := b) (E := E) (cs := cs) (k := 0) (n := n) (m := m)
  rwa [List.drop_zero] at this
theorem dSub (b t k s off : Nat) (h : fvD[t]? = some (k, s, off)) : sub (fieldsL b) (t * 2) 2 = [.pointer (some ⟨b, k, none⟩), .int .i64 (s : Int)] := by
  have ht : t < 6 := (List.getElem?_eq_some_iff.1 h).1
  match t, ht, h with
  | 0, _, h => cases h; rfl
  | 1, _, h => cases h; rfl
  | 2, _, h => cases h; rfl
  | 3, _, h => cases h; rfl
  | 4, _, h => cases h; rfl
  | 5, _, h => cases h; rfl
set_option maxHeartbeats 4000000 in
theorem decodeBad_ct (v : Value) (bs : List UInt8) (n : Nat) (hv : IsSl v n) (hl : bs.length = n) (hr : Rds I L v (bs.map byteV)) (hb : n ≤ 1099511627) (hbad : n ≠ 256 ∨ (sha (bs.drop 16)).take 16 ≠ bs.take 16) (hS : Sat w I L) :
    Calls Try.prog 21 #[v] w fun e w' => e = .returned (.tuple #[partV (RC.decode bs).1 (.slice none 0 0), .int .i64 (RC.decode bs).2]) ∧ Sat w' I L := by
  by_cases h1 : n < 256
  · go_enter Try.func21, Try.ntmps21
    repeat' (first
      | ((with_reducible apply wp_region_plain (id := 0)); refine wl_of rfl (wp_alloc hS (zeT rfl) fun b2 w hS => wl_put (by simp only [lset] <;> rfl) ?_); refine xv (ex_assign (ev_const _ _)) ?_; refine wl_nil ?_)
      | ((with_reducible apply wp_region_plain (id := 1)); refine xv (ex_move (ev_at rfl)) ?_; refine xv (ex_len (ev_at rfl) (slT rfl) (by first | assumption | exact IsSl.nil)) ?_; refine xv (ex_cmp (ev_at rfl) (ev_const _ _) (by first | exact lssT (by omega) | exact lssF (by omega) | rfl)) ?_; refine xv (ex_assign (ev_at rfl)) ?_; refine wl_nil ?_)
      | ((with_reducible apply wp_region_plain (id := 2)); refine xv (ex_buildS (plT rfl) (zeT rfl) Fills.nil) ?_; refine wl_of rfl (wp_storeN (ev_at rfl) (ev_at rfl) hS (szT rfl) rfl (by first | rfl | assumption | (simp only [sub, splice, List.take_succ_cons, List.take_zero, List.drop_succ_cons, List.drop_zero, List.nil_append, List.cons_append, List.length_cons, List.length_nil, Nat.reduceAdd, List.all_cons, List.all_nil, Bool.and_eq_true, Bool.and_true]; ((repeat' apply And.intro) <;> first | rfl | assumption | exact IsSl.one (by assumption)))) fun w hS => wl_put0 ?_); refine xv (ex_assign (ev_const _ _)) ?_; refine wl_nil ?_; (try simp only [lset, splice, sub, List.take_succ_cons, List.take_zero, List.drop_succ_cons, List.drop_zero, List.nil_append, List.cons_append, List.length_cons, List.length_nil, Nat.reduceAdd, Nat.zero_add, rep_zero] at hS))
      | ((fail_if_success (with_reducible apply wp_region_plain)); (fail_if_success (with_reducible apply wp_region_GS)); go_step))
    refine endN (by first | exact .inl rfl | exact .inr rfl) rfl (ResL.rc rfl (ldN hS (kdT rfl) (szT rfl) rfl) (ResL.rt rfl ResL.rn)) rfl ?_
    exact ⟨by rw [RC.decode, if_pos (by omega)]; rfl, hS.drop⟩
  by_cases h2 : 256 < n
  · go_enter Try.func21, Try.ntmps21
    repeat' (first
      | ((with_reducible apply wp_region_plain (id := 0)); refine wl_of rfl (wp_alloc hS (zeT rfl) fun b2 w hS => wl_put (by simp only [lset] <;> rfl) ?_); refine xv (ex_assign (ev_const _ _)) ?_; refine wl_nil ?_)
      | ((with_reducible apply wp_region_plain (id := 1)); refine xv (ex_move (ev_at rfl)) ?_; refine xv (ex_len (ev_at rfl) (slT rfl) (by first | assumption | exact IsSl.nil)) ?_; refine xv (ex_cmp (ev_at rfl) (ev_const _ _) (by first | exact lssT (by omega) | exact lssF (by omega) | rfl)) ?_; refine xv (ex_assign (ev_at rfl)) ?_; refine wl_nil ?_)
      | ((with_reducible apply wp_region_plain (id := 3)); refine xv (ex_move (ev_at rfl)) ?_; refine xv (ex_len (ev_at rfl) (slT rfl) (by first | assumption | exact IsSl.nil)) ?_; refine xv (ex_cmp (ev_at rfl) (ev_const _ _) (by first | exact gtrT (by omega) | exact gtrF (by omega) | rfl)) ?_; refine xv (ex_assign (ev_at rfl)) ?_; refine wl_nil ?_)
      | ((with_reducible apply wp_region_plain (id := 4)); refine xv (ex_buildS (plT rfl) (zeT rfl) Fills.nil) ?_; refine wl_of rfl (wp_storeN (ev_at rfl) (ev_at rfl) hS (szT rfl) rfl (by first | rfl | assumption | (simp only [sub, splice, List.take_succ_cons, List.take_zero, List.drop_succ_cons, List.drop_zero, List.nil_append, List.cons_append, List.length_cons, List.length_nil, Nat.reduceAdd, List.all_cons, List.all_nil, Bool.and_eq_true, Bool.and_true]; ((repeat' apply And.intro) <;> first | rfl | assumption | exact IsSl.one (by assumption)))) fun w hS => wl_put0 ?_); refine xv (ex_assign (ev_const _ _)) ?_; refine wl_nil ?_; (try simp only [lset, splice, sub, List.take_succ_cons, List.take_zero, List.drop_succ_cons, List.drop_zero, List.nil_append, List.cons_append, List.length_cons, List.length_nil, Nat.reduceAdd, Nat.zero_add, rep_zero] at hS))
      | ((fail_if_success (with_reducible apply wp_region_plain)); (fail_if_success (with_reducible apply wp_region_GS)); go_step))
    refine endN (by first | exact .inl rfl | exact .inr rfl) rfl (ResL.rc rfl (ldN hS (kdT rfl) (szT rfl) rfl) (ResL.rt rfl ResL.rn)) rfl ?_
    exact ⟨by rw [RC.decode, if_neg (by omega), if_pos (by omega)]; rfl, hS.drop⟩
  have h256 : n = 256 := by omega
  have hne : (sha (bs.drop 16)).take 16 ≠ bs.take 16 := hbad.resolve_left (fun h => h h256)
  subst h256
  have hdl : (((sha (bs.drop 16)).take 16).map byteV).length = 16 := by simp [sha_len]
  have hdg := fun (w : World) (L2 : List Ch) (hr2 : Rds I L2 v (bs.map byteV)) hS => digest_ct (w := w) (I := I) (L := L2) v bs 256 hv hl (by omega) hr2 (by omega) hS
  have hll : ((sha (bs.drop 16)).take 16).length = 16 := by simp [sha_len]
  have hrl : (bs.take 16).length = 16 := by simp [hl]
  have hdec : RC.decode bs = (zeroP, 22) := by rw [RC.decode, if_neg (by omega), if_neg (by omega), if_pos hne]
  rw [hdec]
  have hv2 := hv.slv (l := 0) (h := 16) (sz := 1) (by omega) (by omega)
  have hr2 : Rds I L (slv v 0 16 1) ((bs.take 16).map byteV) := by
    intro w X hS
    have := (hr w X hS).slv (sz := 1) hv (l := 0) (h := 16) (by omega) (by omega)
    have e : sub (bs.map byteV) (0 * 1) ((16 - 0) * 1) = (bs.take 16).map byteV := by simp [sub, List.map_take]
    rwa [e] at this
  have hbe : ((sha (bs.drop 16)).take 16 == bs.take 16) = false := by simpa using hne
  have heq := fun (w : World) (L2 : List Ch) (u : Value) (hu : IsSl u 16) (h1 : Rds I L2 u (((sha (bs.drop 16)).take 16).map byteV)) (h2 : Rds I L2 (slv v 0 16 1) ((bs.take 16).map byteV)) hS => bytesEq_ct (w := w) (I := I) (L := L2) u (slv v 0 16 1) _ _ (by rw [hll]; exact hu) (by rw [hrl]; exact hv2) h1 h2 hS
  rw [hbe] at heq
  generalize hdv : ((sha (bs.drop 16)).take 16).map byteV = dv at hdg hdl heq
  have hdo : Oc dv := by rw [← hdv]; exact byteV_Oc _
  go_enter Try.func21, Try.ntmps21
  repeat' (first
    | ((with_reducible apply wp_region_plain (id := 0)); refine wl_of rfl (wp_alloc hS (zeT rfl) fun b2 w hS => wl_put (by simp only [lset] <;> rfl) ?_); refine xv (ex_assign (ev_const _ _)) ?_; refine wl_nil ?_)
    | ((with_reducible apply wp_region_plain (id := 1)); refine xv (ex_move (ev_at rfl)) ?_; refine xv (ex_len (ev_at rfl) (slT rfl) (by first | assumption | exact IsSl.nil)) ?_; refine xv (ex_cmp (ev_at rfl) (ev_const _ _) (by first | exact lssT (by omega) | exact lssF (by omega) | rfl)) ?_; refine xv (ex_assign (ev_at rfl)) ?_; refine wl_nil ?_)
    | ((with_reducible apply wp_region_plain (id := 3)); refine xv (ex_move (ev_at rfl)) ?_; refine xv (ex_len (ev_at rfl) (slT rfl) (by first | assumption | exact IsSl.nil)) ?_; refine xv (ex_cmp (ev_at rfl) (ev_const _ _) (by first | exact gtrT (by omega) | exact gtrF (by omega) | rfl)) ?_; refine xv (ex_assign (ev_at rfl)) ?_; refine wl_nil ?_)
    | ((with_reducible apply wp_region_plain (id := 5)); refine xv (ex_move (ev_at rfl)) ?_; refine wl_of rfl (wp_callL (cbT rfl) (EvL.c (ev_at rfl) EvL.n) ?_); refine (hdg _ _ hr.le hS).mono ?_; rintro e w ⟨rfl, hS⟩; refine ⟨_, rfl, wl_put (by simp only [lset] <;> rfl) ?_⟩; refine wl_of rfl (wp_alloc hS (zeT rfl) fun b4 w hS => wl_put (by simp only [lset] <;> rfl) ?_); refine wl_of rfl (wp_storeW (vs := dv) (ev_at rfl) (ev_at rfl) hS (szT rfl) hdl rfl hdo fun w hS => wl_put0 ?_); refine wl_nil ?_; (try simp only [lset, splice, sub, List.take_succ_cons, List.take_zero, List.drop_succ_cons, List.drop_zero, List.nil_append, List.cons_append, List.length_cons, List.length_nil, Nat.reduceAdd, Nat.zero_add, rep_zero] at hS))
    | ((with_reducible apply wp_region_GS (id := 6) 5 (fun j => [0, 1, 2, 3, 4].contains j) mixed); rfl; exact hS; (clear hS; intro w hS); refine xp 0 rfl rfl (fun w => ex_sliceArr (ev_at rfl) (arT rfl) (szT rfl)) ?_; refine xp 1 rfl rfl (fun w => ex_move (ev_at rfl)) ?_; refine xp 2 rfl rfl (fun w => ex_sliceH (ev_at rfl) (ev_const _ _) (slT rfl) (szT rfl) (by first | assumption | exact IsSl.nil) (by omega) (by omega)) ?_; refine wg_loud 3 (by decide +kernel) rfl rfl (wp_callL (cbT rfl) (EvL.c (ev_at rfl) (EvL.c (ev_at rfl) EvL.n)) ?_); refine (heq _ _ _ (IsSl.lit (Nat.le_refl _)) Rds.cells0 hr2.le hS).mono ?_; rintro e w ⟨rfl, hS⟩; refine ⟨_, rfl, ⟨gsT hS, wg_p (by simp only [lset] <;> rfl) ?_⟩⟩; refine xp 4 rfl rfl (fun w => ex_not (ev_at rfl)) ?_; refine wg_end (by decide +kernel) ?_)
    | ((with_reducible apply wp_region_plain (id := 7)); refine xv (ex_buildS (plT rfl) (zeT rfl) Fills.nil) ?_; refine wl_of rfl (wp_storeN (ev_at rfl) (ev_at rfl) hS (szT rfl) rfl (by first | rfl | assumption | (simp only [sub, splice, List.take_succ_cons, List.take_zero, List.drop_succ_cons, List.drop_zero, List.nil_append, List.cons_append, List.length_cons, List.length_nil, Nat.reduceAdd, List.all_cons, List.all_nil, Bool.and_eq_true, Bool.and_true]; ((repeat' apply And.intro) <;> first | rfl | assumption | exact IsSl.one (by assumption)))) fun w hS => wl_put0 ?_); refine xv (ex_assign (ev_const _ _)) ?_; refine wl_nil ?_; (try simp only [lset, splice, sub, List.take_succ_cons, List.take_zero, List.drop_succ_cons, List.drop_zero, List.nil_append, List.cons_append, List.length_cons, List.length_nil, Nat.reduceAdd, Nat.zero_add, rep_zero] at hS))
    | ((fail_if_success (with_reducible apply wp_region_plain)); (fail_if_success (with_reducible apply wp_region_GS)); go_step))
  refine endN (by first | exact .inl rfl | exact .inr rfl) rfl (ResL.rc rfl (ldN hS (kdT rfl) (szT rfl) rfl) (ResL.rt rfl ResL.rn)) rfl ?_
  exact ⟨rfl, hS.drop.drop⟩
set_option maxHeartbeats 8000000 in
theorem decodeGood_ct (v : Value) (bs : List UInt8) (hv : IsSl v 256) (hl : bs.length = 256) (hr : Rds I L v (bs.map byteV)) (hgood : (sha (bs.drop 16)).take 16 = bs.take 16) (hS : Sat w I L) :
    Calls Try.prog 21 #[v] w fun e w' => ∃ u, e = .returned (.tuple #[partV (RC.decode bs).1 u, .int .i64 (RC.decode bs).2]) ∧ IsSl u (RC.decode bs).1.bytes.length ∧ Sat w' I (Row u 5 1 (RC.decode bs).1.bytes.length ((RC.decode bs).1.bytes.map byteV) :: L) := by
  have hdl : ((bs.take 16).map byteV).length = 16 := by simp [hl]
  have hdg := fun (w : World) (L2 : List Ch) (hr2 : Rds I L2 v (bs.map byteV)) hS => digest_ct (w := w) (I := I) (L := L2) v bs 256 hv hl (by omega) hr2 (by omega) hS
  rw [hgood] at hdg
  have hrl : (bs.take 16).length = 16 := by simp [hl]
  have hv2 := hv.slv (l := 0) (h := 16) (sz := 1) (by omega) (by omega)
  have hr2 : Rds I L (slv v 0 16 1) ((bs.take 16).map byteV) := by
    intro w X hS
    have := (hr w X hS).slv (sz := 1) hv (l := 0) (h := 16) (by omega) (by omega)
    have e : sub (bs.map byteV) (0 * 1) ((16 - 0) * 1) = (bs.take 16).map byteV := by simp [sub, List.map_take]
    rwa [e] at this
  have heq := fun (w : World) (L2 : List Ch) (u : Value) (hu : IsSl u 16) (h1 : Rds I L2 u ((bs.take 16).map byteV)) (h2 : Rds I L2 (slv v 0 16 1) ((bs.take 16).map byteV)) hS => bytesEq_ct (w := w) (I := I) (L := L2) u (slv v 0 16 1) _ _ (by rw [hrl]; exact hu) (by rw [hrl]; exact hv2) h1 h2 hS
  rw [beq_self_eq_true] at heq
  have hdec : RC.decode bs = if 224 < val (partOf.sub16 bs 30 2) then (zeroP, 3) else if ¬ (bs.drop (32 + (val (partOf.sub16 bs 30 2)).toNat)).all (· == 0) then (zeroP, 3) else if check (partOf bs) ≠ 0 then (zeroP, 3) else (partOf bs, 0) := by
    rw [RC.decode, if_neg (by omega), if_neg (by omega), if_neg (by rw [hgood]; simp)]
  generalize hdv : (bs.take 16).map byteV = dv at hdg hdl heq hr2
  have hdo : Oc dv := by rw [← hdv]; exact byteV_Oc _
  go_enter Try.func21, Try.ntmps21
  repeat' (first
    | ((with_reducible apply wp_region_plain (id := 0)); refine wl_of rfl (wp_alloc hS (zeT rfl) fun b2 w hS => wl_put (by simp only [lset] <;> rfl) ?_); refine xv (ex_assign (ev_const _ _)) ?_; refine wl_nil ?_)
    | ((with_reducible apply wp_region_plain (id := 1)); refine xv (ex_move (ev_at rfl)) ?_; refine xv (ex_len (ev_at rfl) (slT rfl) (by first | assumption | exact IsSl.nil)) ?_; refine xv (ex_cmp (ev_at rfl) (ev_const _ _) (by first | exact lssT (by omega) | exact lssF (by omega) | rfl)) ?_; refine xv (ex_assign (ev_at rfl)) ?_; refine wl_nil ?_)
    | ((with_reducible apply wp_region_plain (id := 3)); refine xv (ex_move (ev_at rfl)) ?_; refine xv (ex_len (ev_at rfl) (slT rfl) (by first | assumption | exact IsSl.nil)) ?_; refine xv (ex_cmp (ev_at rfl) (ev_const _ _) (by first | exact gtrT (by omega) | exact gtrF (by omega) | rfl)) ?_; refine xv (ex_assign (ev_at rfl)) ?_; refine wl_nil ?_)
    | ((with_reducible apply wp_region_plain (id := 5)); refine xv (ex_move (ev_at rfl)) ?_; refine wl_of rfl (wp_callL (cbT rfl) (EvL.c (ev_at rfl) EvL.n) ?_); refine (hdg _ _ hr.le hS).mono ?_; rintro e w ⟨rfl, hS⟩; refine ⟨_, rfl, wl_put (by simp only [lset] <;> rfl) ?_⟩; refine wl_of rfl (wp_alloc hS (zeT rfl) fun b4 w hS => wl_put (by simp only [lset] <;> rfl) ?_); refine wl_of rfl (wp_storeW (vs := dv) (ev_at rfl) (ev_at rfl) hS (szT rfl) hdl rfl hdo fun w hS => wl_put0 ?_); refine wl_nil ?_; (try simp only [lset, splice, sub, List.take_succ_cons, List.take_zero, List.drop_succ_cons, List.drop_zero, List.nil_append, List.cons_append, List.length_cons, List.length_nil, Nat.reduceAdd, Nat.zero_add, rep_zero] at hS))
    | ((with_reducible apply wp_region_GS (id := 6) 5 (fun j => [0, 1, 2, 3, 4].contains j) mixed); rfl; exact hS; (clear hS; intro w hS); refine xp 0 rfl rfl (fun w => ex_sliceArr (ev_at rfl) (arT rfl) (szT rfl)) ?_; refine xp 1 rfl rfl (fun w => ex_move (ev_at rfl)) ?_; refine xp 2 rfl rfl (fun w => ex_sliceH (ev_at rfl) (ev_const _ _) (slT rfl) (szT rfl) (by first | assumption | exact IsSl.nil) (by omega) (by omega)) ?_; refine wg_loud 3 (by decide +kernel) rfl rfl (wp_callL (cbT rfl) (EvL.c (ev_at rfl) (EvL.c (ev_at rfl) EvL.n)) ?_); refine (heq _ _ _ (IsSl.lit (Nat.le_refl _)) Rds.cells0 hr2.le hS).mono ?_; rintro e w ⟨rfl, hS⟩; refine ⟨_, rfl, ⟨gsT hS, wg_p (by simp only [lset] <;> rfl) ?_⟩⟩; refine xp 4 rfl rfl (fun w => ex_not (ev_at rfl)) ?_; refine wg_end (by decide +kernel) ?_)
    | ((with_reducible apply wp_region_plain (id := 8)); refine wl_of rfl (wp_alloc hS (zeT rfl) fun b5 w hS => wl_put (by simp only [lset] <;> rfl) ?_); refine wl_nil ?_)
    | ((with_reducible apply wp_region_plain (id := 9)); refine xv (ex_assign (ev_const _ _)) ?_; refine wl_nil ?_)
    | ((with_reducible apply wp_region_plain (id := 10)); refine wl_of rfl (wp_callL (cbT rfl) (EvL.c (ev_at rfl) EvL.n) ?_); refine (fields_ct b5 hS).mono ?_; rintro e w ⟨rfl, hS⟩; refine ⟨_, rfl, wl_put (by simp only [lset] <;> rfl) ?_⟩; refine xv (ex_move (ev_const _ _)) ?_; refine wl_nil ?_)
    | ((fail_if_success (with_reducible apply wp_region_plain)); (fail_if_success (with_reducible apply wp_region_GS)); go_step))
  have hS := hS.del1
  refine wp_loopM [false, false, false, false, false, false, true, false, true, false, false, false, false, false, false, false, false, false, false, false, false, false, false, false, false, false, false, false, true, true, true, true, true, true, true, true, true, true, true, true, true, true, true, true, true, true, true, true, true, true, true, true, true] (fun n f w => ∃ t : Nat, n = 6 - t ∧ f 28 = .int .i64 t ∧ t ≤ 6 ∧ f 6 = .int .i64 (offT t) ∧ Sat w I (Cells b5 93 (cellD bs t) :: Cells b2 25 [.int .i64 0, .int .i64 0, .int .i64 0, .int .i64 0, .int .i64 0, .slice none 0 0] :: L)) rfl 6 ⟨0, rfl, rfl, by omega, rfl, hS⟩ ?_
  clear hS
  rintro n f w ⟨t, rfl, h28, ht, h6, hS⟩
  simp only [havoc, Nat.reduceAdd, h28, h6]
  by_cases hlt : t < 6
  case neg =>
    have : t = 6 := by omega
    subst this
    rw [cellD_six, val_valN] at hS
    rw [val_valN] at hdec
    have hbytes : (partOf bs).bytes = (bs.drop 32).take (valN (partOf.sub16 bs 30 2)) := by
      show (bs.drop 32).take (val (partOf.sub16 bs 30 2)).toNat = _
      rw [val_valN]; rfl
    generalize valN (partOf.sub16 bs 30 2) = N at hS hdec hbytes
    generalize hP : partOf bs = P at hS hdec hbytes
    rw [Int.toNat_natCast] at hdec
    have h6' : offT 6 = 32 := rfl
    by_cases hA : 224 < N
    · rw [if_pos (by omega)] at hdec
      repeat' (first
        | ((with_reducible apply wp_region_plain (id := 11)); refine xv (ex_cmp (ev_at rfl) (ev_const _ _) (by first | exact lssT (by omega) | exact lssF (by omega) | rfl)) ?_; refine wl_nil ?_)
        | ((with_reducible apply wp_region_plain (id := 19)); (first | refine xv (ex_fa (ev_at rfl) (flT rfl)) ?_ | refine xv (ex_faE (ev_at rfl) (flT rfl) (by assumption) (by assumption)) ?_); refine xv (ex_load (ev_at rfl) (ld1 hS (kdT rfl) rfl)) ?_; refine xv (ex_cmp (ev_at rfl) (ev_const _ _) (by first | exact gtrT (by omega) | exact gtrF (by omega) | rfl)) ?_; refine xv (ex_move (ev_at rfl)) ?_; (first | refine wl_skip rfl rfl (by simp only [lset] <;> rfl) ?_ | (refine xv (ex_move (ev_at rfl)) ?_)); (first | refine wl_skip rfl rfl (by simp only [lset] <;> rfl) ?_ | ((first | refine xv (ex_fa (ev_at rfl) (flT rfl)) ?_ | refine xv (ex_faE (ev_at rfl) (flT rfl) (by assumption) (by assumption)) ?_))); (first | refine wl_skip rfl rfl (by simp only [lset] <;> rfl) ?_ | (refine xv (ex_load (ev_at rfl) (ld1 hS (kdT rfl) rfl)) ?_)); (first | refine wl_skip rfl rfl (by simp only [lset] <;> rfl) ?_ | (refine xv (ex_arith (ev_const _ _) (ev_at rfl) rfl (by first | exact IntWalk.i64_in _ (by omega) | rfl)) ?_)); (first | refine wl_skip rfl rfl (by simp only [lset] <;> rfl) ?_ | (refine xv (ex_sliceL (ev_at rfl) (ev_at rfl) (slT rfl) (szT rfl) (by first | assumption | exact IsSl.nil) (by omega) (by omega)) ?_)); (first | refine wl_skip rfl rfl (by simp only [lset] <;> rfl) ?_ | (fail "no contract for bulletin/record.IsBlank (42)")); (first | refine wl_skip rfl rfl (by simp only [lset] <;> rfl) ?_ | (refine xv (ex_not (ev_at rfl)) ?_)); (first | refine xv (ex_pickT (ev_at rfl) (ev_const _ _)) ?_ | refine xv (ex_pickF (ev_at rfl) (ev_at rfl)) ?_ | refine xv (ex_pickOr (ev_at rfl) (ev_const _ _) (ev_at rfl)) ?_); refine wl_nil ?_)
        | ((with_reducible apply wp_region_plain (id := 20)); refine xv (ex_buildS (plT rfl) (zeT rfl) Fills.nil) ?_; refine wl_of rfl (wp_storeN (ev_at rfl) (ev_at rfl) hS (szT rfl) rfl (by first | rfl | assumption | (simp only [sub, splice, List.take_succ_cons, List.take_zero, List.drop_succ_cons, List.drop_zero, List.nil_append, List.cons_append, List.length_cons, List.length_nil, Nat.reduceAdd, List.all_cons, List.all_nil, Bool.and_eq_true, Bool.and_true]; ((repeat' apply And.intro) <;> first | rfl | assumption | exact IsSl.one (by assumption)))) fun w hS => wl_put0 ?_); refine xv (ex_assign (ev_const _ _)) ?_; refine wl_nil ?_; (try simp only [lset, splice, sub, List.take_succ_cons, List.take_zero, List.drop_succ_cons, List.drop_zero, List.nil_append, List.cons_append, List.length_cons, List.length_nil, Nat.reduceAdd, Nat.zero_add, rep_zero] at hS))
        | ((fail_if_success (with_reducible apply wp_region_plain)); (fail_if_success (with_reducible apply wp_region_GS)); go_step))
      refine endN (by first | exact .inl rfl | exact .inr rfl) rfl (ResL.rc rfl (ldN hS (kdT rfl) (szT rfl) rfl) (ResL.rt rfl ResL.rn)) rfl ?_
      rw [hdec]
      exact ⟨.slice none 0 0, rfl, IsSl.nil, hS.drop.drop.nilRow _ _⟩
    rw [if_neg (by omega)] at hdec
    have hv3 := hv.slv (l := 32 + N) (h := 256) (sz := 1) (by omega) (by omega)
    have hr3 : Rds I L (slv v (32 + N) 256 1) ((bs.drop (32 + N)).map byteV) := by
      intro w X hS
      have := (hr w X hS).slv (sz := 1) hv (l := 32 + N) (h := 256) (by omega) (by omega)
      have e : sub (bs.map byteV) ((32 + N) * 1) ((256 - (32 + N)) * 1) = (bs.drop (32 + N)).map byteV := by
        simp only [sub, Nat.mul_one]
        rw [← List.map_drop, List.take_of_length_le (by simp [hl])]
      rwa [e] at this
    have hbl := fun (w : World) (L2 : List Ch) (hr2 : Rds I L2 (slv v (32 + N) 256 1) ((bs.drop (32 + N)).map byteV)) hS => isBlank_ct (w := w) (I := I) (L := L2) (slv v (32 + N) 256 1) (bs.drop (32 + N)) (256 - (32 + N)) hv3 (by simp [hl]) hr2 (by omega) hS
    have e32 : ((32 : Int) + (N : Int)).toNat = 32 + N := by omega
    by_cases hB : (bs.drop (32 + N)).all (· == 0) = true
    case neg =>
      rw [if_pos hB] at hdec
      have hB' : (bs.drop (32 + N)).all (· == 0) = false := by simpa using hB
      rw [hB'] at hbl
      rw [← e32] at hbl
      repeat' (first
        | ((with_reducible apply wp_region_plain (id := 11)); refine xv (ex_cmp (ev_at rfl) (ev_const _ _) (by first | exact lssT (by omega) | exact lssF (by omega) | rfl)) ?_; refine wl_nil ?_)
        | ((with_reducible apply wp_region_plain (id := 19)); (first | refine xv (ex_fa (ev_at rfl) (flT rfl)) ?_ | refine xv (ex_faE (ev_at rfl) (flT rfl) (by assumption) (by assumption)) ?_); refine xv (ex_load (ev_at rfl) (ld1 hS (kdT rfl) rfl)) ?_; refine xv (ex_cmp (ev_at rfl) (ev_const _ _) (by first | exact gtrT (by omega) | exact gtrF (by omega) | rfl)) ?_; refine xv (ex_move (ev_at rfl)) ?_; (first | refine wl_skip rfl rfl (by simp only [lset] <;> rfl) ?_ | (refine xv (ex_move (ev_at rfl)) ?_)); (first | refine wl_skip rfl rfl (by simp only [lset] <;> rfl) ?_ | ((first | refine xv (ex_fa (ev_at rfl) (flT rfl)) ?_ | refine xv (ex_faE (ev_at rfl) (flT rfl) (by assumption) (by assumption)) ?_))); (first | refine wl_skip rfl rfl (by simp only [lset] <;> rfl) ?_ | (refine xv (ex_load (ev_at rfl) (ld1 hS (kdT rfl) rfl)) ?_)); (first | refine wl_skip rfl rfl (by simp only [lset] <;> rfl) ?_ | (refine xv (ex_arith (ev_const _ _) (ev_at rfl) rfl (by first | exact IntWalk.i64_in _ (by omega) | rfl)) ?_)); (first | refine wl_skip rfl rfl (by simp only [lset] <;> rfl) ?_ | (refine xv (ex_sliceL (ev_at rfl) (ev_at rfl) (slT rfl) (szT rfl) (by first | assumption | exact IsSl.nil) (by omega) (by omega)) ?_)); (first | refine wl_skip rfl rfl (by simp only [lset] <;> rfl) ?_ | (refine wl_of rfl (wp_callL (cbT rfl) (EvL.c (ev_at rfl) EvL.n) ?_); refine (hbl _ _ (by rw [e32]; exact hr3.le) hS).mono ?_; rintro e w ⟨rfl, hS⟩; refine ⟨_, rfl, wl_put (by simp only [lset] <;> rfl) ?_⟩)); (first | refine wl_skip rfl rfl (by simp only [lset] <;> rfl) ?_ | (refine xv (ex_not (ev_at rfl)) ?_)); (first | refine xv (ex_pickT (ev_at rfl) (ev_const _ _)) ?_ | refine xv (ex_pickF (ev_at rfl) (ev_at rfl)) ?_ | refine xv (ex_pickOr (ev_at rfl) (ev_const _ _) (ev_at rfl)) ?_); refine wl_nil ?_)
        | ((with_reducible apply wp_region_plain (id := 20)); refine xv (ex_buildS (plT rfl) (zeT rfl) Fills.nil) ?_; refine wl_of rfl (wp_storeN (ev_at rfl) (ev_at rfl) hS (szT rfl) rfl (by first | rfl | assumption | (simp only [sub, splice, List.take_succ_cons, List.take_zero, List.drop_succ_cons, List.drop_zero, List.nil_append, List.cons_append, List.length_cons, List.length_nil, Nat.reduceAdd, List.all_cons, List.all_nil, Bool.and_eq_true, Bool.and_true]; ((repeat' apply And.intro) <;> first | rfl | assumption | exact IsSl.one (by assumption)))) fun w hS => wl_put0 ?_); refine xv (ex_assign (ev_const _ _)) ?_; refine wl_nil ?_; (try simp only [lset, splice, sub, List.take_succ_cons, List.take_zero, List.drop_succ_cons, List.drop_zero, List.nil_append, List.cons_append, List.length_cons, List.length_nil, Nat.reduceAdd, Nat.zero_add, rep_zero] at hS))
        | ((fail_if_success (with_reducible apply wp_region_plain)); (fail_if_success (with_reducible apply wp_region_GS)); go_step))
      refine endN (by first | exact .inl rfl | exact .inr rfl) rfl (ResL.rc rfl (ldN hS (kdT rfl) (szT rfl) rfl) (ResL.rt rfl ResL.rn)) rfl ?_
      rw [hdec]
      exact ⟨.slice none 0 0, rfl, IsSl.nil, hS.drop.drop.nilRow _ _⟩
    rw [if_neg (by rw [hB]; simp), ] at hdec
    rw [hB, ← e32] at hbl
    have hv4 := hv.slv (l := 32) (h := 32 + N) (sz := 1) (by omega) (by omega)
    have hr4 : Rds I L (slv v 32 (32 + N) 1) (P.bytes.map byteV) := by
      intro w X hS
      have := (hr w X hS).slv (sz := 1) hv (l := 32) (h := 32 + N) (by omega) (by omega)
      have e : sub (bs.map byteV) (32 * 1) ((32 + N - 32) * 1) = P.bytes.map byteV := by
        rw [hbytes]
        simp only [sub, Nat.mul_one, Nat.add_sub_cancel_left]
        rw [← List.map_drop, ← List.map_take]
      rwa [e] at this
    have hPl : P.bytes.length = N := by rw [hbytes]; simp [hl]; omega
    obtain ⟨ad, cc, hsl⟩ : ∃ ad cc, slv v 32 (32 + N) 1 = .slice (some ad) N cc := by
      obtain ⟨q, cap, rfl, hn, hq⟩ := hv.ex
      have hqn : q ≠ none := fun e => by have := hq e; omega
      obtain ⟨ad, rfl⟩ := Option.ne_none_iff_exists'.1 hqn
      have : ¬ cap = 32 := by omega
      simp only [slv, this, if_false, Option.map_some, Nat.add_sub_cancel_left]
      exact ⟨_, _, rfl⟩
    rw [hsl] at hr4 hv4
    rw [Nat.add_sub_cancel_left] at hv4
    have hcl2 := fun (w : World) (L2 : List Ch) (hr2 : Rds I L2 (.slice (some ad) N cc) (P.bytes.map byteV)) hS => bytesClone_ct (w := w) (I := I) (L := L2) ad N cc P.bytes hv4 hPl hr2 (by omega) hS
    have hsl2 : slv v (32 : Int).toNat ((32 : Int) + (N : Int)).toNat 1 = .slice (some ad) N cc := by rw [e32]; exact hsl
    have hck := fun (w : World) (L2 : List Ch) (u : Value) (hu : IsSl u N) hS => check_ct (w := w) (I := I) (L := L2) P u (by rw [hPl]; exact hu) hS
    unfold partV at hck
    generalize hcv : check P = cv at hck hdec
    by_cases hC : cv = 0
    case neg =>
      rw [if_pos hC] at hdec
      repeat' (first
        | ((with_reducible apply wp_region_plain (id := 11)); refine xv (ex_cmp (ev_at rfl) (ev_const _ _) (by first | exact lssT (by omega) | exact lssF (by omega) | rfl)) ?_; refine wl_nil ?_)
        | ((with_reducible apply wp_region_plain (id := 19)); (first | refine xv (ex_fa (ev_at rfl) (flT rfl)) ?_ | refine xv (ex_faE (ev_at rfl) (flT rfl) (by assumption) (by assumption)) ?_); refine xv (ex_load (ev_at rfl) (ld1 hS (kdT rfl) rfl)) ?_; refine xv (ex_cmp (ev_at rfl) (ev_const _ _) (by first | exact gtrT (by omega) | exact gtrF (by omega) | rfl)) ?_; refine xv (ex_move (ev_at rfl)) ?_; (first | refine wl_skip rfl rfl (by simp only [lset] <;> rfl) ?_ | (refine xv (ex_move (ev_at rfl)) ?_)); (first | refine wl_skip rfl rfl (by simp only [lset] <;> rfl) ?_ | ((first | refine xv (ex_fa (ev_at rfl) (flT rfl)) ?_ | refine xv (ex_faE (ev_at rfl) (flT rfl) (by assumption) (by assumption)) ?_))); (first | refine wl_skip rfl rfl (by simp only [lset] <;> rfl) ?_ | (refine xv (ex_load (ev_at rfl) (ld1 hS (kdT rfl) rfl)) ?_)); (first | refine wl_skip rfl rfl (by simp only [lset] <;> rfl) ?_ | (refine xv (ex_arith (ev_const _ _) (ev_at rfl) rfl (by first | exact IntWalk.i64_in _ (by omega) | rfl)) ?_)); (first | refine wl_skip rfl rfl (by simp only [lset] <;> rfl) ?_ | (refine xv (ex_sliceL (ev_at rfl) (ev_at rfl) (slT rfl) (szT rfl) (by first | assumption | exact IsSl.nil) (by omega) (by omega)) ?_)); (first | refine wl_skip rfl rfl (by simp only [lset] <;> rfl) ?_ | (refine wl_of rfl (wp_callL (cbT rfl) (EvL.c (ev_at rfl) EvL.n) ?_); refine (hbl _ _ (by rw [e32]; exact hr3.le) hS).mono ?_; rintro e w ⟨rfl, hS⟩; refine ⟨_, rfl, wl_put (by simp only [lset] <;> rfl) ?_⟩)); (first | refine wl_skip rfl rfl (by simp only [lset] <;> rfl) ?_ | (refine xv (ex_not (ev_at rfl)) ?_)); (first | refine xv (ex_pickT (ev_at rfl) (ev_const _ _)) ?_ | refine xv (ex_pickF (ev_at rfl) (ev_at rfl)) ?_ | refine xv (ex_pickOr (ev_at rfl) (ev_const _ _) (ev_at rfl)) ?_); refine wl_nil ?_)
        | ((with_reducible apply wp_region_plain (id := 21)); refine xv (ex_move (ev_at rfl)) ?_; (first | refine xv (ex_fa (ev_at rfl) (flT rfl)) ?_ | refine xv (ex_faE (ev_at rfl) (flT rfl) (by assumption) (by assumption)) ?_); refine xv (ex_load (ev_at rfl) (ld1 hS (kdT rfl) rfl)) ?_; refine xv (ex_arith (ev_const _ _) (ev_at rfl) rfl (by first | exact IntWalk.i64_in _ (by omega) | rfl)) ?_; refine xv (ex_sliceLH (ev_at rfl) (ev_const _ _) (ev_at rfl) (slT rfl) (szT rfl) (by first | assumption | exact IsSl.nil) (by omega) (by omega) (by omega)) ?_; refine wl_of rfl (wp_callL (cbT rfl) (EvL.c (ev_at rfl) EvL.n) ?_); rw [hsl2]; refine (hcl2 _ _ hr4.le hS).mono ?_; rintro e w ⟨u, rfl, hui, hS⟩; refine ⟨_, rfl, wl_put (by simp only [lset] <;> rfl) ?_⟩; (first | refine xv (ex_fa (ev_at rfl) (flT rfl)) ?_ | refine xv (ex_faE (ev_at rfl) (flT rfl) (by assumption) (by assumption)) ?_); (first | refine xv (ex_fa (ev_at rfl) (flT rfl)) ?_ | refine xv (ex_faE (ev_at rfl) (flT rfl) (by assumption) (by assumption)) ?_); refine wl_of rfl (wp_store1 (ev_at rfl) (ev_at rfl) hS (szT rfl) rfl (by first | rfl | exact IsSl.one (by assumption)) fun w hS => wl_put0 ?_); refine wl_nil ?_; (try simp only [lset, Nat.reduceAdd, Nat.zero_add] at hS))
        | ((with_reducible apply wp_region_plain (id := 22)); (first | refine xv (ex_fa (ev_at rfl) (flT rfl)) ?_ | refine xv (ex_faE (ev_at rfl) (flT rfl) (by assumption) (by assumption)) ?_); refine xv (ex_load (ev_at rfl) (ldN hS (kdT rfl) (szT rfl) rfl)) ?_; refine wl_of rfl (wp_callL (cbT rfl) (EvL.c (ev_at rfl) EvL.n) ?_); refine (hck _ _ _ hui hS).mono ?_; rintro e w ⟨rfl, hS⟩; refine ⟨_, rfl, wl_put (by simp only [lset] <;> rfl) ?_⟩; refine xv (ex_cmp (ev_at rfl) (ev_const _ _) (by first | exact neqT (by omega) | exact neqF (by omega) | rfl)) ?_; refine wl_nil ?_)
        | ((with_reducible apply wp_region_plain (id := 23)); refine xv (ex_buildS (plT rfl) (zeT rfl) Fills.nil) ?_; refine wl_of rfl (wp_storeN (ev_at rfl) (ev_at rfl) hS (szT rfl) rfl (by first | rfl | assumption | (simp only [sub, splice, List.take_succ_cons, List.take_zero, List.drop_succ_cons, List.drop_zero, List.nil_append, List.cons_append, List.length_cons, List.length_nil, Nat.reduceAdd, List.all_cons, List.all_nil, Bool.and_eq_true, Bool.and_true]; ((repeat' apply And.intro) <;> first | rfl | assumption | exact IsSl.one (by assumption)))) fun w hS => wl_put0 ?_); refine xv (ex_assign (ev_const _ _)) ?_; refine wl_nil ?_; (try simp only [lset, splice, sub, List.take_succ_cons, List.take_zero, List.drop_succ_cons, List.drop_zero, List.nil_append, List.cons_append, List.length_cons, List.length_nil, Nat.reduceAdd, Nat.zero_add, rep_zero] at hS))
        | ((fail_if_success (with_reducible apply wp_region_plain)); (fail_if_success (with_reducible apply wp_region_GS)); go_step))
      refine endN (by first | exact .inl rfl | exact .inr rfl) rfl (ResL.rc rfl (ldN hS (kdT rfl) (szT rfl) rfl) (ResL.rt rfl ResL.rn)) rfl ?_
      rw [hdec]
      exact ⟨.slice none 0 0, rfl, IsSl.nil, hS.drop.drop.drop.nilRow _ _⟩
    subst hC
    rw [if_neg (by simp)] at hdec
    repeat' (first
      | ((with_reducible apply wp_region_plain (id := 11)); refine xv (ex_cmp (ev_at rfl) (ev_const _ _) (by first | exact lssT (by omega) | exact lssF (by omega) | rfl)) ?_; refine wl_nil ?_)
      | ((with_reducible apply wp_region_plain (id := 19)); (first | refine xv (ex_fa (ev_at rfl) (flT rfl)) ?_ | refine xv (ex_faE (ev_at rfl) (flT rfl) (by assumption) (by assumption)) ?_); refine xv (ex_load (ev_at rfl) (ld1 hS (kdT rfl) rfl)) ?_; refine xv (ex_cmp (ev_at rfl) (ev_const _ _) (by first | exact gtrT (by omega) | exact gtrF (by omega) | rfl)) ?_; refine xv (ex_move (ev_at rfl)) ?_; (first | refine wl_skip rfl rfl (by simp only [lset] <;> rfl) ?_ | (refine xv (ex_move (ev_at rfl)) ?_)); (first | refine wl_skip rfl rfl (by simp only [lset] <;> rfl) ?_ | ((first | refine xv (ex_fa (ev_at rfl) (flT rfl)) ?_ | refine xv (ex_faE (ev_at rfl) (flT rfl) (by assumption) (by assumption)) ?_))); (first | refine wl_skip rfl rfl (by simp only [lset] <;> rfl) ?_ | (refine xv (ex_load (ev_at rfl) (ld1 hS (kdT rfl) rfl)) ?_)); (first | refine wl_skip rfl rfl (by simp only [lset] <;> rfl) ?_ | (refine xv (ex_arith (ev_const _ _) (ev_at rfl) rfl (by first | exact IntWalk.i64_in _ (by omega) | rfl)) ?_)); (first | refine wl_skip rfl rfl (by simp only [lset] <;> rfl) ?_ | (refine xv (ex_sliceL (ev_at rfl) (ev_at rfl) (slT rfl) (szT rfl) (by first | assumption | exact IsSl.nil) (by omega) (by omega)) ?_)); (first | refine wl_skip rfl rfl (by simp only [lset] <;> rfl) ?_ | (refine wl_of rfl (wp_callL (cbT rfl) (EvL.c (ev_at rfl) EvL.n) ?_); refine (hbl _ _ (by rw [e32]; exact hr3.le) hS).mono ?_; rintro e w ⟨rfl, hS⟩; refine ⟨_, rfl, wl_put (by simp only [lset] <;> rfl) ?_⟩)); (first | refine wl_skip rfl rfl (by simp only [lset] <;> rfl) ?_ | (refine xv (ex_not (ev_at rfl)) ?_)); (first | refine xv (ex_pickT (ev_at rfl) (ev_const _ _)) ?_ | refine xv (ex_pickF (ev_at rfl) (ev_at rfl)) ?_ | refine xv (ex_pickOr (ev_at rfl) (ev_const _ _) (ev_at rfl)) ?_); refine wl_nil ?_)
      | ((with_reducible apply wp_region_plain (id := 21)); refine xv (ex_move (ev_at rfl)) ?_; (first | refine xv (ex_fa (ev_at rfl) (flT rfl)) ?_ | refine xv (ex_faE (ev_at rfl) (flT rfl) (by assumption) (by assumption)) ?_); refine xv (ex_load (ev_at rfl) (ld1 hS (kdT rfl) rfl)) ?_; refine xv (ex_arith (ev_const _ _) (ev_at rfl) rfl (by first | exact IntWalk.i64_in _ (by omega) | rfl)) ?_; refine xv (ex_sliceLH (ev_at rfl) (ev_const _ _) (ev_at rfl) (slT rfl) (szT rfl) (by first | assumption | exact IsSl.nil) (by omega) (by omega) (by omega)) ?_; refine wl_of rfl (wp_callL (cbT rfl) (EvL.c (ev_at rfl) EvL.n) ?_); rw [hsl2]; refine (hcl2 _ _ hr4.le hS).mono ?_; rintro e w ⟨u, rfl, hui, hS⟩; refine ⟨_, rfl, wl_put (by simp only [lset] <;> rfl) ?_⟩; (first | refine xv (ex_fa (ev_at rfl) (flT rfl)) ?_ | refine xv (ex_faE (ev_at rfl) (flT rfl) (by assumption) (by assumption)) ?_); (first | refine xv (ex_fa (ev_at rfl) (flT rfl)) ?_ | refine xv (ex_faE (ev_at rfl) (flT rfl) (by assumption) (by assumption)) ?_); refine wl_of rfl (wp_store1 (ev_at rfl) (ev_at rfl) hS (szT rfl) rfl (by first | rfl | exact IsSl.one (by assumption)) fun w hS => wl_put0 ?_); refine wl_nil ?_; (try simp only [lset, Nat.reduceAdd, Nat.zero_add] at hS))
      | ((with_reducible apply wp_region_plain (id := 22)); (first | refine xv (ex_fa (ev_at rfl) (flT rfl)) ?_ | refine xv (ex_faE (ev_at rfl) (flT rfl) (by assumption) (by assumption)) ?_); refine xv (ex_load (ev_at rfl) (ldN hS (kdT rfl) (szT rfl) rfl)) ?_; refine wl_of rfl (wp_callL (cbT rfl) (EvL.c (ev_at rfl) EvL.n) ?_); refine (hck _ _ _ hui hS).mono ?_; rintro e w ⟨rfl, hS⟩; refine ⟨_, rfl, wl_put (by simp only [lset] <;> rfl) ?_⟩; refine xv (ex_cmp (ev_at rfl) (ev_const _ _) (by first | exact neqT (by omega) | exact neqF (by omega) | rfl)) ?_; refine wl_nil ?_)
      | ((with_reducible apply wp_region_plain (id := 24)); (first | refine xv (ex_fa (ev_at rfl) (flT rfl)) ?_ | refine xv (ex_faE (ev_at rfl) (flT rfl) (by assumption) (by assumption)) ?_); refine xv (ex_load (ev_at rfl) (ldN hS (kdT rfl) (szT rfl) rfl)) ?_; refine wl_of rfl (wp_storeN (ev_at rfl) (ev_at rfl) hS (szT rfl) rfl (by first | rfl | assumption | (simp only [sub, splice, List.take_succ_cons, List.take_zero, List.drop_succ_cons, List.drop_zero, List.nil_append, List.cons_append, List.length_cons, List.length_nil, Nat.reduceAdd, List.all_cons, List.all_nil, Bool.and_eq_true, Bool.and_true]; ((repeat' apply And.intro) <;> first | rfl | assumption | exact IsSl.one (by assumption)))) fun w hS => wl_put0 ?_); refine xv (ex_assign (ev_const _ _)) ?_; refine wl_nil ?_; (try simp only [lset, splice, sub, List.take_succ_cons, List.take_zero, List.drop_succ_cons, List.drop_zero, List.nil_append, List.cons_append, List.length_cons, List.length_nil, Nat.reduceAdd, Nat.zero_add, rep_zero] at hS))
      | ((fail_if_success (with_reducible apply wp_region_plain)); (fail_if_success (with_reducible apply wp_region_GS)); go_step))
    refine endN (by first | exact .inl rfl | exact .inr rfl) rfl (ResL.rc rfl (ldN hS (kdT rfl) (szT rfl) rfl) (ResL.rt rfl ResL.rn)) rfl ?_
    rw [hdec]
    exact ⟨_, rfl, by rw [hPl]; exact hui, by rw [hPl]; exact hS.del1.del1⟩
  obtain ⟨k, s, off, hfd, hz, hs, hoff, ho1, ho2, hk⟩ := dFacts bs t hlt
  rw [ho1]
  have hsub := dSub b5 t k s off hfd
  have hsucc := cellD_succ (bs := bs) hfd
  have hcl := cellD_len bs t
  repeat' (first
    | ((with_reducible apply wp_region_plain (id := 11)); refine xv (ex_cmp (ev_at rfl) (ev_const _ _) (by first | exact lssT (by omega) | exact lssF (by omega) | rfl)) ?_; refine wl_nil ?_)
    | ((with_reducible apply wp_region_plain (id := 12)); refine xv (ex_indexAN (vs := [.pointer (some ⟨b5, k, none⟩), .int .i64 (s : Int)]) (cs := fieldsL b5) (ev_at rfl) (ev_at rfl) (arT rfl) (szT rfl) (kdT rfl) (by omega) (by omega) hsub) ?_; refine wl_of rfl (wp_alloc hS (zeT rfl) fun b8 w hS => wl_put (by simp only [lset] <;> rfl) ?_); refine wl_of rfl (wp_storeN (ev_at rfl) (ev_at rfl) hS (szT rfl) rfl (by first | rfl | assumption | (simp only [sub, splice, List.take_succ_cons, List.take_zero, List.drop_succ_cons, List.drop_zero, List.nil_append, List.cons_append, List.length_cons, List.length_nil, Nat.reduceAdd, List.all_cons, List.all_nil, Bool.and_eq_true, Bool.and_true]; ((repeat' apply And.intro) <;> first | rfl | assumption | exact IsSl.one (by assumption)))) fun w hS => wl_put0 ?_); refine wl_nil ?_; (try simp only [lset, splice, sub, List.take_succ_cons, List.take_zero, List.drop_succ_cons, List.drop_zero, List.nil_append, List.cons_append, List.length_cons, List.length_nil, Nat.reduceAdd, Nat.zero_add, rep_zero] at hS))
    | ((with_reducible apply wp_region_plain (id := 13)); (first | refine xv (ex_fa (ev_at rfl) (flT rfl)) ?_ | refine xv (ex_faE (ev_at rfl) (flT rfl) (by assumption) (by assumption)) ?_); refine xv (ex_load (ev_at rfl) (ld1 hS (kdT rfl) rfl)) ?_; refine xv (ex_move (ev_const _ _)) ?_; refine wl_nil ?_)
    | ((fail_if_success (with_reducible apply wp_region_plain)); (fail_if_success (with_reducible apply wp_region_GS)); go_step))
  refine wp_loopM [false, false, false, false, false, false, true, false, false, false, false, false, false, false, false, false, false, false, false, false, false, false, false, false, false, false, false, false, false, false, false, false, false, true, true, true, true, true, true, true, true, true, true, true, true, true, true, true, true, true, true, true] (fun n f w => ∃ j : Nat, n = s - j ∧ f 33 = .int .i64 j ∧ j ≤ s ∧ f 6 = .int .i64 ((off + j : Nat) : Int) ∧ Sat w I (Cells b8 _ [.pointer (some ⟨b5, k, none⟩), .int .i64 (s : Int)] :: Cells b5 93 ((cellD bs t).set k (.int .i64 (val (partOf.sub16 bs off j)))) :: Cells b2 25 [.int .i64 0, .int .i64 0, .int .i64 0, .int .i64 0, .int .i64 0, .slice none 0 0] :: L)) rfl s ⟨0, rfl, rfl, by omega, rfl, by rw [show val (partOf.sub16 bs off 0) = 0 from by simp [partOf.sub16, val], set_self hz]; exact hS⟩ ?_
  clear hS
  rintro n f w ⟨j, rfl, h33, hj, h6, hS⟩
  simp only [havoc, Nat.reduceAdd, h33, h6]
  by_cases hjs : j < s
  case neg =>
    have : j = s := by omega
    subst this
    rw [← hsucc] at hS
    repeat' (first
      | ((with_reducible apply wp_region_plain (id := 14)); refine xv (ex_cmp (ev_at rfl) (ev_at rfl) (by first | exact lssT (by omega) | exact lssF (by omega) | rfl)) ?_; refine wl_nil ?_)
      | ((with_reducible apply wp_region_plain (id := 18)); refine xv (ex_arith (ev_at rfl) (ev_const _ _) rfl (by first | exact IntWalk.i64_in _ (by omega) | rfl)) ?_; refine xv (ex_move (ev_at rfl)) ?_; refine wl_nil ?_)
      | ((fail_if_success (with_reducible apply wp_region_plain)); (fail_if_success (with_reducible apply wp_region_GS)); go_step))
    exact loopEndM rfl (6 - (t + 1)) ⟨t + 1, rfl, rfl, by omega, by rw [ho2]; rfl, hS.drop⟩ (by omega)
  obtain ⟨c, hc⟩ : ∃ c, bs[off + j]? = some c := ⟨_, List.getElem?_eq_getElem (by omega)⟩
  have hsn := sub16_succ hc
  have hvl := valN_lt (partOf.sub16 bs off j)
  have hvl2 : valN (partOf.sub16 bs off j) < 256 ^ 3 := Nat.lt_of_lt_of_le hvl (Nat.pow_le_pow_right (by omega) (by have := sub16_len bs off j; omega))
  rw [show (256 : Nat) ^ 3 = 16777216 from rfl] at hvl2
  have hc8 := c.toNat_lt
  generalize hN : valN (partOf.sub16 bs off j) = N at hvl hvl2
  have hval : val (partOf.sub16 bs off j) = (N : Int) := by rw [val_valN, hN]
  have hval2 : val (partOf.sub16 bs off (j + 1)) = ((N * 256 + c.toNat : Nat) : Int) := by rw [val_valN, hsn, valN_snoc, hN]
  rw [hval] at hS
  have hcs : ((cellD bs t).set k (.int .i64 (N : Int)))[k]? = some (.int .i64 (N : Int)) := by rw [List.getElem?_set]; simp [hcl, hk]
  repeat' (first
    | ((with_reducible apply wp_region_plain (id := 14)); refine xv (ex_cmp (ev_at rfl) (ev_at rfl) (by first | exact lssT (by omega) | exact lssF (by omega) | rfl)) ?_; refine wl_nil ?_)
    | ((with_reducible apply wp_region_GS (id := 15) 15 (fun j => [0, 1, 2, 3, 4, 5, 6, 7, 8, 9, 10, 11, 12, 13].contains j) mixed); rfl; exact hS; (clear hS; intro w hS); (first | refine xp 0 rfl rfl (fun w => ex_fa (ev_at rfl) (flT rfl)) ?_ | refine xp 0 rfl rfl (fun w => ex_faE (ev_at rfl) (flT rfl) (by assumption) (by assumption)) ?_); refine xr 1 hS rfl rfl (fun w X hS => ex_load (ev_at rfl) (ld1 hS (kdT rfl) rfl)) ?_; (first | refine xp 2 rfl rfl (fun w => ex_fa (ev_at rfl) (flT rfl)) ?_ | refine xp 2 rfl rfl (fun w => ex_faE (ev_at rfl) (flT rfl) (by assumption) (by assumption)) ?_); refine xr 3 hS rfl rfl (fun w X hS => ex_load (ev_at rfl) (ld1 hS (kdT rfl) rfl)) ?_; (first | refine xp 4 rfl rfl (fun w => ex_nilCheck (ev_at rfl)) ?_ | refine xp 4 rfl rfl (fun w => ex_nilCheckF (ev_at rfl)) ?_); refine xr 5 hS rfl rfl (fun w X hS => ex_load (ev_at rfl) (ld1 (v := .int .i64 (N : Int)) hS (kdT rfl) hcs)) ?_; refine xp 6 rfl rfl (fun w => ex_shlI (s := 8) (r := ((N * 256 : Nat) : Int)) (ev_at rfl) (ev_const _ _) (by decide) (by rw [IntWalk.i64_in _ (by omega)]; omega)) ?_; refine xp 7 rfl rfl (fun w => ex_move (ev_at rfl)) ?_; refine xp 8 rfl rfl (fun w => ex_move (ev_at rfl)) ?_; (first | refine xp 9 rfl rfl (fun w => ex_iaN (ev_at rfl) (ev_at rfl) (slT rfl) (szT rfl) (by first | assumption | exact IsSl.nil) (by omega)) ?_ | refine xp 9 rfl rfl (fun w => ex_ia (ev_at rfl) (ev_at rfl) (slT rfl) (szT rfl) (by first | assumption | exact IsSl.nil) (by omega) (by omega)) ?_); refine xr 10 hS rfl rfl (fun w X hS => ex_load (ev_at rfl) (ldE1 (u := byteV c) (hr.rd hS) hv (m := off + j) (by omega) (kdT rfl) (byteGet hc (by omega)))) ?_; refine xp 11 rfl rfl (fun w => ex_convII (s := (c.toNat : Int)) (ev_at rfl) (inT rfl) (kdT rfl) (IntWalk.i64_in _ (by omega))) ?_; refine xp 12 rfl rfl (fun w => ex_orByte (v := N) (c := c.toNat) (ev_at rfl) (ev_at rfl) (by omega) hc8) ?_; (first | refine xp 13 rfl rfl (fun w => ex_nilCheck (ev_at rfl)) ?_ | refine xp 13 rfl rfl (fun w => ex_nilCheckF (ev_at rfl)) ?_); refine wg_loud 14 (by decide +kernel) rfl rfl (wp_store1s (u := .int .i64 ((N * 256 + c.toNat : Nat) : Int)) (ev_at rfl) (ev_at rfl) hS (szT rfl) (by rw [List.length_set, hcl]; exact hk) rfl fun w hS => ⟨gsF rfl, wg_n ?_⟩); refine wg_end (by decide +kernel) ?_; (try simp only [lset, splice, sub, List.take_succ_cons, List.take_zero, List.drop_succ_cons, List.drop_zero, List.nil_append, List.cons_append, List.length_cons, List.length_nil, Nat.reduceAdd, Nat.zero_add, rep_zero] at hS))
    | ((with_reducible apply wp_region_plain (id := 16)); refine xv (ex_move (ev_at rfl)) ?_; refine xv (ex_arith (ev_at rfl) (ev_const _ _) rfl (by first | exact IntWalk.i64_in _ (by omega) | rfl)) ?_; refine xv (ex_assign (ev_at rfl)) ?_; refine wl_nil ?_)
    | ((with_reducible apply wp_region_plain (id := 17)); refine xv (ex_arith (ev_at rfl) (ev_const _ _) rfl (by first | exact IntWalk.i64_in _ (by omega) | rfl)) ?_; refine xv (ex_move (ev_at rfl)) ?_; refine wl_nil ?_)
    | ((fail_if_success (with_reducible apply wp_region_plain)); (fail_if_success (with_reducible apply wp_region_GS)); go_step))
  rw [List.set_set, ← hval2] at hS
  exact loopEndM rfl (s - (j + 1)) ⟨j + 1, rfl, rfl, by omega, rfl, hS⟩ (by omega)
end
end Go.Proofs.Try
