/- The reference of records: contracts (5): Need, Split; the law's of, to, bytes. -/
import Derived.Test.YtjklnjpmjdbogaaF2
namespace Go.Proofs.Try
open Go.RowKit Go.SL Go.SH Go.RC
set_option maxRecDepth 100000
set_option linter.unusedSimpArgs false
set_option linter.unusedVariables false
section
variable {w : World} {I : Gh} {L : List Ch}
theorem rneed_ct (n : Nat) (hn : n ≤ 1099511627) (hS : Sat w I L) : Calls Try.prog 33 #[.int .i64 (n : Int)] w fun e w' => e = .returned (.int .i64 (need n)) ∧ Sat w' I L := by
  go_enter Try.func33, Try.ntmps33
  repeat' (first
    | ((with_reducible apply wp_region_plain (id := 0)); refine xv (ex_assign (ev_const _ _)) ?_; refine wl_nil ?_)
    | ((with_reducible apply wp_region_plain (id := 1)); refine xv (ex_move (ev_at rfl)) ?_; refine xv (ex_arith (ev_at rfl) (ev_const _ _) rfl (by first | exact IntWalk.i64_in _ (by omega) | rfl)) ?_; refine xv (ex_quo (ev_at rfl) (ev_const _ _) (by first | decide | omega) (by omega) (by first | exact IntWalk.i64_in _ (by omega) | rfl)) ?_; refine xv (ex_max2 (ev_const _ _) (ev_at rfl)) ?_; refine xv (ex_assign (ev_at rfl)) ?_; refine wl_nil ?_)
    | ((fail_if_success (with_reducible apply wp_region_plain)); (fail_if_success (with_reducible apply wp_region_GS)); go_step))
  refine end1 (by first | exact .inl rfl | exact .inr rfl) rfl (ResL.rt rfl ResL.rn) ?_
  refine ⟨?_, hS⟩
  congr 2
  unfold need
  split <;> omega
set_option maxHeartbeats 8000000 in
theorem rsplit_ct (r : RecS) (pv : Value) (hv : IsSl pv r.pay.length) (hr : Rds I L pv (r.pay.map byteV)) (hS : Sat w I L) :
    Calls Try.prog 29 #[recV r pv] w fun e w' => ∃ J u, e = .returned (.tuple #[u, .int .i64 (split r).2]) ∧ I.le J ∧ SecI J u (split r).1 ∧ Sat w' J L := by
  by_cases hf : fine r.kind r.gen r.num
  case neg =>
    have hsp : split r = ([], 2) := by rw [split, if_pos hf]
    rw [hsp]
    go_enter Try.func29, Try.ntmps29
    repeat' (first
      | ((with_reducible apply wp_region_plain (id := 0)); refine wl_of rfl (wp_boxN (ev_at rfl) hS fun b1 w hS => wl_put (by simp only [lset] <;> rfl) ?_); refine xv (ex_assign (ev_const _ _)) ?_; refine xv (ex_assign (ev_const _ _)) ?_; refine wl_nil ?_)
      | ((with_reducible apply wp_region_plain (id := 1)); (first | refine xv (ex_fa (ev_at rfl) (flT rfl)) ?_ | refine xv (ex_faE (ev_at rfl) (flT rfl) (by assumption) (by assumption)) ?_); refine xv (ex_load (ev_at rfl) (ld1 hS (kdT rfl) rfl)) ?_; (first | refine xv (ex_fa (ev_at rfl) (flT rfl)) ?_ | refine xv (ex_faE (ev_at rfl) (flT rfl) (by assumption) (by assumption)) ?_); refine xv (ex_load (ev_at rfl) (ld1 hS (kdT rfl) rfl)) ?_; (first | refine xv (ex_fa (ev_at rfl) (flT rfl)) ?_ | refine xv (ex_faE (ev_at rfl) (flT rfl) (by assumption) (by assumption)) ?_); refine xv (ex_load (ev_at rfl) (ld1 hS (kdT rfl) rfl)) ?_; refine wl_of rfl (wp_callL (cbT rfl) (EvL.c (ev_at rfl) (EvL.c (ev_at rfl) (EvL.c (ev_at rfl) EvL.n))) ?_); refine (fine_ct _ _ _ hS).mono ?_; rintro e w ⟨rfl, hS⟩; rw [decide_eq_false hf]; refine ⟨_, rfl, wl_put (by simp only [lset] <;> rfl) ?_⟩; refine xv (ex_not (ev_at rfl)) ?_; refine wl_nil ?_)
      | ((with_reducible apply wp_region_plain (id := 2)); refine xv (ex_assign (ev_const _ _)) ?_; refine xv (ex_assign (ev_const _ _)) ?_; refine wl_nil ?_)
      | ((fail_if_success (with_reducible apply wp_region_plain)); (fail_if_success (with_reducible apply wp_region_GS)); go_step))
    refine endN (by first | exact .inl rfl | exact .inr rfl) rfl (ResL.rt rfl (ResL.rt rfl ResL.rn)) rfl ?_
    exact ⟨I, _, rfl, Gh.le.refl I, SecI.nil I, hS.drop⟩
  by_cases hlen : 131072 < r.pay.length
  case pos =>
    have hsp : split r = ([], 5) := by rw [split, if_neg (by simpa using hf), if_pos hlen]
    rw [hsp]
    go_enter Try.func29, Try.ntmps29
    repeat' (first
      | ((with_reducible apply wp_region_plain (id := 0)); refine wl_of rfl (wp_boxN (ev_at rfl) hS fun b1 w hS => wl_put (by simp only [lset] <;> rfl) ?_); refine xv (ex_assign (ev_const _ _)) ?_; refine xv (ex_assign (ev_const _ _)) ?_; refine wl_nil ?_)
      | ((with_reducible apply wp_region_plain (id := 1)); (first | refine xv (ex_fa (ev_at rfl) (flT rfl)) ?_ | refine xv (ex_faE (ev_at rfl) (flT rfl) (by assumption) (by assumption)) ?_); refine xv (ex_load (ev_at rfl) (ld1 hS (kdT rfl) rfl)) ?_; (first | refine xv (ex_fa (ev_at rfl) (flT rfl)) ?_ | refine xv (ex_faE (ev_at rfl) (flT rfl) (by assumption) (by assumption)) ?_); refine xv (ex_load (ev_at rfl) (ld1 hS (kdT rfl) rfl)) ?_; (first | refine xv (ex_fa (ev_at rfl) (flT rfl)) ?_ | refine xv (ex_faE (ev_at rfl) (flT rfl) (by assumption) (by assumption)) ?_); refine xv (ex_load (ev_at rfl) (ld1 hS (kdT rfl) rfl)) ?_; refine wl_of rfl (wp_callL (cbT rfl) (EvL.c (ev_at rfl) (EvL.c (ev_at rfl) (EvL.c (ev_at rfl) EvL.n))) ?_); refine (fine_ct _ _ _ hS).mono ?_; rintro e w ⟨rfl, hS⟩; rw [decide_eq_true hf]; refine ⟨_, rfl, wl_put (by simp only [lset] <;> rfl) ?_⟩; refine xv (ex_not (ev_at rfl)) ?_; refine wl_nil ?_)
      | ((with_reducible apply wp_region_plain (id := 3)); (first | refine xv (ex_fa (ev_at rfl) (flT rfl)) ?_ | refine xv (ex_faE (ev_at rfl) (flT rfl) (by assumption) (by assumption)) ?_); refine xv (ex_load (ev_at rfl) (ld1 hS (kdT rfl) rfl)) ?_; refine xv (ex_len (ev_at rfl) (slT rfl) (by first | assumption | exact IsSl.nil)) ?_; refine xv (ex_cmp (ev_at rfl) (ev_const _ _) (by first | exact gtrT (by omega) | exact gtrF (by omega) | rfl)) ?_; refine wl_nil ?_)
      | ((with_reducible apply wp_region_plain (id := 4)); refine xv (ex_assign (ev_const _ _)) ?_; refine xv (ex_assign (ev_const _ _)) ?_; refine wl_nil ?_)
      | ((fail_if_success (with_reducible apply wp_region_plain)); (fail_if_success (with_reducible apply wp_region_GS)); go_step))
    refine endN (by first | exact .inl rfl | exact .inr rfl) rfl (ResL.rt rfl (ResL.rt rfl ResL.rn)) rfl ?_
    exact ⟨I, _, rfl, Gh.le.refl I, SecI.nil I, hS.drop⟩
  have hsp : split r = (sectorsR r, 0) := by rw [split, if_neg (by simpa using hf), if_neg hlen]
  rw [hsp]
  have hnd := need_pos r.pay.length
  have hn586 : need r.pay.length ≤ 586 := by unfold need; omega
  go_enter Try.func29, Try.ntmps29
  repeat' (first
    | ((with_reducible apply wp_region_plain (id := 0)); refine wl_of rfl (wp_boxN (ev_at rfl) hS fun b1 w hS => wl_put (by simp only [lset] <;> rfl) ?_); refine xv (ex_assign (ev_const _ _)) ?_; refine xv (ex_assign (ev_const _ _)) ?_; refine wl_nil ?_)
    | ((with_reducible apply wp_region_plain (id := 1)); (first | refine xv (ex_fa (ev_at rfl) (flT rfl)) ?_ | refine xv (ex_faE (ev_at rfl) (flT rfl) (by assumption) (by assumption)) ?_); refine xv (ex_load (ev_at rfl) (ld1 hS (kdT rfl) rfl)) ?_; (first | refine xv (ex_fa (ev_at rfl) (flT rfl)) ?_ | refine xv (ex_faE (ev_at rfl) (flT rfl) (by assumption) (by assumption)) ?_); refine xv (ex_load (ev_at rfl) (ld1 hS (kdT rfl) rfl)) ?_; (first | refine xv (ex_fa (ev_at rfl) (flT rfl)) ?_ | refine xv (ex_faE (ev_at rfl) (flT rfl) (by assumption) (by assumption)) ?_); refine xv (ex_load (ev_at rfl) (ld1 hS (kdT rfl) rfl)) ?_; refine wl_of rfl (wp_callL (cbT rfl) (EvL.c (ev_at rfl) (EvL.c (ev_at rfl) (EvL.c (ev_at rfl) EvL.n))) ?_); refine (fine_ct _ _ _ hS).mono ?_; rintro e w ⟨rfl, hS⟩; rw [decide_eq_true hf]; refine ⟨_, rfl, wl_put (by simp only [lset] <;> rfl) ?_⟩; refine xv (ex_not (ev_at rfl)) ?_; refine wl_nil ?_)
    | ((with_reducible apply wp_region_plain (id := 3)); (first | refine xv (ex_fa (ev_at rfl) (flT rfl)) ?_ | refine xv (ex_faE (ev_at rfl) (flT rfl) (by assumption) (by assumption)) ?_); refine xv (ex_load (ev_at rfl) (ld1 hS (kdT rfl) rfl)) ?_; refine xv (ex_len (ev_at rfl) (slT rfl) (by first | assumption | exact IsSl.nil)) ?_; refine xv (ex_cmp (ev_at rfl) (ev_const _ _) (by first | exact gtrT (by omega) | exact gtrF (by omega) | rfl)) ?_; refine wl_nil ?_)
    | ((with_reducible apply wp_region_plain (id := 5)); refine xv (ex_assign (ev_const _ _)) ?_; refine wl_nil ?_)
    | ((with_reducible apply wp_region_plain (id := 6)); (first | refine xv (ex_fa (ev_at rfl) (flT rfl)) ?_ | refine xv (ex_faE (ev_at rfl) (flT rfl) (by assumption) (by assumption)) ?_); refine xv (ex_load (ev_at rfl) (ld1 hS (kdT rfl) rfl)) ?_; refine xv (ex_len (ev_at rfl) (slT rfl) (by first | assumption | exact IsSl.nil)) ?_; refine wl_of rfl (wp_callL (cbT rfl) (EvL.c (ev_at rfl) EvL.n) ?_); refine (rneed_ct _ (by omega) hS).mono ?_; rintro e w ⟨rfl, hS⟩; refine ⟨_, rfl, wl_put (by simp only [lset] <;> rfl) ?_⟩; refine xv (ex_assign (ev_at rfl)) ?_; refine wl_nil ?_)
    | ((with_reducible apply wp_region_plain (id := 7)); refine xv (ex_assign (ev_const _ _)) ?_; refine wl_nil ?_)
    | ((fail_if_success (with_reducible apply wp_region_plain)); (fail_if_success (with_reducible apply wp_region_GS)); go_step))
  generalize hN : need r.pay.length = N at hnd hn586
  have hS := hS.nilRow 22 1
  have hsl : (sectorsR r).length = N := by simp [sectorsR, hN]
  refine wp_loopM [false, false, false, false, true, false, true, false, false, false, false, false, false, false, false, false, false, false, false, false, false, false, false, true, true, true, true, true, true, true, true, true, true, true, true, true, true, true, true, true, true, true, true, true, true, true, true, true, true, true, true, true, true] (fun n f w => ∃ (i : Nat) (J : Gh) (u : Value) (vs : List Value), n = N - i ∧ f 6 = .int .i64 i ∧ i ≤ N ∧ f 4 = u ∧ I.le J ∧ BytesL J vs ((sectorsR r).take i) ∧ Sat w J (Row u 22 1 i vs :: Cells b1 49 [.int .i64 r.kind, .int .i64 r.gen, .int .i64 r.num, pv] :: L)) rfl N ⟨0, I, _, _, rfl, rfl, by omega, rfl, Gh.le.refl I, BytesL.nil I, hS⟩ ?_
  clear hS
  rintro n f w ⟨i, J, u, vs, rfl, h6i, hi, h4, hJ, hvs, hS⟩
  simp only [havoc, Nat.reduceAdd, h6i, h4]
  have hui := (hS.rowH (v := u)).1
  by_cases hlt : i < N
  case neg =>
    have : i = N := by omega
    subst this
    rw [List.take_of_length_le (by omega)] at hvs
    repeat' (first
      | ((with_reducible apply wp_region_plain (id := 8)); refine xv (ex_move (ev_at rfl)) ?_; refine xv (ex_move (ev_at rfl)) ?_; refine xv (ex_cmp (ev_at rfl) (ev_at rfl) (by first | exact lssT (by omega) | exact lssF (by omega) | rfl)) ?_; refine wl_nil ?_)
      | ((with_reducible apply wp_region_plain (id := 11)); refine xv (ex_move (ev_at rfl)) ?_; refine xv (ex_assign (ev_at rfl)) ?_; refine xv (ex_assign (ev_const _ _)) ?_; refine wl_nil ?_)
      | ((fail_if_success (with_reducible apply wp_region_plain)); (fail_if_success (with_reducible apply wp_region_GS)); go_step))
    refine endN (by first | exact .inl rfl | exact .inr rfl) rfl (ResL.rt rfl (ResL.rt rfl ResL.rn)) rfl ?_
    obtain ⟨J2, hJ2, hS, hu⟩ := hS.freezeRow
    exact ⟨J2, u, rfl, hJ.trans hJ2, ⟨vs, by rw [hsl]; exact hu, hvs.mono hJ2⟩, hS.drop⟩
  have hspec := need_spec r.pay.length i (by omega)
  rw [hN] at hspec
  obtain ⟨hiN, hmin, hge, hle⟩ : ∃ m : Nat, (if (r.pay.length : Int) < 224 * (i : Int) + 224 then (r.pay.length : Int) else 224 * (i : Int) + 224) = (m : Int) ∧ i * 224 ≤ m ∧ m ≤ r.pay.length := by
    by_cases h : (r.pay.length : Int) < 224 * (i : Int) + 224
    · exact ⟨r.pay.length, by rw [if_pos h], by omega, by omega⟩
    · exact ⟨(i + 1) * 224, by rw [if_neg h]; omega, by omega, by omega⟩
  have hchk := check_part hf (by omega) (i := i) (by rw [hN]; exact hlt)
  have hpr : partR r i = ⟨r.kind, r.gen, r.num, i, N, (r.pay.drop (224 * i)).take 224⟩ := by rw [partR, hN]
  have hpl : ((r.pay.drop (224 * i)).take 224).length = hiN - i * 224 := by
    simp only [List.length_take, List.length_drop]
    split at hmin <;> omega
  have hv2 := hv.slv (l := i * 224) (h := hiN) (sz := 1) hge hle
  have hsub : sub (r.pay.map byteV) (i * 224 * 1) ((hiN - i * 224) * 1) = ((r.pay.drop (224 * i)).take 224).map byteV := by
    simp only [sub, Nat.mul_one]
    rw [← List.map_drop, ← List.map_take, Nat.mul_comm i 224]
    congr 1
    rw [List.take_eq_take_iff]
    simp only [List.length_drop]
    simp only [List.length_take, List.length_drop] at hpl
    omega
  have hr2 : Rds I L (slv pv (i * 224) hiN 1) (((r.pay.drop (224 * i)).take 224).map byteV) := by
    intro w X hS
    have := (hr w X hS).slv (sz := 1) hv hge hle
    rwa [hsub] at this
  have hsec : (sectorsR r)[i]? = some (encode (partR r i)) := by
    have := sectors_get (r := r) (i := i) (by rw [hN]; exact hlt) []
    rwa [List.append_nil] at this
  have htk : (sectorsR r).take (i + 1) = (sectorsR r).take i ++ [encode (partR r i)] := by rw [List.take_add_one, hsec]; rfl
  have henl := encode_len (partR r i)
  have hen := fun (w : World) (L2 : List Ch) (hr2 : Rds J L2 (slv pv (i * 224) hiN 1) (((r.pay.drop (224 * i)).take 224).map byteV)) hS => rencode_ct (w := w) (I := J) (L := L2) (partR r i) (slv pv (i * 224) hiN 1) hchk (by rw [hpr, hpl]; exact hv2) (by rw [hpr]; exact hr2) hS
  generalize encode (partR r i) = E at hsec htk henl hen
  rw [hpr] at hen
  unfold partV at hen
  simp only at hen
  have e1 : (224 * (i : Int)).toNat = i * 224 := by omega
  rw [← e1] at hen hr2 hv2
  repeat' (first
    | ((with_reducible apply wp_region_plain (id := 8)); refine xv (ex_move (ev_at rfl)) ?_; refine xv (ex_move (ev_at rfl)) ?_; refine xv (ex_cmp (ev_at rfl) (ev_at rfl) (by first | exact lssT (by omega) | exact lssF (by omega) | rfl)) ?_; refine wl_nil ?_)
    | ((with_reducible apply wp_region_GS (id := 10) 26 (fun j => [0, 1, 2, 3, 4, 5, 6, 7, 8, 9, 10, 11, 12, 13, 14, 15, 16, 17, 18, 19, 20, 21, 25].contains j) mixed); rfl; exact hS; (clear hS; intro w hS); refine xp 0 rfl rfl (fun w => ex_move (ev_at rfl)) ?_; (first | refine xp 1 rfl rfl (fun w => ex_fa (ev_at rfl) (flT rfl)) ?_ | refine xp 1 rfl rfl (fun w => ex_faE (ev_at rfl) (flT rfl) (by assumption) (by assumption)) ?_); refine xr 2 hS rfl rfl (fun w X hS => ex_load (ev_at rfl) (ld1 hS (kdT rfl) rfl)) ?_; (first | refine xp 3 rfl rfl (fun w => ex_fa (ev_at rfl) (flT rfl)) ?_ | refine xp 3 rfl rfl (fun w => ex_faE (ev_at rfl) (flT rfl) (by assumption) (by assumption)) ?_); refine xr 4 hS rfl rfl (fun w X hS => ex_load (ev_at rfl) (ld1 hS (kdT rfl) rfl)) ?_; (first | refine xp 5 rfl rfl (fun w => ex_fa (ev_at rfl) (flT rfl)) ?_ | refine xp 5 rfl rfl (fun w => ex_faE (ev_at rfl) (flT rfl) (by assumption) (by assumption)) ?_); refine xr 6 hS rfl rfl (fun w X hS => ex_load (ev_at rfl) (ld1 hS (kdT rfl) rfl)) ?_; refine xp 7 rfl rfl (fun w => ex_move (ev_at rfl)) ?_; refine xp 8 rfl rfl (fun w => ex_move (ev_at rfl)) ?_; (first | refine xp 9 rfl rfl (fun w => ex_fa (ev_at rfl) (flT rfl)) ?_ | refine xp 9 rfl rfl (fun w => ex_faE (ev_at rfl) (flT rfl) (by assumption) (by assumption)) ?_); refine xr 10 hS rfl rfl (fun w X hS => ex_load (ev_at rfl) (ld1 hS (kdT rfl) rfl)) ?_; refine xp 11 rfl rfl (fun w => ex_move (ev_at rfl)) ?_; refine xp 12 rfl rfl (fun w => ex_arith (ev_const _ _) (ev_at rfl) rfl (by first | exact IntWalk.i64_in _ (by omega) | rfl)) ?_; refine xp 13 rfl rfl (fun w => ex_move (ev_at rfl)) ?_; refine xp 14 rfl rfl (fun w => ex_arith (ev_const _ _) (ev_at rfl) rfl (by first | exact IntWalk.i64_in _ (by omega) | rfl)) ?_; refine xp 15 rfl rfl (fun w => ex_arith (ev_at rfl) (ev_const _ _) rfl (by first | exact IntWalk.i64_in _ (by omega) | rfl)) ?_; (first | refine xp 16 rfl rfl (fun w => ex_fa (ev_at rfl) (flT rfl)) ?_ | refine xp 16 rfl rfl (fun w => ex_faE (ev_at rfl) (flT rfl) (by assumption) (by assumption)) ?_); refine xr 17 hS rfl rfl (fun w X hS => ex_load (ev_at rfl) (ld1 hS (kdT rfl) rfl)) ?_; refine xp 18 rfl rfl (fun w => ex_len (ev_at rfl) (slT rfl) (by first | assumption | exact IsSl.nil)) ?_; refine xp 19 rfl rfl (fun w => ex_min2r (r := (hiN : Int)) (ev_at rfl) (ev_at rfl) hmin) ?_; refine xp 20 rfl rfl (fun w => ex_sliceLH (ev_at rfl) (ev_at rfl) (ev_at rfl) (slT rfl) (szT rfl) (by first | assumption | exact IsSl.nil) (by omega) (by omega) (by omega)) ?_; refine xp 21 rfl rfl (fun w => ex_buildS (plT rfl) (zeT rfl) (Fills.cons rfl (ev_at rfl) (by first | exact IsSl.cellsL (by assumption) | exact cellsL1 rfl | rfl) rfl rfl (Fills.cons rfl (ev_at rfl) (by first | exact IsSl.cellsL (by assumption) | exact cellsL1 rfl | rfl) rfl rfl (Fills.cons rfl (ev_at rfl) (by first | exact IsSl.cellsL (by assumption) | exact cellsL1 rfl | rfl) rfl rfl (Fills.cons rfl (ev_at rfl) (by first | exact IsSl.cellsL (by assumption) | exact cellsL1 rfl | rfl) rfl rfl (Fills.cons rfl (ev_at rfl) (by first | exact IsSl.cellsL (by assumption) | exact cellsL1 rfl | rfl) rfl rfl (Fills.cons rfl (ev_at rfl) (by first | exact IsSl.cellsL (by assumption) | exact cellsL1 rfl | rfl) rfl rfl Fills.nil))))))) ?_; refine wg_loud 22 (by decide +kernel) rfl rfl (wp_callL (cbT rfl) (EvL.c (ev_at rfl) EvL.n) ?_); refine (hen _ _ (hr2.mono hJ).le hS).mono ?_; rintro e w ⟨u2, rfl, hu2i, hS⟩; obtain ⟨J2, hJ2, hS, hu2⟩ := hS.freezeRow; refine ⟨_, rfl, ⟨gsF rfl, wg_p (by simp only [lset] <;> rfl) ?_⟩⟩; refine wg_loud 23 (by decide +kernel) rfl rfl (wp_buildSlice (slT rfl) (szT rfl) (zeT rfl) (fillsOne1 (ev_at rfl) (by first | rfl | exact IsSl.one (by assumption))) hS rfl (by first | rfl | assumption | (simp only [sub, splice, List.take_succ_cons, List.take_zero, List.drop_succ_cons, List.drop_zero, List.nil_append, List.cons_append, List.length_cons, List.length_nil, Nat.reduceAdd, List.all_cons, List.all_nil, Bool.and_eq_true, Bool.and_true]; ((repeat' apply And.intro) <;> first | rfl | assumption | exact IsSl.one (by assumption)))) fun b51 w hS => ⟨gsF rfl, wg_p (by simp only [lset] <;> rfl) ?_⟩); refine wg_loud 24 (by decide +kernel) rfl rfl (wp_append1 (ev_at rfl) (ev_at rfl) (slT rfl) (szT rfl) (byT rfl) (zeT rfl) hS (by omega) (by omega) rfl fun v52 w hS hv52 => ⟨gsF rfl, wg_p (by simp only [lset] <;> rfl) ?_⟩); refine xp 25 rfl rfl (fun w => ex_assign (ev_at rfl)) ?_; refine wg_end (by decide +kernel) ?_; (try simp only [lset, splice, sub, List.take_succ_cons, List.take_zero, List.drop_succ_cons, List.drop_zero, List.nil_append, List.cons_append, List.length_cons, List.length_nil, Nat.reduceAdd, Nat.zero_add, rep_zero] at hS))
    | ((with_reducible apply wp_region_plain (id := 9)); refine xv (ex_move (ev_at rfl)) ?_; refine xv (ex_arith (ev_at rfl) (ev_const _ _) rfl (by first | exact IntWalk.i64_in _ (by omega) | rfl)) ?_; refine xv (ex_assign (ev_at rfl)) ?_; refine wl_nil ?_)
    | ((fail_if_success (with_reducible apply wp_region_plain)); (fail_if_success (with_reducible apply wp_region_GS)); go_step))
  exact loopEndM rfl (N - (i + 1)) ⟨i + 1, J2, _, _, rfl, rfl, by omega, rfl, hJ.trans hJ2, by rw [htk]; exact (hvs.mono hJ2).snoc (by rw [henl]; exact hu2), hS⟩ (by omega)
set_option maxHeartbeats 8000000 in
theorem bytesT_ct (v u : Value) (ls : List (List UInt8)) (hv : SecI I v ls) (hu : SecI I u ls) (hn : ls.length ≤ 1099511627) (hS : Sat w I L) :
    Calls Try.prog 32 #[v, u] w fun e w' => e = .returned (.bool true) ∧ Sat w' I L := by
  obtain ⟨vs, hvs, hvl, hve⟩ := hv
  obtain ⟨us, hus, hul, hue⟩ := hu
  have hvi := hvs.is
  have hui := hus.is
  go_enter Try.func32, Try.ntmps32
  repeat' (first
    | ((with_reducible apply wp_region_plain (id := 0)); refine xv (ex_assign (ev_const _ _)) ?_; refine wl_nil ?_)
    | ((with_reducible apply wp_region_plain (id := 1)); refine xv (ex_move (ev_at rfl)) ?_; refine xv (ex_len (ev_at rfl) (slT rfl) (by first | assumption | exact IsSl.nil)) ?_; refine xv (ex_move (ev_at rfl)) ?_; refine xv (ex_len (ev_at rfl) (slT rfl) (by first | assumption | exact IsSl.nil)) ?_; refine xv (ex_cmp (ev_at rfl) (ev_at rfl) (by first | exact neqT (by omega) | exact neqF (by omega) | rfl)) ?_; refine wl_nil ?_)
    | ((with_reducible apply wp_region_plain (id := 3)); refine xv (ex_assign (ev_const _ _)) ?_; refine wl_nil ?_)
    | ((fail_if_success (with_reducible apply wp_region_plain)); (fail_if_success (with_reducible apply wp_region_GS)); go_step))
  refine wp_loopM [false, false, false, false, true, true, false, false, false, false, false, true, true, true, true, true, true, true, true, true, true, true, true, true, true, true, true, true] (fun n f w => ∃ i : Nat, n = ls.length - i ∧ f 5 = .int .i64 i ∧ i ≤ ls.length ∧ Sat w I L) rfl ls.length ⟨0, rfl, rfl, by omega, hS⟩ ?_
  clear hS
  rintro n f w ⟨i, rfl, h5, hi, hS⟩
  simp only [havoc, Nat.reduceAdd, h5]
  by_cases hlt : i < ls.length
  case neg =>
    repeat' (first
      | ((with_reducible apply wp_region_plain (id := 4)); refine xv (ex_move (ev_at rfl)) ?_; refine xv (ex_move (ev_at rfl)) ?_; refine xv (ex_len (ev_at rfl) (slT rfl) (by first | assumption | exact IsSl.nil)) ?_; refine xv (ex_cmp (ev_at rfl) (ev_at rfl) (by first | exact lssT (by omega) | exact lssF (by omega) | rfl)) ?_; refine wl_nil ?_)
      | ((with_reducible apply wp_region_plain (id := 8)); refine xv (ex_assign (ev_const _ _)) ?_; refine wl_nil ?_)
      | ((fail_if_success (with_reducible apply wp_region_plain)); (fail_if_success (with_reducible apply wp_region_GS)); go_step))
    refine end1 (by first | exact .inl rfl | exact .inr rfl) rfl (ResL.rt rfl ResL.rn) ?_
    exact ⟨rfl, hS⟩
  have g1 : vs[i]? = some vs[i] := List.getElem?_eq_getElem (by omega)
  have g2 : us[i]? = some us[i] := List.getElem?_eq_getElem (by omega)
  have g3 : ls[i]? = some ls[i] := List.getElem?_eq_getElem hlt
  have s1 := hve _ _ _ g1 g3
  have s2 := hue _ _ _ g2 g3
  generalize vs[i] = v1 at g1 s1
  generalize us[i] = u1 at g2 s2
  generalize ls[i] = l1 at g3 s1 s2
  repeat' (first
    | ((with_reducible apply wp_region_plain (id := 4)); refine xv (ex_move (ev_at rfl)) ?_; refine xv (ex_move (ev_at rfl)) ?_; refine xv (ex_len (ev_at rfl) (slT rfl) (by first | assumption | exact IsSl.nil)) ?_; refine xv (ex_cmp (ev_at rfl) (ev_at rfl) (by first | exact lssT (by omega) | exact lssF (by omega) | rfl)) ?_; refine wl_nil ?_)
    | ((with_reducible apply wp_region_GS (id := 6) 11 (fun j => [0, 1, 2, 3, 4, 5, 6, 7, 8, 9, 10].contains j) mixed); rfl; exact hS; (clear hS; intro w hS); refine xp 0 rfl rfl (fun w => ex_move (ev_at rfl)) ?_; refine xp 1 rfl rfl (fun w => ex_move (ev_at rfl)) ?_; (first | refine xp 2 rfl rfl (fun w => ex_iaN (ev_at rfl) (ev_at rfl) (slT rfl) (szT rfl) (by first | assumption | exact IsSl.nil) (by omega)) ?_ | refine xp 2 rfl rfl (fun w => ex_ia (ev_at rfl) (ev_at rfl) (slT rfl) (szT rfl) (by first | assumption | exact IsSl.nil) (by omega) (by omega)) ?_); refine xr 3 hS rfl rfl (fun w X hS => ex_load (ev_at rfl) (ldE1 (u := v1) (hS.rdSI hvs) hvi (m := i) hlt (kdT rfl) (by simpa using g1))) ?_; refine xr 4 hS rfl rfl (fun w X hS => ex_bytesStr (bs := l1) (ev_at rfl) (slT rfl) (inT rfl) (unT rfl) (hS.rdSI s1) s1.is) ?_; refine xp 5 rfl rfl (fun w => ex_move (ev_at rfl)) ?_; refine xp 6 rfl rfl (fun w => ex_move (ev_at rfl)) ?_; (first | refine xp 7 rfl rfl (fun w => ex_iaN (ev_at rfl) (ev_at rfl) (slT rfl) (szT rfl) (by first | assumption | exact IsSl.nil) (by omega)) ?_ | refine xp 7 rfl rfl (fun w => ex_ia (ev_at rfl) (ev_at rfl) (slT rfl) (szT rfl) (by first | assumption | exact IsSl.nil) (by omega) (by omega)) ?_); refine xr 8 hS rfl rfl (fun w X hS => ex_load (ev_at rfl) (ldE1 (u := u1) (hS.rdSI hus) hui (m := i) hlt (kdT rfl) (by simpa using g2))) ?_; refine xr 9 hS rfl rfl (fun w X hS => ex_bytesStr (bs := l1) (ev_at rfl) (slT rfl) (inT rfl) (unT rfl) (hS.rdSI s2) s2.is) ?_; refine xp 10 rfl rfl (fun w => ex_neqStrR (ev_at rfl) (ev_at rfl)) ?_; refine wg_end (by decide +kernel) ?_)
    | ((with_reducible apply wp_region_plain (id := 5)); refine xv (ex_move (ev_at rfl)) ?_; refine xv (ex_arith (ev_at rfl) (ev_const _ _) rfl (by first | exact IntWalk.i64_in _ (by omega) | rfl)) ?_; refine xv (ex_assign (ev_at rfl)) ?_; refine wl_nil ?_)
    | ((fail_if_success (with_reducible apply wp_region_plain)); (fail_if_success (with_reducible apply wp_region_GS)); go_step))
  exact loopEndM rfl (ls.length - (i + 1)) ⟨i + 1, rfl, rfl, by omega, hS⟩ (by omega)
end
end Go.Proofs.Try
