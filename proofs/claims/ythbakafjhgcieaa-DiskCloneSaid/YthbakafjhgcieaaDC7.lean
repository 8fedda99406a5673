/- The device: contracts (7): Pending. -/
import Derived.Test.YthbakafjhgcieaaDC6
namespace Go.Proofs.Try
open Go.RowKit Go.SL Go.DK
set_option maxRecDepth 100000
set_option linter.unusedSimpArgs false
set_option linter.unusedVariables false
section
variable {w : World} {I : Gh} {L : List Ch}
set_option maxHeartbeats 1000000 in
theorem bclone_ct (v : Value) (n : Nat) (bs : List UInt8) (hv : IsSl v n) (hn : 0 < n) (hl : bs.length = n) (hb : n ≤ 1000000) (hr : Rds I L v (bs.map byteV)) (hS : Sat w I L) :
    Calls Try.prog 31 #[v] w fun e w' => ∃ u, e = .returned u ∧ Sat w' I (Row u 5 1 n (bs.map byteV) :: L) := by
  obtain ⟨q, cap, rfl, hc, hq⟩ := hv.ex
  cases q with
  | none => have := hq rfl; omega
  | some q =>
    go_enter Try.func31, Try.ntmps31
    repeat' (first
      | ((with_reducible apply wp_region_plain (id := 0)); refine xv (ex_assign (ev_const _ _)) ?_; refine wl_nil ?_)
      | ((with_reducible apply wp_region_plain (id := 1)); refine xv (ex_move (ev_at rfl)) ?_; refine xv (ex_eqlSliceNil (ev_at rfl) (ev_const _ _) (unT rfl)) ?_; refine wl_nil ?_)
      | ((with_reducible apply wp_region_plain (id := 3)); refine wl_of rfl (wp_buildSlice (slT rfl) (szT rfl) (zeT rfl) Fills.nil hS rfl (by first | rfl | assumption) fun b5 w hS => wl_put (by simp only [lset] <;> rfl) ?_); refine xv (ex_move (ev_at rfl)) ?_; refine wl_of rfl (wp_append (ev_at rfl) (ev_at rfl) (slT rfl) (szT rfl) (byT rfl) (zeT rfl) hS (hr.src hS hv (by simp [hl]) (byteV_Oc _)) (by omega) (by omega) rfl fun v7 w hS hv7 => wl_put (by simp only [lset] <;> rfl) ?_); refine xv (ex_assign (ev_at rfl)) ?_; refine wl_nil ?_; (try simp only [lset, splice, sub, List.take_succ_cons, List.take_zero, List.drop_succ_cons, List.drop_zero, List.nil_append, List.cons_append, List.length_cons, List.length_nil, Nat.reduceAdd, Nat.zero_add, rep_zero] at hS))
      | ((fail_if_success (with_reducible apply wp_region_plain)); (fail_if_success (with_reducible apply wp_region_GS)); go_step))
    refine end1 (by first | exact .inl rfl | exact .inr rfl) rfl (ResL.rt rfl ResL.rn) ?_
    try simp only [List.nil_append, Nat.zero_add] at hS
    exact ⟨_, rfl, hS⟩
theorem take_snoc {α : Type} {l : List α} {i : Nat} {p : α} (h : l[i]? = some p) : l.take (i + 1) = l.take i ++ [p] := by
  rw [List.take_add_one, h]; rfl
set_option maxHeartbeats 1000000 in
theorem pending_ct (b : Nat) (D : DS) (hD : D.Ok) (hp : D.pend.length < 1000) (hS : Sat w I (DiskC b D :: L)) :
    Calls Try.prog 14 #[.pointer (some ⟨b, 0, none⟩)] w fun e w' => ∃ v cs J, e = .returned v ∧ I.le J ∧ SlI J v D.pend.length cs ∧ PendI J D.pend cs ∧ Sat w' J (DiskC b D :: L) := by
  obtain ⟨m, pv, hS⟩ := disk_open hS
  obtain ⟨hv, -, -, -⟩ := hS.row 2 rfl
  have hS := hS.nilRow 50 2
  go_enter Try.func14, Try.ntmps14
  repeat' (first
    | ((with_reducible apply wp_region_plain (id := 0)); refine xv (ex_assign (ev_const _ _)) ?_; refine wl_nil ?_)
    | ((with_reducible apply wp_region_plain (id := 1)); refine xv (ex_assign (ev_const _ _)) ?_; refine wl_nil ?_)
    | ((with_reducible apply wp_region_plain (id := 2)); refine xv (ex_move (ev_at rfl)) ?_; (first | refine xv (ex_eqlPtrS (ev_at rfl) (ev_const _ _) (unT rfl)) ?_ | refine xv (ex_eqlPtrN (ev_at rfl) (ev_const _ _) (unT rfl)) ?_ | refine xv (ex_eqlPtr (ev_at rfl) (ev_const _ _) (unT rfl)) ?_); refine wl_nil ?_)
    | ((with_reducible apply wp_region_plain (id := 4)); refine xv (ex_move (ev_at rfl)) ?_; (first | refine xv (ex_nilCheck (ev_at rfl)) ?_ | refine xv (ex_nilCheckF (ev_at rfl)) ?_); (first | refine xv (ex_fa (ev_at rfl) (flT rfl)) ?_ | refine xv (ex_faE (ev_at rfl) (flT rfl) (by assumption) (by assumption)) ?_); refine xv (ex_load (ev_at rfl) (ld1 hS (kdT rfl) rfl)) ?_; refine xv (ex_len (ev_at rfl) (slT rfl) (by first | assumption | exact IsSl.nil)) ?_; refine xv (ex_move (ev_const _ _)) ?_; refine wl_nil ?_)
    | ((fail_if_success (with_reducible apply wp_region_plain)); (fail_if_success (with_reducible apply wp_region_GS)); go_step))
  refine wp_loopR [false, false, false, true, false, true, false, false, false, false, false, false, false, false, true, true, true, true, true, true, true, true, true, true, true, true, true, true] (fun f w => ∃ (i : Nat) (v : Value) (cs : List Value) (J : Gh), f 14 = .int .i64 i ∧ f 3 = v ∧ i ≤ D.pend.length ∧ I.le J ∧ PendI J (D.pend.take i) cs ∧ Sat w J (Row v 50 2 i cs ::
      Cells b 71 [.int .i64 D.n, .map (some m), pv, .int .i64 D.ops, .bool D.limd, .int .i64 D.lim, .bool D.down] ::
        MapI m (dkv D.dur) :: Row pv 75 257 D.pend.length (flatP D.pend) :: L)) (fun f _ => D.pend.length - ivN (f 14)) rfl ⟨0, _, [], I, rfl, rfl, by omega, Gh.le.refl I, rfl, hS⟩ ?_
  clear hS
  rintro f w ⟨i, v, cs, J, h14, h3, hi, hle, hpd, hS⟩
  simp only [havoc, Nat.reduceAdd, h14, h3]
  by_cases hlt : i < D.pend.length
  · obtain ⟨p, hp1⟩ : ∃ p, D.pend[i]? = some p := ⟨_, List.getElem?_eq_getElem hlt⟩
    have hp2 : p.2.length = 256 := hD.pend p (List.mem_of_getElem? hp1)
    have hlit : ∀ q, IsSl (.slice (some q) 256 256) 256 := fun q => IsSl.lit (Nat.le_refl _)
    repeat' (first
      | ((with_reducible apply wp_region_plain (id := 5)); refine xv (ex_cmp (ev_at rfl) (ev_at rfl) (by first | exact lssT (by omega) | exact lssF (by omega) | rfl)) ?_; refine wl_nil ?_)
      | ((with_reducible apply wp_region_plain (id := 6)); (first | refine xv (ex_iaN (ev_at rfl) (ev_at rfl) (slT rfl) (szT rfl) (by first | assumption | exact IsSl.nil) (by omega)) ?_ | refine xv (ex_ia (ev_at rfl) (ev_at rfl) (slT rfl) (szT rfl) (by first | assumption | exact IsSl.nil) (by omega) (by omega)) ?_); refine xv (ex_load (ev_at rfl) (by first | exact ldN hS (kdT rfl) (szT rfl) rfl | exact ldEN ((hS.rowH (v := pv)).2.2.1) hv hlt (kdT rfl) (szT rfl) (flatP_sub hD.pend hp1) (by simp [hp2]) | exact ldNs (ys := p.2.map byteV) hS (kdT rfl) (szT rfl) (by simp [sub]; rw [List.take_of_length_le (by simp [hp2])]) (by simp [hp2]) (by omega))) ?_; refine wl_of rfl (wp_alloc hS (zeT rfl) fun b5 w hS => wl_put (by simp only [lset] <;> rfl) ?_); (first | refine wl_of rfl (wp_storeN (ev_at rfl) (ev_at rfl) hS (szT rfl) rfl (by first | rfl | assumption | (simp only [sub, splice, List.take_succ_cons, List.take_zero, List.drop_succ_cons, List.drop_zero, List.nil_append, List.cons_append, List.length_cons, List.length_nil, Nat.reduceAdd, List.all_cons, List.all_nil, Bool.and_eq_true, Bool.and_true]; ((repeat' apply And.intro) <;> first | rfl | assumption | exact IsSl.one (by assumption)))) fun w hS => wl_put0 ?_) | refine wl_of rfl (wp_storeW (ev_at rfl) (ev_at rfl) hS (szT rfl) (by simp [hp2]) (by simp) (Oc.of_all (by simp only [List.all_cons, byteV_all]; rfl)) fun w hS => wl_put0 ?_)); refine wl_nil ?_; (try simp only [lset, splice, sub, List.take_succ_cons, List.take_zero, List.drop_succ_cons, List.drop_zero, List.nil_append, List.cons_append, List.length_cons, List.length_nil, Nat.reduceAdd, Nat.zero_add, rep_zero] at hS))
      | ((with_reducible apply wp_region_GS (id := 7) 10 (fun j => [0, 1, 2, 3, 4, 5, 6, 7, 9].contains j) mixed); rfl; exact hS; (clear hS; intro w hS); refine xp 0 rfl rfl (fun w => ex_move (ev_at rfl)) ?_; (first | refine xp 1 rfl rfl (fun w => ex_fa (ev_at rfl) (flT rfl)) ?_ | refine xp 1 rfl rfl (fun w => ex_faE (ev_at rfl) (flT rfl) (by assumption) (by assumption)) ?_); refine xr 2 hS rfl rfl (fun w X hS => ex_load (ev_at rfl) (by first | exact ld1 hS (kdT rfl) rfl | exact ldEN ((hS.rowH (v := pv)).2.2.1) hv hlt (kdT rfl) (szT rfl) (flatP_sub hD.pend hp1) (by simp [hp2]) | exact ldNs (ys := p.2.map byteV) hS (kdT rfl) (szT rfl) (by simp [sub]; rw [List.take_of_length_le (by simp [hp2])]) (by simp [hp2]) (by omega))) ?_; (first | refine xp 3 rfl rfl (fun w => ex_fa (ev_at rfl) (flT rfl)) ?_ | refine xp 3 rfl rfl (fun w => ex_faE (ev_at rfl) (flT rfl) (by assumption) (by assumption)) ?_); refine xp 4 rfl rfl (fun w => ex_sliceArr (ev_at rfl) (arT rfl) (szT rfl)) ?_; refine wg_loud 5 (by decide +kernel) rfl rfl (wp_callL (cbT rfl) (EvL.c (ev_at rfl) EvL.n) ?_); refine (bclone_ct _ 256 p.2 (hlit _) (by omega) hp2 (by omega) (Rds.cells (b := b5) (k := 1) (cs := .int .i64 p.1 :: p.2.map byteV)) hS).mono ?_; rintro e w ⟨u, rfl, hS⟩; have hu := hS.row0.1; refine ⟨_, rfl, ⟨gsT hS, wg_p (by simp only [lset] <;> rfl) ?_⟩⟩; refine xp 6 rfl rfl (fun w => ex_buildS (plT rfl) (zeT rfl) (Fills.cons rfl (ev_at rfl) (by first | exact IsSl.cellsL (by assumption) | exact cellsL1 rfl | rfl) rfl rfl (Fills.cons rfl (ev_at rfl) (by first | exact IsSl.cellsL (by assumption) | exact cellsL1 rfl | rfl) rfl rfl Fills.nil))) ?_; refine wg_loud 7 (by decide +kernel) rfl rfl (wp_buildSlice (slT rfl) (szT rfl) (zeT rfl) (fillsOneN (ev_at rfl) rfl rfl) hS rfl (by simp [splice, hu.one] <;> rfl) fun b25 w hS => ⟨gsT hS, wg_p (by simp only [lset] <;> rfl) ?_⟩); refine wg_loud 8 (by decide +kernel) rfl rfl (wp_append1 (ev_at rfl) (ev_at rfl) (slT rfl) (szT rfl) (byT rfl) (zeT rfl) hS (by omega) (by omega) rfl fun v26 w hS hv26 => ⟨gsF rfl, wg_p (by simp only [lset] <;> rfl) ?_⟩); refine xp 9 rfl rfl (fun w => ex_assign (ev_at rfl)) ?_; refine wg_end (by decide +kernel) ?_; (try simp only [lset, splice, sub, List.take_succ_cons, List.take_zero, List.drop_succ_cons, List.drop_zero, List.nil_append, List.cons_append, List.length_cons, List.length_nil, Nat.reduceAdd, Nat.zero_add, rep_zero] at hS))
      | ((with_reducible apply wp_region_plain (id := 8)); refine xv (ex_arith (ev_at rfl) (ev_const _ _) rfl (by first | exact IntWalk.i64_in _ (by omega) | rfl)) ?_; refine xv (ex_move (ev_at rfl)) ?_; refine wl_nil ?_)
      | ((fail_if_success (with_reducible apply wp_region_plain)); (fail_if_success (with_reducible apply wp_region_GS)); go_step))
    obtain ⟨J', hle', hS, hsl⟩ := hS.freezeRow
    refine loopEnd rfl ⟨i + 1, _, cs ++ [.int .i64 p.1, u], J', rfl, rfl, by omega, hle.trans hle', ?_, ?_⟩ ?_
    · rw [take_snoc hp1]
      exact PendI.snoc (by rw [hp2]; exact hsl) (hpd.mono hle')
    · exact hS.drop
    · simp only [h14, nth, ivN]; omega
  · repeat' (first
      | ((with_reducible apply wp_region_plain (id := 5)); refine xv (ex_cmp (ev_at rfl) (ev_at rfl) (by first | exact lssT (by omega) | exact lssF (by omega) | rfl)) ?_; refine wl_nil ?_)
      | ((with_reducible apply wp_region_plain (id := 9)); refine xv (ex_move (ev_at rfl)) ?_; refine xv (ex_assign (ev_at rfl)) ?_; refine wl_nil ?_)
      | ((fail_if_success (with_reducible apply wp_region_plain)); (fail_if_success (with_reducible apply wp_region_GS)); go_step))
    refine end1 (by first | exact .inl rfl | exact .inr rfl) rfl (ResL.rt rfl ResL.rn) ?_
    have hi : i = D.pend.length := by omega
    subst hi
    obtain ⟨J', hle', hS, hsl⟩ := hS.freezeRow
    rw [List.take_length] at hpd
    exact ⟨_, cs, J', rfl, hle.trans hle', hsl, hpd.mono hle', disk_shut hS⟩
end
end Go.Proofs.Try
