/- The device: contracts (6): Read, Flush, Pending. -/
import Derived.Test.YthbakafjhgcieaaDC5
namespace Go.Proofs.Try
open Go.RowKit Go.SL Go.DK
set_option maxRecDepth 100000
set_option linter.unusedSimpArgs false
set_option linter.unusedVariables false
section
variable {w : World} {I : Gh} {L : List Ch}
set_option maxHeartbeats 1000000 in
theorem read_ct (b : Nat) (D : DS) (k : Int) (hD : D.Ok) (hp : D.pend.length < 1000) (hS : Sat w I (DiskC b D :: L)) :
    Calls Try.prog 15 #[.pointer (some ⟨b, 0, none⟩), .int .i64 k] w fun e w' => ∃ v, e = .returned (.tuple #[v, .int .i64 (D.read k).2]) ∧ Sat w' I (Row v 73 1 (D.read k).1.length ((D.read k).1.map byteV) :: DiskC b D :: L) := by
  obtain ⟨m, pv, hS⟩ := disk_open hS
  by_cases h1 : D.down = true
  · rw [h1] at hS
    go_enter Try.func15, Try.ntmps15
    repeat' (first
      | ((with_reducible apply wp_region_plain (id := 0)); refine xv (ex_assign (ev_const _ _)) ?_; refine xv (ex_assign (ev_const _ _)) ?_; refine wl_nil ?_)
      | ((with_reducible apply wp_region_plain (id := 1)); refine xv (ex_move (ev_at rfl)) ?_; (first | refine xv (ex_eqlPtrS (ev_at rfl) (ev_const _ _) (unT rfl)) ?_ | refine xv (ex_eqlPtrN (ev_at rfl) (ev_const _ _) (unT rfl)) ?_ | refine xv (ex_eqlPtr (ev_at rfl) (ev_const _ _) (unT rfl)) ?_); refine xv (ex_assign (ev_at rfl)) ?_; refine wl_nil ?_)
      | ((with_reducible apply wp_region_plain (id := 3)); refine xv (ex_move (ev_at rfl)) ?_; (first | refine xv (ex_nilCheck (ev_at rfl)) ?_ | refine xv (ex_nilCheckF (ev_at rfl)) ?_); (first | refine xv (ex_fa (ev_at rfl) (flT rfl)) ?_ | refine xv (ex_faE (ev_at rfl) (flT rfl) (by assumption) (by assumption)) ?_); refine xv (ex_load (ev_at rfl) (ld1 hS (kdT rfl) rfl)) ?_; refine xv (ex_assign (ev_at rfl)) ?_; refine wl_nil ?_)
      | ((with_reducible apply wp_region_plain (id := 4)); refine xv (ex_assign (ev_const _ _)) ?_; refine xv (ex_assign (ev_const _ _)) ?_; refine wl_nil ?_)
      | ((fail_if_success (with_reducible apply wp_region_plain)); (fail_if_success (with_reducible apply wp_region_GS)); go_step))
    refine endN (by first | exact .inl rfl | exact .inr rfl) rfl (ResL.rt rfl (ResL.rt rfl ResL.rn)) rfl ?_
    rw [← h1] at hS
    simp only [DS.read, h1, if_true]
    exact ⟨_, rfl, (disk_shut hS).nilRow _ _⟩
  · have h1 : D.down = false := by simpa using h1
    rw [h1] at hS
    by_cases h2 : 0 ≤ k ∧ k < D.n
    · have hvl := hD.vis_len k
      go_enter Try.func15, Try.ntmps15
      repeat' (first
        | ((with_reducible apply wp_region_plain (id := 0)); refine xv (ex_assign (ev_const _ _)) ?_; refine xv (ex_assign (ev_const _ _)) ?_; refine wl_nil ?_)
        | ((with_reducible apply wp_region_plain (id := 1)); refine xv (ex_move (ev_at rfl)) ?_; (first | refine xv (ex_eqlPtrS (ev_at rfl) (ev_const _ _) (unT rfl)) ?_ | refine xv (ex_eqlPtrN (ev_at rfl) (ev_const _ _) (unT rfl)) ?_ | refine xv (ex_eqlPtr (ev_at rfl) (ev_const _ _) (unT rfl)) ?_); refine xv (ex_assign (ev_at rfl)) ?_; refine wl_nil ?_)
        | ((with_reducible apply wp_region_plain (id := 3)); refine xv (ex_move (ev_at rfl)) ?_; (first | refine xv (ex_nilCheck (ev_at rfl)) ?_ | refine xv (ex_nilCheckF (ev_at rfl)) ?_); (first | refine xv (ex_fa (ev_at rfl) (flT rfl)) ?_ | refine xv (ex_faE (ev_at rfl) (flT rfl) (by assumption) (by assumption)) ?_); refine xv (ex_load (ev_at rfl) (ld1 hS (kdT rfl) rfl)) ?_; refine xv (ex_assign (ev_at rfl)) ?_; refine wl_nil ?_)
        | ((with_reducible apply wp_region_plain (id := 5)); refine xv (ex_move (ev_at rfl)) ?_; refine xv (ex_move (ev_at rfl)) ?_; refine wl_of rfl (wp_callL (cbT rfl) (EvL.c (ev_at rfl) (EvL.c (ev_at rfl) EvL.n)) ?_); refine (has_t b _ _ _ _ _ _ _ _ h2 hS).mono ?_; rintro e w ⟨rfl, hS⟩; refine ⟨_, rfl, wl_put (by simp only [lset] <;> rfl) ?_⟩; refine xv (ex_not (ev_at rfl)) ?_; refine xv (ex_assign (ev_at rfl)) ?_; refine wl_nil ?_)
        | ((with_reducible apply wp_region_plain (id := 7)); refine xv (ex_move (ev_at rfl)) ?_; refine xv (ex_move (ev_at rfl)) ?_; refine wl_of rfl (wp_callL (cbT rfl) (EvL.c (ev_at rfl) (EvL.c (ev_at rfl) EvL.n)) ?_); rw [← h1] at hS; refine (visible_ct b D k hD hp (disk_shut hS)).mono ?_; rintro e w ⟨rfl, hS⟩; refine ⟨_, rfl, wl_put (by simp only [lset] <;> rfl) ?_⟩; refine wl_of rfl (wp_alloc hS (zeT rfl) fun b6 w hS => wl_put (by simp only [lset] <;> rfl) ?_); (first | refine wl_of rfl (wp_storeN (ev_at rfl) (ev_at rfl) hS (szT rfl) rfl (by first | rfl | assumption | (simp only [sub, splice, List.take_succ_cons, List.take_zero, List.drop_succ_cons, List.drop_zero, List.nil_append, List.cons_append, List.length_cons, List.length_nil, Nat.reduceAdd, List.all_cons, List.all_nil, Bool.and_eq_true, Bool.and_true]; ((repeat' apply And.intro) <;> first | rfl | assumption | exact IsSl.one (by assumption)))) fun w hS => wl_put0 ?_) | refine wl_of rfl (wp_storeW (vs := (vis D k).map byteV) (ev_at rfl) (ev_at rfl) hS (szT rfl) (by simp [hvl]) (by simp) (byteV_Oc _) fun w hS => wl_put0 ?_)); refine wl_nil ?_; (try simp only [lset, splice, sub, List.take_succ_cons, List.take_zero, List.drop_succ_cons, List.drop_zero, List.nil_append, List.cons_append, List.length_cons, List.length_nil, Nat.reduceAdd, Nat.zero_add, rep_zero] at hS))
        | ((with_reducible apply wp_region_plain (id := 8)); refine xv (ex_sliceArr (ev_at rfl) (arT rfl) (szT rfl)) ?_; refine xv (ex_assign (ev_at rfl)) ?_; refine xv (ex_assign (ev_const _ _)) ?_; refine wl_nil ?_)
        | ((fail_if_success (with_reducible apply wp_region_plain)); (fail_if_success (with_reducible apply wp_region_GS)); go_step))
      refine endN (by first | exact .inl rfl | exact .inr rfl) rfl (ResL.rt rfl (ResL.rt rfl ResL.rn)) rfl ?_
      simp only [DS.read, h1, h2, and_self, not_true, if_false, Bool.false_eq_true]
      have := hS.cellsRow (n := 256) (by simp [hvl]) (byteV_Oc _) (by decide)
      refine ⟨_, rfl, ?_⟩
      rw [hvl]
      exact this
    · go_enter Try.func15, Try.ntmps15
      repeat' (first
        | ((with_reducible apply wp_region_plain (id := 0)); refine xv (ex_assign (ev_const _ _)) ?_; refine xv (ex_assign (ev_const _ _)) ?_; refine wl_nil ?_)
        | ((with_reducible apply wp_region_plain (id := 1)); refine xv (ex_move (ev_at rfl)) ?_; (first | refine xv (ex_eqlPtrS (ev_at rfl) (ev_const _ _) (unT rfl)) ?_ | refine xv (ex_eqlPtrN (ev_at rfl) (ev_const _ _) (unT rfl)) ?_ | refine xv (ex_eqlPtr (ev_at rfl) (ev_const _ _) (unT rfl)) ?_); refine xv (ex_assign (ev_at rfl)) ?_; refine wl_nil ?_)
        | ((with_reducible apply wp_region_plain (id := 3)); refine xv (ex_move (ev_at rfl)) ?_; (first | refine xv (ex_nilCheck (ev_at rfl)) ?_ | refine xv (ex_nilCheckF (ev_at rfl)) ?_); (first | refine xv (ex_fa (ev_at rfl) (flT rfl)) ?_ | refine xv (ex_faE (ev_at rfl) (flT rfl) (by assumption) (by assumption)) ?_); refine xv (ex_load (ev_at rfl) (ld1 hS (kdT rfl) rfl)) ?_; refine xv (ex_assign (ev_at rfl)) ?_; refine wl_nil ?_)
        | ((with_reducible apply wp_region_plain (id := 5)); refine xv (ex_move (ev_at rfl)) ?_; refine xv (ex_move (ev_at rfl)) ?_; refine wl_of rfl (wp_callL (cbT rfl) (EvL.c (ev_at rfl) (EvL.c (ev_at rfl) EvL.n)) ?_); refine (has_f b _ _ _ _ _ _ _ _ h2 hS).mono ?_; rintro e w ⟨rfl, hS⟩; refine ⟨_, rfl, wl_put (by simp only [lset] <;> rfl) ?_⟩; refine xv (ex_not (ev_at rfl)) ?_; refine xv (ex_assign (ev_at rfl)) ?_; refine wl_nil ?_)
        | ((with_reducible apply wp_region_plain (id := 6)); refine xv (ex_assign (ev_const _ _)) ?_; refine xv (ex_assign (ev_const _ _)) ?_; refine wl_nil ?_)
        | ((fail_if_success (with_reducible apply wp_region_plain)); (fail_if_success (with_reducible apply wp_region_GS)); go_step))
      refine endN (by first | exact .inl rfl | exact .inr rfl) rfl (ResL.rt rfl (ResL.rt rfl ResL.rn)) rfl ?_
      rw [← h1] at hS
      simp only [DS.read, h1, h2, not_false_iff, if_true, if_false, Bool.false_eq_true]
      exact ⟨_, rfl, (disk_shut hS).nilRow _ _⟩
def durTo (D : DS) (i : Nat) : List (Int × List UInt8) := (D.pend.take i).foldl (fun d p => put d p.1 p.2) D.dur
theorem durTo_succ {D : DS} {i : Nat} {p : Int × List UInt8} (h : D.pend[i]? = some p) : durTo D (i + 1) = put (durTo D i) p.1 p.2 := by
  have : D.pend.take (i + 1) = D.pend.take i ++ [p] := by
    rw [List.take_add_one, h]; rfl
  simp [durTo, this]
set_option maxHeartbeats 1000000 in
theorem flush_ct (b : Nat) (D : DS) (hD : D.Ok) (hp : D.pend.length < 1000) (hS : Sat w I (DiskC b D :: L)) :
    Calls Try.prog 17 #[.pointer (some ⟨b, 0, none⟩)] w fun e w' => e = .returned (.int .i64 D.flush.2) ∧ Sat w' I (DiskC b D.flush.1 :: L) := by
  obtain ⟨m, pv, hS⟩ := disk_open hS
  by_cases h1 : D.down = true
  · rw [h1] at hS
    go_enter Try.func17, Try.ntmps17
    repeat' (first
      | ((with_reducible apply wp_region_plain (id := 0)); refine xv (ex_assign (ev_const _ _)) ?_; refine wl_nil ?_)
      | ((with_reducible apply wp_region_plain (id := 1)); refine xv (ex_move (ev_at rfl)) ?_; (first | refine xv (ex_eqlPtrS (ev_at rfl) (ev_const _ _) (unT rfl)) ?_ | refine xv (ex_eqlPtrN (ev_at rfl) (ev_const _ _) (unT rfl)) ?_ | refine xv (ex_eqlPtr (ev_at rfl) (ev_const _ _) (unT rfl)) ?_); refine wl_nil ?_)
      | ((with_reducible apply wp_region_plain (id := 3)); refine xv (ex_move (ev_at rfl)) ?_; (first | refine xv (ex_nilCheck (ev_at rfl)) ?_ | refine xv (ex_nilCheckF (ev_at rfl)) ?_); (first | refine xv (ex_fa (ev_at rfl) (flT rfl)) ?_ | refine xv (ex_faE (ev_at rfl) (flT rfl) (by assumption) (by assumption)) ?_); refine xv (ex_load (ev_at rfl) (ld1 hS (kdT rfl) rfl)) ?_; refine wl_nil ?_)
      | ((with_reducible apply wp_region_plain (id := 4)); refine xv (ex_assign (ev_const _ _)) ?_; refine wl_nil ?_)
      | ((fail_if_success (with_reducible apply wp_region_plain)); (fail_if_success (with_reducible apply wp_region_GS)); go_step))
    refine end1 (by first | exact .inl rfl | exact .inr rfl) rfl (ResL.rt rfl ResL.rn) ?_
    have hf : D.flush = (D, 28) := by simp [DS.flush, h1]
    rw [hf]
    exact ⟨rfl, disk_shut (by rw [h1]; exact hS)⟩
  · have h1 : D.down = false := by simpa using h1
    rw [h1] at hS
    by_cases h3 : D.limd = true ∧ D.lim = 0
    · obtain ⟨h4, h5⟩ := h3
      have hc : D.crash = true := by simp [DS.crash, h4, h5]
      rw [h4, h5] at hS
      go_enter Try.func17, Try.ntmps17
      repeat' (first
        | ((with_reducible apply wp_region_plain (id := 0)); refine xv (ex_assign (ev_const _ _)) ?_; refine wl_nil ?_)
        | ((with_reducible apply wp_region_plain (id := 1)); refine xv (ex_move (ev_at rfl)) ?_; (first | refine xv (ex_eqlPtrS (ev_at rfl) (ev_const _ _) (unT rfl)) ?_ | refine xv (ex_eqlPtrN (ev_at rfl) (ev_const _ _) (unT rfl)) ?_ | refine xv (ex_eqlPtr (ev_at rfl) (ev_const _ _) (unT rfl)) ?_); refine wl_nil ?_)
        | ((with_reducible apply wp_region_plain (id := 3)); refine xv (ex_move (ev_at rfl)) ?_; (first | refine xv (ex_nilCheck (ev_at rfl)) ?_ | refine xv (ex_nilCheckF (ev_at rfl)) ?_); (first | refine xv (ex_fa (ev_at rfl) (flT rfl)) ?_ | refine xv (ex_faE (ev_at rfl) (flT rfl) (by assumption) (by assumption)) ?_); refine xv (ex_load (ev_at rfl) (ld1 hS (kdT rfl) rfl)) ?_; refine wl_nil ?_)
        | ((with_reducible apply wp_region_plain (id := 5)); refine xv (ex_move (ev_at rfl)) ?_; refine wl_of rfl (wp_callL (cbT rfl) (EvL.c (ev_at rfl) EvL.n) ?_); refine (operate_down b _ _ _ _ _ hS).mono ?_; rintro e w ⟨rfl, hS⟩; refine ⟨_, rfl, wl_put (by simp only [lset] <;> rfl) ?_⟩; refine xv (ex_assign (ev_at rfl)) ?_; refine wl_nil ?_)
        | ((with_reducible apply wp_region_plain (id := 6)); refine xv (ex_move (ev_at rfl)) ?_; refine xv (ex_cmp (ev_at rfl) (ev_const _ _) (by first | exact neqT (by omega) | exact neqF (by omega) | rfl)) ?_; refine wl_nil ?_)
        | ((with_reducible apply wp_region_plain (id := 7)); refine xv (ex_move (ev_at rfl)) ?_; refine xv (ex_assign (ev_at rfl)) ?_; refine wl_nil ?_)
        | ((fail_if_success (with_reducible apply wp_region_plain)); (fail_if_success (with_reducible apply wp_region_GS)); go_step))
      refine end1 (by first | exact .inl rfl | exact .inr rfl) rfl (ResL.rt rfl ResL.rn) ?_
      have hf : D.flush = ({ D with down := true }, 28) := by simp [DS.flush, h1, hc]
      rw [hf]
      exact ⟨rfl, disk_shut (D := { D with down := true }) (m := m) (pv := pv) (by simp only [h4, h5]; exact hS)⟩
    · have hc : D.crash = false := by simp [DS.crash]; intro h; exact fun h' => h3 ⟨h, h'⟩
      obtain ⟨hv, -, -, -⟩ := hS.row 2 rfl
      go_enter Try.func17, Try.ntmps17
      repeat' (first
        | ((with_reducible apply wp_region_plain (id := 0)); refine xv (ex_assign (ev_const _ _)) ?_; refine wl_nil ?_)
        | ((with_reducible apply wp_region_plain (id := 1)); refine xv (ex_move (ev_at rfl)) ?_; (first | refine xv (ex_eqlPtrS (ev_at rfl) (ev_const _ _) (unT rfl)) ?_ | refine xv (ex_eqlPtrN (ev_at rfl) (ev_const _ _) (unT rfl)) ?_ | refine xv (ex_eqlPtr (ev_at rfl) (ev_const _ _) (unT rfl)) ?_); refine wl_nil ?_)
        | ((with_reducible apply wp_region_plain (id := 3)); refine xv (ex_move (ev_at rfl)) ?_; (first | refine xv (ex_nilCheck (ev_at rfl)) ?_ | refine xv (ex_nilCheckF (ev_at rfl)) ?_); (first | refine xv (ex_fa (ev_at rfl) (flT rfl)) ?_ | refine xv (ex_faE (ev_at rfl) (flT rfl) (by assumption) (by assumption)) ?_); refine xv (ex_load (ev_at rfl) (ld1 hS (kdT rfl) rfl)) ?_; refine wl_nil ?_)
        | ((with_reducible apply wp_region_plain (id := 5)); refine xv (ex_move (ev_at rfl)) ?_; refine wl_of rfl (wp_callL (cbT rfl) (EvL.c (ev_at rfl) EvL.n) ?_); refine (operate_ok b _ _ _ _ _ _ _ (by intro h h'; exact h3 ⟨h, h'⟩) hS).mono ?_; rintro e w ⟨rfl, hS⟩; refine ⟨_, rfl, wl_put (by simp only [lset] <;> rfl) ?_⟩; refine xv (ex_assign (ev_at rfl)) ?_; refine wl_nil ?_)
        | ((with_reducible apply wp_region_plain (id := 6)); refine xv (ex_move (ev_at rfl)) ?_; refine xv (ex_cmp (ev_at rfl) (ev_const _ _) (by first | exact neqT (by omega) | exact neqF (by omega) | rfl)) ?_; refine wl_nil ?_)
        | ((with_reducible apply wp_region_plain (id := 8)); refine xv (ex_move (ev_at rfl)) ?_; (first | refine xv (ex_nilCheck (ev_at rfl)) ?_ | refine xv (ex_nilCheckF (ev_at rfl)) ?_); (first | refine xv (ex_fa (ev_at rfl) (flT rfl)) ?_ | refine xv (ex_faE (ev_at rfl) (flT rfl) (by assumption) (by assumption)) ?_); refine xv (ex_load (ev_at rfl) (ld1 hS (kdT rfl) rfl)) ?_; refine xv (ex_len (ev_at rfl) (slT rfl) (by first | assumption | exact IsSl.nil)) ?_; refine xv (ex_move (ev_const _ _)) ?_; refine wl_nil ?_)
        | ((fail_if_success (with_reducible apply wp_region_plain)); (fail_if_success (with_reducible apply wp_region_GS)); go_step))
      refine wp_loopR [false, false, false, false, false, true, false, false, false, false, false, false, false, false, false, false, false, false, false, false, false, false, true, true, true, true, true, true, true, true, true, true, true] (fun f w => ∃ i : Nat, f 22 = .int .i64 i ∧ i ≤ D.pend.length ∧ Sat w I (Cells b 71 [.int .i64 D.n, .map (some m), pv, .int .i64 D.tick.ops, .bool D.limd, .int .i64 D.tick.lim, .bool false] ::
        MapI m (dkv (durTo D i)) :: Row pv 75 257 D.pend.length (flatP D.pend) :: L)) (fun f _ => D.pend.length - ivN (f 22)) rfl ⟨0, rfl, by omega, hS⟩ ?_
      clear hS
      rintro f w ⟨i, h22, hi, hS⟩
      simp only [havoc, Nat.reduceAdd, h22]
      by_cases hlt : i < D.pend.length
      · obtain ⟨p, hp1⟩ : ∃ p, D.pend[i]? = some p := ⟨_, List.getElem?_eq_getElem hlt⟩
        have hp2 : p.2.length = 256 := hD.pend p (List.mem_of_getElem? hp1)
        repeat' (first
          | ((with_reducible apply wp_region_plain (id := 9)); refine xv (ex_cmp (ev_at rfl) (ev_at rfl) (by first | exact lssT (by omega) | exact lssF (by omega) | rfl)) ?_; refine wl_nil ?_)
          | ((with_reducible apply wp_region_plain (id := 10)); (first | refine xv (ex_iaN (ev_at rfl) (ev_at rfl) (slT rfl) (szT rfl) (by first | assumption | exact IsSl.nil) (by omega)) ?_ | refine xv (ex_ia (ev_at rfl) (ev_at rfl) (slT rfl) (szT rfl) (by first | assumption | exact IsSl.nil) (by omega) (by omega)) ?_); refine xv (ex_load (ev_at rfl) (by first | exact ldN hS (kdT rfl) (szT rfl) rfl | exact ldEN ((hS.rowH (v := pv)).2.2.1) hv hlt (kdT rfl) (szT rfl) (flatP_sub hD.pend hp1) (by simp [hp2]) | exact ldNs (ys := p.2.map byteV) hS (kdT rfl) (szT rfl) (by simp [sub]; rw [List.take_of_length_le (by simp [hp2])]) (by simp [hp2]) (by omega))) ?_; refine wl_of rfl (wp_alloc hS (zeT rfl) fun b5 w hS => wl_put (by simp only [lset] <;> rfl) ?_); (first | refine wl_of rfl (wp_storeN (ev_at rfl) (ev_at rfl) hS (szT rfl) rfl (by first | rfl | assumption | (simp only [sub, splice, List.take_succ_cons, List.take_zero, List.drop_succ_cons, List.drop_zero, List.nil_append, List.cons_append, List.length_cons, List.length_nil, Nat.reduceAdd, List.all_cons, List.all_nil, Bool.and_eq_true, Bool.and_true]; ((repeat' apply And.intro) <;> first | rfl | assumption | exact IsSl.one (by assumption)))) fun w hS => wl_put0 ?_) | refine wl_of rfl (wp_storeW (ev_at rfl) (ev_at rfl) hS (szT rfl) (by simp [hp2]) (by simp) (Oc.of_all (by simp only [List.all_cons, byteV_all]; rfl)) fun w hS => wl_put0 ?_)); refine wl_nil ?_; (try simp only [lset, splice, sub, List.take_succ_cons, List.take_zero, List.drop_succ_cons, List.drop_zero, List.nil_append, List.cons_append, List.length_cons, List.length_nil, Nat.reduceAdd, Nat.zero_add, rep_zero] at hS))
          | ((with_reducible apply wp_region_plain (id := 11)); refine xv (ex_move (ev_at rfl)) ?_; (first | refine xv (ex_fa (ev_at rfl) (flT rfl)) ?_ | refine xv (ex_faE (ev_at rfl) (flT rfl) (by assumption) (by assumption)) ?_); refine xv (ex_load (ev_at rfl) (by first | exact ld1 hS (kdT rfl) rfl | exact ldEN ((hS.rowH (v := pv)).2.2.1) hv hlt (kdT rfl) (szT rfl) (flatP_sub hD.pend hp1) (by simp [hp2]) | exact ldNs (ys := p.2.map byteV) hS (kdT rfl) (szT rfl) (by simp [sub]; rw [List.take_of_length_le (by simp [hp2])]) (by simp [hp2]) (by omega))) ?_; (first | refine xv (ex_fa (ev_at rfl) (flT rfl)) ?_ | refine xv (ex_faE (ev_at rfl) (flT rfl) (by assumption) (by assumption)) ?_); refine xv (ex_load (ev_at rfl) (by first | exact ldN hS (kdT rfl) (szT rfl) rfl | exact ldEN ((hS.rowH (v := pv)).2.2.1) hv hlt (kdT rfl) (szT rfl) (flatP_sub hD.pend hp1) (by simp [hp2]) | exact ldNs (ys := p.2.map byteV) hS (kdT rfl) (szT rfl) (by simp [sub]; rw [List.take_of_length_le (by simp [hp2])]) (by simp [hp2]) (by omega))) ?_; refine wl_of rfl (wp_callL (cbT rfl) (EvL.c (ev_at rfl) (EvL.c (ev_at rfl) (EvL.c (ev_at rfl) EvL.n))) ?_); refine (store_ct b m p.1 p.2 _ _ _ _ _ _ _ hp2 hS.drop).mono ?_; rintro e w ⟨rfl, hS⟩; refine ⟨_, rfl, wl_put (by simp only [lset] <;> rfl) ?_⟩; refine wl_nil ?_)
          | ((with_reducible apply wp_region_plain (id := 12)); refine xv (ex_arith (ev_at rfl) (ev_const _ _) rfl (by first | exact IntWalk.i64_in _ (by omega) | rfl)) ?_; refine xv (ex_move (ev_at rfl)) ?_; refine wl_nil ?_)
          | ((fail_if_success (with_reducible apply wp_region_plain)); (fail_if_success (with_reducible apply wp_region_GS)); go_step))
        rw [← durTo_succ hp1] at hS
        refine loopEnd rfl ⟨i + 1, rfl, by omega, hS⟩ ?_
        simp only [h22, nth, ivN]; omega
      · repeat' (first
          | ((with_reducible apply wp_region_plain (id := 9)); refine xv (ex_cmp (ev_at rfl) (ev_at rfl) (by first | exact lssT (by omega) | exact lssF (by omega) | rfl)) ?_; refine wl_nil ?_)
          | ((with_reducible apply wp_region_plain (id := 13)); refine xv (ex_move (ev_at rfl)) ?_; (first | refine xv (ex_nilCheck (ev_at rfl)) ?_ | refine xv (ex_nilCheckF (ev_at rfl)) ?_); (first | refine xv (ex_fa (ev_at rfl) (flT rfl)) ?_ | refine xv (ex_faE (ev_at rfl) (flT rfl) (by assumption) (by assumption)) ?_); refine wl_of rfl (wp_store1 (ev_at rfl) (ev_const _ _) hS (szT rfl) rfl (by first | rfl | exact IsSl.one (by assumption)) fun w hS => wl_put0 ?_); refine wl_nil ?_; (try simp only [lset, Nat.reduceAdd, Nat.zero_add] at hS))
          | ((with_reducible apply wp_region_plain (id := 14)); refine xv (ex_assign (ev_const _ _)) ?_; refine wl_nil ?_)
          | ((fail_if_success (with_reducible apply wp_region_plain)); (fail_if_success (with_reducible apply wp_region_GS)); go_step))
        refine end1 (by first | exact .inl rfl | exact .inr rfl) rfl (ResL.rt rfl ResL.rn) ?_
        have hi : i = D.pend.length := by omega
        subst hi
        have e : durTo D D.pend.length = D.pend.foldl (fun d p => put d p.1 p.2) D.dur := by simp [durTo]
        rw [e] at hS
        have hf : D.flush = ({ D.tick with dur := D.pend.foldl (fun d p => put d p.1 p.2) D.dur, pend := [] }, 0) := by simp [DS.flush, h1, hc]
        rw [hf]
        refine ⟨rfl, disk_shut (D := { D.tick with dur := D.pend.foldl (fun d p => put d p.1 p.2) D.dur, pend := [] }) (m := m) (pv := .slice none 0 0) ?_⟩
        have := (hS.rot3.rot3.drop.nilRow 75 257).rot3
        simp only [DS.tick, h1]
        exact this
end
end Go.Proofs.Try
