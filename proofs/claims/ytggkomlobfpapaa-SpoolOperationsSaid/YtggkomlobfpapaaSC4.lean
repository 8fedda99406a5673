/- Spools: contracts (4): Oldest; the law's known. -/
import Derived.Test.YtggkomlobfpapaaSC3
namespace Go.Proofs.Try
open Go.RowKit Go.SL Go.SS Go.SP
set_option maxRecDepth 100000
set_option linter.unusedSimpArgs false
set_option linter.unusedVariables false
section
variable {w : World} {I : Gh} {L : List Ch}
theorem entIds (a : Art) : sub (entC a) 0 32 = idC a.id := by
  unfold entC sub
  rw [List.drop_zero, List.take_left' (idC_len a.id)]
set_option maxHeartbeats 8000000 in
theorem spOldest_ct {b : Nat} {s : SpS} (hs : SpOk s) (need : Int) (hS : Sat w I (SpC b s :: L)) :
    Calls Try.prog 24 #[.pointer (some ⟨b, 0, none⟩), .int .i64 need] w fun e w' => ∃ u, e = .returned (.tuple #[u, .int .i64 (oldest s need).2]) ∧ IsSl u (oldest s need).1.length ∧ Sat w' I (Row u 30 32 (oldest s need).1.length (flatE idC (oldest s need).1) :: SpC b s :: L) := by
  have hln := hs.len
  have g1 := hs.b1
  have g2 := hs.b2
  have g3 := hs.by_
  by_cases h1 : need < 0
  · have ho : oldest s need = ([], 2) := by rw [oldest, if_pos h1]
    rw [ho]
    go_enter Try.func24, Try.ntmps24
    repeat' (first
      | ((with_reducible apply wp_region_plain (id := 0)); refine xv (ex_assign (ev_const _ _)) ?_; refine xv (ex_assign (ev_const _ _)) ?_; refine wl_nil ?_)
      | ((with_reducible apply wp_region_plain (id := 1)); refine xv (ex_move (ev_at rfl)) ?_; (first | refine xv (ex_eqlPtrS (ev_at rfl) (ev_const _ _) (unT rfl)) ?_ | refine xv (ex_eqlPtrN (ev_at rfl) (ev_const _ _) (unT rfl)) ?_ | refine xv (ex_eqlPtr (ev_at rfl) (ev_const _ _) (unT rfl)) ?_); refine xv (ex_assign (ev_at rfl)) ?_; refine wl_nil ?_)
      | ((with_reducible apply wp_region_plain (id := 2)); refine xv (ex_assign (ev_const _ _)) ?_; refine xv (ex_assign (ev_const _ _)) ?_; refine wl_nil ?_)
      | ((with_reducible apply wp_region_plain (id := 3)); refine xv (ex_move (ev_at rfl)) ?_; refine xv (ex_cmp (ev_at rfl) (ev_const _ _) (by first | exact lssT (by omega) | exact lssF (by omega) | rfl)) ?_; refine xv (ex_assign (ev_at rfl)) ?_; refine wl_nil ?_)
      | ((with_reducible apply wp_region_plain (id := 4)); refine xv (ex_assign (ev_const _ _)) ?_; refine xv (ex_assign (ev_const _ _)) ?_; refine wl_nil ?_)
      | ((with_reducible apply wp_region_plain (id := 5)); refine xv (ex_move (ev_at rfl)) ?_; refine xv (ex_move (ev_at rfl)) ?_; (first | refine xv (ex_nilCheck (ev_at rfl)) ?_ | refine xv (ex_nilCheckF (ev_at rfl)) ?_); (first | refine xv (ex_fa (ev_at rfl) (flT rfl)) ?_ | refine xv (ex_faE (ev_at rfl) (flT rfl) (by assumption) (by assumption)) ?_); refine xv (ex_load (ev_at rfl) (ld1 hS (kdT rfl) rfl)) ?_; refine xv (ex_cmp (ev_at rfl) (ev_at rfl) (by first | exact gtrT (by omega) | exact gtrF (by omega) | rfl)) ?_; refine xv (ex_assign (ev_at rfl)) ?_; refine wl_nil ?_)
      | ((with_reducible apply wp_region_plain (id := 6)); refine xv (ex_assign (ev_const _ _)) ?_; refine xv (ex_assign (ev_const _ _)) ?_; refine wl_nil ?_)
      | ((with_reducible apply wp_region_plain (id := 7)); refine xv (ex_move (ev_at rfl)) ?_; fail "no contract for (*bulletin/spool.Spool).entries (38)"; refine xv (ex_assign (ev_at rfl)) ?_; refine wl_nil ?_)
      | ((with_reducible apply wp_region_plain (id := 8)); refine xv (ex_move (ev_at rfl)) ?_; fail "no contract for slices.SortStableFunc[[]bulletin/spool.Entry,bulletin/spool.Entry] (41)"; refine wl_nil ?_)
      | ((with_reducible apply wp_region_plain (id := 9)); refine xv (ex_assign (ev_const _ _)) ?_; refine wl_nil ?_)
      | ((with_reducible apply wp_region_plain (id := 10)); refine xv (ex_move (ev_at rfl)) ?_; fail "no contract for (*bulletin/spool.Spool).Free (20)"; refine xv (ex_assign (ev_at rfl)) ?_; refine wl_nil ?_)
      | ((with_reducible apply wp_region_plain (id := 11)); refine xv (ex_move (ev_at rfl)) ?_; refine xv (ex_len (ev_at rfl) (slT rfl) (by first | assumption | exact IsSl.nil)) ?_; refine xv (ex_move (ev_const _ _)) ?_; refine wl_nil ?_)
      | ((with_reducible apply wp_region_plain (id := 12)); refine xv (ex_cmp (ev_at rfl) (ev_at rfl) (by first | exact lssT (by omega) | exact lssF (by omega) | rfl)) ?_; refine wl_nil ?_)
      | ((with_reducible apply wp_region_plain (id := 13)); (first | refine xv (ex_iaN (ev_at rfl) (ev_at rfl) (slT rfl) (szT rfl) (by first | assumption | exact IsSl.nil) (by omega)) ?_ | refine xv (ex_ia (ev_at rfl) (ev_at rfl) (slT rfl) (szT rfl) (by first | assumption | exact IsSl.nil) (by omega) (by omega)) ?_); refine xv (ex_load (ev_at rfl) (ldN hS (kdT rfl) (szT rfl) rfl)) ?_; refine wl_of rfl (wp_alloc hS (zeT rfl) fun b10 w hS => wl_put (by simp only [lset] <;> rfl) ?_); refine wl_of rfl (wp_storeN (ev_at rfl) (ev_at rfl) hS (szT rfl) rfl (by first | rfl | assumption | (simp only [sub, splice, List.take_succ_cons, List.take_zero, List.drop_succ_cons, List.drop_zero, List.nil_append, List.cons_append, List.length_cons, List.length_nil, Nat.reduceAdd, List.all_cons, List.all_nil, Bool.and_eq_true, Bool.and_true]; ((repeat' apply And.intro) <;> first | rfl | assumption | exact IsSl.one (by assumption)))) fun w hS => wl_put0 ?_); refine wl_nil ?_; (try simp only [lset, splice, sub, List.take_succ_cons, List.take_zero, List.drop_succ_cons, List.drop_zero, List.nil_append, List.cons_append, List.length_cons, List.length_nil, Nat.reduceAdd, Nat.zero_add, rep_zero] at hS))
      | ((with_reducible apply wp_region_plain (id := 14)); refine xv (ex_move (ev_at rfl)) ?_; refine xv (ex_move (ev_at rfl)) ?_; refine xv (ex_cmp (ev_at rfl) (ev_at rfl) (by first | exact geqT (by omega) | exact geqF (by omega) | rfl)) ?_; refine wl_nil ?_)
      | ((with_reducible apply wp_region_plain (id := 15)); refine xv (ex_move (ev_at rfl)) ?_; (first | refine xv (ex_fa (ev_at rfl) (flT rfl)) ?_ | refine xv (ex_faE (ev_at rfl) (flT rfl) (by assumption) (by assumption)) ?_); refine xv (ex_load (ev_at rfl) (ldN hS (kdT rfl) (szT rfl) rfl)) ?_; refine wl_of rfl (wp_buildSlice (slT rfl) (szT rfl) (zeT rfl) (fillsOneN (ev_at rfl) rfl rfl) hS rfl (by first | rfl | assumption | (simp only [sub, splice, List.take_succ_cons, List.take_zero, List.drop_succ_cons, List.drop_zero, List.nil_append, List.cons_append, List.length_cons, List.length_nil, Nat.reduceAdd, List.all_cons, List.all_nil, Bool.and_eq_true, Bool.and_true]; ((repeat' apply And.intro) <;> first | rfl | assumption | exact IsSl.one (by assumption)))) fun b42 w hS => wl_put (by simp only [lset] <;> rfl) ?_); refine wl_of rfl (wp_append1 (ev_at rfl) (ev_at rfl) (slT rfl) (szT rfl) (byT rfl) (zeT rfl) hS (by omega) (by omega) rfl fun v43 w hS hv43 => wl_put (by simp only [lset] <;> rfl) ?_); refine xv (ex_assign (ev_at rfl)) ?_; refine wl_nil ?_; (try simp only [lset, splice, sub, List.take_succ_cons, List.take_zero, List.drop_succ_cons, List.drop_zero, List.nil_append, List.cons_append, List.length_cons, List.length_nil, Nat.reduceAdd, Nat.zero_add, rep_zero] at hS))
      | ((with_reducible apply wp_region_plain (id := 16)); refine xv (ex_move (ev_at rfl)) ?_; (first | refine xv (ex_fa (ev_at rfl) (flT rfl)) ?_ | refine xv (ex_faE (ev_at rfl) (flT rfl) (by assumption) (by assumption)) ?_); refine xv (ex_load (ev_at rfl) (ld1 hS (kdT rfl) rfl)) ?_; refine xv (ex_arith (ev_at rfl) (ev_at rfl) rfl (by first | exact IntWalk.i64_in _ (by omega) | rfl)) ?_; refine xv (ex_assign (ev_at rfl)) ?_; refine wl_nil ?_)
      | ((with_reducible apply wp_region_plain (id := 17)); refine xv (ex_arith (ev_at rfl) (ev_const _ _) rfl (by first | exact IntWalk.i64_in _ (by omega) | rfl)) ?_; refine xv (ex_move (ev_at rfl)) ?_; refine wl_nil ?_)
      | ((with_reducible apply wp_region_plain (id := 18)); refine xv (ex_move (ev_at rfl)) ?_; refine xv (ex_assign (ev_at rfl)) ?_; refine xv (ex_assign (ev_const _ _)) ?_; refine wl_nil ?_)
      | ((fail_if_success (with_reducible apply wp_region_plain)); (fail_if_success (with_reducible apply wp_region_GS)); go_step))
    refine endN (by first | exact .inl rfl | exact .inr rfl) rfl (ResL.rt rfl (ResL.rt rfl ResL.rn)) rfl ?_
    exact ⟨_, rfl, IsSl.nil, hS.nilRow _ _⟩
  by_cases h2 : s.budget < need
  · have ho : oldest s need = ([], 9) := by rw [oldest, if_neg h1, if_pos h2]
    rw [ho]
    obtain ⟨m, ov, kv, hp, hS⟩ := sp_open hS
    go_enter Try.func24, Try.ntmps24
    repeat' (first
      | ((with_reducible apply wp_region_plain (id := 0)); refine xv (ex_assign (ev_const _ _)) ?_; refine xv (ex_assign (ev_const _ _)) ?_; refine wl_nil ?_)
      | ((with_reducible apply wp_region_plain (id := 1)); refine xv (ex_move (ev_at rfl)) ?_; (first | refine xv (ex_eqlPtrS (ev_at rfl) (ev_const _ _) (unT rfl)) ?_ | refine xv (ex_eqlPtrN (ev_at rfl) (ev_const _ _) (unT rfl)) ?_ | refine xv (ex_eqlPtr (ev_at rfl) (ev_const _ _) (unT rfl)) ?_); refine xv (ex_assign (ev_at rfl)) ?_; refine wl_nil ?_)
      | ((with_reducible apply wp_region_plain (id := 2)); refine xv (ex_assign (ev_const _ _)) ?_; refine xv (ex_assign (ev_const _ _)) ?_; refine wl_nil ?_)
      | ((with_reducible apply wp_region_plain (id := 3)); refine xv (ex_move (ev_at rfl)) ?_; refine xv (ex_cmp (ev_at rfl) (ev_const _ _) (by first | exact lssT (by omega) | exact lssF (by omega) | rfl)) ?_; refine xv (ex_assign (ev_at rfl)) ?_; refine wl_nil ?_)
      | ((with_reducible apply wp_region_plain (id := 4)); refine xv (ex_assign (ev_const _ _)) ?_; refine xv (ex_assign (ev_const _ _)) ?_; refine wl_nil ?_)
      | ((with_reducible apply wp_region_plain (id := 5)); refine xv (ex_move (ev_at rfl)) ?_; refine xv (ex_move (ev_at rfl)) ?_; (first | refine xv (ex_nilCheck (ev_at rfl)) ?_ | refine xv (ex_nilCheckF (ev_at rfl)) ?_); (first | refine xv (ex_fa (ev_at rfl) (flT rfl)) ?_ | refine xv (ex_faE (ev_at rfl) (flT rfl) (by assumption) (by assumption)) ?_); refine xv (ex_load (ev_at rfl) (ld1 hS (kdT rfl) rfl)) ?_; refine xv (ex_cmp (ev_at rfl) (ev_at rfl) (by first | exact gtrT (by omega) | exact gtrF (by omega) | rfl)) ?_; refine xv (ex_assign (ev_at rfl)) ?_; refine wl_nil ?_)
      | ((with_reducible apply wp_region_plain (id := 6)); refine xv (ex_assign (ev_const _ _)) ?_; refine xv (ex_assign (ev_const _ _)) ?_; refine wl_nil ?_)
      | ((with_reducible apply wp_region_plain (id := 7)); refine xv (ex_move (ev_at rfl)) ?_; fail "no contract for (*bulletin/spool.Spool).entries (38)"; refine xv (ex_assign (ev_at rfl)) ?_; refine wl_nil ?_)
      | ((with_reducible apply wp_region_plain (id := 8)); refine xv (ex_move (ev_at rfl)) ?_; fail "no contract for slices.SortStableFunc[[]bulletin/spool.Entry,bulletin/spool.Entry] (41)"; refine wl_nil ?_)
      | ((with_reducible apply wp_region_plain (id := 9)); refine xv (ex_assign (ev_const _ _)) ?_; refine wl_nil ?_)
      | ((with_reducible apply wp_region_plain (id := 10)); refine xv (ex_move (ev_at rfl)) ?_; fail "no contract for (*bulletin/spool.Spool).Free (20)"; refine xv (ex_assign (ev_at rfl)) ?_; refine wl_nil ?_)
      | ((with_reducible apply wp_region_plain (id := 11)); refine xv (ex_move (ev_at rfl)) ?_; refine xv (ex_len (ev_at rfl) (slT rfl) (by first | assumption | exact IsSl.nil)) ?_; refine xv (ex_move (ev_const _ _)) ?_; refine wl_nil ?_)
      | ((with_reducible apply wp_region_plain (id := 12)); refine xv (ex_cmp (ev_at rfl) (ev_at rfl) (by first | exact lssT (by omega) | exact lssF (by omega) | rfl)) ?_; refine wl_nil ?_)
      | ((with_reducible apply wp_region_plain (id := 13)); (first | refine xv (ex_iaN (ev_at rfl) (ev_at rfl) (slT rfl) (szT rfl) (by first | assumption | exact IsSl.nil) (by omega)) ?_ | refine xv (ex_ia (ev_at rfl) (ev_at rfl) (slT rfl) (szT rfl) (by first | assumption | exact IsSl.nil) (by omega) (by omega)) ?_); refine xv (ex_load (ev_at rfl) (ldN hS (kdT rfl) (szT rfl) rfl)) ?_; refine wl_of rfl (wp_alloc hS (zeT rfl) fun b10 w hS => wl_put (by simp only [lset] <;> rfl) ?_); refine wl_of rfl (wp_storeN (ev_at rfl) (ev_at rfl) hS (szT rfl) rfl (by first | rfl | assumption | (simp only [sub, splice, List.take_succ_cons, List.take_zero, List.drop_succ_cons, List.drop_zero, List.nil_append, List.cons_append, List.length_cons, List.length_nil, Nat.reduceAdd, List.all_cons, List.all_nil, Bool.and_eq_true, Bool.and_true]; ((repeat' apply And.intro) <;> first | rfl | assumption | exact IsSl.one (by assumption)))) fun w hS => wl_put0 ?_); refine wl_nil ?_; (try simp only [lset, splice, sub, List.take_succ_cons, List.take_zero, List.drop_succ_cons, List.drop_zero, List.nil_append, List.cons_append, List.length_cons, List.length_nil, Nat.reduceAdd, Nat.zero_add, rep_zero] at hS))
      | ((with_reducible apply wp_region_plain (id := 14)); refine xv (ex_move (ev_at rfl)) ?_; refine xv (ex_move (ev_at rfl)) ?_; refine xv (ex_cmp (ev_at rfl) (ev_at rfl) (by first | exact geqT (by omega) | exact geqF (by omega) | rfl)) ?_; refine wl_nil ?_)
      | ((with_reducible apply wp_region_plain (id := 15)); refine xv (ex_move (ev_at rfl)) ?_; (first | refine xv (ex_fa (ev_at rfl) (flT rfl)) ?_ | refine xv (ex_faE (ev_at rfl) (flT rfl) (by assumption) (by assumption)) ?_); refine xv (ex_load (ev_at rfl) (ldN hS (kdT rfl) (szT rfl) rfl)) ?_; refine wl_of rfl (wp_buildSlice (slT rfl) (szT rfl) (zeT rfl) (fillsOneN (ev_at rfl) rfl rfl) hS rfl (by first | rfl | assumption | (simp only [sub, splice, List.take_succ_cons, List.take_zero, List.drop_succ_cons, List.drop_zero, List.nil_append, List.cons_append, List.length_cons, List.length_nil, Nat.reduceAdd, List.all_cons, List.all_nil, Bool.and_eq_true, Bool.and_true]; ((repeat' apply And.intro) <;> first | rfl | assumption | exact IsSl.one (by assumption)))) fun b42 w hS => wl_put (by simp only [lset] <;> rfl) ?_); refine wl_of rfl (wp_append1 (ev_at rfl) (ev_at rfl) (slT rfl) (szT rfl) (byT rfl) (zeT rfl) hS (by omega) (by omega) rfl fun v43 w hS hv43 => wl_put (by simp only [lset] <;> rfl) ?_); refine xv (ex_assign (ev_at rfl)) ?_; refine wl_nil ?_; (try simp only [lset, splice, sub, List.take_succ_cons, List.take_zero, List.drop_succ_cons, List.drop_zero, List.nil_append, List.cons_append, List.length_cons, List.length_nil, Nat.reduceAdd, Nat.zero_add, rep_zero] at hS))
      | ((with_reducible apply wp_region_plain (id := 16)); refine xv (ex_move (ev_at rfl)) ?_; (first | refine xv (ex_fa (ev_at rfl) (flT rfl)) ?_ | refine xv (ex_faE (ev_at rfl) (flT rfl) (by assumption) (by assumption)) ?_); refine xv (ex_load (ev_at rfl) (ld1 hS (kdT rfl) rfl)) ?_; refine xv (ex_arith (ev_at rfl) (ev_at rfl) rfl (by first | exact IntWalk.i64_in _ (by omega) | rfl)) ?_; refine xv (ex_assign (ev_at rfl)) ?_; refine wl_nil ?_)
      | ((with_reducible apply wp_region_plain (id := 17)); refine xv (ex_arith (ev_at rfl) (ev_const _ _) rfl (by first | exact IntWalk.i64_in _ (by omega) | rfl)) ?_; refine xv (ex_move (ev_at rfl)) ?_; refine wl_nil ?_)
      | ((with_reducible apply wp_region_plain (id := 18)); refine xv (ex_move (ev_at rfl)) ?_; refine xv (ex_assign (ev_at rfl)) ?_; refine xv (ex_assign (ev_const _ _)) ?_; refine wl_nil ?_)
      | ((fail_if_success (with_reducible apply wp_region_plain)); (fail_if_success (with_reducible apply wp_region_GS)); go_step))
    refine endN (by first | exact .inl rfl | exact .inr rfl) rfl (ResL.rt rfl (ResL.rt rfl ResL.rn)) rfl ?_
    exact ⟨_, rfl, IsSl.nil, (sp_shut hp hS).nilRow _ _⟩
  have ho : oldest s need = ((takeFree need (s.budget - s.bytes) (ssort less s.arts)).map (·.id), 0) := by rw [oldest, if_neg h1, if_neg h2]
  rw [ho]
  simp only
  obtain ⟨m, ov, kv, hp, hS⟩ := sp_open hS
  obtain ⟨l', hl'⟩ := toT s.arts hs.arts
  have hl'l : l'.length = s.arts.length := by rw [← hl']; simp
  have hss : ssort less s.arts = (ssort lessT l').map (·.1) := by rw [← hl']; exact ssort_map (lt := lessT) (·.1) (fun x y => rfl) l'
  have hmem : ∀ a ∈ ssort less s.arts, ArtOk a := fun a ha => hs.arts a (mem_ssort.1 ha)
  have hTl : (ssort less s.arts).length = s.arts.length := ssort_length _
  have hso := fun (w : World) (v0 : Value) hS => sortStable_ct (I := I) (L := SpC b s :: L) lessT_ord elT v0 42 [] (cbT rfl) cmpOldest s.arts.length (by omega) w l' hl'l hS
  generalize hT : ssort less s.arts = T at hss hmem hTl
  have hfr := fun (w : World) (L2 : List Ch) hS => spFree_ct (w := w) (I := I) (L := L2) (b := b) (s := s) hs hS
  obtain ⟨f0, hf0⟩ : ∃ f0 : Int, f0 = s.budget - s.bytes := ⟨_, rfl⟩
  rw [← hf0] at hfr
  rw [← hf0]
  generalize hR : takeFree need f0 T = R
  go_enter Try.func24, Try.ntmps24
  repeat' (first
    | ((with_reducible apply wp_region_plain (id := 0)); refine xv (ex_assign (ev_const _ _)) ?_; refine xv (ex_assign (ev_const _ _)) ?_; refine wl_nil ?_)
    | ((with_reducible apply wp_region_plain (id := 1)); refine xv (ex_move (ev_at rfl)) ?_; (first | refine xv (ex_eqlPtrS (ev_at rfl) (ev_const _ _) (unT rfl)) ?_ | refine xv (ex_eqlPtrN (ev_at rfl) (ev_const _ _) (unT rfl)) ?_ | refine xv (ex_eqlPtr (ev_at rfl) (ev_const _ _) (unT rfl)) ?_); refine xv (ex_assign (ev_at rfl)) ?_; refine wl_nil ?_)
    | ((with_reducible apply wp_region_plain (id := 2)); refine xv (ex_assign (ev_const _ _)) ?_; refine xv (ex_assign (ev_const _ _)) ?_; refine wl_nil ?_)
    | ((with_reducible apply wp_region_plain (id := 3)); refine xv (ex_move (ev_at rfl)) ?_; refine xv (ex_cmp (ev_at rfl) (ev_const _ _) (by first | exact lssT (by omega) | exact lssF (by omega) | rfl)) ?_; refine xv (ex_assign (ev_at rfl)) ?_; refine wl_nil ?_)
    | ((with_reducible apply wp_region_plain (id := 4)); refine xv (ex_assign (ev_const _ _)) ?_; refine xv (ex_assign (ev_const _ _)) ?_; refine wl_nil ?_)
    | ((with_reducible apply wp_region_plain (id := 5)); refine xv (ex_move (ev_at rfl)) ?_; refine xv (ex_move (ev_at rfl)) ?_; (first | refine xv (ex_nilCheck (ev_at rfl)) ?_ | refine xv (ex_nilCheckF (ev_at rfl)) ?_); (first | refine xv (ex_fa (ev_at rfl) (flT rfl)) ?_ | refine xv (ex_faE (ev_at rfl) (flT rfl) (by assumption) (by assumption)) ?_); refine xv (ex_load (ev_at rfl) (ld1 hS (kdT rfl) rfl)) ?_; refine xv (ex_cmp (ev_at rfl) (ev_at rfl) (by first | exact gtrT (by omega) | exact gtrF (by omega) | rfl)) ?_; refine xv (ex_assign (ev_at rfl)) ?_; refine wl_nil ?_)
    | ((with_reducible apply wp_region_plain (id := 6)); refine xv (ex_assign (ev_const _ _)) ?_; refine xv (ex_assign (ev_const _ _)) ?_; refine wl_nil ?_)
    | ((fail_if_success (with_reducible apply wp_region_plain)); (fail_if_success (with_reducible apply wp_region_GS)); go_step))
  have hS := sp_shut hp hS
  repeat' (first
    | ((with_reducible apply wp_region_plain (id := 0)); refine xv (ex_assign (ev_const _ _)) ?_; refine xv (ex_assign (ev_const _ _)) ?_; refine wl_nil ?_)
    | ((with_reducible apply wp_region_plain (id := 7)); refine xv (ex_move (ev_at rfl)) ?_; refine wl_of rfl (wp_callL (cbT rfl) (EvL.c (ev_at rfl) EvL.n) ?_); refine (entries_ct hs hS).mono ?_; rintro e w ⟨u, rfl, hui, hS⟩; refine ⟨_, rfl, wl_put (by simp only [lset] <;> rfl) ?_⟩; refine xv (ex_assign (ev_at rfl)) ?_; refine wl_nil ?_)
    | ((with_reducible apply wp_region_plain (id := 8)); refine xv (ex_move (ev_at rfl)) ?_; refine wl_of rfl (wp_callL (cbT rfl) (EvL.c (ev_at rfl) (EvL.c rfl EvL.n)) ?_); refine (hso _ _ (by rw [flatT, hl']; exact hS)).mono ?_; rintro e w ⟨rfl, hS⟩; rw [flatT, ← hss] at hS; refine ⟨_, rfl, wl_put (by simp only [lset] <;> rfl) ?_⟩; refine wl_nil ?_)
    | ((with_reducible apply wp_region_plain (id := 9)); refine xv (ex_assign (ev_const _ _)) ?_; refine wl_nil ?_)
    | ((with_reducible apply wp_region_plain (id := 10)); refine xv (ex_move (ev_at rfl)) ?_; refine wl_of rfl (wp_callL (cbT rfl) (EvL.c (ev_at rfl) EvL.n) ?_); refine (hfr _ _ hS.swap).mono ?_; rintro e w ⟨rfl, hS⟩; have hS := hS.swap; refine ⟨_, rfl, wl_put (by simp only [lset] <;> rfl) ?_⟩; refine xv (ex_assign (ev_at rfl)) ?_; refine wl_nil ?_)
    | ((with_reducible apply wp_region_plain (id := 11)); refine xv (ex_move (ev_at rfl)) ?_; refine xv (ex_len (ev_at rfl) (slT rfl) (by first | assumption | exact IsSl.nil)) ?_; refine xv (ex_move (ev_const _ _)) ?_; refine wl_nil ?_)
    | ((fail_if_success (with_reducible apply wp_region_plain)); (fail_if_success (with_reducible apply wp_region_GS)); go_step))
  have hS := hS.nilRow 30 32
  refine wp_loopM [false, false, false, false, false, false, false, true, true, false, true, false, false, false, false, false, false, false, false, false, false, false, false, false, false, false, false, false, false, false, false, false, true, true, true, true, true, true, true, true, true, true, true, true, true, true, true, true, true] (fun n f w => ∃ (i : Nat) (free : Int) (out : Value) (D : List Art), n = s.arts.length - i ∧ f 7 = out ∧ f 8 = .int .i64 free ∧ f 32 = .int .i64 i ∧ i ≤ s.arts.length ∧ 0 ≤ free ∧ free ≤ 1073807360 ∧ D.length ≤ i ∧ D ++ takeFree need free (T.drop i) = R ∧ Sat w I (Row out 30 32 D.length (flatE idC (D.map (·.id))) :: Row u 44 34 s.arts.length (flatE entC T) :: SpC b s :: L)) rfl s.arts.length ⟨0, f0, .slice none 0 0, [], rfl, rfl, rfl, rfl, by omega, by omega, by omega, by simp, by simpa using hR, hS⟩ ?_
  clear hS
  rintro n f w ⟨i, free, out, D, rfl, h7, h8, h32, hi, hf1, hf2, hDi, hD, hS⟩
  simp only [havoc, Nat.reduceAdd, h7, h8, h32]
  have hoi := (hS.rowH (v := out)).1
  by_cases hlt : i < s.arts.length
  case neg =>
    have hRD : R = D := by rw [← hD, List.drop_of_length_le (by omega)]; simp [takeFree]
    repeat' (first
      | ((with_reducible apply wp_region_plain (id := 0)); refine xv (ex_assign (ev_const _ _)) ?_; refine xv (ex_assign (ev_const _ _)) ?_; refine wl_nil ?_)
      | ((with_reducible apply wp_region_plain (id := 12)); refine xv (ex_cmp (ev_at rfl) (ev_at rfl) (by first | exact lssT (by omega) | exact lssF (by omega) | rfl)) ?_; refine wl_nil ?_)
      | ((with_reducible apply wp_region_plain (id := 18)); refine xv (ex_move (ev_at rfl)) ?_; refine xv (ex_assign (ev_at rfl)) ?_; refine xv (ex_assign (ev_const _ _)) ?_; refine wl_nil ?_)
      | ((fail_if_success (with_reducible apply wp_region_plain)); (fail_if_success (with_reducible apply wp_region_GS)); go_step))
    refine endN (by first | exact .inl rfl | exact .inr rfl) rfl (ResL.rt rfl (ResL.rt rfl ResL.rn)) rfl ?_
    rw [hRD]
    exact ⟨out, rfl, by simpa using hoi, by simpa using hS.del1⟩
  have hg : T[i]? = some T[i] := List.getElem?_eq_getElem (by omega)
  have hdr : T.drop i = T[i] :: T.drop (i + 1) := List.drop_eq_getElem_cons (by omega)
  generalize T[i] = x at hg hdr
  have hxo := hmem x (List.mem_of_getElem? hg)
  have hx2 := hxo.t2
  rw [hdr, takeFree] at hD
  have hel : (entC x).length = 34 := elEnt.len x
  have hic := idC_len x.id
  have hids := entIds x
  have hgl := (entGet x).2
  by_cases hb : need ≤ free
  · rw [if_pos hb, List.append_nil] at hD
    subst hD
    repeat' (first
      | ((with_reducible apply wp_region_plain (id := 0)); refine xv (ex_assign (ev_const _ _)) ?_; refine xv (ex_assign (ev_const _ _)) ?_; refine wl_nil ?_)
      | ((with_reducible apply wp_region_plain (id := 12)); refine xv (ex_cmp (ev_at rfl) (ev_at rfl) (by first | exact lssT (by omega) | exact lssF (by omega) | rfl)) ?_; refine wl_nil ?_)
      | ((with_reducible apply wp_region_plain (id := 13)); (first | refine xv (ex_iaN (ev_at rfl) (ev_at rfl) (slT rfl) (szT rfl) (by first | assumption | exact IsSl.nil) (by omega)) ?_ | refine xv (ex_ia (ev_at rfl) (ev_at rfl) (slT rfl) (szT rfl) (by first | assumption | exact IsSl.nil) (by omega) (by omega)) ?_); refine xv (ex_load (ev_at rfl) (ldEl elEnt ((hS.rowH (v := u)).2.2.1) hui (i := i) hlt hg (kdT rfl) (szT rfl))) ?_; refine wl_of rfl (wp_alloc hS (zeT rfl) fun b10 w hS => wl_put (by simp only [lset] <;> rfl) ?_); refine wl_of rfl (wp_storeW (vs := entC x) (ev_at rfl) (ev_at rfl) hS (szT rfl) hel rfl (elEnt.oc x) fun w hS => wl_put0 ?_); refine wl_nil ?_; (try simp only [lset, splice, sub, List.take_succ_cons, List.take_zero, List.drop_succ_cons, List.drop_zero, List.nil_append, List.cons_append, List.length_cons, List.length_nil, Nat.reduceAdd, Nat.zero_add, rep_zero] at hS))
      | ((with_reducible apply wp_region_plain (id := 14)); refine xv (ex_move (ev_at rfl)) ?_; refine xv (ex_move (ev_at rfl)) ?_; refine xv (ex_cmp (ev_at rfl) (ev_at rfl) (by first | exact geqT (by omega) | exact geqF (by omega) | rfl)) ?_; refine wl_nil ?_)
      | ((with_reducible apply wp_region_plain (id := 18)); refine xv (ex_move (ev_at rfl)) ?_; refine xv (ex_assign (ev_at rfl)) ?_; refine xv (ex_assign (ev_const _ _)) ?_; refine wl_nil ?_)
      | ((fail_if_success (with_reducible apply wp_region_plain)); (fail_if_success (with_reducible apply wp_region_GS)); go_step))
    refine endN (by first | exact .inl rfl | exact .inr rfl) rfl (ResL.rt rfl (ResL.rt rfl ResL.rn)) rfl ?_
    exact ⟨out, rfl, by simpa using hoi, by simpa using hS.drop.del1⟩
  rw [if_neg hb] at hD
  repeat' (first
    | ((with_reducible apply wp_region_plain (id := 0)); refine xv (ex_assign (ev_const _ _)) ?_; refine xv (ex_assign (ev_const _ _)) ?_; refine wl_nil ?_)
    | ((with_reducible apply wp_region_plain (id := 12)); refine xv (ex_cmp (ev_at rfl) (ev_at rfl) (by first | exact lssT (by omega) | exact lssF (by omega) | rfl)) ?_; refine wl_nil ?_)
    | ((with_reducible apply wp_region_plain (id := 13)); (first | refine xv (ex_iaN (ev_at rfl) (ev_at rfl) (slT rfl) (szT rfl) (by first | assumption | exact IsSl.nil) (by omega)) ?_ | refine xv (ex_ia (ev_at rfl) (ev_at rfl) (slT rfl) (szT rfl) (by first | assumption | exact IsSl.nil) (by omega) (by omega)) ?_); refine xv (ex_load (ev_at rfl) (ldEl elEnt ((hS.rowH (v := u)).2.2.1) hui (i := i) hlt hg (kdT rfl) (szT rfl))) ?_; refine wl_of rfl (wp_alloc hS (zeT rfl) fun b10 w hS => wl_put (by simp only [lset] <;> rfl) ?_); refine wl_of rfl (wp_storeW (vs := entC x) (ev_at rfl) (ev_at rfl) hS (szT rfl) hel rfl (elEnt.oc x) fun w hS => wl_put0 ?_); refine wl_nil ?_; (try simp only [lset, splice, sub, List.take_succ_cons, List.take_zero, List.drop_succ_cons, List.drop_zero, List.nil_append, List.cons_append, List.length_cons, List.length_nil, Nat.reduceAdd, Nat.zero_add, rep_zero] at hS))
    | ((with_reducible apply wp_region_plain (id := 14)); refine xv (ex_move (ev_at rfl)) ?_; refine xv (ex_move (ev_at rfl)) ?_; refine xv (ex_cmp (ev_at rfl) (ev_at rfl) (by first | exact geqT (by omega) | exact geqF (by omega) | rfl)) ?_; refine wl_nil ?_)
    | ((with_reducible apply wp_region_plain (id := 15)); refine xv (ex_move (ev_at rfl)) ?_; (first | refine xv (ex_fa (ev_at rfl) (flT rfl)) ?_ | refine xv (ex_faE (ev_at rfl) (flT rfl) (by assumption) (by assumption)) ?_); refine xv (ex_load (ev_at rfl) (ldNs hS (kdT rfl) (szT rfl) hids hic (by omega))) ?_; refine wl_of rfl (wp_buildSlice (slT rfl) (szT rfl) (zeT rfl) (fillsOneN (ev_at rfl) hic rfl) hS (by simpa using hic) (byteV_all x.id.1) fun b42 w hS => wl_put (by simp only [lset] <;> rfl) ?_); refine wl_of rfl (wp_append1 (ev_at rfl) (ev_at rfl) (slT rfl) (szT rfl) (byT rfl) (zeT rfl) hS (by omega) (by omega) rfl fun v43 w hS hv43 => wl_put (by simp only [lset] <;> rfl) ?_); refine xv (ex_assign (ev_at rfl)) ?_; refine wl_nil ?_; (try simp only [lset, splice, sub, List.take_succ_cons, List.take_zero, List.drop_succ_cons, List.drop_zero, List.nil_append, List.cons_append, List.length_cons, List.length_nil, Nat.reduceAdd, Nat.zero_add, rep_zero] at hS))
    | ((with_reducible apply wp_region_plain (id := 16)); refine xv (ex_move (ev_at rfl)) ?_; (first | refine xv (ex_fa (ev_at rfl) (flT rfl)) ?_ | refine xv (ex_faE (ev_at rfl) (flT rfl) (by assumption) (by assumption)) ?_); refine xv (ex_load (ev_at rfl) (ld1 (v := .int .i64 x.text.length) hS (kdT rfl) hgl)) ?_; refine xv (ex_arith (ev_at rfl) (ev_at rfl) rfl (by first | exact IntWalk.i64_in _ (by omega) | rfl)) ?_; refine xv (ex_assign (ev_at rfl)) ?_; refine wl_nil ?_)
    | ((with_reducible apply wp_region_plain (id := 17)); refine xv (ex_arith (ev_at rfl) (ev_const _ _) rfl (by first | exact IntWalk.i64_in _ (by omega) | rfl)) ?_; refine xv (ex_move (ev_at rfl)) ?_; refine wl_nil ?_)
    | ((fail_if_success (with_reducible apply wp_region_plain)); (fail_if_success (with_reducible apply wp_region_GS)); go_step))
  have e1 : flatE idC (D.map (·.id)) ++ idC x.id = flatE idC ((D ++ [x]).map (·.id)) := by simp [flatE]
  rw [e1] at hS
  exact loopEndM rfl (s.arts.length - (i + 1)) ⟨i + 1, free + x.text.length, v43, D ++ [x], rfl, rfl, rfl, rfl, by omega, by omega, by omega, by simp; omega, by rw [← hD]; simp, by rw [List.length_append]; exact hS.drop⟩ (by omega)
/-! the example of the document -/
def id1 : Id32 := ⟨1 :: List.replicate 31 0, rfl⟩
def id2 : Id32 := ⟨2 :: List.replicate 31 0, rfl⟩
def id9 : Id32 := ⟨9 :: List.replicate 31 0, rfl⟩
def kn1 : Art := ⟨id1, [97, 98, 99, 100, 101, 102], 5⟩
def kn2 : Art := ⟨id2, [103, 104, 105, 106, 107], 6⟩
theorem kn_put1 : put ⟨10, []⟩ kn1 = (⟨10, [kn1]⟩, 0) := by
  rw [put, if_neg (by decide), if_neg (by decide), if_neg (by decide), if_neg (by decide), if_neg (by decide)]; rfl
theorem kn_put2 : put ⟨10, [kn1]⟩ kn2 = (⟨10, [kn1]⟩, 9) := by
  rw [put, if_neg (by decide), if_neg (by decide), if_neg (by decide), if_neg (by decide), if_pos (by decide)]
theorem kn_old : oldest ⟨10, [kn1]⟩ 5 = ([id1], 0) := by
  rw [oldest, if_neg (by decide), if_neg (by decide)]; rfl
theorem kn_ok0 : SpOk ⟨10, []⟩ := ⟨by decide, by decide, by decide, by simp, by simp⟩
set_option maxHeartbeats 8000000 in
theorem known_ct (hS : Sat w I L) : Calls Try.prog 11 #[] w fun e w' => e = .returned (.bool true) ∧ Sat w' I L := by
  have hok1 : SpOk ⟨10, [kn1]⟩ := by have := put_ok kn_ok0 kn1; rw [kn_put1] at this; exact this
  have hp1 := fun (w : World) (b : Nat) (L2 : List Ch) hS => spPut_ct (w := w) (I := I) (L := L2) (b := b) kn_ok0 kn1 hS
  have hp2 := fun (w : World) (b : Nat) (L2 : List Ch) hS => spPut_ct (w := w) (I := I) (L := L2) (b := b) hok1 kn2 hS
  have ho := fun (w : World) (b : Nat) (L2 : List Ch) hS => spOldest_ct (w := w) (I := I) (L := L2) (b := b) hok1 5 hS
  rw [kn_put1] at hp1
  rw [kn_put2] at hp2
  rw [kn_old] at ho
  have hic := idC_len id1
  have hdc : decide (id1 = id1) = true := by simp
  go_enter Try.func11, Try.ntmps11
  repeat' (first
    | ((with_reducible apply wp_region_plain (id := 0)); refine xv (ex_assign (ev_const _ _)) ?_; refine wl_nil ?_)
    | ((with_reducible apply wp_region_plain (id := 1)); refine wl_of rfl (wp_callL (cbT rfl) (EvL.c (ev_const _ _) EvL.n) ?_); refine (spNew_ok 10 (by decide) hS).mono ?_; rintro e w ⟨b, rfl, hS⟩; refine ⟨_, rfl, wl_put (by simp only [lset] <;> rfl) ?_⟩; refine xv (ex_move (ev_at rfl)) ?_; refine xv (ex_extract (ev_at rfl) rfl) ?_; refine xv (ex_extract (ev_at rfl) rfl) ?_; refine xv (ex_assign (ev_at rfl)) ?_; refine xv (ex_assign (ev_at rfl)) ?_; refine wl_nil ?_)
    | ((with_reducible apply wp_region_plain (id := 2)); refine xv (ex_move (ev_at rfl)) ?_; refine xv (ex_cmp (ev_at rfl) (ev_const _ _) (by first | exact neqT (by omega) | exact neqF (by omega) | rfl)) ?_; refine xv (ex_move (ev_at rfl)) ?_; (first | refine wl_skip rfl rfl (by simp only [lset] <;> rfl) ?_ | (refine xv (ex_move (ev_at rfl)) ?_)); (first | refine wl_skip rfl rfl (by simp only [lset] <;> rfl) ?_ | ((first | refine xv (ex_eqlPtrS (ev_at rfl) (ev_const _ _) (unT rfl)) ?_ | refine xv (ex_eqlPtrN (ev_at rfl) (ev_const _ _) (unT rfl)) ?_ | refine xv (ex_eqlPtr (ev_at rfl) (ev_const _ _) (unT rfl)) ?_))); (first | refine xv (ex_pickT (ev_at rfl) (ev_const _ _)) ?_ | refine xv (ex_pickF (ev_at rfl) (ev_at rfl)) ?_ | refine xv (ex_pickOr (ev_at rfl) (ev_const _ _) (ev_at rfl)) ?_); refine xv (ex_move (ev_at rfl)) ?_; (first | refine wl_skip rfl rfl (by simp only [lset] <;> rfl) ?_ | (refine xv (ex_move (ev_at rfl)) ?_)); (first | refine wl_skip rfl rfl (by simp only [lset] <;> rfl) ?_ | (refine xv (ex_buildA (arT rfl) (szT rfl) (zeT rfl) (Fills.cons rfl (ev_const _ _) (by first | exact IsSl.cellsL (by assumption) | exact cellsL1 rfl | rfl) rfl rfl Fills.nil)) ?_)); (first | refine wl_skip rfl rfl (by simp only [lset] <;> rfl) ?_ | (refine wl_of rfl (wp_callL (cbT rfl) (EvL.c (ev_at rfl) (EvL.c (ev_at rfl) (EvL.c (ev_const _ _) (EvL.c (ev_const _ _) EvL.n)))) ?_); refine (hp1 _ _ _ hS).mono ?_; rintro e w ⟨rfl, hS⟩; refine ⟨_, rfl, wl_put (by simp only [lset] <;> rfl) ?_⟩)); (first | refine wl_skip rfl rfl (by simp only [lset] <;> rfl) ?_ | (refine xv (ex_cmp (ev_at rfl) (ev_const _ _) (by first | exact neqT (by omega) | exact neqF (by omega) | rfl)) ?_)); (first | refine xv (ex_pickT (ev_at rfl) (ev_const _ _)) ?_ | refine xv (ex_pickF (ev_at rfl) (ev_at rfl)) ?_ | refine xv (ex_pickOr (ev_at rfl) (ev_const _ _) (ev_at rfl)) ?_); refine xv (ex_move (ev_at rfl)) ?_; (first | refine wl_skip rfl rfl (by simp only [lset] <;> rfl) ?_ | (refine xv (ex_move (ev_at rfl)) ?_)); (first | refine wl_skip rfl rfl (by simp only [lset] <;> rfl) ?_ | (refine xv (ex_buildA (arT rfl) (szT rfl) (zeT rfl) (Fills.cons rfl (ev_const _ _) (by first | exact IsSl.cellsL (by assumption) | exact cellsL1 rfl | rfl) rfl rfl Fills.nil)) ?_)); (first | refine wl_skip rfl rfl (by simp only [lset] <;> rfl) ?_ | (refine wl_of rfl (wp_callL (cbT rfl) (EvL.c (ev_at rfl) (EvL.c (ev_at rfl) (EvL.c (ev_const _ _) (EvL.c (ev_const _ _) EvL.n)))) ?_); refine (hp2 _ _ _ hS).mono ?_; rintro e w ⟨rfl, hS⟩; refine ⟨_, rfl, wl_put (by simp only [lset] <;> rfl) ?_⟩)); (first | refine wl_skip rfl rfl (by simp only [lset] <;> rfl) ?_ | (refine xv (ex_cmp (ev_at rfl) (ev_const _ _) (by first | exact neqT (by omega) | exact neqF (by omega) | rfl)) ?_)); (first | refine xv (ex_pickT (ev_at rfl) (ev_const _ _)) ?_ | refine xv (ex_pickF (ev_at rfl) (ev_at rfl)) ?_ | refine xv (ex_pickOr (ev_at rfl) (ev_const _ _) (ev_at rfl)) ?_); refine wl_nil ?_)
    | ((with_reducible apply wp_region_plain (id := 3)); refine xv (ex_assign (ev_const _ _)) ?_; refine wl_nil ?_)
    | ((with_reducible apply wp_region_plain (id := 4)); refine xv (ex_move (ev_at rfl)) ?_; refine wl_of rfl (wp_callL (cbT rfl) (EvL.c (ev_at rfl) (EvL.c (ev_const _ _) EvL.n)) ?_); refine (ho _ _ _ hS).mono ?_; rintro e w ⟨u, rfl, hui, hS⟩; refine ⟨_, rfl, wl_put (by simp only [lset] <;> rfl) ?_⟩; refine xv (ex_move (ev_at rfl)) ?_; refine xv (ex_extract (ev_at rfl) rfl) ?_; refine xv (ex_extract (ev_at rfl) rfl) ?_; refine xv (ex_assign (ev_at rfl)) ?_; refine xv (ex_assign (ev_at rfl)) ?_; refine wl_nil ?_)
    | ((fail_if_success (with_reducible apply wp_region_plain)); (fail_if_success (with_reducible apply wp_region_GS)); go_step))
  have hui1 : IsSl u 1 := hui
  have hg : ([id1] : List Id32)[0]? = some id1 := rfl
  have hS : Sat w I (Row u 30 32 1 (flatE idC [id1]) :: SpC b ⟨10, [kn1]⟩ :: L) := hS
  repeat' (first
    | ((with_reducible apply wp_region_plain (id := 0)); refine xv (ex_assign (ev_const _ _)) ?_; refine wl_nil ?_)
    | ((with_reducible apply wp_region_plain (id := 1)); fail "no contract for bulletin/spool.New (12)"; refine xv (ex_move (ev_at rfl)) ?_; refine xv (ex_extract (ev_at rfl) rfl) ?_; refine xv (ex_extract (ev_at rfl) rfl) ?_; refine xv (ex_assign (ev_at rfl)) ?_; refine xv (ex_assign (ev_at rfl)) ?_; refine wl_nil ?_)
    | ((with_reducible apply wp_region_plain (id := 2)); refine xv (ex_move (ev_at rfl)) ?_; refine xv (ex_cmp (ev_at rfl) (ev_const _ _) (by first | exact neqT (by omega) | exact neqF (by omega) | rfl)) ?_; refine xv (ex_move (ev_at rfl)) ?_; (first | refine wl_skip rfl rfl (by simp only [lset] <;> rfl) ?_ | (refine xv (ex_move (ev_at rfl)) ?_)); (first | refine wl_skip rfl rfl (by simp only [lset] <;> rfl) ?_ | ((first | refine xv (ex_eqlPtrS (ev_at rfl) (ev_const _ _) (unT rfl)) ?_ | refine xv (ex_eqlPtrN (ev_at rfl) (ev_const _ _) (unT rfl)) ?_ | refine xv (ex_eqlPtr (ev_at rfl) (ev_const _ _) (unT rfl)) ?_))); (first | refine xv (ex_pickT (ev_at rfl) (ev_const _ _)) ?_ | refine xv (ex_pickF (ev_at rfl) (ev_at rfl)) ?_ | refine xv (ex_pickOr (ev_at rfl) (ev_const _ _) (ev_at rfl)) ?_); refine xv (ex_move (ev_at rfl)) ?_; (first | refine wl_skip rfl rfl (by simp only [lset] <;> rfl) ?_ | (refine xv (ex_move (ev_at rfl)) ?_)); (first | refine wl_skip rfl rfl (by simp only [lset] <;> rfl) ?_ | (refine xv (ex_buildA (arT rfl) (szT rfl) (zeT rfl) (Fills.cons rfl (ev_const _ _) (by first | exact IsSl.cellsL (by assumption) | exact cellsL1 rfl | rfl) rfl rfl Fills.nil)) ?_)); (first | refine wl_skip rfl rfl (by simp only [lset] <;> rfl) ?_ | (fail "no contract for (*bulletin/spool.Spool).Put (13)")); (first | refine wl_skip rfl rfl (by simp only [lset] <;> rfl) ?_ | (refine xv (ex_cmp (ev_at rfl) (ev_const _ _) (by first | exact neqT (by omega) | exact neqF (by omega) | rfl)) ?_)); (first | refine xv (ex_pickT (ev_at rfl) (ev_const _ _)) ?_ | refine xv (ex_pickF (ev_at rfl) (ev_at rfl)) ?_ | refine xv (ex_pickOr (ev_at rfl) (ev_const _ _) (ev_at rfl)) ?_); refine xv (ex_move (ev_at rfl)) ?_; (first | refine wl_skip rfl rfl (by simp only [lset] <;> rfl) ?_ | (refine xv (ex_move (ev_at rfl)) ?_)); (first | refine wl_skip rfl rfl (by simp only [lset] <;> rfl) ?_ | (refine xv (ex_buildA (arT rfl) (szT rfl) (zeT rfl) (Fills.cons rfl (ev_const _ _) (by first | exact IsSl.cellsL (by assumption) | exact cellsL1 rfl | rfl) rfl rfl Fills.nil)) ?_)); (first | refine wl_skip rfl rfl (by simp only [lset] <;> rfl) ?_ | (fail "no contract for (*bulletin/spool.Spool).Put (13)")); (first | refine wl_skip rfl rfl (by simp only [lset] <;> rfl) ?_ | (refine xv (ex_cmp (ev_at rfl) (ev_const _ _) (by first | exact neqT (by omega) | exact neqF (by omega) | rfl)) ?_)); (first | refine xv (ex_pickT (ev_at rfl) (ev_const _ _)) ?_ | refine xv (ex_pickF (ev_at rfl) (ev_at rfl)) ?_ | refine xv (ex_pickOr (ev_at rfl) (ev_const _ _) (ev_at rfl)) ?_); refine wl_nil ?_)
    | ((with_reducible apply wp_region_plain (id := 3)); refine xv (ex_assign (ev_const _ _)) ?_; refine wl_nil ?_)
    | ((with_reducible apply wp_region_plain (id := 4)); refine xv (ex_move (ev_at rfl)) ?_; fail "no contract for (*bulletin/spool.Spool).Oldest (24)"; refine xv (ex_move (ev_at rfl)) ?_; refine xv (ex_extract (ev_at rfl) rfl) ?_; refine xv (ex_extract (ev_at rfl) rfl) ?_; refine xv (ex_assign (ev_at rfl)) ?_; refine xv (ex_assign (ev_at rfl)) ?_; refine wl_nil ?_)
    | ((with_reducible apply wp_region_plain (id := 5)); refine xv (ex_move (ev_at rfl)) ?_; refine xv (ex_cmp (ev_at rfl) (ev_const _ _) (by first | exact eqlT (by omega) | exact eqlF (by omega) | rfl)) ?_; refine xv (ex_move (ev_at rfl)) ?_; (first | refine wl_skip rfl rfl (by simp only [lset] <;> rfl) ?_ | (refine xv (ex_move (ev_at rfl)) ?_)); (first | refine wl_skip rfl rfl (by simp only [lset] <;> rfl) ?_ | (refine xv (ex_len (ev_at rfl) (slT rfl) (by first | assumption | exact IsSl.nil)) ?_)); (first | refine wl_skip rfl rfl (by simp only [lset] <;> rfl) ?_ | (refine xv (ex_cmp (ev_at rfl) (ev_const _ _) (by first | exact eqlT (by omega) | exact eqlF (by omega) | rfl)) ?_)); (first | refine xv (ex_pickT (ev_at rfl) (ev_at rfl)) ?_ | refine xv (ex_pickF (ev_at rfl) (ev_const _ _)) ?_ | refine xv (ex_pickAnd (ev_at rfl) (ev_at rfl) (ev_const _ _)) ?_); refine xv (ex_move (ev_at rfl)) ?_; (first | refine wl_skip rfl rfl (by simp only [lset] <;> rfl) ?_ | (refine xv (ex_move (ev_at rfl)) ?_)); (first | refine wl_skip rfl rfl (by simp only [lset] <;> rfl) ?_ | ((first | refine xv (ex_iaN (ev_at rfl) (ev_const _ _) (slT rfl) (szT rfl) (by first | assumption | exact IsSl.nil) (by omega)) ?_ | refine xv (ex_ia (ev_at rfl) (ev_const _ _) (slT rfl) (szT rfl) (by first | assumption | exact IsSl.nil) (by omega) (by omega)) ?_))); (first | refine wl_skip rfl rfl (by simp only [lset] <;> rfl) ?_ | (refine xv (ex_load (ev_at rfl) (ldEl elId ((hS.rowH (v := u)).2.2.1) hui1 (i := 0) (by omega) hg (kdT rfl) (szT rfl))) ?_)); (first | refine wl_skip rfl rfl (by simp only [lset] <;> rfl) ?_ | (refine xv (ex_buildA (arT rfl) (szT rfl) (zeT rfl) (Fills.cons rfl (ev_const _ _) (by first | exact IsSl.cellsL (by assumption) | exact cellsL1 rfl | rfl) rfl rfl Fills.nil)) ?_)); (first | refine wl_skip rfl rfl (by simp only [lset] <;> rfl) ?_ | (refine xv (ex_eqlId (i := id1) (j := id1) (ev_at rfl) (ev_at rfl) rfl rfl hdc (arT rfl) (inT rfl) (szT rfl) agId) ?_)); (first | refine xv (ex_pickT (ev_at rfl) (ev_at rfl)) ?_ | refine xv (ex_pickF (ev_at rfl) (ev_const _ _)) ?_ | refine xv (ex_pickAnd (ev_at rfl) (ev_at rfl) (ev_const _ _)) ?_); refine xv (ex_move (ev_at rfl)) ?_; (first | refine wl_skip rfl rfl (by simp only [lset] <;> rfl) ?_ | (refine xv (ex_move (ev_at rfl)) ?_)); (first | refine wl_skip rfl rfl (by simp only [lset] <;> rfl) ?_ | (refine wl_of rfl (wp_callL (cbT rfl) (EvL.c (ev_at rfl) EvL.n) ?_); refine (spBytes_ct hS.swap).mono ?_; rintro e w ⟨rfl, hS⟩; refine ⟨_, rfl, wl_put (by simp only [lset] <;> rfl) ?_⟩)); (first | refine wl_skip rfl rfl (by simp only [lset] <;> rfl) ?_ | (refine xv (ex_cmp (ev_at rfl) (ev_const _ _) (by first | exact eqlT (by omega) | exact eqlF (by omega) | rfl)) ?_)); (first | refine xv (ex_pickT (ev_at rfl) (ev_at rfl)) ?_ | refine xv (ex_pickF (ev_at rfl) (ev_const _ _)) ?_ | refine xv (ex_pickAnd (ev_at rfl) (ev_at rfl) (ev_const _ _)) ?_); refine xv (ex_assign (ev_at rfl)) ?_; refine wl_nil ?_)
    | ((fail_if_success (with_reducible apply wp_region_plain)); (fail_if_success (with_reducible apply wp_region_GS)); go_step))
  refine end1 (by first | exact .inl rfl | exact .inr rfl) rfl (ResL.rt rfl ResL.rn) ?_
  exact ⟨rfl, hS.drop.drop⟩
end
end Go.Proofs.Try
