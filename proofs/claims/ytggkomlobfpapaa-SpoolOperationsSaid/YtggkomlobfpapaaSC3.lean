/- Spools: contracts (3): entries, Oldest. -/
import Derived.Test.YtggkomlobfpapaaSC2
import Derived.Test.YtggkomlobfpapaaSrt3
namespace Go.Proofs.Try
open Go.RowKit Go.SL Go.SS Go.SP
set_option maxRecDepth 100000
set_option linter.unusedSimpArgs false
set_option linter.unusedVariables false
section
variable {w : World} {I : Gh} {L : List Ch}
theorem find_at {l : List Art} (hn : (l.map (·.id)).Nodup) {i : Nat} {a : Art} (h : l[i]? = some a) : (l.find? fun b => decide (b.id = a.id)) = some a := by
  induction l generalizing i with
  | nil => simp at h
  | cons b l ih =>
    simp only [List.map_cons, List.nodup_cons] at hn
    cases i with
    | zero => simp at h; subst h; simp
    | succ i =>
      simp at h
      have hne : b.id ≠ a.id := fun e => hn.1 (by rw [e]; exact List.mem_map.2 ⟨a, List.mem_of_getElem? h, rfl⟩)
      rw [List.find?_cons, decide_eq_false hne]
      exact ih hn.2 h
set_option maxHeartbeats 8000000 in
theorem entries_ct {b : Nat} {s : SpS} (hs : SpOk s) (hS : Sat w I (SpC b s :: L)) :
    Calls Try.prog 38 #[.pointer (some ⟨b, 0, none⟩)] w fun e w' => ∃ u, e = .returned u ∧ IsSl u s.arts.length ∧ Sat w' I (Row u 44 34 s.arts.length (flatE entC s.arts) :: SpC b s :: L) := by
  obtain ⟨m, ov, kv, hp, hS⟩ := sp_open hS
  have hoi := (hS.rowH (v := ov)).1
  have hln := hs.len
  go_enter Try.func38, Try.ntmps38
  repeat' (first
    | ((with_reducible apply wp_region_plain (id := 0)); refine xv (ex_assign (ev_const _ _)) ?_; refine wl_nil ?_)
    | ((with_reducible apply wp_region_plain (id := 1)); refine xv (ex_assign (ev_const _ _)) ?_; refine wl_nil ?_)
    | ((with_reducible apply wp_region_plain (id := 2)); refine xv (ex_move (ev_at rfl)) ?_; (first | refine xv (ex_eqlPtrS (ev_at rfl) (ev_const _ _) (unT rfl)) ?_ | refine xv (ex_eqlPtrN (ev_at rfl) (ev_const _ _) (unT rfl)) ?_ | refine xv (ex_eqlPtr (ev_at rfl) (ev_const _ _) (unT rfl)) ?_); refine wl_nil ?_)
    | ((with_reducible apply wp_region_plain (id := 3)); refine xv (ex_move (ev_at rfl)) ?_; refine xv (ex_assign (ev_at rfl)) ?_; refine wl_nil ?_)
    | ((with_reducible apply wp_region_plain (id := 4)); refine xv (ex_move (ev_at rfl)) ?_; (first | refine xv (ex_nilCheck (ev_at rfl)) ?_ | refine xv (ex_nilCheckF (ev_at rfl)) ?_); (first | refine xv (ex_fa (ev_at rfl) (flT rfl)) ?_ | refine xv (ex_faE (ev_at rfl) (flT rfl) (by assumption) (by assumption)) ?_); refine xv (ex_load (ev_at rfl) (ld1 hS (kdT rfl) rfl)) ?_; refine xv (ex_len (ev_at rfl) (slT rfl) (by first | assumption | exact IsSl.nil)) ?_; refine xv (ex_move (ev_const _ _)) ?_; refine wl_nil ?_)
    | ((with_reducible apply wp_region_plain (id := 5)); refine xv (ex_cmp (ev_at rfl) (ev_at rfl) (by first | exact lssT (by omega) | exact lssF (by omega) | rfl)) ?_; refine wl_nil ?_)
    | ((with_reducible apply wp_region_plain (id := 6)); (first | refine xv (ex_iaN (ev_at rfl) (ev_at rfl) (slT rfl) (szT rfl) (by first | assumption | exact IsSl.nil) (by omega)) ?_ | refine xv (ex_ia (ev_at rfl) (ev_at rfl) (slT rfl) (szT rfl) (by first | assumption | exact IsSl.nil) (by omega) (by omega)) ?_); refine xv (ex_load (ev_at rfl) (ldN hS (kdT rfl) (szT rfl) rfl)) ?_; refine wl_of rfl (wp_alloc hS (zeT rfl) fun b5 w hS => wl_put (by simp only [lset] <;> rfl) ?_); refine wl_of rfl (wp_storeN (ev_at rfl) (ev_at rfl) hS (szT rfl) rfl (by first | rfl | assumption | (simp only [sub, splice, List.take_succ_cons, List.take_zero, List.drop_succ_cons, List.drop_zero, List.nil_append, List.cons_append, List.length_cons, List.length_nil, Nat.reduceAdd, List.all_cons, List.all_nil, Bool.and_eq_true, Bool.and_true]; ((repeat' apply And.intro) <;> first | rfl | assumption | exact IsSl.one (by assumption)))) fun w hS => wl_put0 ?_); refine wl_nil ?_; (try simp only [lset, splice, sub, List.take_succ_cons, List.take_zero, List.drop_succ_cons, List.drop_zero, List.nil_append, List.cons_append, List.length_cons, List.length_nil, Nat.reduceAdd, Nat.zero_add, rep_zero] at hS))
    | ((with_reducible apply wp_region_plain (id := 7)); refine xv (ex_move (ev_at rfl)) ?_; refine xv (ex_load (ev_at rfl) (ldN hS (kdT rfl) (szT rfl) rfl)) ?_; fail "no contract for (*bulletin/spool.Spool).Entry (25)"; refine xv (ex_move (ev_at rfl)) ?_; refine xv (ex_extract (ev_at rfl) rfl) ?_; refine xv (ex_extract (ev_at rfl) rfl) ?_; refine wl_of rfl (wp_alloc hS (zeT rfl) fun b6 w hS => wl_put (by simp only [lset] <;> rfl) ?_); refine wl_of rfl (wp_storeN (ev_at rfl) (ev_at rfl) hS (szT rfl) rfl (by first | rfl | assumption | (simp only [sub, splice, List.take_succ_cons, List.take_zero, List.drop_succ_cons, List.drop_zero, List.nil_append, List.cons_append, List.length_cons, List.length_nil, Nat.reduceAdd, List.all_cons, List.all_nil, Bool.and_eq_true, Bool.and_true]; ((repeat' apply And.intro) <;> first | rfl | assumption | exact IsSl.one (by assumption)))) fun w hS => wl_put0 ?_); refine xv (ex_assign (ev_at rfl)) ?_; refine wl_nil ?_; (try simp only [lset, splice, sub, List.take_succ_cons, List.take_zero, List.drop_succ_cons, List.drop_zero, List.nil_append, List.cons_append, List.length_cons, List.length_nil, Nat.reduceAdd, Nat.zero_add, rep_zero] at hS))
    | ((with_reducible apply wp_region_plain (id := 8)); refine xv (ex_move (ev_at rfl)) ?_; refine xv (ex_load (ev_at rfl) (ldN hS (kdT rfl) (szT rfl) rfl)) ?_; refine wl_of rfl (wp_buildSlice (slT rfl) (szT rfl) (zeT rfl) (fillsOneN (ev_at rfl) rfl rfl) hS rfl (by first | rfl | assumption | (simp only [sub, splice, List.take_succ_cons, List.take_zero, List.drop_succ_cons, List.drop_zero, List.nil_append, List.cons_append, List.length_cons, List.length_nil, Nat.reduceAdd, List.all_cons, List.all_nil, Bool.and_eq_true, Bool.and_true]; ((repeat' apply And.intro) <;> first | rfl | assumption | exact IsSl.one (by assumption)))) fun b28 w hS => wl_put (by simp only [lset] <;> rfl) ?_); refine wl_of rfl (wp_append1 (ev_at rfl) (ev_at rfl) (slT rfl) (szT rfl) (byT rfl) (zeT rfl) hS (by omega) (by omega) rfl fun v29 w hS hv29 => wl_put (by simp only [lset] <;> rfl) ?_); refine xv (ex_assign (ev_at rfl)) ?_; refine wl_nil ?_; (try simp only [lset, splice, sub, List.take_succ_cons, List.take_zero, List.drop_succ_cons, List.drop_zero, List.nil_append, List.cons_append, List.length_cons, List.length_nil, Nat.reduceAdd, Nat.zero_add, rep_zero] at hS))
    | ((with_reducible apply wp_region_plain (id := 9)); refine xv (ex_arith (ev_at rfl) (ev_const _ _) rfl (by first | exact IntWalk.i64_in _ (by omega) | rfl)) ?_; refine xv (ex_move (ev_at rfl)) ?_; refine wl_nil ?_)
    | ((with_reducible apply wp_region_plain (id := 10)); refine xv (ex_move (ev_at rfl)) ?_; refine xv (ex_assign (ev_at rfl)) ?_; refine wl_nil ?_)
    | ((fail_if_success (with_reducible apply wp_region_plain)); (fail_if_success (with_reducible apply wp_region_GS)); go_step))
  have hS := (shut_x hS).nilRow 44 34
  refine wp_loopM [false, false, false, true, false, true, true, true, false, false, false, false, false, false, false, false, true, true, true, true, true, true, true, true, true, true, true, true, true, true, true] (fun n f w => ∃ (i : Nat) (u : Value), n = s.arts.length - i ∧ f 3 = u ∧ f 16 = .int .i64 i ∧ i ≤ s.arts.length ∧ Sat w I (Row u 44 34 i (flatE entC (s.arts.take i)) :: SpX b s m ov kv :: L)) rfl s.arts.length ⟨0, .slice none 0 0, rfl, rfl, rfl, by omega, by simpa [flatE] using hS⟩ ?_
  clear hS
  rintro n f w ⟨i, u, rfl, h3, h16, hi, hS⟩
  simp only [havoc, Nat.reduceAdd, h3, h16]
  have hui := (hS.rowH (v := u)).1
  by_cases hlt : i < s.arts.length
  case neg =>
    have : i = s.arts.length := by omega
    subst this
    repeat' (first
      | ((with_reducible apply wp_region_plain (id := 0)); refine xv (ex_assign (ev_const _ _)) ?_; refine wl_nil ?_)
      | ((with_reducible apply wp_region_plain (id := 1)); refine xv (ex_assign (ev_const _ _)) ?_; refine wl_nil ?_)
      | ((with_reducible apply wp_region_plain (id := 2)); refine xv (ex_move (ev_at rfl)) ?_; (first | refine xv (ex_eqlPtrS (ev_at rfl) (ev_const _ _) (unT rfl)) ?_ | refine xv (ex_eqlPtrN (ev_at rfl) (ev_const _ _) (unT rfl)) ?_ | refine xv (ex_eqlPtr (ev_at rfl) (ev_const _ _) (unT rfl)) ?_); refine wl_nil ?_)
      | ((with_reducible apply wp_region_plain (id := 3)); refine xv (ex_move (ev_at rfl)) ?_; refine xv (ex_assign (ev_at rfl)) ?_; refine wl_nil ?_)
      | ((with_reducible apply wp_region_plain (id := 4)); refine xv (ex_move (ev_at rfl)) ?_; (first | refine xv (ex_nilCheck (ev_at rfl)) ?_ | refine xv (ex_nilCheckF (ev_at rfl)) ?_); (first | refine xv (ex_fa (ev_at rfl) (flT rfl)) ?_ | refine xv (ex_faE (ev_at rfl) (flT rfl) (by assumption) (by assumption)) ?_); refine xv (ex_load (ev_at rfl) (ld1 hS (kdT rfl) rfl)) ?_; refine xv (ex_len (ev_at rfl) (slT rfl) (by first | assumption | exact IsSl.nil)) ?_; refine xv (ex_move (ev_const _ _)) ?_; refine wl_nil ?_)
      | ((with_reducible apply wp_region_plain (id := 5)); refine xv (ex_cmp (ev_at rfl) (ev_at rfl) (by first | exact lssT (by omega) | exact lssF (by omega) | rfl)) ?_; refine wl_nil ?_)
      | ((with_reducible apply wp_region_plain (id := 6)); (first | refine xv (ex_iaN (ev_at rfl) (ev_at rfl) (slT rfl) (szT rfl) (by first | assumption | exact IsSl.nil) (by omega)) ?_ | refine xv (ex_ia (ev_at rfl) (ev_at rfl) (slT rfl) (szT rfl) (by first | assumption | exact IsSl.nil) (by omega) (by omega)) ?_); refine xv (ex_load (ev_at rfl) (ldN hS (kdT rfl) (szT rfl) rfl)) ?_; refine wl_of rfl (wp_alloc hS (zeT rfl) fun b5 w hS => wl_put (by simp only [lset] <;> rfl) ?_); refine wl_of rfl (wp_storeN (ev_at rfl) (ev_at rfl) hS (szT rfl) rfl (by first | rfl | assumption | (simp only [sub, splice, List.take_succ_cons, List.take_zero, List.drop_succ_cons, List.drop_zero, List.nil_append, List.cons_append, List.length_cons, List.length_nil, Nat.reduceAdd, List.all_cons, List.all_nil, Bool.and_eq_true, Bool.and_true]; ((repeat' apply And.intro) <;> first | rfl | assumption | exact IsSl.one (by assumption)))) fun w hS => wl_put0 ?_); refine wl_nil ?_; (try simp only [lset, splice, sub, List.take_succ_cons, List.take_zero, List.drop_succ_cons, List.drop_zero, List.nil_append, List.cons_append, List.length_cons, List.length_nil, Nat.reduceAdd, Nat.zero_add, rep_zero] at hS))
      | ((with_reducible apply wp_region_plain (id := 7)); refine xv (ex_move (ev_at rfl)) ?_; refine xv (ex_load (ev_at rfl) (ldN hS (kdT rfl) (szT rfl) rfl)) ?_; fail "no contract for (*bulletin/spool.Spool).Entry (25)"; refine xv (ex_move (ev_at rfl)) ?_; refine xv (ex_extract (ev_at rfl) rfl) ?_; refine xv (ex_extract (ev_at rfl) rfl) ?_; refine wl_of rfl (wp_alloc hS (zeT rfl) fun b6 w hS => wl_put (by simp only [lset] <;> rfl) ?_); refine wl_of rfl (wp_storeN (ev_at rfl) (ev_at rfl) hS (szT rfl) rfl (by first | rfl | assumption | (simp only [sub, splice, List.take_succ_cons, List.take_zero, List.drop_succ_cons, List.drop_zero, List.nil_append, List.cons_append, List.length_cons, List.length_nil, Nat.reduceAdd, List.all_cons, List.all_nil, Bool.and_eq_true, Bool.and_true]; ((repeat' apply And.intro) <;> first | rfl | assumption | exact IsSl.one (by assumption)))) fun w hS => wl_put0 ?_); refine xv (ex_assign (ev_at rfl)) ?_; refine wl_nil ?_; (try simp only [lset, splice, sub, List.take_succ_cons, List.take_zero, List.drop_succ_cons, List.drop_zero, List.nil_append, List.cons_append, List.length_cons, List.length_nil, Nat.reduceAdd, Nat.zero_add, rep_zero] at hS))
      | ((with_reducible apply wp_region_plain (id := 8)); refine xv (ex_move (ev_at rfl)) ?_; refine xv (ex_load (ev_at rfl) (ldN hS (kdT rfl) (szT rfl) rfl)) ?_; refine wl_of rfl (wp_buildSlice (slT rfl) (szT rfl) (zeT rfl) (fillsOneN (ev_at rfl) rfl rfl) hS rfl (by first | rfl | assumption | (simp only [sub, splice, List.take_succ_cons, List.take_zero, List.drop_succ_cons, List.drop_zero, List.nil_append, List.cons_append, List.length_cons, List.length_nil, Nat.reduceAdd, List.all_cons, List.all_nil, Bool.and_eq_true, Bool.and_true]; ((repeat' apply And.intro) <;> first | rfl | assumption | exact IsSl.one (by assumption)))) fun b28 w hS => wl_put (by simp only [lset] <;> rfl) ?_); refine wl_of rfl (wp_append1 (ev_at rfl) (ev_at rfl) (slT rfl) (szT rfl) (byT rfl) (zeT rfl) hS (by omega) (by omega) rfl fun v29 w hS hv29 => wl_put (by simp only [lset] <;> rfl) ?_); refine xv (ex_assign (ev_at rfl)) ?_; refine wl_nil ?_; (try simp only [lset, splice, sub, List.take_succ_cons, List.take_zero, List.drop_succ_cons, List.drop_zero, List.nil_append, List.cons_append, List.length_cons, List.length_nil, Nat.reduceAdd, Nat.zero_add, rep_zero] at hS))
      | ((with_reducible apply wp_region_plain (id := 9)); refine xv (ex_arith (ev_at rfl) (ev_const _ _) rfl (by first | exact IntWalk.i64_in _ (by omega) | rfl)) ?_; refine xv (ex_move (ev_at rfl)) ?_; refine wl_nil ?_)
      | ((with_reducible apply wp_region_plain (id := 10)); refine xv (ex_move (ev_at rfl)) ?_; refine xv (ex_assign (ev_at rfl)) ?_; refine wl_nil ?_)
      | ((fail_if_success (with_reducible apply wp_region_plain)); (fail_if_success (with_reducible apply wp_region_GS)); go_step))
    refine end1 (by first | exact .inl rfl | exact .inr rfl) rfl (ResL.rt rfl ResL.rn) ?_
    rw [List.take_length] at hS
    exact ⟨u, rfl, hui, (x_sp hp hS.swap).swap⟩
  have hg : s.arts[i]? = some s.arts[i] := List.getElem?_eq_getElem hlt
  have htk : s.arts.take (i + 1) = s.arts.take i ++ [s.arts[i]] := by rw [List.take_add_one, hg]; rfl
  generalize s.arts[i] = x at hg htk
  have hfd : s.find x.id = some x := find_at hs.nodup hg
  have hgi : (s.arts.map (·.id))[i]? = some x.id := by rw [List.getElem?_map, hg]; rfl
  have hic := idC_len x.id
  have hel : (entC x).length = 34 := elEnt.len x
  have heo : (entC x).all Value.oneCell' = true := by rw [List.all_eq_true]; exact fun v hv => elEnt.oc x v hv
  have hen := fun (w : World) (L2 : List Ch) hS => spEntryX_ct (w := w) (I := I) (L := L2) (b := b) (s := s) (m := m) (ov := ov) hp x.id x hfd hS
  rw [idV_def] at hen
  have hS := open_x hS.swap
  repeat' (first
    | ((with_reducible apply wp_region_plain (id := 0)); refine xv (ex_assign (ev_const _ _)) ?_; refine wl_nil ?_)
    | ((with_reducible apply wp_region_plain (id := 1)); refine xv (ex_assign (ev_const _ _)) ?_; refine wl_nil ?_)
    | ((with_reducible apply wp_region_plain (id := 2)); refine xv (ex_move (ev_at rfl)) ?_; (first | refine xv (ex_eqlPtrS (ev_at rfl) (ev_const _ _) (unT rfl)) ?_ | refine xv (ex_eqlPtrN (ev_at rfl) (ev_const _ _) (unT rfl)) ?_ | refine xv (ex_eqlPtr (ev_at rfl) (ev_const _ _) (unT rfl)) ?_); refine wl_nil ?_)
    | ((with_reducible apply wp_region_plain (id := 3)); refine xv (ex_move (ev_at rfl)) ?_; refine xv (ex_assign (ev_at rfl)) ?_; refine wl_nil ?_)
    | ((with_reducible apply wp_region_plain (id := 4)); refine xv (ex_move (ev_at rfl)) ?_; (first | refine xv (ex_nilCheck (ev_at rfl)) ?_ | refine xv (ex_nilCheckF (ev_at rfl)) ?_); (first | refine xv (ex_fa (ev_at rfl) (flT rfl)) ?_ | refine xv (ex_faE (ev_at rfl) (flT rfl) (by assumption) (by assumption)) ?_); refine xv (ex_load (ev_at rfl) (ld1 hS (kdT rfl) rfl)) ?_; refine xv (ex_len (ev_at rfl) (slT rfl) (by first | assumption | exact IsSl.nil)) ?_; refine xv (ex_move (ev_const _ _)) ?_; refine wl_nil ?_)
    | ((with_reducible apply wp_region_plain (id := 5)); refine xv (ex_cmp (ev_at rfl) (ev_at rfl) (by first | exact lssT (by omega) | exact lssF (by omega) | rfl)) ?_; refine wl_nil ?_)
    | ((with_reducible apply wp_region_plain (id := 6)); (first | refine xv (ex_iaN (ev_at rfl) (ev_at rfl) (slT rfl) (szT rfl) (by first | assumption | exact IsSl.nil) (by omega)) ?_ | refine xv (ex_ia (ev_at rfl) (ev_at rfl) (slT rfl) (szT rfl) (by first | assumption | exact IsSl.nil) (by omega) (by omega)) ?_); refine xv (ex_load (ev_at rfl) (ldEl elId ((hS.rowH (v := ov)).2.2.1) hoi (i := i) hlt hgi (kdT rfl) (szT rfl))) ?_; refine wl_of rfl (wp_alloc hS (zeT rfl) fun b5 w hS => wl_put (by simp only [lset] <;> rfl) ?_); refine wl_of rfl (wp_storeW (vs := idC x.id) (ev_at rfl) (ev_at rfl) hS (szT rfl) hic rfl (elId.oc x.id) fun w hS => wl_put0 ?_); refine wl_nil ?_; (try simp only [lset, splice, sub, List.take_succ_cons, List.take_zero, List.drop_succ_cons, List.drop_zero, List.nil_append, List.cons_append, List.length_cons, List.length_nil, Nat.reduceAdd, Nat.zero_add, rep_zero] at hS))
    | ((fail_if_success (with_reducible apply wp_region_plain)); (fail_if_success (with_reducible apply wp_region_GS)); go_step))
  have hS := shut_x hS.dn3
  repeat' (first
    | ((with_reducible apply wp_region_plain (id := 0)); refine xv (ex_assign (ev_const _ _)) ?_; refine wl_nil ?_)
    | ((with_reducible apply wp_region_plain (id := 1)); refine xv (ex_assign (ev_const _ _)) ?_; refine wl_nil ?_)
    | ((with_reducible apply wp_region_plain (id := 2)); refine xv (ex_move (ev_at rfl)) ?_; (first | refine xv (ex_eqlPtrS (ev_at rfl) (ev_const _ _) (unT rfl)) ?_ | refine xv (ex_eqlPtrN (ev_at rfl) (ev_const _ _) (unT rfl)) ?_ | refine xv (ex_eqlPtr (ev_at rfl) (ev_const _ _) (unT rfl)) ?_); refine wl_nil ?_)
    | ((with_reducible apply wp_region_plain (id := 3)); refine xv (ex_move (ev_at rfl)) ?_; refine xv (ex_assign (ev_at rfl)) ?_; refine wl_nil ?_)
    | ((with_reducible apply wp_region_plain (id := 7)); refine xv (ex_move (ev_at rfl)) ?_; refine xv (ex_load (ev_at rfl) (ldW hS (kdT rfl) (szT rfl) hic)) ?_; refine wl_of rfl (wp_callL (cbT rfl) (EvL.c (ev_at rfl) (EvL.c (ev_at rfl) EvL.n)) ?_); refine (hen _ _ hS).mono ?_; rintro e w ⟨rfl, hS⟩; refine ⟨_, rfl, wl_put (by simp only [lset] <;> rfl) ?_⟩; refine xv (ex_move (ev_at rfl)) ?_; refine xv (ex_extract (ev_at rfl) rfl) ?_; refine xv (ex_extract (ev_at rfl) rfl) ?_; refine wl_of rfl (wp_alloc hS (zeT rfl) fun b6 w hS => wl_put (by simp only [lset] <;> rfl) ?_); refine wl_of rfl (wp_storeW (vs := entC x) (ev_at rfl) (ev_at rfl) hS (szT rfl) hel rfl (elEnt.oc x) fun w hS => wl_put0 ?_); refine xv (ex_assign (ev_at rfl)) ?_; refine wl_nil ?_; (try simp only [lset, splice, sub, List.take_succ_cons, List.take_zero, List.drop_succ_cons, List.drop_zero, List.nil_append, List.cons_append, List.length_cons, List.length_nil, Nat.reduceAdd, Nat.zero_add, rep_zero] at hS))
    | ((with_reducible apply wp_region_plain (id := 8)); refine xv (ex_move (ev_at rfl)) ?_; refine xv (ex_load (ev_at rfl) (ldW hS (kdT rfl) (szT rfl) hel)) ?_; refine wl_of rfl (wp_buildSlice (slT rfl) (szT rfl) (zeT rfl) (fillsOneN (ev_at rfl) hel rfl) hS (by simpa using hel) heo fun b28 w hS => wl_put (by simp only [lset] <;> rfl) ?_); refine wl_of rfl (wp_append1 (ev_at rfl) (ev_at rfl) (slT rfl) (szT rfl) (byT rfl) (zeT rfl) hS (by omega) (by omega) rfl fun v29 w hS hv29 => wl_put (by simp only [lset] <;> rfl) ?_); refine xv (ex_assign (ev_at rfl)) ?_; refine wl_nil ?_; (try simp only [lset, splice, sub, List.take_succ_cons, List.take_zero, List.drop_succ_cons, List.drop_zero, List.nil_append, List.cons_append, List.length_cons, List.length_nil, Nat.reduceAdd, Nat.zero_add, rep_zero] at hS))
    | ((with_reducible apply wp_region_plain (id := 9)); refine xv (ex_arith (ev_at rfl) (ev_const _ _) rfl (by first | exact IntWalk.i64_in _ (by omega) | rfl)) ?_; refine xv (ex_move (ev_at rfl)) ?_; refine wl_nil ?_)
    | ((fail_if_success (with_reducible apply wp_region_plain)); (fail_if_success (with_reducible apply wp_region_GS)); go_step))
  have e1 : flatE entC (s.arts.take i) ++ entC x = flatE entC (s.arts.take (i + 1)) := by rw [htk]; simp [flatE]
  rw [e1] at hS
  exact loopEndM rfl (s.arts.length - (i + 1)) ⟨i + 1, _, rfl, rfl, rfl, by omega, hS.drop.del1.swap⟩ (by omega)
abbrev ArtT := {a : Art // 0 ≤ a.min ∧ a.min ≤ 105190559}
def entT (a : ArtT) : List Value := entC a.1
def lessT (a b : ArtT) : Bool := less a.1 b.1
theorem elT : ElT entT 34 := ⟨fun a => elEnt.len a.1, fun a => elEnt.oc a.1⟩
theorem lessT_ord : Ord lessT := ⟨fun x y z => less_ord.trans x.1 y.1 z.1, fun x y => less_ord.asymm x.1 y.1⟩
theorem toT : ∀ (l : List Art), (∀ a ∈ l, ArtOk a) → ∃ l' : List ArtT, l'.map (·.1) = l
  | [], _ => ⟨[], rfl⟩
  | a :: l, h => by
    obtain ⟨l', hl⟩ := toT l (fun b hb => h b (by simp [hb]))
    exact ⟨⟨a, (h a (by simp)).m1, (h a (by simp)).m2⟩ :: l', by simp [hl]⟩
theorem flatT (l : List ArtT) : flatE entT l = flatE entC (l.map (·.1)) := by
  induction l with
  | nil => rfl
  | cons a l ih => simp only [flatE, List.flatMap_cons, List.map_cons] at ih ⊢; rw [ih]; rfl
theorem entGet (a : Art) : (entC a)[32]? = some (.int .i64 a.min) ∧ (entC a)[33]? = some (.int .i64 a.text.length) := by
  have h := idC_len a.id
  unfold entC
  constructor
  · rw [List.getElem?_append_right (by omega), h]; rfl
  · rw [List.getElem?_append_right (by omega), h]; rfl
theorem cmpOldest : CmpOk I L 42 [] entT lessT := by
  intro x y w X hS
  have h1 := x.2
  have h2 := y.2
  have g1 := (entGet x.1).1
  have g2 := (entGet y.1).1
  unfold entT
  go_enter Try.func42, Try.ntmps42
  repeat' (first
    | ((with_reducible apply wp_region_plain (id := 0)); refine wl_of rfl (wp_boxN (ev_at rfl) hS fun b2 w hS => wl_put (by simp only [lset] <;> rfl) ?_); refine wl_of rfl (wp_boxN (ev_at rfl) hS fun b3 w hS => wl_put (by simp only [lset] <;> rfl) ?_); refine xv (ex_assign (ev_const _ _)) ?_; refine wl_nil ?_)
    | ((with_reducible apply wp_region_plain (id := 1)); (first | refine xv (ex_fa (ev_at rfl) (flT rfl)) ?_ | refine xv (ex_faE (ev_at rfl) (flT rfl) (by assumption) (by assumption)) ?_); refine xv (ex_load (ev_at rfl) (ld1 (v := .int .i64 x.1.min) hS (kdT rfl) g1)) ?_; (first | refine xv (ex_fa (ev_at rfl) (flT rfl)) ?_ | refine xv (ex_faE (ev_at rfl) (flT rfl) (by assumption) (by assumption)) ?_); refine xv (ex_load (ev_at rfl) (ld1 (v := .int .i64 y.1.min) hS (kdT rfl) g2)) ?_; refine xv (ex_arith (ev_at rfl) (ev_at rfl) rfl (by first | exact IntWalk.i64_in _ (by omega) | rfl)) ?_; refine xv (ex_assign (ev_at rfl)) ?_; refine wl_nil ?_)
    | ((fail_if_success (with_reducible apply wp_region_plain)); (fail_if_success (with_reducible apply wp_region_GS)); go_step))
  refine end1 (by first | exact .inl rfl | exact .inr rfl) rfl (ResL.rt rfl ResL.rn) ?_
  exact ⟨_, rfl, by simp only [lessT, less, decide_eq_true_eq]; omega, hS.drop.drop⟩
end
end Go.Proofs.Try
