/- The device: contracts of its methods (2). -/
import Derived.Test.YthbakafjhgcieaaDC1
namespace Go.Proofs.Try
open Go.RowKit Go.SL Go.DK
set_option maxRecDepth 100000
set_option linter.unusedSimpArgs false
set_option linter.unusedVariables false
section
variable {w : World} {I : Gh} {L : List Ch}
theorem has_t (b : Nat) (s n : Int) (m pv ops lm lt dn : Value) (h : 0 ≤ n ∧ n < s) (hS : Sat w I (Cells b 71 [.int .i64 s, m, pv, ops, lm, lt, dn] :: L)) :
    Calls Try.prog 32 #[.pointer (some ⟨b, 0, none⟩), .int .i64 n] w fun e w' => e = .returned (.bool true) ∧ Sat w' I (Cells b 71 [.int .i64 s, m, pv, ops, lm, lt, dn] :: L) := by
  have := has_ct b s n m pv ops lm lt dn hS
  simpa [h] using this
theorem has_f (b : Nat) (s n : Int) (m pv ops lm lt dn : Value) (h : ¬ (0 ≤ n ∧ n < s)) (hS : Sat w I (Cells b 71 [.int .i64 s, m, pv, ops, lm, lt, dn] :: L)) :
    Calls Try.prog 32 #[.pointer (some ⟨b, 0, none⟩), .int .i64 n] w fun e w' => e = .returned (.bool false) ∧ Sat w' I (Cells b 71 [.int .i64 s, m, pv, ops, lm, lt, dn] :: L) := by
  have := has_ct b s n m pv ops lm lt dn hS
  rw [decide_eq_false h] at this
  exact this
set_option maxHeartbeats 400000 in
theorem new_ok (n : Int) (h : 1 ≤ n ∧ n ≤ 4096) (hS : Sat w I L) :
    Calls Try.prog 10 #[.int .i64 n] w fun e w' => ∃ b, e = .returned (.tuple #[.pointer (some ⟨b, 0, none⟩), .int .i64 0]) ∧ Sat w' I (DiskC b (DS.new n) :: L) := by
  obtain ⟨h1, h2⟩ := h
  go_enter Try.func10, Try.ntmps10
  repeat' (first
    | ((with_reducible apply wp_region_plain (id := 0)); refine xv (ex_assign (ev_const _ _)) ?_; refine xv (ex_assign (ev_const _ _)) ?_; refine wl_nil ?_)
    | ((with_reducible apply wp_region_plain (id := 1)); refine xv (ex_move (ev_at rfl)) ?_; refine xv (ex_cmp (ev_at rfl) (ev_const _ _) (by first | exact lssT (by omega) | exact lssF (by omega) | rfl)) ?_; refine xv (ex_move (ev_at rfl)) ?_; (first | refine wl_skip rfl rfl (by simp only [lset] <;> rfl) ?_ | (refine xv (ex_move (ev_at rfl)) ?_)); (first | refine wl_skip rfl rfl (by simp only [lset] <;> rfl) ?_ | (refine xv (ex_cmp (ev_at rfl) (ev_const _ _) (by first | exact gtrT (by omega) | exact gtrF (by omega) | rfl)) ?_)); (first | refine xv (ex_pickT (ev_at rfl) (ev_const _ _)) ?_ | refine xv (ex_pickF (ev_at rfl) (ev_at rfl)) ?_ | refine xv (ex_pickOr (ev_at rfl) (ev_const _ _) (ev_at rfl)) ?_); refine wl_nil ?_)
    | ((with_reducible apply wp_region_plain (id := 3)); refine xv (ex_move (ev_at rfl)) ?_; refine wl_of rfl (wp_makeMap hS fun b11 w hS => wl_put (by simp only [lset] <;> rfl) ?_); refine xv (ex_buildS (plT rfl) (zeT rfl) (Fills.cons rfl (ev_at rfl) (by first | exact IsSl.cellsL (by assumption) | exact cellsL1 rfl | rfl) rfl rfl (Fills.cons rfl (ev_at rfl) (by first | exact IsSl.cellsL (by assumption) | exact cellsL1 rfl | rfl) rfl rfl Fills.nil))) ?_; refine wl_of rfl (wp_boxN (ev_at rfl) hS fun b13 w hS => wl_put (by simp only [lset] <;> rfl) ?_); refine xv (ex_assign (ev_at rfl)) ?_; refine xv (ex_assign (ev_const _ _)) ?_; refine wl_nil ?_)
    | ((fail_if_success (with_reducible apply wp_region_plain)); (fail_if_success (with_reducible apply wp_region_GS)); go_step))
  refine endN (by first | exact .inl rfl | exact .inr rfl) rfl (ResL.rt rfl (ResL.rt rfl ResL.rn)) rfl ?_
  exact ⟨b13, rfl, disk_shut (D := DS.new n) (m := b11) (hS.nilRow 75 257).rot3⟩
set_option maxHeartbeats 400000 in
theorem new_no (n : Int) (h : ¬ (1 ≤ n ∧ n ≤ 4096)) (hS : Sat w I L) :
    Calls Try.prog 10 #[.int .i64 n] w fun e w' => e = .returned (.tuple #[.pointer none, .int .i64 2]) ∧ Sat w' I L := by
  by_cases h1 : n < 1
  all_goals
    have h3 : n < 1 ∨ 4096 < n := by omega
    go_enter Try.func10, Try.ntmps10
    repeat' (first
      | ((with_reducible apply wp_region_plain (id := 0)); refine xv (ex_assign (ev_const _ _)) ?_; refine xv (ex_assign (ev_const _ _)) ?_; refine wl_nil ?_)
      | ((with_reducible apply wp_region_plain (id := 1)); refine xv (ex_move (ev_at rfl)) ?_; refine xv (ex_cmp (ev_at rfl) (ev_const _ _) (by first | exact lssT (by omega) | exact lssF (by omega) | rfl)) ?_; refine xv (ex_move (ev_at rfl)) ?_; (first | refine wl_skip rfl rfl (by simp only [lset] <;> rfl) ?_ | (refine xv (ex_move (ev_at rfl)) ?_)); (first | refine wl_skip rfl rfl (by simp only [lset] <;> rfl) ?_ | (refine xv (ex_cmp (ev_at rfl) (ev_const _ _) (by first | exact gtrT (by omega) | exact gtrF (by omega) | rfl)) ?_)); (first | refine xv (ex_pickT (ev_at rfl) (ev_const _ _)) ?_ | refine xv (ex_pickF (ev_at rfl) (ev_at rfl)) ?_ | refine xv (ex_pickOr (ev_at rfl) (ev_const _ _) (ev_at rfl)) ?_); refine wl_nil ?_)
      | ((with_reducible apply wp_region_plain (id := 2)); refine xv (ex_assign (ev_const _ _)) ?_; refine xv (ex_assign (ev_const _ _)) ?_; refine wl_nil ?_)
      | ((fail_if_success (with_reducible apply wp_region_plain)); (fail_if_success (with_reducible apply wp_region_GS)); go_step))
    refine endN (by first | exact .inl rfl | exact .inr rfl) rfl (ResL.rt rfl (ResL.rt rfl ResL.rn)) rfl ?_
    exact ⟨rfl, hS⟩
set_option maxHeartbeats 400000 in
theorem sectors_ct {b : Nat} {D : DS} (hS : Sat w I (DiskC b D :: L)) :
    Calls Try.prog 11 #[.pointer (some ⟨b, 0, none⟩)] w fun e w' => e = .returned (.int .i64 D.n) ∧ Sat w' I (DiskC b D :: L) := by
  obtain ⟨m, pv, hS⟩ := disk_open hS
  go_enter Try.func11, Try.ntmps11
  repeat' (first
    | ((with_reducible apply wp_region_plain (id := 0)); refine xv (ex_assign (ev_const _ _)) ?_; refine wl_nil ?_)
    | ((with_reducible apply wp_region_plain (id := 1)); refine xv (ex_move (ev_at rfl)) ?_; (first | refine xv (ex_eqlPtrS (ev_at rfl) (ev_const _ _) (unT rfl)) ?_ | refine xv (ex_eqlPtrN (ev_at rfl) (ev_const _ _) (unT rfl)) ?_ | refine xv (ex_eqlPtr (ev_at rfl) (ev_const _ _) (unT rfl)) ?_); refine wl_nil ?_)
    | ((with_reducible apply wp_region_plain (id := 3)); refine xv (ex_move (ev_at rfl)) ?_; (first | refine xv (ex_nilCheck (ev_at rfl)) ?_ | refine xv (ex_nilCheckF (ev_at rfl)) ?_); (first | refine xv (ex_fa (ev_at rfl) (flT rfl)) ?_ | refine xv (ex_faE (ev_at rfl) (flT rfl) (by assumption) (by assumption)) ?_); refine xv (ex_load (ev_at rfl) (ld1 hS (kdT rfl) rfl)) ?_; refine xv (ex_assign (ev_at rfl)) ?_; refine wl_nil ?_)
    | ((fail_if_success (with_reducible apply wp_region_plain)); (fail_if_success (with_reducible apply wp_region_GS)); go_step))
  refine end1 (by first | exact .inl rfl | exact .inr rfl) rfl (ResL.rt rfl ResL.rn) ?_
  exact ⟨rfl, disk_shut hS⟩
set_option maxHeartbeats 400000 in
theorem operations_ct {b : Nat} {D : DS} (hS : Sat w I (DiskC b D :: L)) :
    Calls Try.prog 12 #[.pointer (some ⟨b, 0, none⟩)] w fun e w' => e = .returned (.int .i64 D.ops) ∧ Sat w' I (DiskC b D :: L) := by
  obtain ⟨m, pv, hS⟩ := disk_open hS
  go_enter Try.func12, Try.ntmps12
  repeat' (first
    | ((with_reducible apply wp_region_plain (id := 0)); refine xv (ex_assign (ev_const _ _)) ?_; refine wl_nil ?_)
    | ((with_reducible apply wp_region_plain (id := 1)); refine xv (ex_move (ev_at rfl)) ?_; (first | refine xv (ex_eqlPtrS (ev_at rfl) (ev_const _ _) (unT rfl)) ?_ | refine xv (ex_eqlPtrN (ev_at rfl) (ev_const _ _) (unT rfl)) ?_ | refine xv (ex_eqlPtr (ev_at rfl) (ev_const _ _) (unT rfl)) ?_); refine wl_nil ?_)
    | ((with_reducible apply wp_region_plain (id := 3)); refine xv (ex_move (ev_at rfl)) ?_; (first | refine xv (ex_nilCheck (ev_at rfl)) ?_ | refine xv (ex_nilCheckF (ev_at rfl)) ?_); (first | refine xv (ex_fa (ev_at rfl) (flT rfl)) ?_ | refine xv (ex_faE (ev_at rfl) (flT rfl) (by assumption) (by assumption)) ?_); refine xv (ex_load (ev_at rfl) (ld1 hS (kdT rfl) rfl)) ?_; refine xv (ex_assign (ev_at rfl)) ?_; refine wl_nil ?_)
    | ((fail_if_success (with_reducible apply wp_region_plain)); (fail_if_success (with_reducible apply wp_region_GS)); go_step))
  refine end1 (by first | exact .inl rfl | exact .inr rfl) rfl (ResL.rt rfl ResL.rn) ?_
  exact ⟨rfl, disk_shut hS⟩
set_option maxHeartbeats 400000 in
theorem down_ct {b : Nat} {D : DS} (hS : Sat w I (DiskC b D :: L)) :
    Calls Try.prog 13 #[.pointer (some ⟨b, 0, none⟩)] w fun e w' => e = .returned (.bool D.down) ∧ Sat w' I (DiskC b D :: L) := by
  obtain ⟨m, pv, hS⟩ := disk_open hS
  go_enter Try.func13, Try.ntmps13
  repeat' (first
    | ((with_reducible apply wp_region_plain (id := 0)); refine xv (ex_assign (ev_const _ _)) ?_; refine wl_nil ?_)
    | ((with_reducible apply wp_region_plain (id := 1)); refine xv (ex_move (ev_at rfl)) ?_; (first | refine xv (ex_neqPtrS (ev_at rfl) (ev_const _ _) (unT rfl)) ?_ | refine xv (ex_neqPtrN (ev_at rfl) (ev_const _ _) (unT rfl)) ?_ | refine xv (ex_neqPtr (ev_at rfl) (ev_const _ _) (unT rfl)) ?_); refine xv (ex_move (ev_at rfl)) ?_; (first | refine wl_skip rfl rfl (by simp only [lset] <;> rfl) ?_ | (refine xv (ex_move (ev_at rfl)) ?_)); (first | refine wl_skip rfl rfl (by simp only [lset] <;> rfl) ?_ | ((first | refine xv (ex_nilCheck (ev_at rfl)) ?_ | refine xv (ex_nilCheckF (ev_at rfl)) ?_))); (first | refine wl_skip rfl rfl (by simp only [lset] <;> rfl) ?_ | ((first | refine xv (ex_fa (ev_at rfl) (flT rfl)) ?_ | refine xv (ex_faE (ev_at rfl) (flT rfl) (by assumption) (by assumption)) ?_))); (first | refine wl_skip rfl rfl (by simp only [lset] <;> rfl) ?_ | (refine xv (ex_load (ev_at rfl) (ld1 hS (kdT rfl) rfl)) ?_)); (first | refine xv (ex_pickT (ev_at rfl) (ev_at rfl)) ?_ | refine xv (ex_pickF (ev_at rfl) (ev_const _ _)) ?_ | refine xv (ex_pickAnd (ev_at rfl) (ev_at rfl) (ev_const _ _)) ?_); refine xv (ex_assign (ev_at rfl)) ?_; refine wl_nil ?_)
    | ((fail_if_success (with_reducible apply wp_region_plain)); (fail_if_success (with_reducible apply wp_region_GS)); go_step))
  refine end1 (by first | exact .inl rfl | exact .inr rfl) rfl (ResL.rt rfl ResL.rn) ?_
  exact ⟨by simp, disk_shut hS⟩
set_option maxHeartbeats 400000 in
theorem fail_ct {b : Nat} {D : DS} (hS : Sat w I (DiskC b D :: L)) :
    Calls Try.prog 22 #[.pointer (some ⟨b, 0, none⟩)] w fun e w' => e = .returned (.tuple #[]) ∧ Sat w' I (DiskC b D.fail :: L) := by
  obtain ⟨m, pv, hS⟩ := disk_open hS
  go_enter Try.func22, Try.ntmps22
  repeat' (first
    | ((with_reducible apply wp_region_plain (id := 0)); refine xv (ex_move (ev_at rfl)) ?_; (first | refine xv (ex_neqPtrS (ev_at rfl) (ev_const _ _) (unT rfl)) ?_ | refine xv (ex_neqPtrN (ev_at rfl) (ev_const _ _) (unT rfl)) ?_ | refine xv (ex_neqPtr (ev_at rfl) (ev_const _ _) (unT rfl)) ?_); refine wl_nil ?_)
    | ((with_reducible apply wp_region_plain (id := 1)); refine xv (ex_move (ev_at rfl)) ?_; (first | refine xv (ex_nilCheck (ev_at rfl)) ?_ | refine xv (ex_nilCheckF (ev_at rfl)) ?_); (first | refine xv (ex_fa (ev_at rfl) (flT rfl)) ?_ | refine xv (ex_faE (ev_at rfl) (flT rfl) (by assumption) (by assumption)) ?_); refine wl_of rfl (wp_store1 (ev_at rfl) (ev_const _ _) hS (szT rfl) rfl (by first | rfl | exact IsSl.one (by assumption)) fun w hS => wl_put0 ?_); refine wl_nil ?_; (try simp only [lset, Nat.reduceAdd, Nat.zero_add] at hS))
    | ((fail_if_success (with_reducible apply wp_region_plain)); (fail_if_success (with_reducible apply wp_region_GS)); go_step))
  refine endN (by first | exact .inl rfl | exact .inr rfl) rfl ResL.rn rfl ?_
  exact ⟨rfl, disk_shut (D := D.fail) hS⟩
set_option maxHeartbeats 400000 in
theorem setLimit_ct {b : Nat} {D : DS} (n : Int) (hS : Sat w I (DiskC b D :: L)) :
    Calls Try.prog 16 #[.pointer (some ⟨b, 0, none⟩), .int .i64 n] w fun e w' => e = .returned (.tuple #[]) ∧ Sat w' I (DiskC b (D.setLimit n) :: L) := by
  obtain ⟨m, pv, hS⟩ := disk_open hS
  by_cases h : 0 ≤ n
  all_goals
    go_enter Try.func16, Try.ntmps16
    repeat' (first
      | ((with_reducible apply wp_region_plain (id := 0)); refine xv (ex_move (ev_at rfl)) ?_; (first | refine xv (ex_neqPtrS (ev_at rfl) (ev_const _ _) (unT rfl)) ?_ | refine xv (ex_neqPtrN (ev_at rfl) (ev_const _ _) (unT rfl)) ?_ | refine xv (ex_neqPtr (ev_at rfl) (ev_const _ _) (unT rfl)) ?_); refine wl_nil ?_)
      | ((with_reducible apply wp_region_plain (id := 1)); refine xv (ex_move (ev_at rfl)) ?_; refine xv (ex_move (ev_at rfl)) ?_; refine xv (ex_move (ev_at rfl)) ?_; refine xv (ex_cmp (ev_at rfl) (ev_const _ _) (by first | exact geqT (by omega) | exact geqF (by omega) | rfl)) ?_; refine xv (ex_move (ev_at rfl)) ?_; refine xv (ex_max2 (ev_at rfl) (ev_const _ _)) ?_; (first | refine xv (ex_nilCheck (ev_at rfl)) ?_ | refine xv (ex_nilCheckF (ev_at rfl)) ?_); (first | refine xv (ex_fa (ev_at rfl) (flT rfl)) ?_ | refine xv (ex_faE (ev_at rfl) (flT rfl) (by assumption) (by assumption)) ?_); refine wl_of rfl (wp_store1 (ev_at rfl) (ev_at rfl) hS (szT rfl) rfl (by first | rfl | exact IsSl.one (by assumption)) fun w hS => wl_put0 ?_); (first | refine xv (ex_nilCheck (ev_at rfl)) ?_ | refine xv (ex_nilCheckF (ev_at rfl)) ?_); (first | refine xv (ex_fa (ev_at rfl) (flT rfl)) ?_ | refine xv (ex_faE (ev_at rfl) (flT rfl) (by assumption) (by assumption)) ?_); refine wl_of rfl (wp_store1 (ev_at rfl) (ev_at rfl) hS (szT rfl) rfl (by first | rfl | exact IsSl.one (by assumption)) fun w hS => wl_put0 ?_); refine wl_nil ?_; (try simp only [lset, Nat.reduceAdd, Nat.zero_add] at hS))
      | ((fail_if_success (with_reducible apply wp_region_plain)); (fail_if_success (with_reducible apply wp_region_GS)); go_step))
    refine endN (by first | exact .inl rfl | exact .inr rfl) rfl ResL.rn rfl ?_
    refine ⟨rfl, disk_shut (D := D.setLimit n) (m := m) (pv := pv) ?_⟩
    simp only [DS.setLimit, h, decide_true, decide_false]
    exact hS
end
end Go.Proofs.Try
