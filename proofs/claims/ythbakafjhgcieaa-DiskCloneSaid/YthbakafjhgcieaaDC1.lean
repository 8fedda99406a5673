/- The device: contracts of its methods. -/
import Derived.Test.YthbakafjhgcieaaDTab
import Derived.Test.YthbakafjhgcieaaDModel
namespace Go.Proofs.Try
open Go.RowKit Go.SL Go.DK
set_option maxRecDepth 100000
set_option linter.unusedSimpArgs false
set_option linter.unusedVariables false

def DCells (b m : Nat) (pv : Value) (D : DS) : Ch := Cells b 71 [.int .i64 D.n, .map (some m), pv, .int .i64 D.ops, .bool D.limd, .int .i64 D.lim, .bool D.down]
/-- The device at block b. -/
def DiskC (b : Nat) (D : DS) : Ch := fun f => ∃ m pv, Star [Cells b 71 [.int .i64 D.n, .map (some m), pv, .int .i64 D.ops, .bool D.limd, .int .i64 D.lim, .bool D.down], MapI m (dkv D.dur), Row pv 75 257 D.pend.length (flatP D.pend)] f

section
variable {w : World} {I : Gh} {L : List Ch}
theorem disk_open {b : Nat} {D : DS} (h : Sat w I (DiskC b D :: L)) : ∃ m pv, Sat w I (Cells b 71 [.int .i64 D.n, .map (some m), pv, .int .i64 D.ops, .bool D.limd, .int .i64 D.lim, .bool D.down] :: MapI m (dkv D.dur) :: Row pv 75 257 D.pend.length (flatP D.pend) :: L) := by
  obtain ⟨m, h⟩ := Sat.ex_head h
  obtain ⟨pv, h⟩ := Sat.ex_head h
  exact ⟨m, pv, h.star⟩
theorem disk_shut {b m : Nat} {pv : Value} {D : DS} (h : Sat w I (Cells b 71 [.int .i64 D.n, .map (some m), pv, .int .i64 D.ops, .bool D.limd, .int .i64 D.lim, .bool D.down] :: MapI m (dkv D.dur) :: Row pv 75 257 D.pend.length (flatP D.pend) :: L)) : Sat w I (DiskC b D :: L) :=
  Sat.mk_ex m (Sat.mk_ex pv (Sat.unstar (L := [_, _, _]) h))

set_option maxHeartbeats 400000 in
theorem has_ct (b : Nat) (s n : Int) (m pv ops lm lt dn : Value) (hS : Sat w I (Cells b 71 [.int .i64 s, m, pv, ops, lm, lt, dn] :: L)) :
    Calls Try.prog 32 #[.pointer (some ⟨b, 0, none⟩), .int .i64 n] w fun e w' => e = .returned (.bool (decide (0 ≤ n ∧ n < s))) ∧ Sat w' I (Cells b 71 [.int .i64 s, m, pv, ops, lm, lt, dn] :: L) := by
  by_cases h0 : 0 ≤ n
  · by_cases h1 : n < s
    all_goals
      go_enter Try.func32, Try.ntmps32
      repeat' (first
        | ((with_reducible apply wp_region_plain (id := 0)); refine xv (ex_assign (ev_const _ _)) ?_; refine wl_nil ?_)
        | ((with_reducible apply wp_region_plain (id := 1)); refine xv (ex_move (ev_at rfl)) ?_; refine xv (ex_cmp (ev_at rfl) (ev_const _ _) (by first | exact geqT (by omega) | exact geqF (by omega) | rfl)) ?_; refine xv (ex_move (ev_at rfl)) ?_; (first | refine wl_skip rfl rfl (by simp only [lset] <;> rfl) ?_ | (refine xv (ex_move (ev_at rfl)) ?_)); (first | refine wl_skip rfl rfl (by simp only [lset] <;> rfl) ?_ | (refine xv (ex_move (ev_at rfl)) ?_)); (first | refine wl_skip rfl rfl (by simp only [lset] <;> rfl) ?_ | ((first | refine xv (ex_nilCheck (ev_at rfl)) ?_ | refine xv (ex_nilCheckF (ev_at rfl)) ?_))); (first | refine wl_skip rfl rfl (by simp only [lset] <;> rfl) ?_ | ((first | refine xv (ex_fa (ev_at rfl) (flT rfl)) ?_ | refine xv (ex_faE (ev_at rfl) (flT rfl) (by assumption) (by assumption)) ?_))); (first | refine wl_skip rfl rfl (by simp only [lset] <;> rfl) ?_ | (refine xv (ex_load (ev_at rfl) (ld1 hS (kdT rfl) rfl)) ?_)); (first | refine wl_skip rfl rfl (by simp only [lset] <;> rfl) ?_ | (refine xv (ex_cmp (ev_at rfl) (ev_at rfl) (by first | exact lssT (by omega) | exact lssF (by omega) | rfl)) ?_)); (first | refine xv (ex_pickT (ev_at rfl) (ev_at rfl)) ?_ | refine xv (ex_pickF (ev_at rfl) (ev_const _ _)) ?_ | refine xv (ex_pickAnd (ev_at rfl) (ev_at rfl) (ev_const _ _)) ?_); refine xv (ex_assign (ev_at rfl)) ?_; refine wl_nil ?_)
        | ((fail_if_success (with_reducible apply wp_region_plain)); (fail_if_success (with_reducible apply wp_region_GS)); go_step))
      refine end1 (by first | exact .inl rfl | exact .inr rfl) rfl (ResL.rt rfl ResL.rn) ?_
      exact ⟨by simp [h0, h1], hS⟩
  · go_enter Try.func32, Try.ntmps32
    repeat' (first
      | ((with_reducible apply wp_region_plain (id := 0)); refine xv (ex_assign (ev_const _ _)) ?_; refine wl_nil ?_)
      | ((with_reducible apply wp_region_plain (id := 1)); refine xv (ex_move (ev_at rfl)) ?_; refine xv (ex_cmp (ev_at rfl) (ev_const _ _) (by first | exact geqT (by omega) | exact geqF (by omega) | rfl)) ?_; refine xv (ex_move (ev_at rfl)) ?_; (first | refine wl_skip rfl rfl (by simp only [lset] <;> rfl) ?_ | (refine xv (ex_move (ev_at rfl)) ?_)); (first | refine wl_skip rfl rfl (by simp only [lset] <;> rfl) ?_ | (refine xv (ex_move (ev_at rfl)) ?_)); (first | refine wl_skip rfl rfl (by simp only [lset] <;> rfl) ?_ | ((first | refine xv (ex_nilCheck (ev_at rfl)) ?_ | refine xv (ex_nilCheckF (ev_at rfl)) ?_))); (first | refine wl_skip rfl rfl (by simp only [lset] <;> rfl) ?_ | ((first | refine xv (ex_fa (ev_at rfl) (flT rfl)) ?_ | refine xv (ex_faE (ev_at rfl) (flT rfl) (by assumption) (by assumption)) ?_))); (first | refine wl_skip rfl rfl (by simp only [lset] <;> rfl) ?_ | (refine xv (ex_load (ev_at rfl) (ld1 hS (kdT rfl) rfl)) ?_)); (first | refine wl_skip rfl rfl (by simp only [lset] <;> rfl) ?_ | (refine xv (ex_cmp (ev_at rfl) (ev_at rfl) (by first | exact lssT (by omega) | exact lssF (by omega) | rfl)) ?_)); (first | refine xv (ex_pickT (ev_at rfl) (ev_at rfl)) ?_ | refine xv (ex_pickF (ev_at rfl) (ev_const _ _)) ?_ | refine xv (ex_pickAnd (ev_at rfl) (ev_at rfl) (ev_const _ _)) ?_); refine xv (ex_assign (ev_at rfl)) ?_; refine wl_nil ?_)
      | ((fail_if_success (with_reducible apply wp_region_plain)); (fail_if_success (with_reducible apply wp_region_GS)); go_step))
    refine end1 (by first | exact .inl rfl | exact .inr rfl) rfl (ResL.rt rfl ResL.rn) ?_
    exact ⟨by simp [h0], hS⟩

set_option maxHeartbeats 400000 in
theorem operate_down (b : Nat) (s m pv ops dn : Value) (hS : Sat w I (Cells b 71 [s, m, pv, ops, .bool true, .int .i64 0, dn] :: L)) :
    Calls Try.prog 34 #[.pointer (some ⟨b, 0, none⟩)] w fun e w' => e = .returned (.int .i64 28) ∧ Sat w' I (Cells b 71 [s, m, pv, ops, .bool true, .int .i64 0, .bool true] :: L) := by
  go_enter Try.func34, Try.ntmps34
  repeat' (first
    | ((with_reducible apply wp_region_plain (id := 0)); refine xv (ex_assign (ev_const _ _)) ?_; refine wl_nil ?_)
    | ((with_reducible apply wp_region_plain (id := 1)); refine xv (ex_move (ev_at rfl)) ?_; (first | refine xv (ex_nilCheck (ev_at rfl)) ?_ | refine xv (ex_nilCheckF (ev_at rfl)) ?_); (first | refine xv (ex_fa (ev_at rfl) (flT rfl)) ?_ | refine xv (ex_faE (ev_at rfl) (flT rfl) (by assumption) (by assumption)) ?_); refine xv (ex_load (ev_at rfl) (ld1 hS (kdT rfl) rfl)) ?_; refine xv (ex_move (ev_at rfl)) ?_; (first | refine wl_skip rfl rfl (by simp only [lset] <;> rfl) ?_ | (refine xv (ex_move (ev_at rfl)) ?_)); (first | refine wl_skip rfl rfl (by simp only [lset] <;> rfl) ?_ | ((first | refine xv (ex_nilCheck (ev_at rfl)) ?_ | refine xv (ex_nilCheckF (ev_at rfl)) ?_))); (first | refine wl_skip rfl rfl (by simp only [lset] <;> rfl) ?_ | ((first | refine xv (ex_fa (ev_at rfl) (flT rfl)) ?_ | refine xv (ex_faE (ev_at rfl) (flT rfl) (by assumption) (by assumption)) ?_))); (first | refine wl_skip rfl rfl (by simp only [lset] <;> rfl) ?_ | (refine xv (ex_load (ev_at rfl) (ld1 hS (kdT rfl) rfl)) ?_)); (first | refine wl_skip rfl rfl (by simp only [lset] <;> rfl) ?_ | (refine xv (ex_cmp (ev_at rfl) (ev_const _ _) (by first | exact eqlT (by omega) | exact eqlF (by omega) | rfl)) ?_)); (first | refine xv (ex_pickT (ev_at rfl) (ev_at rfl)) ?_ | refine xv (ex_pickF (ev_at rfl) (ev_const _ _)) ?_ | refine xv (ex_pickAnd (ev_at rfl) (ev_at rfl) (ev_const _ _)) ?_); refine wl_nil ?_)
    | ((with_reducible apply wp_region_plain (id := 2)); refine xv (ex_move (ev_at rfl)) ?_; (first | refine xv (ex_nilCheck (ev_at rfl)) ?_ | refine xv (ex_nilCheckF (ev_at rfl)) ?_); (first | refine xv (ex_fa (ev_at rfl) (flT rfl)) ?_ | refine xv (ex_faE (ev_at rfl) (flT rfl) (by assumption) (by assumption)) ?_); refine wl_of rfl (wp_store1 (ev_at rfl) (ev_const _ _) hS (szT rfl) rfl (by first | rfl | exact IsSl.one (by assumption)) fun w hS => wl_put0 ?_); refine wl_nil ?_; (try simp only [lset, Nat.reduceAdd, Nat.zero_add] at hS))
    | ((with_reducible apply wp_region_plain (id := 3)); refine xv (ex_assign (ev_const _ _)) ?_; refine wl_nil ?_)
    | ((fail_if_success (with_reducible apply wp_region_plain)); (fail_if_success (with_reducible apply wp_region_GS)); go_step))
  refine end1 (by first | exact .inl rfl | exact .inr rfl) rfl (ResL.rt rfl ResL.rn) ?_
  exact ⟨rfl, hS⟩
set_option maxHeartbeats 400000 in
theorem operate_ok (b : Nat) (s m pv dn : Value) (ops lim : Int) (limd : Bool) (hc : limd = true → lim ≠ 0) (hS : Sat w I (Cells b 71 [s, m, pv, .int .i64 ops, .bool limd, .int .i64 lim, dn] :: L)) :
    Calls Try.prog 34 #[.pointer (some ⟨b, 0, none⟩)] w fun e w' => e = .returned (.int .i64 0) ∧ Sat w' I (Cells b 71 [s, m, pv, .int .i64 (up (ops + 1)), .bool limd, .int .i64 (up (lim - 1)), dn] :: L) := by
  cases limd
  · clear hc
    go_enter Try.func34, Try.ntmps34
    repeat' (first
      | ((with_reducible apply wp_region_plain (id := 0)); refine xv (ex_assign (ev_const _ _)) ?_; refine wl_nil ?_)
      | ((with_reducible apply wp_region_plain (id := 1)); refine xv (ex_move (ev_at rfl)) ?_; (first | refine xv (ex_nilCheck (ev_at rfl)) ?_ | refine xv (ex_nilCheckF (ev_at rfl)) ?_); (first | refine xv (ex_fa (ev_at rfl) (flT rfl)) ?_ | refine xv (ex_faE (ev_at rfl) (flT rfl) (by assumption) (by assumption)) ?_); refine xv (ex_load (ev_at rfl) (ld1 hS (kdT rfl) rfl)) ?_; refine xv (ex_move (ev_at rfl)) ?_; (first | refine wl_skip rfl rfl (by simp only [lset] <;> rfl) ?_ | (refine xv (ex_move (ev_at rfl)) ?_)); (first | refine wl_skip rfl rfl (by simp only [lset] <;> rfl) ?_ | ((first | refine xv (ex_nilCheck (ev_at rfl)) ?_ | refine xv (ex_nilCheckF (ev_at rfl)) ?_))); (first | refine wl_skip rfl rfl (by simp only [lset] <;> rfl) ?_ | ((first | refine xv (ex_fa (ev_at rfl) (flT rfl)) ?_ | refine xv (ex_faE (ev_at rfl) (flT rfl) (by assumption) (by assumption)) ?_))); (first | refine wl_skip rfl rfl (by simp only [lset] <;> rfl) ?_ | (refine xv (ex_load (ev_at rfl) (ld1 hS (kdT rfl) rfl)) ?_)); (first | refine wl_skip rfl rfl (by simp only [lset] <;> rfl) ?_ | (refine xv (ex_cmp (ev_at rfl) (ev_const _ _) (by first | exact eqlT (by omega) | exact eqlF (by omega) | rfl)) ?_)); (first | refine xv (ex_pickT (ev_at rfl) (ev_at rfl)) ?_ | refine xv (ex_pickF (ev_at rfl) (ev_const _ _)) ?_ | refine xv (ex_pickAnd (ev_at rfl) (ev_at rfl) (ev_const _ _)) ?_); refine wl_nil ?_)
      | ((with_reducible apply wp_region_plain (id := 4)); refine xv (ex_move (ev_at rfl)) ?_; (first | refine xv (ex_nilCheck (ev_at rfl)) ?_ | refine xv (ex_nilCheckF (ev_at rfl)) ?_); (first | refine xv (ex_fa (ev_at rfl) (flT rfl)) ?_ | refine xv (ex_faE (ev_at rfl) (flT rfl) (by assumption) (by assumption)) ?_); refine xv (ex_load (ev_at rfl) (ld1 hS (kdT rfl) rfl)) ?_; refine xv (ex_arith (ev_at rfl) (ev_const _ _) rfl (by first | exact IntWalk.i64_in _ (by omega) | rfl)) ?_; (first | refine xv (ex_nilCheck (ev_at rfl)) ?_ | refine xv (ex_nilCheckF (ev_at rfl)) ?_); (first | refine xv (ex_fa (ev_at rfl) (flT rfl)) ?_ | refine xv (ex_faE (ev_at rfl) (flT rfl) (by assumption) (by assumption)) ?_); refine wl_of rfl (wp_store1 (ev_at rfl) (ev_at rfl) hS (szT rfl) rfl (by first | rfl | exact IsSl.one (by assumption)) fun w hS => wl_put0 ?_); refine wl_nil ?_; (try simp only [lset, Nat.reduceAdd, Nat.zero_add] at hS))
      | ((with_reducible apply wp_region_plain (id := 5)); refine xv (ex_move (ev_at rfl)) ?_; (first | refine xv (ex_nilCheck (ev_at rfl)) ?_ | refine xv (ex_nilCheckF (ev_at rfl)) ?_); (first | refine xv (ex_fa (ev_at rfl) (flT rfl)) ?_ | refine xv (ex_faE (ev_at rfl) (flT rfl) (by assumption) (by assumption)) ?_); refine xv (ex_load (ev_at rfl) (ld1 hS (kdT rfl) rfl)) ?_; refine xv (ex_arith (ev_at rfl) (ev_const _ _) rfl (by first | exact IntWalk.i64_in _ (by omega) | rfl)) ?_; (first | refine xv (ex_nilCheck (ev_at rfl)) ?_ | refine xv (ex_nilCheckF (ev_at rfl)) ?_); (first | refine xv (ex_fa (ev_at rfl) (flT rfl)) ?_ | refine xv (ex_faE (ev_at rfl) (flT rfl) (by assumption) (by assumption)) ?_); refine wl_of rfl (wp_store1 (ev_at rfl) (ev_at rfl) hS (szT rfl) rfl (by first | rfl | exact IsSl.one (by assumption)) fun w hS => wl_put0 ?_); refine wl_nil ?_; (try simp only [lset, Nat.reduceAdd, Nat.zero_add] at hS))
      | ((with_reducible apply wp_region_plain (id := 6)); refine xv (ex_assign (ev_const _ _)) ?_; refine wl_nil ?_)
      | ((fail_if_success (with_reducible apply wp_region_plain)); (fail_if_success (with_reducible apply wp_region_GS)); go_step))
    refine end1 (by first | exact .inl rfl | exact .inr rfl) rfl (ResL.rt rfl ResL.rn) ?_
    exact ⟨rfl, hS⟩
  · have hc := hc rfl
    go_enter Try.func34, Try.ntmps34
    repeat' (first
      | ((with_reducible apply wp_region_plain (id := 0)); refine xv (ex_assign (ev_const _ _)) ?_; refine wl_nil ?_)
      | ((with_reducible apply wp_region_plain (id := 1)); refine xv (ex_move (ev_at rfl)) ?_; (first | refine xv (ex_nilCheck (ev_at rfl)) ?_ | refine xv (ex_nilCheckF (ev_at rfl)) ?_); (first | refine xv (ex_fa (ev_at rfl) (flT rfl)) ?_ | refine xv (ex_faE (ev_at rfl) (flT rfl) (by assumption) (by assumption)) ?_); refine xv (ex_load (ev_at rfl) (ld1 hS (kdT rfl) rfl)) ?_; refine xv (ex_move (ev_at rfl)) ?_; (first | refine wl_skip rfl rfl (by simp only [lset] <;> rfl) ?_ | (refine xv (ex_move (ev_at rfl)) ?_)); (first | refine wl_skip rfl rfl (by simp only [lset] <;> rfl) ?_ | ((first | refine xv (ex_nilCheck (ev_at rfl)) ?_ | refine xv (ex_nilCheckF (ev_at rfl)) ?_))); (first | refine wl_skip rfl rfl (by simp only [lset] <;> rfl) ?_ | ((first | refine xv (ex_fa (ev_at rfl) (flT rfl)) ?_ | refine xv (ex_faE (ev_at rfl) (flT rfl) (by assumption) (by assumption)) ?_))); (first | refine wl_skip rfl rfl (by simp only [lset] <;> rfl) ?_ | (refine xv (ex_load (ev_at rfl) (ld1 hS (kdT rfl) rfl)) ?_)); (first | refine wl_skip rfl rfl (by simp only [lset] <;> rfl) ?_ | (refine xv (ex_cmp (ev_at rfl) (ev_const _ _) (by first | exact eqlT (by omega) | exact eqlF (by omega) | rfl)) ?_)); (first | refine xv (ex_pickT (ev_at rfl) (ev_at rfl)) ?_ | refine xv (ex_pickF (ev_at rfl) (ev_const _ _)) ?_ | refine xv (ex_pickAnd (ev_at rfl) (ev_at rfl) (ev_const _ _)) ?_); refine wl_nil ?_)
      | ((with_reducible apply wp_region_plain (id := 4)); refine xv (ex_move (ev_at rfl)) ?_; (first | refine xv (ex_nilCheck (ev_at rfl)) ?_ | refine xv (ex_nilCheckF (ev_at rfl)) ?_); (first | refine xv (ex_fa (ev_at rfl) (flT rfl)) ?_ | refine xv (ex_faE (ev_at rfl) (flT rfl) (by assumption) (by assumption)) ?_); refine xv (ex_load (ev_at rfl) (ld1 hS (kdT rfl) rfl)) ?_; refine xv (ex_arith (ev_at rfl) (ev_const _ _) rfl (by first | exact IntWalk.i64_in _ (by omega) | rfl)) ?_; (first | refine xv (ex_nilCheck (ev_at rfl)) ?_ | refine xv (ex_nilCheckF (ev_at rfl)) ?_); (first | refine xv (ex_fa (ev_at rfl) (flT rfl)) ?_ | refine xv (ex_faE (ev_at rfl) (flT rfl) (by assumption) (by assumption)) ?_); refine wl_of rfl (wp_store1 (ev_at rfl) (ev_at rfl) hS (szT rfl) rfl (by first | rfl | exact IsSl.one (by assumption)) fun w hS => wl_put0 ?_); refine wl_nil ?_; (try simp only [lset, Nat.reduceAdd, Nat.zero_add] at hS))
      | ((with_reducible apply wp_region_plain (id := 5)); refine xv (ex_move (ev_at rfl)) ?_; (first | refine xv (ex_nilCheck (ev_at rfl)) ?_ | refine xv (ex_nilCheckF (ev_at rfl)) ?_); (first | refine xv (ex_fa (ev_at rfl) (flT rfl)) ?_ | refine xv (ex_faE (ev_at rfl) (flT rfl) (by assumption) (by assumption)) ?_); refine xv (ex_load (ev_at rfl) (ld1 hS (kdT rfl) rfl)) ?_; refine xv (ex_arith (ev_at rfl) (ev_const _ _) rfl (by first | exact IntWalk.i64_in _ (by omega) | rfl)) ?_; (first | refine xv (ex_nilCheck (ev_at rfl)) ?_ | refine xv (ex_nilCheckF (ev_at rfl)) ?_); (first | refine xv (ex_fa (ev_at rfl) (flT rfl)) ?_ | refine xv (ex_faE (ev_at rfl) (flT rfl) (by assumption) (by assumption)) ?_); refine wl_of rfl (wp_store1 (ev_at rfl) (ev_at rfl) hS (szT rfl) rfl (by first | rfl | exact IsSl.one (by assumption)) fun w hS => wl_put0 ?_); refine wl_nil ?_; (try simp only [lset, Nat.reduceAdd, Nat.zero_add] at hS))
      | ((with_reducible apply wp_region_plain (id := 6)); refine xv (ex_assign (ev_const _ _)) ?_; refine wl_nil ?_)
      | ((fail_if_success (with_reducible apply wp_region_plain)); (fail_if_success (with_reducible apply wp_region_GS)); go_step))
    refine end1 (by first | exact .inl rfl | exact .inr rfl) rfl (ResL.rt rfl ResL.rn) ?_
    exact ⟨rfl, hS⟩
end
end Go.Proofs.Try
