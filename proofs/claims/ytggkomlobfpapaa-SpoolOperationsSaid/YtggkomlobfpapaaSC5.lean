/- Spools: contracts (5): Remove. -/
import Derived.Test.YtggkomlobfpapaaSC4
import Derived.Test.YtggkomlobfpapaaSpRef
import Derived.Test.YtggkomlobfpapaaSR2
import Derived.Test.YtggkomlobfpapaaSLC
namespace Go.Proofs.Try
open Go.RowKit Go.SL Go.SS Go.SP
set_option maxRecDepth 100000
set_option linter.unusedSimpArgs false
set_option linter.unusedVariables false
section
variable {w : World} {I : Gh} {L : List Ch}
theorem index_ct (v : Value) (l : List Art) (i0 : Id32) (hln : l.length ≤ 1073741824) (hvi : IsSl v l.length) (hr : Rds I L v (flatE idC (l.map (·.id)))) (hS : Sat w I L) :
    Calls Try.prog 34 #[v, idV i0] w fun e w' => e = .returned (.int .i64 (rfindFrom i0 l 0)) ∧ Sat w' I L := by
  have hic := idC_len i0
  rw [show idV i0 = .agg (idC i0).toArray from rfl]
  generalize hR : rfindFrom i0 l 0 = R
  go_enter Try.func34, Try.ntmps34
  repeat' (first
    | ((with_reducible apply wp_region_plain (id := 0)); refine wl_of rfl (wp_boxN (ev_at rfl) hS fun b3 w hS => wl_put (by simp only [lset] <;> rfl) ?_); refine xv (ex_assign (ev_const _ _)) ?_; refine wl_nil ?_)
    | ((with_reducible apply wp_region_plain (id := 1)); refine xv (ex_move (ev_at rfl)) ?_; refine xv (ex_len (ev_at rfl) (slT rfl) (by first | assumption | exact IsSl.nil)) ?_; refine xv (ex_move (ev_const _ _)) ?_; refine wl_nil ?_)
    | ((with_reducible apply wp_region_plain (id := 2)); refine xv (ex_cmp (ev_at rfl) (ev_at rfl) (by first | exact lssT (by omega) | exact lssF (by omega) | rfl)) ?_; refine wl_nil ?_)
    | ((with_reducible apply wp_region_plain (id := 3)); refine xv (ex_move (ev_at rfl)) ?_; refine xv (ex_assign (ev_at rfl)) ?_; refine wl_nil ?_)
    | ((with_reducible apply wp_region_GS (id := 4) 6 (fun j => [0, 1, 2, 3, 4, 5].contains j) mixed); rfl; exact hS; (clear hS; intro w hS); refine xr 0 hS rfl rfl (fun w X hS => ex_load (ev_at rfl) (ldN hS (kdT rfl) (szT rfl) rfl)) ?_; refine xp 1 rfl rfl (fun w => ex_move (ev_at rfl)) ?_; refine xp 2 rfl rfl (fun w => ex_move (ev_at rfl)) ?_; (first | refine xp 3 rfl rfl (fun w => ex_iaN (ev_at rfl) (ev_at rfl) (slT rfl) (szT rfl) (by first | assumption | exact IsSl.nil) (by omega)) ?_ | refine xp 3 rfl rfl (fun w => ex_ia (ev_at rfl) (ev_at rfl) (slT rfl) (szT rfl) (by first | assumption | exact IsSl.nil) (by omega) (by omega)) ?_); refine xr 4 hS rfl rfl (fun w X hS => ex_load (ev_at rfl) (ldN hS (kdT rfl) (szT rfl) rfl)) ?_; refine xp 5 rfl rfl (fun w => ex_eqlArr (ev_at rfl) (ev_at rfl) (by fail)) ?_; refine wg_end (by decide +kernel) ?_)
    | ((with_reducible apply wp_region_plain (id := 5)); refine xv (ex_move (ev_at rfl)) ?_; refine xv (ex_assign (ev_at rfl)) ?_; refine wl_nil ?_)
    | ((with_reducible apply wp_region_plain (id := 6)); refine xv (ex_arith (ev_at rfl) (ev_const _ _) rfl (by first | exact IntWalk.i64_in _ (by omega) | rfl)) ?_; refine xv (ex_move (ev_at rfl)) ?_; refine wl_nil ?_)
    | ((with_reducible apply wp_region_plain (id := 7)); refine xv (ex_assign (ev_const _ _)) ?_; refine wl_nil ?_)
    | ((fail_if_success (with_reducible apply wp_region_plain)); (fail_if_success (with_reducible apply wp_region_GS)); go_step))
  refine wp_loopM [false, false, false, false, true, true, false, false, true, true, true, true, true, true, true, true, true, true, true] (fun n f w => ∃ (i : Nat), n = l.length - i ∧ f 8 = .int .i64 i ∧ i ≤ l.length ∧ rfindFrom i0 (l.drop i) i = R ∧ Sat w I (Cells b3 30 (idC i0) :: L)) rfl l.length ⟨0, rfl, rfl, by omega, hR, hS⟩ ?_
  clear hS
  rintro n f w ⟨i, rfl, h8, hi, hk, hS⟩
  simp only [havoc, Nat.reduceAdd, h8]
  by_cases hlt : i < l.length
  case neg =>
    rw [List.drop_of_length_le (by omega), rfindFrom] at hk
    subst hk
    repeat' (first
      | ((with_reducible apply wp_region_plain (id := 0)); refine wl_of rfl (wp_boxN (ev_at rfl) hS fun b3 w hS => wl_put (by simp only [lset] <;> rfl) ?_); refine xv (ex_assign (ev_const _ _)) ?_; refine wl_nil ?_)
      | ((with_reducible apply wp_region_plain (id := 1)); refine xv (ex_move (ev_at rfl)) ?_; refine xv (ex_len (ev_at rfl) (slT rfl) (by first | assumption | exact IsSl.nil)) ?_; refine xv (ex_move (ev_const _ _)) ?_; refine wl_nil ?_)
      | ((with_reducible apply wp_region_plain (id := 2)); refine xv (ex_cmp (ev_at rfl) (ev_at rfl) (by first | exact lssT (by omega) | exact lssF (by omega) | rfl)) ?_; refine wl_nil ?_)
      | ((with_reducible apply wp_region_plain (id := 3)); refine xv (ex_move (ev_at rfl)) ?_; refine xv (ex_assign (ev_at rfl)) ?_; refine wl_nil ?_)
      | ((with_reducible apply wp_region_GS (id := 4) 6 (fun j => [0, 1, 2, 3, 4, 5].contains j) mixed); rfl; exact hS; (clear hS; intro w hS); refine xr 0 hS rfl rfl (fun w X hS => ex_load (ev_at rfl) (ldN hS (kdT rfl) (szT rfl) rfl)) ?_; refine xp 1 rfl rfl (fun w => ex_move (ev_at rfl)) ?_; refine xp 2 rfl rfl (fun w => ex_move (ev_at rfl)) ?_; (first | refine xp 3 rfl rfl (fun w => ex_iaN (ev_at rfl) (ev_at rfl) (slT rfl) (szT rfl) (by first | assumption | exact IsSl.nil) (by omega)) ?_ | refine xp 3 rfl rfl (fun w => ex_ia (ev_at rfl) (ev_at rfl) (slT rfl) (szT rfl) (by first | assumption | exact IsSl.nil) (by omega) (by omega)) ?_); refine xr 4 hS rfl rfl (fun w X hS => ex_load (ev_at rfl) (ldN hS (kdT rfl) (szT rfl) rfl)) ?_; refine xp 5 rfl rfl (fun w => ex_eqlArr (ev_at rfl) (ev_at rfl) (by fail)) ?_; refine wg_end (by decide +kernel) ?_)
      | ((with_reducible apply wp_region_plain (id := 5)); refine xv (ex_move (ev_at rfl)) ?_; refine xv (ex_assign (ev_at rfl)) ?_; refine wl_nil ?_)
      | ((with_reducible apply wp_region_plain (id := 6)); refine xv (ex_arith (ev_at rfl) (ev_const _ _) rfl (by first | exact IntWalk.i64_in _ (by omega) | rfl)) ?_; refine xv (ex_move (ev_at rfl)) ?_; refine wl_nil ?_)
      | ((with_reducible apply wp_region_plain (id := 7)); refine xv (ex_assign (ev_const _ _)) ?_; refine wl_nil ?_)
      | ((fail_if_success (with_reducible apply wp_region_plain)); (fail_if_success (with_reducible apply wp_region_GS)); go_step))
    refine end1 (by first | exact .inl rfl | exact .inr rfl) rfl (ResL.rt rfl ResL.rn) ?_
    exact ⟨rfl, hS.drop⟩
  have hg : l[i]? = some l[i] := List.getElem?_eq_getElem hlt
  have hdr : l.drop i = l[i] :: l.drop (i + 1) := List.drop_eq_getElem_cons hlt
  generalize l[i] = x at hg hdr
  rw [hdr, rfindFrom] at hk
  have hgi : (l.map (·.id))[i]? = some x.id := by rw [List.getElem?_map, hg]; rfl
  by_cases hid : x.id = i0
  · rw [if_pos hid] at hk
    subst hk
    have hdc : decide (i0 = x.id) = true := decide_eq_true hid.symm
    repeat' (first
      | ((with_reducible apply wp_region_plain (id := 0)); refine wl_of rfl (wp_boxN (ev_at rfl) hS fun b3 w hS => wl_put (by simp only [lset] <;> rfl) ?_); refine xv (ex_assign (ev_const _ _)) ?_; refine wl_nil ?_)
      | ((with_reducible apply wp_region_plain (id := 1)); refine xv (ex_move (ev_at rfl)) ?_; refine xv (ex_len (ev_at rfl) (slT rfl) (by first | assumption | exact IsSl.nil)) ?_; refine xv (ex_move (ev_const _ _)) ?_; refine wl_nil ?_)
      | ((with_reducible apply wp_region_plain (id := 2)); refine xv (ex_cmp (ev_at rfl) (ev_at rfl) (by first | exact lssT (by omega) | exact lssF (by omega) | rfl)) ?_; refine wl_nil ?_)
      | ((with_reducible apply wp_region_plain (id := 3)); refine xv (ex_move (ev_at rfl)) ?_; refine xv (ex_assign (ev_at rfl)) ?_; refine wl_nil ?_)
      | ((with_reducible apply wp_region_GS (id := 4) 6 (fun j => [0, 1, 2, 3, 4, 5].contains j) mixed); rfl; exact hS; (clear hS; intro w hS); refine xr 0 hS rfl rfl (fun w X hS => ex_load (ev_at rfl) (ldW hS (kdT rfl) (szT rfl) hic)) ?_; refine xp 1 rfl rfl (fun w => ex_move (ev_at rfl)) ?_; refine xp 2 rfl rfl (fun w => ex_move (ev_at rfl)) ?_; (first | refine xp 3 rfl rfl (fun w => ex_iaN (ev_at rfl) (ev_at rfl) (slT rfl) (szT rfl) (by first | assumption | exact IsSl.nil) (by omega)) ?_ | refine xp 3 rfl rfl (fun w => ex_ia (ev_at rfl) (ev_at rfl) (slT rfl) (szT rfl) (by first | assumption | exact IsSl.nil) (by omega) (by omega)) ?_); refine xr 4 hS rfl rfl (fun w X hS => ex_load (ev_at rfl) (ldEl elId (hr.rd hS) hvi (i := i) hlt hgi (kdT rfl) (szT rfl))) ?_; refine xp 5 rfl rfl (fun w => ex_eqlId (i := i0) (j := x.id) (ev_at rfl) (ev_at rfl) rfl rfl hdc (arT rfl) (inT rfl) (szT rfl) agId) ?_; refine wg_end (by decide +kernel) ?_)
      | ((with_reducible apply wp_region_plain (id := 5)); refine xv (ex_move (ev_at rfl)) ?_; refine xv (ex_assign (ev_at rfl)) ?_; refine wl_nil ?_)
      | ((with_reducible apply wp_region_plain (id := 6)); refine xv (ex_arith (ev_at rfl) (ev_const _ _) rfl (by first | exact IntWalk.i64_in _ (by omega) | rfl)) ?_; refine xv (ex_move (ev_at rfl)) ?_; refine wl_nil ?_)
      | ((with_reducible apply wp_region_plain (id := 7)); refine xv (ex_assign (ev_const _ _)) ?_; refine wl_nil ?_)
      | ((fail_if_success (with_reducible apply wp_region_plain)); (fail_if_success (with_reducible apply wp_region_GS)); go_step))
    refine end1 (by first | exact .inl rfl | exact .inr rfl) rfl (ResL.rt rfl ResL.rn) ?_
    exact ⟨rfl, hS.drop⟩
  rw [if_neg hid] at hk
  have hdc : decide (i0 = x.id) = false := decide_eq_false (fun h => hid h.symm)
  repeat' (first
    | ((with_reducible apply wp_region_plain (id := 0)); refine wl_of rfl (wp_boxN (ev_at rfl) hS fun b3 w hS => wl_put (by simp only [lset] <;> rfl) ?_); refine xv (ex_assign (ev_const _ _)) ?_; refine wl_nil ?_)
    | ((with_reducible apply wp_region_plain (id := 1)); refine xv (ex_move (ev_at rfl)) ?_; refine xv (ex_len (ev_at rfl) (slT rfl) (by first | assumption | exact IsSl.nil)) ?_; refine xv (ex_move (ev_const _ _)) ?_; refine wl_nil ?_)
    | ((with_reducible apply wp_region_plain (id := 2)); refine xv (ex_cmp (ev_at rfl) (ev_at rfl) (by first | exact lssT (by omega) | exact lssF (by omega) | rfl)) ?_; refine wl_nil ?_)
    | ((with_reducible apply wp_region_plain (id := 3)); refine xv (ex_move (ev_at rfl)) ?_; refine xv (ex_assign (ev_at rfl)) ?_; refine wl_nil ?_)
    | ((with_reducible apply wp_region_GS (id := 4) 6 (fun j => [0, 1, 2, 3, 4, 5].contains j) mixed); rfl; exact hS; (clear hS; intro w hS); refine xr 0 hS rfl rfl (fun w X hS => ex_load (ev_at rfl) (ldW hS (kdT rfl) (szT rfl) hic)) ?_; refine xp 1 rfl rfl (fun w => ex_move (ev_at rfl)) ?_; refine xp 2 rfl rfl (fun w => ex_move (ev_at rfl)) ?_; (first | refine xp 3 rfl rfl (fun w => ex_iaN (ev_at rfl) (ev_at rfl) (slT rfl) (szT rfl) (by first | assumption | exact IsSl.nil) (by omega)) ?_ | refine xp 3 rfl rfl (fun w => ex_ia (ev_at rfl) (ev_at rfl) (slT rfl) (szT rfl) (by first | assumption | exact IsSl.nil) (by omega) (by omega)) ?_); refine xr 4 hS rfl rfl (fun w X hS => ex_load (ev_at rfl) (ldEl elId (hr.rd hS) hvi (i := i) hlt hgi (kdT rfl) (szT rfl))) ?_; refine xp 5 rfl rfl (fun w => ex_eqlId (i := i0) (j := x.id) (ev_at rfl) (ev_at rfl) rfl rfl hdc (arT rfl) (inT rfl) (szT rfl) agId) ?_; refine wg_end (by decide +kernel) ?_)
    | ((with_reducible apply wp_region_plain (id := 5)); refine xv (ex_move (ev_at rfl)) ?_; refine xv (ex_assign (ev_at rfl)) ?_; refine wl_nil ?_)
    | ((with_reducible apply wp_region_plain (id := 6)); refine xv (ex_arith (ev_at rfl) (ev_const _ _) rfl (by first | exact IntWalk.i64_in _ (by omega) | rfl)) ?_; refine xv (ex_move (ev_at rfl)) ?_; refine wl_nil ?_)
    | ((with_reducible apply wp_region_plain (id := 7)); refine xv (ex_assign (ev_const _ _)) ?_; refine wl_nil ?_)
    | ((fail_if_success (with_reducible apply wp_region_plain)); (fail_if_success (with_reducible apply wp_region_GS)); go_step))
  exact loopEndM rfl (l.length - (i + 1)) ⟨i + 1, rfl, rfl, by omega, hk, hS⟩ (by omega)
theorem clone_ct (v : Value) (l : List Id32) (hln : l.length ≤ 1073741824) (hvi : IsSl v l.length) (hr : Rds I L v (flatE idC l)) (hS : Sat w I L) :
    Calls Try.prog 36 #[v] w fun e w' => ∃ u, e = .returned u ∧ Sat w' I (Row u 30 32 l.length (flatE idC l) :: L) := by
  obtain ⟨q, cap, rfl, hnc, hq⟩ := hvi.ex
  have hfl := flatE_len elId l
  cases q with
  | none =>
    have h0 := hq rfl
    have hl0 : l = [] := List.eq_nil_of_length_eq_zero h0
    go_enter Try.func36, Try.ntmps36
    repeat' (first
      | ((with_reducible apply wp_region_plain (id := 0)); refine xv (ex_assign (ev_const _ _)) ?_; refine wl_nil ?_)
      | ((with_reducible apply wp_region_plain (id := 1)); refine xv (ex_move (ev_at rfl)) ?_; refine xv (ex_eqlSliceNil (ev_at rfl) (ev_const _ _) (unT rfl)) ?_; refine wl_nil ?_)
      | ((with_reducible apply wp_region_plain (id := 2)); refine xv (ex_assign (ev_const _ _)) ?_; refine wl_nil ?_)
      | ((with_reducible apply wp_region_plain (id := 3)); refine wl_of rfl (wp_buildSlice (slT rfl) (szT rfl) (zeT rfl) Fills.nil hS rfl (by first | rfl | assumption) fun b5 w hS => wl_put (by simp only [lset] <;> rfl) ?_); refine xv (ex_move (ev_at rfl)) ?_; refine wl_of rfl (wp_append (ev_at rfl) (ev_at rfl) (slT rfl) (szT rfl) (byT rfl) (zeT rfl) hS (by first | exact srcR hS | exact srcI hS (by assumption) (by assumption)) (by omega) (by omega) rfl fun v7 w hS hv7 => wl_put (by simp only [lset] <;> rfl) ?_); refine xv (ex_assign (ev_at rfl)) ?_; refine wl_nil ?_; (try simp only [lset, splice, sub, List.take_succ_cons, List.take_zero, List.drop_succ_cons, List.drop_zero, List.nil_append, List.cons_append, List.length_cons, List.length_nil, Nat.reduceAdd, Nat.zero_add, rep_zero] at hS))
      | ((fail_if_success (with_reducible apply wp_region_plain)); (fail_if_success (with_reducible apply wp_region_GS)); go_step))
    refine end1 (by first | exact .inl rfl | exact .inr rfl) rfl (ResL.rt rfl ResL.rn) ?_
    subst hl0
    exact ⟨_, rfl, hS.nilRow _ _⟩
  | some p =>
    have hvi : IsSl (.slice (some p) l.length cap) l.length := IsSl.lit hnc
    go_enter Try.func36, Try.ntmps36
    repeat' (first
      | ((with_reducible apply wp_region_plain (id := 0)); refine xv (ex_assign (ev_const _ _)) ?_; refine wl_nil ?_)
      | ((with_reducible apply wp_region_plain (id := 1)); refine xv (ex_move (ev_at rfl)) ?_; refine xv (ex_eqlSliceNil (ev_at rfl) (ev_const _ _) (unT rfl)) ?_; refine wl_nil ?_)
      | ((with_reducible apply wp_region_plain (id := 2)); refine xv (ex_assign (ev_const _ _)) ?_; refine wl_nil ?_)
      | ((with_reducible apply wp_region_plain (id := 3)); refine wl_of rfl (wp_buildSlice (slT rfl) (szT rfl) (zeT rfl) Fills.nil hS rfl (by first | rfl | assumption) fun b5 w hS => wl_put (by simp only [lset] <;> rfl) ?_); refine xv (ex_move (ev_at rfl)) ?_; refine wl_of rfl (wp_append (ev_at rfl) (ev_at rfl) (slT rfl) (szT rfl) (byT rfl) (zeT rfl) hS (Rds.src hr hS hvi hfl (flatE_oc elId l)) (by omega) (by omega) rfl fun v7 w hS hv7 => wl_put (by simp only [lset] <;> rfl) ?_); refine xv (ex_assign (ev_at rfl)) ?_; refine wl_nil ?_; (try simp only [lset, splice, sub, List.take_succ_cons, List.take_zero, List.drop_succ_cons, List.drop_zero, List.nil_append, List.cons_append, List.length_cons, List.length_nil, Nat.reduceAdd, Nat.zero_add, rep_zero] at hS))
      | ((fail_if_success (with_reducible apply wp_region_plain)); (fail_if_success (with_reducible apply wp_region_GS)); go_step))
    refine end1 (by first | exact .inl rfl | exact .inr rfl) rfl (ResL.rt rfl ResL.rn) ?_
    exact ⟨_, rfl, by simpa using hS⟩
set_option maxHeartbeats 4000000 in
theorem delete_ct (v : Value) (l : List Id32) (n k : Nat) (hln : l.length ≤ 1073741824) (hn : l.length = n) (hk : k < n) (hS : Sat w I (Row v 30 32 n (flatE idC l) :: L)) :
    Calls Try.prog 35 #[v, .int .i64 (k : Int), .int .i64 ((k + 1 : Nat) : Int)] w fun e w' => ∃ u, e = .returned u ∧ Sat w' I (Row u 30 32 (n - 1) (flatE idC (l.eraseIdx k)) :: L) := by
  have hvi := (hS.rowH (v := v)).1
  have hflat : (flatE idC l).take (k * 32) ++ (flatE idC l).drop ((k + 1) * 32) = flatE idC (l.eraseIdx k) := by
    rw [flatE_take elId, flatE_drop elId, ← flatE_app, List.eraseIdx_eq_take_drop_succ]
  go_enter Try.func35, Try.ntmps35
  repeat' (first
    | ((with_reducible apply wp_region_plain (id := 0)); refine xv (ex_assign (ev_const _ _)) ?_; refine wl_nil ?_)
    | ((with_reducible apply wp_region_plain (id := 1)); refine xv (ex_move (ev_at rfl)) ?_; refine xv (ex_move (ev_at rfl)) ?_; refine xv (ex_move (ev_at rfl)) ?_; refine xv (ex_move (ev_at rfl)) ?_; refine xv (ex_len (ev_at rfl) (slT rfl) (by first | assumption | exact IsSl.nil)) ?_; refine xv (ex_slice3 (i := k) (j := k + 1) (q := n) (ev_at rfl) (ev_at rfl) (ev_at rfl) (ev_at rfl) (slT rfl) (szT rfl) hvi (by omega) (by omega) (by omega)) ?_; refine wl_nil ?_)
    | ((with_reducible apply wp_region_plain (id := 2)); refine xv (ex_move (ev_at rfl)) ?_; refine xv (ex_move (ev_at rfl)) ?_; refine xv (ex_cmp (ev_at rfl) (ev_at rfl) (by first | exact eqlT (by omega) | exact eqlF (by omega) | rfl)) ?_; refine wl_nil ?_)
    | ((with_reducible apply wp_region_plain (id := 3)); refine xv (ex_move (ev_at rfl)) ?_; refine xv (ex_assign (ev_at rfl)) ?_; refine wl_nil ?_)
    | ((with_reducible apply wp_region_plain (id := 4)); refine xv (ex_move (ev_at rfl)) ?_; refine xv (ex_len (ev_at rfl) (slT rfl) (by first | assumption | exact IsSl.nil)) ?_; refine xv (ex_assign (ev_at rfl)) ?_; refine wl_nil ?_)
    | ((with_reducible apply wp_region_GS (id := 5) 8 (fun j => [0, 1, 2, 3, 4, 5, 7].contains j) mixed); rfl; exact hS; (clear hS; intro w hS); refine xp 0 rfl rfl (fun w => ex_move (ev_at rfl)) ?_; refine xp 1 rfl rfl (fun w => ex_move (ev_at rfl)) ?_; refine xp 2 rfl rfl (fun w => ex_sliceH (ev_at rfl) (ev_at rfl) (slT rfl) (szT rfl) (by first | assumption | exact IsSl.nil) (by omega) (by omega)) ?_; refine xp 3 rfl rfl (fun w => ex_move (ev_at rfl)) ?_; refine xp 4 rfl rfl (fun w => ex_move (ev_at rfl)) ?_; refine xp 5 rfl rfl (fun w => ex_sliceL (ev_at rfl) (ev_at rfl) (slT rfl) (szT rfl) (by first | assumption | exact IsSl.nil) (by omega) (by omega)) ?_; refine wg_loud 6 (by decide +kernel) rfl rfl (wp_delAppend (v := v) (k := k) (ev_at rfl) (ev_at rfl) (slT rfl) (szT rfl) hS hk fun g cap w hcap hS => ⟨gsF rfl, wg_p (by simp only [lset] <;> rfl) ?_⟩); refine xp 7 rfl rfl (fun w => ex_assign (ev_at rfl)) ?_; refine wg_end (by decide +kernel) ?_; (try simp only [lset, splice, sub, List.take_succ_cons, List.take_zero, List.drop_succ_cons, List.drop_zero, List.nil_append, List.cons_append, List.length_cons, List.length_nil, Nat.reduceAdd, Nat.zero_add, rep_zero] at hS))
    | ((fail_if_success (with_reducible apply wp_region_plain)); (fail_if_success (with_reducible apply wp_region_GS)); go_step))
  rw [hflat] at hS
  have hgi : IsSl (.slice (some ⟨g, 0, none⟩) (n - 1) cap) (n - 1) := IsSl.lit (by omega)
  have hzo : Oc (List.replicate 32 (Value.int .u8 0)) := Oc.of_all (by rfl)
  repeat' (first
    | ((with_reducible apply wp_region_plain (id := 0)); refine xv (ex_assign (ev_const _ _)) ?_; refine wl_nil ?_)
    | ((with_reducible apply wp_region_plain (id := 1)); refine xv (ex_move (ev_at rfl)) ?_; refine xv (ex_move (ev_at rfl)) ?_; refine xv (ex_move (ev_at rfl)) ?_; refine xv (ex_move (ev_at rfl)) ?_; refine xv (ex_len (ev_at rfl) (slT rfl) (by first | assumption | exact IsSl.nil)) ?_; fail "?slice"; refine wl_nil ?_)
    | ((with_reducible apply wp_region_plain (id := 2)); refine xv (ex_move (ev_at rfl)) ?_; refine xv (ex_move (ev_at rfl)) ?_; refine xv (ex_cmp (ev_at rfl) (ev_at rfl) (by first | exact eqlT (by omega) | exact eqlF (by omega) | rfl)) ?_; refine wl_nil ?_)
    | ((with_reducible apply wp_region_plain (id := 3)); refine xv (ex_move (ev_at rfl)) ?_; refine xv (ex_assign (ev_at rfl)) ?_; refine wl_nil ?_)
    | ((with_reducible apply wp_region_plain (id := 4)); refine xv (ex_move (ev_at rfl)) ?_; refine xv (ex_len (ev_at rfl) (slT rfl) (by first | assumption | exact IsSl.nil)) ?_; refine xv (ex_assign (ev_at rfl)) ?_; refine wl_nil ?_)
    | ((with_reducible apply wp_region_GS (id := 5) 8 (fun j => [0, 1, 2, 3, 4, 5, 7].contains j) mixed); rfl; exact hS; (clear hS; intro w hS); refine xp 0 rfl rfl (fun w => ex_move (ev_at rfl)) ?_; refine xp 1 rfl rfl (fun w => ex_move (ev_at rfl)) ?_; refine xp 2 rfl rfl (fun w => ex_sliceH (ev_at rfl) (ev_at rfl) (slT rfl) (szT rfl) (by first | assumption | exact IsSl.nil) (by omega) (by omega)) ?_; refine xp 3 rfl rfl (fun w => ex_move (ev_at rfl)) ?_; refine xp 4 rfl rfl (fun w => ex_move (ev_at rfl)) ?_; refine xp 5 rfl rfl (fun w => ex_sliceL (ev_at rfl) (ev_at rfl) (slT rfl) (szT rfl) (by first | assumption | exact IsSl.nil) (by omega) (by omega)) ?_; refine wg_loud 6 (by decide +kernel) rfl rfl (wp_append (ev_at rfl) (ev_at rfl) (slT rfl) (szT rfl) (byT rfl) (zeT rfl) hS (by first | exact srcR hS | exact srcI hS (by assumption) (by assumption)) (by omega) (by omega) rfl fun v26 w hS hv26 => ⟨gsF rfl, wg_p (by simp only [lset] <;> rfl) ?_⟩); refine xp 7 rfl rfl (fun w => ex_assign (ev_at rfl)) ?_; refine wg_end (by decide +kernel) ?_; (try simp only [lset, splice, sub, List.take_succ_cons, List.take_zero, List.drop_succ_cons, List.drop_zero, List.nil_append, List.cons_append, List.length_cons, List.length_nil, Nat.reduceAdd, Nat.zero_add, rep_zero] at hS))
    | ((with_reducible apply wp_region_plain (id := 6)); refine xv (ex_move (ev_at rfl)) ?_; refine xv (ex_move (ev_at rfl)) ?_; refine xv (ex_len (ev_at rfl) (slT rfl) (by first | assumption | exact IsSl.nil)) ?_; refine xv (ex_move (ev_at rfl)) ?_; refine xv (ex_sliceEnd (n := n - 1) (q := n) (by omega) (ev_at rfl) (ev_at rfl) (ev_at rfl) (slT rfl) (szT rfl) (by omega)) ?_; refine wl_of rfl (wp_clearEnd (n := n - 1) (cap := cap) (ev_at rfl) (slT rfl) (szT rfl) (zeT rfl) rfl hzo hS (by omega) fun w hS => wl_put0 ?_); refine wl_nil ?_; (try simp only [lset, splice, sub, List.take_succ_cons, List.take_zero, List.drop_succ_cons, List.drop_zero, List.nil_append, List.cons_append, List.length_cons, List.length_nil, Nat.reduceAdd, Nat.zero_add, rep_zero] at hS))
    | ((with_reducible apply wp_region_plain (id := 7)); refine xv (ex_move (ev_at rfl)) ?_; refine xv (ex_assign (ev_at rfl)) ?_; refine wl_nil ?_)
    | ((fail_if_success (with_reducible apply wp_region_plain)); (fail_if_success (with_reducible apply wp_region_GS)); go_step))
  refine end1 (by first | exact .inl rfl | exact .inr rfl) rfl (ResL.rt rfl ResL.rn) ?_
  exact ⟨_, rfl, hS⟩
end
end Go.Proofs.Try
