/- SHA-256: contracts (6): Write, Clone. -/
import Derived.Test.YtjklnjpmjdbogaaS5
namespace Go.Proofs.Try
open Go.RowKit Go.SL Go.SH
set_option maxRecDepth 100000
set_option linter.unusedSimpArgs false
set_option linter.unusedVariables false
section
variable {w : World} {I : Gh} {L : List Ch}
set_option maxHeartbeats 4000000 in
theorem write_ct (b : Nat) (s : List W32) (rv v : Value) (rest bs : List UInt8) (n0 n : Nat) (hs : s.length = 8) (hrv : SlI I rv rest.length (rest.map byteV)) (hv : IsSl v n) (hl : bs.length = n) (hr : Rds I L v (bs.map byteV)) (hb : rest.length + n ≤ 1099511627776) (h0 : n0 + n ≤ 1099511627776)
    (hS : Sat w I (HashC b s rv n0 :: L)) :
    Calls Try.prog 65 #[.pointer (some ⟨b, 0, none⟩), v] w fun e w' => e = .returned (.int .i64 0) ∧ ∃ J rv', I.le J ∧ SlI J rv' (SH.all s (rest ++ bs)).2.length ((SH.all s (rest ++ bs)).2.map byteV) ∧ Sat w' J (HashC b (SH.all s (rest ++ bs)).1 rv' (n0 + n : Nat) :: L) := by
  have hal : (SH.all s (rest ++ bs)).1.length = 8 := run_len _ _ hs
  generalize hA : SH.all s (rest ++ bs) = R at hal
  obtain ⟨st, lf⟩ := R
  obtain ⟨c0, c1, c2, c3, c4, c5, c6, c7, rfl⟩ := len8 hal
  go_enter Try.func65, Try.ntmps65
  repeat' (first
    | ((with_reducible apply wp_region_plain (id := 0)); refine xv (ex_assign (ev_const _ _)) ?_; refine wl_nil ?_)
    | ((with_reducible apply wp_region_plain (id := 1)); refine xv (ex_move (ev_at rfl)) ?_; (first | refine xv (ex_eqlPtrS (ev_at rfl) (ev_const _ _) (unT rfl)) ?_ | refine xv (ex_eqlPtrN (ev_at rfl) (ev_const _ _) (unT rfl)) ?_ | refine xv (ex_eqlPtr (ev_at rfl) (ev_const _ _) (unT rfl)) ?_); refine wl_nil ?_)
    | ((with_reducible apply wp_region_plain (id := 3)); refine xv (ex_move (ev_at rfl)) ?_; refine xv (ex_move (ev_at rfl)) ?_; refine wl_of rfl (wp_callL (cbT rfl) (EvL.c (ev_at rfl) (EvL.c (ev_at rfl) EvL.n)) ?_); refine (take_ct b s rv v rest bs n0 n hs hrv hv hl hr hb hS).mono ?_; rintro e w ⟨rfl, J, rv', hJ, hrv', hS⟩; rw [hA] at hS hrv'; unfold HashC at hS; simp only [List.map_cons, List.map_nil, List.cons_append, List.nil_append] at hS; refine ⟨_, rfl, wl_put (by simp only [lset] <;> rfl) ?_⟩; refine wl_nil ?_)
    | ((with_reducible apply wp_region_plain (id := 4)); refine xv (ex_move (ev_at rfl)) ?_; (first | refine xv (ex_nilCheck (ev_at rfl)) ?_ | refine xv (ex_nilCheckF (ev_at rfl)) ?_); (first | refine xv (ex_fa (ev_at rfl) (flT rfl)) ?_ | refine xv (ex_faE (ev_at rfl) (flT rfl) (by assumption) (by assumption)) ?_); refine xv (ex_load (ev_at rfl) (ld1 hS (kdT rfl) rfl)) ?_; refine xv (ex_move (ev_at rfl)) ?_; refine xv (ex_len (ev_at rfl) (slT rfl) (by first | assumption | exact IsSl.nil)) ?_; refine xv (ex_arith (ev_at rfl) (ev_at rfl) rfl (by first | exact IntWalk.i64_in _ (by omega) | rfl)) ?_; (first | refine xv (ex_nilCheck (ev_at rfl)) ?_ | refine xv (ex_nilCheckF (ev_at rfl)) ?_); (first | refine xv (ex_fa (ev_at rfl) (flT rfl)) ?_ | refine xv (ex_faE (ev_at rfl) (flT rfl) (by assumption) (by assumption)) ?_); refine wl_of rfl (wp_store1 (ev_at rfl) (ev_at rfl) hS (szT rfl) rfl (by first | rfl | exact IsSl.one (by assumption)) fun w hS => wl_put0 ?_); refine wl_nil ?_; (try simp only [lset, Nat.reduceAdd, Nat.zero_add] at hS))
    | ((with_reducible apply wp_region_plain (id := 5)); refine xv (ex_assign (ev_const _ _)) ?_; refine wl_nil ?_)
    | ((fail_if_success (with_reducible apply wp_region_plain)); (fail_if_success (with_reducible apply wp_region_GS)); go_step))
  refine end1 (by first | exact .inl rfl | exact .inr rfl) rfl (ResL.rt rfl ResL.rn) ?_
  exact ⟨rfl, J, rv', hJ, hrv', hS⟩
set_option maxHeartbeats 4000000 in
theorem clone_ct (b : Nat) (s : List W32) (rv : Value) (rest : List UInt8) (n0 : Int) (hs : s.length = 8) (hrv : SlI I rv rest.length (rest.map byteV)) (hb : rest.length ≤ 1099511627776)
    (hS : Sat w I (HashC b s rv n0 :: L)) :
    Calls Try.prog 69 #[.pointer (some ⟨b, 0, none⟩)] w fun e w' => ∃ b' rv' J, e = .returned (.pointer (some ⟨b', 0, none⟩)) ∧ I.le J ∧ SlI J rv' rest.length (rest.map byteV) ∧ Sat w' J (HashC b' s rv' n0 :: HashC b s rv n0 :: L) := by
  obtain ⟨a0, a1, a2, a3, a4, a5, a6, a7, rfl⟩ := len8 hs
  unfold HashC at hS
  simp only [List.map_cons, List.map_nil, List.cons_append, List.nil_append] at hS
  have hrl : (rest.map byteV).length = rest.length * 1 := by simp
  have hri := hrv.is
  go_enter Try.func69, Try.ntmps69
  repeat' (first
    | ((with_reducible apply wp_region_plain (id := 0)); refine xv (ex_assign (ev_const _ _)) ?_; refine wl_nil ?_)
    | ((with_reducible apply wp_region_plain (id := 1)); refine xv (ex_move (ev_at rfl)) ?_; (first | refine xv (ex_eqlPtrS (ev_at rfl) (ev_const _ _) (unT rfl)) ?_ | refine xv (ex_eqlPtrN (ev_at rfl) (ev_const _ _) (unT rfl)) ?_ | refine xv (ex_eqlPtr (ev_at rfl) (ev_const _ _) (unT rfl)) ?_); refine wl_nil ?_)
    | ((with_reducible apply wp_region_plain (id := 3)); refine xv (ex_move (ev_at rfl)) ?_; (first | refine xv (ex_nilCheck (ev_at rfl)) ?_ | refine xv (ex_nilCheckF (ev_at rfl)) ?_); refine xv (ex_load (ev_at rfl) (ldN hS (kdT rfl) (szT rfl) rfl)) ?_; refine wl_of rfl (wp_alloc hS (zeT rfl) fun b3 w hS => wl_put (by simp only [lset] <;> rfl) ?_); refine wl_of rfl (wp_storeN (ev_at rfl) (ev_at rfl) hS (szT rfl) rfl (by first | rfl | assumption | (simp only [sub, splice, List.take_succ_cons, List.take_zero, List.drop_succ_cons, List.drop_zero, List.nil_append, List.cons_append, List.length_cons, List.length_nil, Nat.reduceAdd, List.all_cons, List.all_nil, Bool.and_eq_true, Bool.and_true]; ((repeat' apply And.intro) <;> first | rfl | assumption | exact IsSl.one (by assumption)))) fun w hS => wl_put0 ?_); refine wl_nil ?_; (try simp only [lset, splice, sub, List.take_succ_cons, List.take_zero, List.drop_succ_cons, List.drop_zero, List.nil_append, List.cons_append, List.length_cons, List.length_nil, Nat.reduceAdd, Nat.zero_add, rep_zero] at hS))
    | ((with_reducible apply wp_region_plain (id := 4)); refine wl_of rfl (wp_buildSlice (slT rfl) (szT rfl) (zeT rfl) Fills.nil hS rfl (by first | rfl | assumption) fun b9 w hS => wl_put (by simp only [lset] <;> rfl) ?_); refine xv (ex_move (ev_at rfl)) ?_; (first | refine xv (ex_nilCheck (ev_at rfl)) ?_ | refine xv (ex_nilCheckF (ev_at rfl)) ?_); (first | refine xv (ex_fa (ev_at rfl) (flT rfl)) ?_ | refine xv (ex_faE (ev_at rfl) (flT rfl) (by assumption) (by assumption)) ?_); refine xv (ex_load (ev_at rfl) (ld1 hS (kdT rfl) rfl)) ?_; refine wl_of rfl (wp_append (ev_at rfl) (ev_at rfl) (slT rfl) (szT rfl) (byT rfl) (zeT rfl) hS (by first | exact srcR hS | exact srcI hS (by assumption) (by assumption)) (by omega) (by omega) rfl fun v14 w hS hv14 => wl_put (by simp only [lset] <;> rfl) ?_); (first | refine xv (ex_fa (ev_at rfl) (flT rfl)) ?_ | refine xv (ex_faE (ev_at rfl) (flT rfl) (by assumption) (by assumption)) ?_); refine wl_of rfl (wp_store1 (ev_at rfl) (ev_at rfl) hS (szT rfl) rfl (by first | rfl | exact IsSl.one (by assumption)) fun w hS => wl_put0 ?_); refine wl_nil ?_; (try simp only [lset, splice, sub, List.take_succ_cons, List.take_zero, List.drop_succ_cons, List.drop_zero, List.nil_append, List.cons_append, List.length_cons, List.length_nil, Nat.reduceAdd, Nat.zero_add, rep_zero] at hS))
    | ((with_reducible apply wp_region_plain (id := 5)); refine xv (ex_assign (ev_at rfl)) ?_; refine wl_nil ?_)
    | ((fail_if_success (with_reducible apply wp_region_plain)); (fail_if_success (with_reducible apply wp_region_GS)); go_step))
  refine end1 (by first | exact .inl rfl | exact .inr rfl) rfl (ResL.rt rfl ResL.rn) ?_
  obtain ⟨J, hJ, hS, hall⟩ := hS.freezeRow
  exact ⟨_, _, J, rfl, hJ, by simpa using hall, hS⟩
def padL (k : Nat) : List UInt8 := 128 :: List.replicate k 0
theorem padL_snoc (k : Nat) : (padL k).map byteV ++ [.int .u8 0] = (padL (k + 1)).map byteV := by
  have e : (List.replicate (k + 1) (0 : UInt8)) = List.replicate k 0 ++ [0] := by rw [List.replicate_succ']
  simp only [padL, e, List.map_cons, List.map_append, List.cons_append]
  rfl
theorem padL_len (k : Nat) : (padL k).length = k + 1 := by simp [padL]
set_option maxHeartbeats 4000000 in
theorem hsum_ct (b : Nat) (s : List W32) (rv : Value) (rest : List UInt8) (n0 : Nat) (hs : s.length = 8) (hrv : SlI I rv rest.length (rest.map byteV)) (hb : rest.length ≤ 1099511627) (h0 : n0 ≤ 1099511627776)
    (hS : Sat w I (HashC b s rv n0 :: L)) :
    Calls Try.prog 66 #[.pointer (some ⟨b, 0, none⟩)] w fun e w' => e = .returned (.agg (((SH.all s (rest ++ pad n0)).1.flatMap bytesW).map byteV).toArray) ∧ Sat w' I (HashC b s rv n0 :: L) := by
  have hz : (n0 + 1 + SH.zeros n0) % 64 = 56 ∧ SH.zeros n0 < 64 := by unfold SH.zeros; omega
  generalize hZ : SH.zeros n0 = Z at hz
  go_enter Try.func66, Try.ntmps66
  repeat' (first
    | ((with_reducible apply wp_region_plain (id := 0)); refine wl_of rfl (wp_alloc hS (zeT rfl) fun b2 w hS => wl_put (by simp only [lset] <;> rfl) ?_); refine wl_nil ?_)
    | ((with_reducible apply wp_region_plain (id := 1)); refine xv (ex_move (ev_at rfl)) ?_; (first | refine xv (ex_eqlPtrS (ev_at rfl) (ev_const _ _) (unT rfl)) ?_ | refine xv (ex_eqlPtrN (ev_at rfl) (ev_const _ _) (unT rfl)) ?_ | refine xv (ex_eqlPtr (ev_at rfl) (ev_const _ _) (unT rfl)) ?_); refine wl_nil ?_)
    | ((with_reducible apply wp_region_plain (id := 3)); refine xv (ex_move (ev_at rfl)) ?_; refine wl_of rfl (wp_callL (cbT rfl) (EvL.c (ev_at rfl) EvL.n) ?_); refine (clone_ct b s rv rest n0 hs hrv (by omega) hS.swap).mono ?_; rintro e w ⟨b', rv', J, rfl, hJ, hrv', hS⟩; refine ⟨_, rfl, wl_put (by simp only [lset] <;> rfl) ?_⟩; refine xv (ex_assign (ev_at rfl)) ?_; refine wl_nil ?_)
    | ((with_reducible apply wp_region_plain (id := 4)); refine wl_of rfl (wp_buildSlice (slT rfl) (szT rfl) (zeT rfl) (fillsOne1 (ev_const _ _) (by first | rfl | exact IsSl.one (by assumption))) hS rfl (by first | rfl | assumption | (simp only [sub, splice, List.take_succ_cons, List.take_zero, List.drop_succ_cons, List.drop_zero, List.nil_append, List.cons_append, List.length_cons, List.length_nil, Nat.reduceAdd, List.all_cons, List.all_nil, Bool.and_eq_true, Bool.and_true]; ((repeat' apply And.intro) <;> first | rfl | assumption | exact IsSl.one (by assumption)))) fun b15 w hS => wl_put (by simp only [lset] <;> rfl) ?_); refine xv (ex_assign (ev_at rfl)) ?_; refine wl_nil ?_; (try simp only [lset, splice, sub, List.take_succ_cons, List.take_zero, List.drop_succ_cons, List.drop_zero, List.nil_append, List.cons_append, List.length_cons, List.length_nil, Nat.reduceAdd, Nat.zero_add, rep_zero] at hS))
    | ((fail_if_success (with_reducible apply wp_region_plain)); (fail_if_success (with_reducible apply wp_region_GS)); go_step))
  obtain ⟨a0, a1, a2, a3, a4, a5, a6, a7, rfl⟩ := len8 hs
  refine wp_loopM [false, false, false, false, true, false, false, false, false, false, false, false, false, false, false, false, true, true, true, true, true, true, true, true, true, true, true, true] (fun m f w => ∃ (k : Nat) (u : Value), m = Z - k ∧ f 4 = u ∧ k ≤ Z ∧ Sat w J (Row u 5 1 (k + 1) ((padL k).map byteV) :: HashC b' [a0, a1, a2, a3, a4, a5, a6, a7] rv' n0 :: HashC b [a0, a1, a2, a3, a4, a5, a6, a7] rv n0 :: Cells b2 120 ((List.replicate 32 (0 : UInt8)).map byteV) :: L)) rfl Z ⟨0, _, rfl, rfl, Nat.zero_le _, hS⟩ ?_
  clear hS
  rintro m f w ⟨k, u, rfl, h4, hk, hS⟩
  simp only [havoc, Nat.reduceAdd, h4]
  unfold HashC at hS
  simp only [List.map_cons, List.map_nil, List.cons_append, List.nil_append] at hS
  have hui : IsSl u (k + 1) := (hS.rowH (v := u)).1
  by_cases hlt : k < Z
  case pos =>
    have hne : ((n0 : Int) + ((k + 1 : Nat) : Int)) % 64 ≠ 56 := by unfold SH.zeros at hZ; omega
    repeat' (first
      | ((with_reducible apply wp_region_plain (id := 5)); refine xv (ex_move (ev_at rfl)) ?_; (first | refine xv (ex_nilCheck (ev_at rfl)) ?_ | refine xv (ex_nilCheckF (ev_at rfl)) ?_); (first | refine xv (ex_fa (ev_at rfl) (flT rfl)) ?_ | refine xv (ex_faE (ev_at rfl) (flT rfl) (by assumption) (by assumption)) ?_); refine xv (ex_load (ev_at rfl) (ld1 hS (kdT rfl) rfl)) ?_; refine xv (ex_move (ev_at rfl)) ?_; refine xv (ex_len (ev_at rfl) (slT rfl) (by first | assumption | exact IsSl.nil)) ?_; refine xv (ex_arith (ev_at rfl) (ev_at rfl) rfl (by first | exact IntWalk.i64_in _ (by omega) | rfl)) ?_; refine xv (ex_rem (ev_at rfl) (ev_const _ _) (by first | decide | omega) (by omega)) ?_; refine xv (ex_cmp (ev_at rfl) (ev_const _ _) (by first | exact neqT (by omega) | exact neqF (by omega) | rfl)) ?_; refine wl_nil ?_)
      | ((with_reducible apply wp_region_plain (id := 6)); refine xv (ex_move (ev_at rfl)) ?_; refine wl_of rfl (wp_buildSlice (slT rfl) (szT rfl) (zeT rfl) (fillsOne1 (ev_const _ _) (by first | rfl | exact IsSl.one (by assumption))) hS rfl (by first | rfl | assumption | (simp only [sub, splice, List.take_succ_cons, List.take_zero, List.drop_succ_cons, List.drop_zero, List.nil_append, List.cons_append, List.length_cons, List.length_nil, Nat.reduceAdd, List.all_cons, List.all_nil, Bool.and_eq_true, Bool.and_true]; ((repeat' apply And.intro) <;> first | rfl | assumption | exact IsSl.one (by assumption)))) fun b26 w hS => wl_put (by simp only [lset] <;> rfl) ?_); refine wl_of rfl (wp_append1 (ev_at rfl) (ev_at rfl) (slT rfl) (szT rfl) (byT rfl) (zeT rfl) hS (by omega) (by omega) rfl fun v27 w hS hv27 => wl_put (by simp only [lset] <;> rfl) ?_); refine xv (ex_assign (ev_at rfl)) ?_; refine wl_nil ?_; (try simp only [lset, splice, sub, List.take_succ_cons, List.take_zero, List.drop_succ_cons, List.drop_zero, List.nil_append, List.cons_append, List.length_cons, List.length_nil, Nat.reduceAdd, Nat.zero_add, rep_zero] at hS))
      | ((fail_if_success (with_reducible apply wp_region_plain)); (fail_if_success (with_reducible apply wp_region_GS)); go_step))
    rw [padL_snoc] at hS
    exact loopEndM rfl (Z - (k + 1)) ⟨k + 1, _, rfl, rfl, by omega, hS⟩ (by omega)
  have hkZ : k = Z := by omega
  subst hkZ
  have hne : ((n0 : Int) + ((k + 1 : Nat) : Int)) % 64 = 56 := by unfold SH.zeros at hZ; omega
  clear h4
  repeat' (first
    | ((with_reducible apply wp_region_plain (id := 5)); refine xv (ex_move (ev_at rfl)) ?_; (first | refine xv (ex_nilCheck (ev_at rfl)) ?_ | refine xv (ex_nilCheckF (ev_at rfl)) ?_); (first | refine xv (ex_fa (ev_at rfl) (flT rfl)) ?_ | refine xv (ex_faE (ev_at rfl) (flT rfl) (by assumption) (by assumption)) ?_); refine xv (ex_load (ev_at rfl) (ld1 hS (kdT rfl) rfl)) ?_; refine xv (ex_move (ev_at rfl)) ?_; refine xv (ex_len (ev_at rfl) (slT rfl) (by first | assumption | exact IsSl.nil)) ?_; refine xv (ex_arith (ev_at rfl) (ev_at rfl) rfl (by first | exact IntWalk.i64_in _ (by omega) | rfl)) ?_; refine xv (ex_rem (ev_at rfl) (ev_const _ _) (by first | decide | omega) (by omega)) ?_; refine xv (ex_cmp (ev_at rfl) (ev_const _ _) (by first | exact neqT (by omega) | exact neqF (by omega) | rfl)) ?_; refine wl_nil ?_)
    | ((with_reducible apply wp_region_plain (id := 7)); refine xv (ex_assign (ev_const _ _)) ?_; refine wl_nil ?_)
    | ((fail_if_success (with_reducible apply wp_region_plain)); (fail_if_success (with_reducible apply wp_region_GS)); go_step))
  refine wp_loopM [false, false, false, false, true, true, false, false, false, false, false, false, false, false, false, false, false, false, false, false, false, false, false, false, false, false, false, false, true, true, true, true, true, true, true, true, true, true, true, true, true, true, true, true, true] (fun m f w => ∃ (i : Nat) (u : Value), m = i ∧ f 4 = u ∧ f 5 = .int .i64 ((i : Int) - 1) ∧ i ≤ 8 ∧ Sat w J (Row u 5 1 (k + 1 + (8 - i)) ((padL k ++ (be64 (n0 * 8)).take (8 - i)).map byteV) :: HashC b' [a0, a1, a2, a3, a4, a5, a6, a7] rv' n0 :: HashC b [a0, a1, a2, a3, a4, a5, a6, a7] rv n0 :: Cells b2 120 ((List.replicate 32 (0 : UInt8)).map byteV) :: L)) rfl 8 ⟨8, u, rfl, rfl, rfl, Nat.le_refl _, by simpa [HashC] using hS⟩ ?_
  clear hS hui
  rintro m f w ⟨i, u, rfl, h4, h5, hi, hS⟩
  simp only [havoc, Nat.reduceAdd, h4, h5]
  have hui : IsSl u (k + 1 + (8 - m)) := (hS.rowH (v := u)).1
  by_cases hm : m = 0
  case neg =>
    obtain ⟨p, rfl⟩ : ∃ p, m = p + 1 := ⟨m - 1, by omega⟩
    unfold HashC at hS
    simp only [List.map_cons, List.map_nil, List.cons_append, List.nil_append] at hS
    rw [show ((p + 1 : Nat) : Int) - 1 = (p : Int) from by omega]
    repeat' (first
      | ((with_reducible apply wp_region_plain (id := 8)); refine xv (ex_move (ev_at rfl)) ?_; refine xv (ex_cmp (ev_at rfl) (ev_const _ _) (by first | exact geqT (by omega) | exact geqF (by omega) | rfl)) ?_; refine wl_nil ?_)
      | ((with_reducible apply wp_region_plain (id := 10)); refine xv (ex_move (ev_at rfl)) ?_; refine xv (ex_move (ev_at rfl)) ?_; (first | refine xv (ex_nilCheck (ev_at rfl)) ?_ | refine xv (ex_nilCheckF (ev_at rfl)) ?_); (first | refine xv (ex_fa (ev_at rfl) (flT rfl)) ?_ | refine xv (ex_faE (ev_at rfl) (flT rfl) (by assumption) (by assumption)) ?_); refine xv (ex_load (ev_at rfl) (ld1 hS (kdT rfl) rfl)) ?_; refine xv (ex_convII (ev_at rfl) (inT rfl) (kdT rfl) (by first | exact IntWalk.u64_in _ (by omega) | rfl)) ?_; refine xv (ex_arith (s := ((n0 * 8 : Nat) : Int)) (ev_at rfl) (ev_const _ _) rfl (by rw [IntWalk.u64_in _ (by omega)]; omega)) ?_; refine xv (ex_move (ev_at rfl)) ?_; refine xv (ex_arith (s := ((8 * p : Nat) : Int)) (ev_const _ _) (ev_at rfl) rfl (by rw [IntWalk.i64_in _ (by omega)]; omega)) ?_; refine xv (ex_shrN (ev_at rfl) (ev_at rfl) (by simp only [IntKind.bits]; omega)) ?_; refine xv (ex_convI8 (ev_at rfl) (inT rfl) (kdT rfl)) ?_; refine wl_of rfl (wp_buildSlice (slT rfl) (szT rfl) (zeT rfl) (fillsOne1 (ev_at rfl) (by first | rfl | exact IsSl.one (by assumption))) hS rfl (by first | rfl | assumption | (simp only [sub, splice, List.take_succ_cons, List.take_zero, List.drop_succ_cons, List.drop_zero, List.nil_append, List.cons_append, List.length_cons, List.length_nil, Nat.reduceAdd, List.all_cons, List.all_nil, Bool.and_eq_true, Bool.and_true]; ((repeat' apply And.intro) <;> first | rfl | assumption | exact IsSl.one (by assumption)))) fun b43 w hS => wl_put (by simp only [lset] <;> rfl) ?_); refine wl_of rfl (wp_append1 (ev_at rfl) (ev_at rfl) (slT rfl) (szT rfl) (byT rfl) (zeT rfl) hS (by omega) (by omega) rfl fun v44 w hS hv44 => wl_put (by simp only [lset] <;> rfl) ?_); refine xv (ex_assign (ev_at rfl)) ?_; refine wl_nil ?_; (try simp only [lset, splice, sub, List.take_succ_cons, List.take_zero, List.drop_succ_cons, List.drop_zero, List.nil_append, List.cons_append, List.length_cons, List.length_nil, Nat.reduceAdd, Nat.zero_add, rep_zero] at hS))
      | ((with_reducible apply wp_region_plain (id := 9)); refine xv (ex_move (ev_at rfl)) ?_; refine xv (ex_arith (ev_at rfl) (ev_const _ _) rfl (by first | exact IntWalk.i64_in _ (by omega) | rfl)) ?_; refine xv (ex_assign (ev_at rfl)) ?_; refine wl_nil ?_)
      | ((fail_if_success (with_reducible apply wp_region_plain)); (fail_if_success (with_reducible apply wp_region_GS)); go_step))
    have e : (padL k ++ (be64 (n0 * 8)).take (8 - (p + 1))).map byteV ++ [byteV (UInt8.ofNat (n0 * 8 / 2 ^ (8 * p)))] = (padL k ++ (be64 (n0 * 8)).take (8 - p)).map byteV := by
      rw [← be64_snoc (by omega : p ≤ 7), show 8 - (p + 1) = 7 - p from by omega]
      simp
    rw [e, show k + 1 + (8 - (p + 1)) + 1 = k + 1 + (8 - p) from by omega] at hS
    exact loopEndM rfl p ⟨p, _, rfl, rfl, rfl, by omega, hS⟩ (by omega)
  subst hm
  have hpad : padL k ++ (be64 (n0 * 8)).take (8 - 0) = pad n0 := by rw [pad, hZ]; rfl
  rw [hpad] at hS
  have hpl : (pad n0).length = k + 1 + 8 := by rw [← hpad]; simp [padL_len, be64]
  have hal : (SH.all [a0, a1, a2, a3, a4, a5, a6, a7] (rest ++ pad n0)).1.length = 8 := run_len _ _ hs
  have htk := take_ct (w := w) (I := J) (L := Row u 5 1 (k + 1 + (8 - 0)) ((pad n0).map byteV) :: HashC b [a0, a1, a2, a3, a4, a5, a6, a7] rv n0 :: Cells b2 120 ((List.replicate 32 (0 : UInt8)).map byteV) :: L) b' [a0, a1, a2, a3, a4, a5, a6, a7] rv' u rest (pad n0) n0 (k + 1 + (8 - 0)) hs hrv' hui (by omega) Rds.row (by omega) hS.swap
  generalize hA : SH.all [a0, a1, a2, a3, a4, a5, a6, a7] (rest ++ pad n0) = R at hal htk
  obtain ⟨st, lf⟩ := R
  simp only at hal htk ⊢
  obtain ⟨c0, c1, c2, c3, c4, c5, c6, c7, rfl⟩ := len8 hal
  repeat' (first
    | ((with_reducible apply wp_region_plain (id := 8)); refine xv (ex_move (ev_at rfl)) ?_; refine xv (ex_cmp (ev_at rfl) (ev_const _ _) (by first | exact geqT (by omega) | exact geqF (by omega) | rfl)) ?_; refine wl_nil ?_)
    | ((with_reducible apply wp_region_plain (id := 11)); refine xv (ex_move (ev_at rfl)) ?_; refine xv (ex_move (ev_at rfl)) ?_; refine wl_of rfl (wp_callL (cbT rfl) (EvL.c (ev_at rfl) (EvL.c (ev_at rfl) EvL.n)) ?_); refine htk.mono ?_; rintro e w ⟨rfl, J2, rv2, hJ2, hrv2, hS⟩; unfold HashC at hS; simp only [List.map_cons, List.map_nil, List.cons_append, List.nil_append] at hS; refine ⟨_, rfl, wl_put (by simp only [lset] <;> rfl) ?_⟩; refine wl_nil ?_)
    | ((with_reducible apply wp_region_plain (id := 12)); refine wl_of rfl (wp_alloc hS (zeT rfl) fun b6 w hS => wl_put (by simp only [lset] <;> rfl) ?_); refine wl_nil ?_)
    | ((with_reducible apply wp_region_plain (id := 13)); refine xv (ex_move (ev_at rfl)) ?_; (first | refine xv (ex_nilCheck (ev_at rfl)) ?_ | refine xv (ex_nilCheckF (ev_at rfl)) ?_); (first | refine xv (ex_fa (ev_at rfl) (flT rfl)) ?_ | refine xv (ex_faE (ev_at rfl) (flT rfl) (by assumption) (by assumption)) ?_); refine xv (ex_load (ev_at rfl) (ldN hS (kdT rfl) (szT rfl) rfl)) ?_; refine wl_of rfl (wp_alloc hS (zeT rfl) fun b7 w hS => wl_put (by simp only [lset] <;> rfl) ?_); refine wl_of rfl (wp_storeN (ev_at rfl) (ev_at rfl) hS (szT rfl) rfl (by first | rfl | assumption | (simp only [sub, splice, List.take_succ_cons, List.take_zero, List.drop_succ_cons, List.drop_zero, List.nil_append, List.cons_append, List.length_cons, List.length_nil, Nat.reduceAdd, List.all_cons, List.all_nil, Bool.and_eq_true, Bool.and_true]; ((repeat' apply And.intro) <;> first | rfl | assumption | exact IsSl.one (by assumption)))) fun w hS => wl_put0 ?_); refine wl_nil ?_; (try simp only [lset, splice, sub, List.take_succ_cons, List.take_zero, List.drop_succ_cons, List.drop_zero, List.nil_append, List.cons_append, List.length_cons, List.length_nil, Nat.reduceAdd, Nat.zero_add, rep_zero] at hS))
    | ((with_reducible apply wp_region_plain (id := 14)); (first | refine xv (ex_fa (ev_at rfl) (flT rfl)) ?_ | refine xv (ex_faE (ev_at rfl) (flT rfl) (by assumption) (by assumption)) ?_); refine xv (ex_load (ev_at rfl) (ld1 hS (kdT rfl) rfl)) ?_; (first | refine xv (ex_fa (ev_at rfl) (flT rfl)) ?_ | refine xv (ex_faE (ev_at rfl) (flT rfl) (by assumption) (by assumption)) ?_); refine xv (ex_load (ev_at rfl) (ld1 hS (kdT rfl) rfl)) ?_; (first | refine xv (ex_fa (ev_at rfl) (flT rfl)) ?_ | refine xv (ex_faE (ev_at rfl) (flT rfl) (by assumption) (by assumption)) ?_); refine xv (ex_load (ev_at rfl) (ld1 hS (kdT rfl) rfl)) ?_; (first | refine xv (ex_fa (ev_at rfl) (flT rfl)) ?_ | refine xv (ex_faE (ev_at rfl) (flT rfl) (by assumption) (by assumption)) ?_); refine xv (ex_load (ev_at rfl) (ld1 hS (kdT rfl) rfl)) ?_; (first | refine xv (ex_fa (ev_at rfl) (flT rfl)) ?_ | refine xv (ex_faE (ev_at rfl) (flT rfl) (by assumption) (by assumption)) ?_); refine xv (ex_load (ev_at rfl) (ld1 hS (kdT rfl) rfl)) ?_; (first | refine xv (ex_fa (ev_at rfl) (flT rfl)) ?_ | refine xv (ex_faE (ev_at rfl) (flT rfl) (by assumption) (by assumption)) ?_); refine xv (ex_load (ev_at rfl) (ld1 hS (kdT rfl) rfl)) ?_; (first | refine xv (ex_fa (ev_at rfl) (flT rfl)) ?_ | refine xv (ex_faE (ev_at rfl) (flT rfl) (by assumption) (by assumption)) ?_); refine xv (ex_load (ev_at rfl) (ld1 hS (kdT rfl) rfl)) ?_; (first | refine xv (ex_fa (ev_at rfl) (flT rfl)) ?_ | refine xv (ex_faE (ev_at rfl) (flT rfl) (by assumption) (by assumption)) ?_); refine xv (ex_load (ev_at rfl) (ld1 hS (kdT rfl) rfl)) ?_; refine xv (ex_buildA (arT rfl) (szT rfl) (zeT rfl) (Ones.run (Ones.cons rfl (ev_at rfl) rfl (Ones.cons rfl (ev_at rfl) rfl (Ones.cons rfl (ev_at rfl) rfl (Ones.cons rfl (ev_at rfl) rfl (Ones.cons rfl (ev_at rfl) rfl (Ones.cons rfl (ev_at rfl) rfl (Ones.cons rfl (ev_at rfl) rfl (Ones.cons rfl (ev_at rfl) rfl Ones.nil)))))))) rfl)) ?_; refine xv (ex_move (ev_const _ _)) ?_; refine wl_nil ?_)
    | ((fail_if_success (with_reducible apply wp_region_plain)); (fail_if_success (with_reducible apply wp_region_GS)); go_step))
  have hDl : ([c0, c1, c2, c3, c4, c5, c6, c7].flatMap bytesW).length = 32 := rfl
  generalize hD : [c0, c1, c2, c3, c4, c5, c6, c7].flatMap bytesW = D at hDl
  refine wp_loopM [false, false, false, false, false, false, false, false, true, true, false, false, false, false, false, false, false, false, false, false, false, false, false, false, false, false, false, false, false, false, false, false, false, false, false, false, false, false, false, false, false, false, false, false, false, false, false, false, false, false, false, false, false, false, false, false, false, false, false, false, false, false, false, false, false, false, false, false, false, true, true, true, true, true, true, true, true, true, true, true, true, true, true, true, true, true, true, true, true, true, true, true, true, true, true, true, true, true, true, true] (fun m f w => ∃ (t : Nat), m = 8 - t ∧ f 69 = .int .i64 t ∧ t ≤ 8 ∧ Sat w J2 (Cells b7 128 [V32 c0, V32 c1, V32 c2, V32 c3, V32 c4, V32 c5, V32 c6, V32 c7] :: Cells b6 120 ((mixB D 32 (4 * t)).map byteV) :: Cells b' 131 [V32 c0, V32 c1, V32 c2, V32 c3, V32 c4, V32 c5, V32 c6, V32 c7, rv2, .int .i64 n0, .bool true] :: Row u 5 1 (k + 1 + (8 - 0)) ((pad n0).map byteV) :: HashC b [a0, a1, a2, a3, a4, a5, a6, a7] rv n0 :: Cells b2 120 ((List.replicate 32 (0 : UInt8)).map byteV) :: L)) rfl 8 ⟨0, rfl, rfl, Nat.zero_le _, hS⟩ ?_
  clear hS
  rintro m f w ⟨t, rfl, h69, ht, hS⟩
  simp only [havoc, Nat.reduceAdd, h69]
  by_cases hlt : t < 8
  case neg =>
    have : t = 8 := by omega
    subst this
    rw [show 4 * 8 = 32 from rfl, mixB_all hDl] at hS
    have hdl : (D.map byteV).length = 32 := by simp [hDl]
    generalize hdv : D.map byteV = dv at hS hdl
    have hdo : Oc dv := by rw [← hdv]; exact byteV_Oc _
    repeat' (first
      | ((with_reducible apply wp_region_plain (id := 15)); refine xv (ex_cmp (ev_at rfl) (ev_const _ _) (by first | exact lssT (by omega) | exact lssF (by omega) | rfl)) ?_; refine wl_nil ?_)
      | ((with_reducible apply wp_region_plain (id := 19)); refine xv (ex_load (ev_at rfl) (ldW hS (kdT rfl) (szT rfl) hdl)) ?_; refine wl_of rfl (wp_storeW (vs := dv) (ev_at rfl) (ev_at rfl) hS (szT rfl) hdl rfl hdo fun w hS => wl_put0 ?_); refine wl_nil ?_; (try simp only [lset, splice, sub, List.take_succ_cons, List.take_zero, List.drop_succ_cons, List.drop_zero, List.nil_append, List.cons_append, List.length_cons, List.length_nil, Nat.reduceAdd, Nat.zero_add, rep_zero] at hS))
      | ((fail_if_success (with_reducible apply wp_region_plain)); (fail_if_success (with_reducible apply wp_region_GS)); go_step))
    refine end1 (by first | exact .inl rfl | exact .inr rfl) rfl (ResL.rc rfl (ldW hS (kdT rfl) (szT rfl) hdl) ResL.rn) ?_
    rw [hA, ← hdv, ← hD]
    exact ⟨rfl, ((hS.drop.drop.drop.drop).del1).anti (hJ.trans hJ2)⟩
  obtain ⟨x, hx⟩ : ∃ x, [c0, c1, c2, c3, c4, c5, c6, c7][t]? = some x := ⟨_, List.getElem?_eq_getElem (by simpa using hlt)⟩
  have hxm : [V32 c0, V32 c1, V32 c2, V32 c3, V32 c4, V32 c5, V32 c6, V32 c7][(t : Int).toNat]? = some (V32 x) := by
    have : ([c0, c1, c2, c3, c4, c5, c6, c7].map V32)[t]? = some (V32 x) := by simp only [List.getElem?_map, hx]; rfl
    exact this
  have hf := flatW_get hx
  rw [hD] at hf
  obtain ⟨f0, f1, f2, f3⟩ := hf
  repeat' (first
    | ((with_reducible apply wp_region_plain (id := 15)); refine xv (ex_cmp (ev_at rfl) (ev_const _ _) (by first | exact lssT (by omega) | exact lssF (by omega) | rfl)) ?_; refine wl_nil ?_)
    | ((with_reducible apply wp_region_plain (id := 16)); refine xv (ex_move (ev_at rfl)) ?_; refine xv (ex_indexA (v := V32 x) (cs := [V32 c0, V32 c1, V32 c2, V32 c3, V32 c4, V32 c5, V32 c6, V32 c7]) (ev_at rfl) (ev_at rfl) (arT rfl) (szT rfl) (kdT rfl) (by omega) (by omega) hxm) ?_; refine xv (ex_assign (ev_at rfl)) ?_; refine xv (ex_assign (ev_at rfl)) ?_; refine wl_nil ?_)
    | ((with_reducible apply wp_region_plain (id := 17)); refine xv (ex_move (ev_at rfl)) ?_; refine xv (ex_arith (ev_const _ _) (ev_at rfl) rfl (by first | exact IntWalk.i64_in _ (by omega) | rfl)) ?_; refine xv (ex_move (ev_at rfl)) ?_; refine xv (ex_arith (ev_const _ _) (ev_at rfl) rfl (by first | exact IntWalk.i64_in _ (by omega) | rfl)) ?_; refine xv (ex_arith (ev_at rfl) (ev_const _ _) rfl (by first | exact IntWalk.i64_in _ (by omega) | rfl)) ?_; refine xv (ex_move (ev_at rfl)) ?_; refine xv (ex_arith (ev_const _ _) (ev_at rfl) rfl (by first | exact IntWalk.i64_in _ (by omega) | rfl)) ?_; refine xv (ex_arith (ev_at rfl) (ev_const _ _) rfl (by first | exact IntWalk.i64_in _ (by omega) | rfl)) ?_; refine xv (ex_move (ev_at rfl)) ?_; refine xv (ex_arith (ev_const _ _) (ev_at rfl) rfl (by first | exact IntWalk.i64_in _ (by omega) | rfl)) ?_; refine xv (ex_arith (ev_at rfl) (ev_const _ _) rfl (by first | exact IntWalk.i64_in _ (by omega) | rfl)) ?_; refine xv (ex_move (ev_at rfl)) ?_; refine xv (ex_shr32 (s := 24) (ev_at rfl) (ev_const _ _) (by omega)) ?_; refine xv (ex_conv32_8 (ev_at rfl) (inT rfl) (kdT rfl)) ?_; refine xv (ex_move (ev_at rfl)) ?_; refine xv (ex_shr32 (s := 16) (ev_at rfl) (ev_const _ _) (by omega)) ?_; refine xv (ex_conv32_8 (ev_at rfl) (inT rfl) (kdT rfl)) ?_; refine xv (ex_move (ev_at rfl)) ?_; refine xv (ex_shr32 (s := 8) (ev_at rfl) (ev_const _ _) (by omega)) ?_; refine xv (ex_conv32_8 (ev_at rfl) (inT rfl) (kdT rfl)) ?_; refine xv (ex_move (ev_at rfl)) ?_; refine xv (ex_conv32_8 (ev_at rfl) (inT rfl) (kdT rfl)) ?_; (first | refine xv (ex_iaA (ev_at rfl) (ev_at rfl) (arT rfl) (szT rfl) (by omega) (by omega)) ?_ | refine xv (ex_iaAE (ev_at rfl) (ev_at rfl) (arT rfl) (szT rfl) (by assumption) (by omega) (by omega) (by omega)) ?_); (first | refine wl_of rfl (wp_store1 (ev_at rfl) (ev_at rfl) hS (szT rfl) rfl (by first | rfl | exact IsSl.one (by assumption)) fun w hS => wl_put0 ?_) | refine wl_of rfl (wp_store1s (ev_at rfl) (ev_at rfl) hS (szT rfl) (by simp [mixB_len hDl (show 4 * t ≤ 32 by omega)]; omega) rfl fun w hS => wl_put0 ?_)); (first | refine xv (ex_iaA (ev_at rfl) (ev_at rfl) (arT rfl) (szT rfl) (by omega) (by omega)) ?_ | refine xv (ex_iaAE (ev_at rfl) (ev_at rfl) (arT rfl) (szT rfl) (by assumption) (by omega) (by omega) (by omega)) ?_); (first | refine wl_of rfl (wp_store1 (ev_at rfl) (ev_at rfl) hS (szT rfl) rfl (by first | rfl | exact IsSl.one (by assumption)) fun w hS => wl_put0 ?_) | refine wl_of rfl (wp_store1s (ev_at rfl) (ev_at rfl) hS (szT rfl) (by simp [mixB_len hDl (show 4 * t ≤ 32 by omega)]; omega) rfl fun w hS => wl_put0 ?_)); (first | refine xv (ex_iaA (ev_at rfl) (ev_at rfl) (arT rfl) (szT rfl) (by omega) (by omega)) ?_ | refine xv (ex_iaAE (ev_at rfl) (ev_at rfl) (arT rfl) (szT rfl) (by assumption) (by omega) (by omega) (by omega)) ?_); (first | refine wl_of rfl (wp_store1 (ev_at rfl) (ev_at rfl) hS (szT rfl) rfl (by first | rfl | exact IsSl.one (by assumption)) fun w hS => wl_put0 ?_) | refine wl_of rfl (wp_store1s (ev_at rfl) (ev_at rfl) hS (szT rfl) (by simp [mixB_len hDl (show 4 * t ≤ 32 by omega)]; omega) rfl fun w hS => wl_put0 ?_)); (first | refine xv (ex_iaA (ev_at rfl) (ev_at rfl) (arT rfl) (szT rfl) (by omega) (by omega)) ?_ | refine xv (ex_iaAE (ev_at rfl) (ev_at rfl) (arT rfl) (szT rfl) (by assumption) (by omega) (by omega) (by omega)) ?_); (first | refine wl_of rfl (wp_store1 (ev_at rfl) (ev_at rfl) hS (szT rfl) rfl (by first | rfl | exact IsSl.one (by assumption)) fun w hS => wl_put0 ?_) | refine wl_of rfl (wp_store1s (ev_at rfl) (ev_at rfl) hS (szT rfl) (by simp [mixB_len hDl (show 4 * t ≤ 32 by omega)]; omega) rfl fun w hS => wl_put0 ?_)); refine wl_nil ?_; (try simp only [lset, Nat.reduceAdd, Nat.zero_add] at hS))
    | ((with_reducible apply wp_region_plain (id := 18)); refine xv (ex_arith (ev_at rfl) (ev_const _ _) rfl (by first | exact IntWalk.i64_in _ (by omega) | rfl)) ?_; refine xv (ex_move (ev_at rfl)) ?_; refine wl_nil ?_)
    | ((fail_if_success (with_reducible apply wp_region_plain)); (fail_if_success (with_reducible apply wp_region_GS)); go_step))
  rw [mixB_set hDl f0 (by omega), mixB_set hDl f1 (by omega), mixB_set hDl f2 (by omega), mixB_set hDl f3 (by omega)] at hS
  exact loopEndM rfl (8 - (t + 1)) ⟨t + 1, rfl, rfl, by omega, hS⟩ (by omega)
end
end Go.Proofs.Try
